/- The texts EkA, EkB, EkC, EkD. -/
import Derived.Test.YtmihnfpinnfnfaaGreatDoorPG43
import Derived.Test.YtmihnfpinnfnfaaGreatDoorPG33
import Derived.Test.YtmihnfpinnfnfaaGreatDoorPG38
import Derived.Test.YtmihnfpinnfnfaaGreatDoorPG25
set_option linter.all false
set_option maxRecDepth 100000
namespace Go.Abs
open Go.Proofs TryTypes Tryz
def A7C:List ByteArray:=[⟨#[98,111,111,107]⟩,⟨#[112,97,114,116]⟩,⟨#[115,101,99,116,105,111,110]⟩,⟨#[112,97,114,97,103,114,97,112,104]⟩,⟨#[116,97,98,108,101]⟩,⟨#[114,111,119]⟩,⟨#[99,101,108,108]⟩,⟨#[110,111,116,101]⟩]
def B4S:List (Nat×AV):=[(0,S ⟨#[98,111,111,107]⟩),(1,S ⟨#[112,97,114,116]⟩),(2,S ⟨#[115,101,99,116,105,111,110]⟩),(3,S ⟨#[112,97,114,97,103,114,97,112,104]⟩),(4,S ⟨#[116,97,98,108,101]⟩),(5,S ⟨#[114,111,119]⟩),(6,S ⟨#[99,101,108,108]⟩),(7,S ⟨#[110,111,116,101]⟩)]
def D2e:A0A prog 184 B4S=none:=Q2
def D4T:A1b prog 184=none:=Q2
def D7x:B0J prog 184 B4S=some (.agg (A7C.map S)):=Q2
def D4X:C1j prog 184=some (8,9):=Q2
def knW(k:Int):ByteArray:=A7C.getD k.toNat ⟨#[]⟩
def A8G(p:List A1n):List ByteArray:=p.flatMap λs=>if B0j s=true then[knW s.k]else[knW s.k,s.lab]
section
variable (gl:Nat->AV)
def C7I(i:Nat)(hi:i<100)(M:Mem):A0c (WC gl) 51 [I i] M (λv M'=>v=S (B2M (Lib.decDigits i))/\M'=M):=by refine A5w λG w vs hi' hr=>?_;simp only[A0s]at hr;obtain⟨y,_,rfl,hy,rfl⟩:=hr;simp only[Rep]at hy;subst hy;exact Z1B (strconv_Itoa_small i hi w) λe w' ⟨he,hw⟩=>⟨he,hw▸RowKit.Below.refl _ _⟩
def C9t(k:Int)(h0:0<=k)(h1:k<8)(M:Mem):A0c (WC gl) 67 [I k] M (λv M'=>v=.tuple [S (knW k),B true]/\M'=M):=by
 refine A0c.dataX ?_;have c1:¬k<0:=Q0;have c2:¬k>=8:=Q0;have c3:¬8<=k:=Q0;have hk:k=0\/k=1\/k=2\/k=3\/k=4\/k=5\/k=6\/k=7:=Q0;have hp:B4S=[(0,S ⟨#[98,111,111,107]⟩),(1,S ⟨#[112,97,114,116]⟩),(2,S ⟨#[115,101,99,116,105,111,110]⟩),(3,S ⟨#[112,97,114,97,103,114,97,112,104]⟩),(4,S ⟨#[116,97,98,108,101]⟩),(5,S ⟨#[114,111,119]⟩),(6,S ⟨#[99,101,108,108]⟩),(7,S ⟨#[110,111,116,101]⟩)]:=rfl;have hb:=D2e;have ha:=D7x;rw[hp]at hb ha;obtain⟨N,hN⟩:=ex (M++[A0l.cells 184 (A7C.map S)]);have hM:N[M.length]?=some (A0l.cells 184 (A7C.map S)):=by rw[hN];simp
 have hg:Grow M N:=by rw[hN];exact A0d.app none _ _
 refine A0t hB func67 ?_;simp -dsimp -implicitDefEqProofs[hb];simp -dsimp -implicitDefEqProofs[A0W,A0I,A1P,A1R,A1a,hb,ha,A0j,A0k,A0e,A0o,A0n,c1,c2,c3];have hd:List.drop A7C.length [AV.val (Value.string {data:=#[]}),AV.val (Value.string {data:=#[]}),AV.val (Value.string {data:=#[]}),AV.val (Value.string {data:=#[]}),AV.val (Value.string {data:=#[]}),AV.val (Value.string {data:=#[]}),AV.val (Value.string {data:=#[]}),AV.val (Value.string {data:=#[]})]=[]:=rfl;rw[hd,Z1g,<-hN];refine⟨⟨by decide,rfl⟩,?_⟩;simp -dsimp -implicitDefEqProofs[D4T,D4X,A5O,h0,h1];rcases hk with rfl|rfl|rfl|rfl|rfl|rfl|rfl|rfl<;>simp -dsimp -implicitDefEqProofs[A0b hM,A7C,knW]<;>exact⟨hg,.tuple (.same trivial (.same trivial .nil)) .nil⟩
def hF:A2j:=⟨λ_=>true,λ_=>false,λd=>d==26||d==34⟩
@[simp] def E4Y:hF.own=λ_=>false:=(rfl)
@[simp] def E3V:hF.vec=λd=>d==26||d==34:=(rfl)
def D0f{p:List A1n}{i:Nat}(h:i<p.length):A8G (p.take (i+1))=A8G (p.take i)++(if B0j p[i]=true then[knW p[i].k]else[knW p[i].k,p[i].lab]):=by rw[A8G,A8G,Z0A,Z0i h,Z0X,Z1k,Z0z,List.flatMap_nil,Z1g]
def C2D(p:List A1n):(A8G p).length<=2*p.length:=by
 induction p with
 |nil=>simp[A8G]
 |cons s p ih=>
  have e:A8G (s::p)=(if B0j s=true then[knW s.k]else[knW s.k,s.lab])++A8G p:=by rw[A8G,Z0z];rfl
  rw[e,Z0k,Z0q];split<;>simp only[Z0q,Z1n]<;>omega
set_option maxHeartbeats 1000000 in
def D0t(p:List A1n)(M:Mem)(hv:A1O p=true)(w:(Lib.join ((A8G p).map (·.data.toList)) [32]).length<=140737488355328):A0c (WC gl) 49 [.list 2 (A0P p) .no] M (λv M'=>v=S (B4X (A8G p) ⟨#[32]⟩)/\M'=M):=by
 refine A0c.dataX ?_;obtain⟨aa,z⟩:=B5K hv;have u:=λM=>C1w gl p M Q0;rw[hv]at u;have a9:=C2D p;have hj:=λM=>C7s gl M (A8G p) .no ⟨#[32]⟩ Q0 w;refine A0t hF func49 ?_;simp -dsimp -implicitDefEqProofs;refine A0h func43 (u M) ?_;simp -dsimp -implicitDefEqProofs;refine B2C (.exit 0) (λT Mi=>Arr 9 1 A7P M.length Mi (T 3) (A8G p)/\Grow M Mi) ?_ ?_
 .refine A1E hF p.length 13 (λT Mi=>∃i:Nat,i<=p.length/\T 11=.list 2 (A0P p) .no/\T 12=I p.length/\T 13=I i/\Arr 9 1 A7P M.length Mi (T 3) (A8G (p.take i))/\Grow M Mi) ?_ ?_
  .exact⟨0,Q0,Q1,Q1,Q1,by simpa[A8G]using Arr.nil,A0d.refl _ _⟩
  rintro T Mi ⟨i,i1,c,b,a,h3,hg⟩;generalize q:T 3=v3 at*;by_cases hi:i<p.length;case neg=>have l:¬(i:Int)<p.length:=Q0;rw[Z0e Q0]at h3;simp -dsimp -implicitDefEqProofs[c,b,a,l,q];exact⟨h3,hg⟩
  have l:(i:Int)<p.length:=Q0;have w1:=A1Y (i:=i) Q0;have x:=z i hi;have d:=D0f hi;have a8:=C2D (p.take i);rw[Z0s]at a8;obtain⟨s,hs⟩:=ex (p[i]);rw[<-hs]at x d;have a3:(A0P p)[i]?=some [I s.k,S s.lab]:=by rw[hs];simp[A0P,hi,A1n.row]
  have hk:0<=s.k/\s.k<8:=by
   rcases x with⟨_,h⟩|h
   .rw[h];simp[A3Z]
   .omega
  obtain⟨b0,m⟩:=ex (Mi.length);obtain⟨M4,f⟩:=ex (Mi++[A0l.cells 89 [I s.k,S s.lab]]);have a4:M4[b0]?=some (A0l.cells 89 [I s.k,S s.lab]):=by rw[f,m];simp
  have j:Grow Mi M4:=by rw[f];exact A0d.app none _ _
  have n:=h3.keep j;have a6:=C9t gl s.k hk.1 hk.2 M4;have y:=λM=>A9T gl s M;have a0:s.row=[I s.k,S s.lab]:=rfl;rw[a0]at y;simp -dsimp -implicitDefEqProofs[c,b,a,hi,l,a3,A0j,A0k,A0e,A0o,A0n];rw[<-hs,<-f,<-m];refine A0h func67 a6 ?_;simp -dsimp -implicitDefEqProofs[A0w,A1e,q];refine A3u (C:=WC gl) (enc:=A7P) (e:=9) (sz:=1) (news:=[knW s.k]) B8V C3D D1O (λ_=>rfl) n.own (by simp[A0D]) (by simp;omega) rfl ?_;intro v' M5 u1 u2 u3 _;have g:Arr 9 1 A7P M.length M5 v' (A8G (p.take i)++[knW s.k]):=⟨u1,n.later (hg.trans j).1 u3⟩;have o:=n.grow (hg.trans j) u2;have a7:obj v3≠some b0:=λe=>by have:=h3.own.lt e;omega
  have t:M5[b0]?=some (A0l.cells 89 [I s.k,S s.lab]):=by rw[u2.2 b0 (by rw[f,m];simp) a7];exact a4
  simp -dsimp -implicitDefEqProofs[c,b,a,A0b t];refine A0h func44 (y M5) ?_;cases hb:B0j s with
  |true=>rw[hb,Z0c rfl]at d;simp -dsimp -implicitDefEqProofs[c,b,a,w1];exact⟨⟨i+1,Q3,rfl,by rw[d];exact g,o⟩,Q3⟩
  |false=>rw[hb,Z0d Q1]at d;simp -dsimp -implicitDefEqProofs[c,b,a,A0b t,A0w,A1e];refine A3u (C:=WC gl) (enc:=A7P) (e:=9) (sz:=1) (news:=[s.lab]) B8V C3D D1O (λ_=>rfl) g.own (by simp[A0D]) (by simp;omega) rfl ?_;intro a5 M6 y1 y2 y3 _;have a2:Arr 9 1 A7P M.length M6 a5 ((A8G (p.take i)++[knW s.k])++[s.lab]):=⟨y1,g.later o.1 y3⟩;simp -dsimp -implicitDefEqProofs[c,b,a,w1];exact⟨⟨i+1,Q3,rfl,by rw[d];simpa using a2,g.grow o y2⟩,Q3⟩
 rintro T Mi ⟨r,hg⟩;refine⟨M.length,T.put (some 3) (.list 1 (A0J (A8G p)) .no),A6v (A6J T) (Still.rows (λ_=>rfl) (λ_ _ _=>trivial) r.own r.lat .nil),?_⟩;have a1:=A4T hg;generalize A3i Mi M.length=M2 at*;simp -dsimp -implicitDefEqProofs[Env.put_some];refine A0h func68 (hj M2) ?_;simp -dsimp -implicitDefEqProofs;exact⟨a1,.same trivial .nil⟩
end
def p6:List A1n:=[⟨0,⟨#[]⟩⟩,⟨2,⟨#[54]⟩⟩]
def C6D:ByteArray:=⟨#[98,111,111,107,32,115,101,99,116,105,111,110,32,54]⟩
def C3e:ByteArray:=⟨#[98,111,111,107,32,115,101,99,116,105,111,110,32,54,44,32,103,111,110,101,32,98,121,32,97,99,116,32,51,32,105,116,101,109,32,48]⟩
def g1:ByteArray:=⟨#[98,111,111,107,32,115,101,99,116,105,111,110,32,54,44,32,103,111,110,101,32,98,121,32,97,99,116,32]⟩
def g2:ByteArray:=⟨#[98,111,111,107,32,115,101,99,116,105,111,110,32,54,44,32,103,111,110,101,32,98,121,32,97,99,116,32,51]⟩
def g3:ByteArray:=⟨#[98,111,111,107,32,115,101,99,116,105,111,110,32,54,44,32,103,111,110,101,32,98,121,32,97,99,116,32,51,32,105,116,101,109,32]⟩
def C7A(a b:ByteArray)(h:decide (a.size+b.size<=1000)=true):¬(9223372036854775807:Int)<(a.size:Int)+(b.size:Int):=by have:=Z1X h;omega
def D4F:B4X (A8G p6) ⟨#[32]⟩=C6D:=Q2
def D1h:A1O p6=true:=Q2
def C9w{u:Nat}(h:u<=9):Lib.decDigits u=[UInt8.ofNat (48+u)]:=by rw[Lib.decDigits,dif_pos Q0]
def A6y(b:Nat):List A0l:=[.cells 63 [.func (.func 48) [] []],.map [(I 0,.func (.func 48) [] [],0),(I 1,.func (.func 50) [] [.ptr b 0],1),(I 2,.func (.func 52) [] [.ptr b 0],2),(I 3,.func (.func 53) [] [.ptr b 0],3),(I 4,.func (.func 54) [] [],4)] 5]
def C4A{M:Mem}{c0:A0l}{es:List (AV×AV×Nat)}{a:Nat}{k:Int}{v:AV}(hk:A2I prog 3 (I k) es=some none):A1V prog 86 (M++[c0,.map es a]) (.mapr (M.length+1)) (I k) v=some (M++[c0,.map (es++[(I k,v,a)]) (a+1)]):=by
 have e1:A7S prog 86=some (3,63):=Q2
 have e2:((A6g prog 3||B5w prog 3)&&A4I prog 30 3 (I k))=true:=Q2
 have e3:(M++[c0,.map es a])[M.length+1]?=some (.map es a):=by rw[Z1q Q0];simp
 have e4:(M++[c0,.map es a]).set (M.length+1) (.map (es++[(I k,v,a)]) (a+1))=M++[c0,.map (es++[(I k,v,a)]) (a+1)]:=by rw[Z3D _ _ Q0];simp
 simp only[A1V,e1,e3,e2,Z1f,hk,e4]
def D1o{M:Mem}(b:Nat)(k:Int)(v:AV)(hk:A1S prog 86 (A6y b) (.mapr 1) (I k) true=some v):A1S prog 86 (M++A6y b) (.mapr (M.length+1)) (I k) true=some v:=by
 have e:A4C (M++A6y b) (.mapr (M.length+1))=A4C (A6y b) (.mapr 1):=by
  have:(M++A6y b)[M.length+1]?=(A6y b)[1]?:=by rw[Z1q Q0];simp
  simp only[A4C,this]
 unfold A1S at hk|-;rw[e];exact hk
section
variable (gl:Nat->AV)
def B8X(M:Mem):A0c (WC gl) 31 [] M (λv M'=>v=.mapr (M.length+1)/\M'=M++A6y M.length):=by
 refine A0t hB func31 ?_;have hM:(M++[A0l.cells 63 [AV.func (Fn.func 48) [] []],A0l.map [] 0])[M.length]?=some (.cells 63 [AV.func (Fn.func 48) [] []]):=by simp
 simp -dsimp -implicitDefEqProofs[A0j,A0k,A0e,A0b hM];rw[C4A Q2];simp -dsimp -implicitDefEqProofs;rw[C4A Q2];simp -dsimp -implicitDefEqProofs;rw[C4A Q2];simp -dsimp -implicitDefEqProofs;rw[C4A Q2];simp -dsimp -implicitDefEqProofs;rw[C4A Q2];simp -dsimp -implicitDefEqProofs[A6y]
def C0S(id:IdD)(k:Int)(r:Int×Int)(M:Mem):A0c (WC gl) 48 [.agg (A7m.row id ⟨k,p6,r⟩)] M (λv M'=>v=S C6D/\M'=M):=by have h:=D0t gl p6 M D1h (by show(Lib.join ((A8G p6).map (·.data.toList)) [32]).length<=140737488355328;have:(Lib.join ((A8G p6).map (·.data.toList)) [32]).length=14:=Q2;omega);rw[D4F]at h;refine A0t hB func48 ?_;simp -dsimp -implicitDefEqProofs[A7m.row];refine A0h func49 h ?_;simp -dsimp -implicitDefEqProofs
def C8y(id:IdD)(M:Mem){b:Nat}(hM:M[b]?=some (.cells 63 [.func (.func 48) [] []])):A0c (WC gl) 50 [.agg (A7m.row id ⟨1,p6,(3,0)⟩),.ptr b 0] M (λv M'=>v=S C3e/\M'=M):=by have hp:=λM=>C0S gl id 1 (3,0) M;have h3:=λM=>C7I gl 3 Q0 M;have h0:=λM=>C7I gl 0 Q0 M;rw[C9w Q0]at h3 h0;refine A0t hB func50 ?_;rw[A7m.row]at hp|-;simp -dsimp -implicitDefEqProofs;refine A0Z hB (A0E gl) (λk=>if k=0 then 1 else 0) (λ_=>b) (by rfl) Q2 ?_;simp -dsimp -implicitDefEqProofs[A0b hM];refine A1J (λM=>A0m func48 rfl rfl (hp M)) ?_;have e1:C6D++⟨#[44,32,103,111,110,101,32,98,121,32,97,99,116,32]⟩=g1:=Q2;have e2:g1++B2M [51]=g2:=Q2;have e3:g2++⟨#[32,105,116,101,109,32]⟩=g3:=Q2;have e4:g3++B2M [48]=C3e:=Q2;simp -dsimp -implicitDefEqProofs;rw[Z0d (C7A C6D _ Q2),e1];simp -dsimp -implicitDefEqProofs;refine A1J (λM=>A0m func51 rfl rfl (h3 M)) ?_;simp -dsimp -implicitDefEqProofs;rw[Z0d (C7A g1 _ Q2),e2];simp -dsimp -implicitDefEqProofs;rw[Z0d (C7A g2 _ Q2),e3];simp -dsimp -implicitDefEqProofs;refine A1J (λM=>A0m func51 rfl rfl (h0 M)) ?_;simp -dsimp -implicitDefEqProofs;rw[Z0d (C7A g3 _ Q2),e4];simp -dsimp -implicitDefEqProofs
def D5Z(id:IdD)(r:Int×Int)(M:Mem):A0c (WC gl) 19 [.agg (A7m.row id ⟨0,p6,r⟩)] M (λv M'=>v=S C6D/\M'=M):=by refine A0c.dataX ?_;have hp:=λM=>C0S gl id 0 r M;have a:Grow M (M++A6y M.length):=.app _ _ _;have hl:=D1o (M:=M) M.length 0 (.tuple [.func (.func 48) [] [],B true]) Q2;rw[A7m.row]at hp|-;refine A0t hB func19 ?_;simp -dsimp -implicitDefEqProofs;refine A0Z hB (A0E gl) (λk=>if k=0 then 2 else if k=3 then 1 else 0) (λ_=>M.length+1) (by rfl) Q2 ?_;simp -dsimp -implicitDefEqProofs;refine A5x (A0m func31 rfl rfl (B8X gl M)) ?_;simp -dsimp -implicitDefEqProofs[hl,A1g];refine A0v (A0m func48 rfl rfl (hp _)) ?_;rintro r M' ⟨rfl,rfl⟩;simp -dsimp -implicitDefEqProofs;exact⟨a,.same trivial .nil⟩
def D4D(id:IdD)(M:Mem):A0c (WC gl) 19 [.agg (A7m.row id ⟨1,p6,(3,0)⟩)] M (λv M'=>v=S C3e/\M'=M):=by
 refine A0c.dataX ?_;have hM:(M++A6y M.length)[M.length]?=some (.cells 63 [.func (.func 48) [] []]):=by simp[A6y]
 have hp:=C8y gl id (M++A6y M.length) hM;have a:Grow M (M++A6y M.length):=.app _ _ _;have hl:=D1o (M:=M) M.length 1 (.tuple [.func (.func 50) [] [.ptr M.length 0],B true]) Q2;rw[A7m.row]at hp|-;refine A0t hB func19 ?_;simp -dsimp -implicitDefEqProofs;refine A0Z hB (A0E gl) (λk=>if k=0 then 2 else if k=3 then 1 else 0) (λ_=>M.length+1) (by rfl) Q2 ?_;simp -dsimp -implicitDefEqProofs;refine A5x (A0m func31 rfl rfl (B8X gl M)) ?_;simp -dsimp -implicitDefEqProofs[hl,A1g];refine A0v (A0m func50 rfl rfl hp) ?_;rintro r M' ⟨rfl,rfl⟩;simp -dsimp -implicitDefEqProofs;exact⟨a,.same trivial .nil⟩
def B2j(f:gl 0=.cptr [fnV 336,fnV 337])(e:gl 2=A1C)(d:gl 8=A1U){l:List A1G}(hF:B2r l)(id:IdD)(day:Int)(purpose b:ByteArray)(M:Mem) (h:∀M,A0c (WC gl) 19 [.agg ((B0W id day purpose l).row id)] M (λv M'=>v=S b/\M'=M)):A0c (WC gl) 10 [.agg id.row,I day,S purpose,.list 4 (A2G l) .no] M (λv M'=>v=S b/\M'=M):=by
 have c:id.row=[I id.act,I id.item,I id.n]:=rfl
 have a:=B7N gl f e d hF id day purpose M
 rw[c]at a|-
 rw[A7m.row]at h a
 refine A0t hB func10 ?_
 simp -dsimp -implicitDefEqProofs
 refine A0h func8 a ?_
 simp -dsimp -implicitDefEqProofs
 refine A0h func19 (h M) ?_
 simp -dsimp -implicitDefEqProofs
end
def D1S:A1Q:=⟨0,[],[],0,0,A4v,[],[],⟨#[]⟩,⟨#[]⟩,⟨0,0,⟨#[]⟩⟩,0,0,0,⟨#[]⟩⟩
def it1:A0G:=.mk {D1S with where_:=1,unit:=.mk ⟨0,0,0⟩ 2 ⟨#[53]⟩ [] [] []} []
def it2:A0G:=.mk {D1S with kind:=5,at_:=[⟨2,⟨#[53]⟩⟩],lab:=⟨#[54]⟩} []
def it3:A0G:=.mk {D1S with kind:=1,at_:=[⟨2,⟨#[54]⟩⟩]} []
def exG:A1G:=⟨1,0,⟨#[]⟩,[⟨1,⟨#[65]⟩,0,⟨1,10,⟨#[]⟩⟩,[it1]⟩,⟨2,⟨#[66]⟩,0,⟨1,20,⟨#[]⟩⟩,[it2]⟩,⟨3,⟨#[67]⟩,0,⟨1,30,⟨#[]⟩⟩,[it3]⟩]⟩
def C5S:IdD:=⟨1,0,1⟩
def E4c:B0W C5S 20 ⟨#[]⟩ [exG]=⟨0,p6,(0,0)⟩:=Q2
def E3M:B0W C5S 30 ⟨#[]⟩ [exG]=⟨1,p6,(3,0)⟩:=Q2
abbrev A3k:AV:=.val (.slice none 0 0)
def E4Q{k d:Int}:A0A prog 65 [(0,I k),(1,I d)]=some (.agg [I k,I d,S ⟨#[]⟩]):=by simp[A0A,A1m,putCells,A0e]
def E3L{k:Int}{l:ByteArray}:A0A prog 30 [(1,I k),(2,S l)]=some (.agg [I 0,I 0,I 0,I k,S l,A3k,A3k,A3k]):=by simp[A0A,A1m,putCells,A0e]
def E4I{k:Int}{l:ByteArray}:A0A prog 89 [(0,I k),(1,S l)]=some (.agg [I k,S l]):=by simp[A0A,A1m,putCells,A0e]
def B8c(k w:Int)(at_:AV)(u:List AV)(lab:ByteArray):List AV:=[I k,at_,A3k,I w,I 0]++u++[A3k,A3k,S lab,S ⟨#[]⟩,I 0,I 0,S ⟨#[]⟩,I 0,I 0,I 0,S ⟨#[]⟩,A3k]
def C8Y:List AV:=[I 0,I 0,I 0,I 0,S ⟨#[]⟩,A3k,A3k,A3k]
def C4F{a:Int}{p:AV}{l:ByteArray}:(B8c a 0 p C8Y l).length=25:=rfl
def E1p{a b c d e:Int}{l:ByteArray}:A0A prog 70 [(0,I a),(3,I b),(5,.agg [I c,I d,I e,I 2,S l,A3k,A3k,A3k])]=some (.agg (B8c a b A3k [I c,I d,I e,I 2,S l,A3k,A3k,A3k] ⟨#[]⟩)):=by simp[A0A,A1m,putCells,A0e,B8c]
def E0H{a:Int}{p:List (List AV)}{l:ByteArray}:A0A prog 70 [(0,I a),(1,.list 2 p .no),(8,S l)]=some (.agg (B8c a 0 (.list 2 p .no) C8Y l)):=by simp[A0A,A1m,putCells,A0e,B8c,C8Y]
def D9G{a:Int}{p:List (List AV)}:A0A prog 70 [(0,I a),(1,.list 2 p .no)]=some (.agg (B8c a 0 (.list 2 p .no) C8Y ⟨#[]⟩)):=by simp[A0A,A1m,putCells,A0e,B8c,C8Y]
def D7E{n k d:Int}{t e:ByteArray}{rows:List (List AV)}{o:Own}:A0A prog 72 [(0,I n),(1,S t),(3,.agg [I k,I d,S e]),(4,.list 25 rows o)]=some (.agg [I n,S t,I 0,I k,I d,S e,.list 25 rows o]):=by simp[A0A,A1m,putCells,A0e]
def E4T{n:Int}{rows:List (List AV)}{o:Own}:A0A prog 46 [(0,I n),(3,.list 7 rows o)]=some (.agg [I n,I 0,S ⟨#[]⟩,.list 7 rows o]):=by simp[A0A,A1m,putCells,A0e]
section
variable (gl:Nat->AV)
def D4I(d:Int)(M:Mem):A0c (WC gl) 20 [I d] M (λv M'=>v=.agg [I 1,I d,S ⟨#[]⟩]/\M'=M):=by
 refine A2e (λn=>by simp[bdd,A1l]) ?_;obtain⟨N,hN⟩:=ex (M++[A0l.cells 65 [I 1,I d,S ⟨#[]⟩]]);have hM:N[M.length]?=some (A0l.cells 65 [I 1,I d,S ⟨#[]⟩]):=by rw[hN];simp
 have hg:Grow M N:=by rw[hN];exact A0d.app none _ _
 refine A0t hB func20 ?_;simp -dsimp -implicitDefEqProofs[E4Q,A0j,A0k,A0e,A0o,A0n];rw[<-hN];simp -dsimp -implicitDefEqProofs[A2r,hM,A0g,hg]
def D4G(l:ByteArray)(M:Mem):A0c (WC gl) 21 [S l] M (λv M'=>v=.list 2 [[I 2,S l]] .no/\M'=M):=by refine A0c.softR ?_;refine A0t hB func21 ?_;simp -dsimp -implicitDefEqProofs[E4I,A0w,A1e];exact .list (.cons (.cons .same (.cons .same .nil)) .nil)
set_option maxHeartbeats 2000000 in
def C6m(M:Mem):A0c (WC gl) 11 [] M (λv M'=>v=.agg exG.row/\M'=M):=by
 refine A2e (λn=>?_) ?_
 .simp only[bdd];simp only[A1G.row,A1l,bdd,Z1z,Z2B,exG];simp only[A5p,Z0w,Z1O,A4f,Z1z];exact⟨B6i _ _,B6i _ _,B6i _ _⟩
 refine A0c.softR ?_;have j:=λd M=>D4I gl d M;have o:=λl M=>D4G gl l M;obtain⟨N,hN⟩:=ex (M++[A0l.cells 46 [I 0,I 0,S ⟨#[]⟩,A3k],A0l.cells 70 (B8c 0 1 A3k [I 0,I 0,I 0,I 2,S ⟨#[53]⟩,A3k,A3k,A3k] ⟨#[]⟩)]);have h0:N[M.length]?=some (A0l.cells 46 [I 0,I 0,S ⟨#[]⟩,A3k]):=by rw[hN];simp
 have h1:N[M.length+1]?=some (A0l.cells 70 (B8c 0 1 A3k [I 0,I 0,I 0,I 2,S ⟨#[53]⟩,A3k,A3k,A3k] ⟨#[]⟩)):=by rw[hN];simp[Z0Y]
 have hg:Grow M N:=by rw[hN];exact A0d.app none _ _
 have hl:M.length<N.length:=(Z0a.1 h0).1;refine A0t hB func11 ?_;obtain⟨i,f⟩:=ex (B8c 0 1 A3k [I 0,I 0,I 0,I 2,S ⟨#[53]⟩,A3k,A3k,A3k] ⟨#[]⟩);have g:i.length=25:=by rw[f];rfl
 rw[<-f]at hN h1;have m:=E1p (a:=0) (b:=1) (c:=0) (d:=0) (e:=0) (l:=⟨#[53]⟩);rw[<-f]at m;have p:∀cs:List AV,cs.length=25->A0k (some 25) (M++[A0l.cells 46 [I 0,I 0,S ⟨#[]⟩,A3k],A0l.cells 70 cs]) (.ptr (M.length+1) 0) (.agg i)=some N:=λcs hc=>by
  have:(M++[A0l.cells 46 [I 0,I 0,S ⟨#[]⟩,A3k],A0l.cells 70 cs])[M.length+1]?=some (.cells 70 cs):=by simp[Z0Y]
  rw[A0f this,hN];simp[A0o,A0n,A0e,g,hc,Z0y]
 have q:∀Q:Mem,Q[M.length+1]?=N[M.length+1]?->A0M prog 70 Q (.ptr (M.length+1) 0)=some (.agg i):=λQ h=>by rw[h1]at h;rw[A0b h];simp[A0y,g,Z0e]
 simp -dsimp -implicitDefEqProofs[E3L,m,A0j];rw[p _ (by rfl)];simp -dsimp -implicitDefEqProofs;refine A0Z hB (A0E gl) (λk=>if k=2 then 1 else if k=19 then 2 else 0) (λ_=>M.length+1) (by rfl) Q2 ?_;simp -dsimp -implicitDefEqProofs;refine A1J (λM=>A0m func20 rfl rfl (j 10 M)) ?_;simp -dsimp -implicitDefEqProofs[q N rfl,A1g,A5S,A0w,A1e,D7E,g];refine A1J (λM=>A0m func20 rfl rfl (j 20 M)) ?_;simp -dsimp -implicitDefEqProofs;refine A1J (λM=>A0m func21 rfl rfl (o _ M)) ?_;simp -dsimp -implicitDefEqProofs[E0H,A0w,A1e,D7E,C4F];refine A1J (λM=>A0m func20 rfl rfl (j 30 M)) ?_;simp -dsimp -implicitDefEqProofs;refine A1J (λM=>A0m func21 rfl rfl (o _ M)) ?_;simp -dsimp -implicitDefEqProofs[D9G,A0w,A1e,D7E,E4T,C4F];simp -dsimp -implicitDefEqProofs[A0f h0,A0o,A0n,A0r hl,A0g];refine⟨?_,A0u hg (Z0j _)⟩;rw[f];simp only[exG,A1G.row,A5p,A0X.row,Z0w,Z1O,A1r,it1,it2,it3,A0G.row,A1Q.row,D1S,B8c,C8Y,Z0O,Z1v,A1z.row,A0P,A0i,A0J,A0q,A1n.row,A4v,A0a.id,A0a.kind,A0a.label,A0a.head,A0a.words,A0a.kids];repeat (first|exact B3E.same|exact B3E.nil|apply B3E.list|apply B3E.agg|exact A4G.nil|apply A4G.cons|exact A9j.nil|apply A9j.cons)
end
def in0{k:Int}(h:decide (-1000<=k/\k<=1000)=true):inI k:=by have:=Z1X h;simp only[inI];omega
def lnL{n:Nat}(h:decide (n<=1000)=true):n<=maxLen:=by have:=Z1X h;have hm:maxLen=9223372036854775807:=rfl;omega
def C1Y{k:Int}{l:ByteArray}(h:inI k)(hl:l.size<=maxLen):(A0a.mk ⟨0,0,0⟩ k l [] [] []).good:=(A0a.good_iff _).2 ⟨⟨in0 rfl,in0 rfl,in0 rfl⟩,h,hl,lnL rfl,λ_ h=>by simp[A0a.head]at h,lnL rfl,λ_ h=>by simp[A0a.words]at h,lnL rfl,λ_ h=>by simp[A0a.kids]at h⟩
def D9L:A8Y []:=⟨lnL rfl,λ_ h=>by simp at h⟩
def D6u:B3L []:=⟨lnL rfl,λ_ h=>by simp at h⟩
def D9K{k:Int}{l:ByteArray}(h:inI k)(hl:l.size<=maxLen):A8Y [⟨k,l⟩]:=⟨lnL rfl,λs hs=>by rw[Z0R.1 hs];exact⟨h,hl⟩⟩
def C1f{k w:Int}{p:List A1n}{u:A0a}{lab:ByteArray}(h1:inI k)(h2:A8Y p)(h3:inI w)(h4:u.good)(h5:lab.size<=maxLen):(A0G.mk {D1S with kind:=k,at_:=p,where_:=w,unit:=u,lab:=lab} []).good:=(A0G.good_iff _).2 ⟨⟨h1,h2,D9L,h3,in0 rfl,h4,D6u,D6u,h5,lnL rfl,⟨in0 rfl,in0 rfl,lnL rfl⟩,in0 rfl,in0 rfl,in0 rfl,lnL rfl⟩,lnL rfl,λ_ h=>by simp[A0G.by_]at h⟩
def B8y{n d:Int}{t:ByteArray}{x:A0G}(h1:inI n)(h2:inI d)(h3:t.size<=maxLen)(hx:x.good):(A0X.mk n t 0 ⟨1,d,⟨#[]⟩⟩ [x]).good:=⟨h1,h3,in0 rfl,⟨in0 rfl,h2,lnL rfl⟩,lnL rfl,λy hy=>by rw[Z0R.1 hy];exact hx⟩
def C1m{n d:Int}{t:ByteArray}{x:A0G}(hx:B1O x.h)(hb:x.by_=[]):C3Q (A0X.mk n t 0 ⟨1,d,⟨#[]⟩⟩ [x]):=⟨Q1,λy hy=>by rw[Z0R.1 hy];exact⟨hx,by rw[hb];simp⟩⟩
def C2f:B2r [exG]:=by
 have g1:it1.good:=C1f (in0 rfl) D9L (in0 rfl) (C1Y (in0 rfl) (lnL rfl)) (lnL rfl);have g2:it2.good:=C1f (in0 rfl) (D9K (in0 rfl) (lnL rfl)) (in0 rfl) (C1Y (in0 rfl) (lnL rfl)) (lnL rfl);have g3:it3.good:=C1f (in0 rfl) (D9K (in0 rfl) (lnL rfl)) (in0 rfl) (C1Y (in0 rfl) (lnL rfl)) (lnL rfl);refine C7S (λg hg=>?_) ⟨Q1,by simp[exG,A7U],λg hg a ha=>?_⟩
 .rw[Z0R.1 hg];refine⟨in0 rfl,in0 rfl,lnL rfl,lnL rfl,λa ha=>?_⟩;simp only[exG,Z0r,Z1F,Z2K]at ha;rcases ha with rfl|rfl|rfl
  .exact B8y (in0 rfl) (in0 rfl) (lnL rfl) g1
  .exact B8y (in0 rfl) (in0 rfl) (lnL rfl) g2
  .exact B8y (in0 rfl) (in0 rfl) (lnL rfl) g3
 .rw[Z0R.1 hg]at ha;simp only[exG,Z0r,Z1F,Z2K]at ha;rcases ha with rfl|rfl|rfl
  .exact C1m ⟨by decide,by decide,by decide,by decide,Q2⟩ rfl
  .exact C1m ⟨by decide,by decide,by decide,by decide,Q2⟩ rfl
  .exact C1m ⟨by decide,by decide,by decide,by decide,Q2⟩ rfl
def E4P:A0A prog 23 [(0,I 1),(2,I 1)]=some (.agg [I 1,I 0,I 1]):=by simp[A0A,A1m,putCells,A0e]
section
variable (gl:Nat->AV)
def C8p(d:gl 0=.cptr [fnV 336,fnV 337])(f:gl 2=A1C)(g:gl 8=A1U)(M:Mem):A0c (WC gl) 4 [] M (λv M'=>v=B true/\M'=M):=by
 refine A2e (λn=>by simp[bdd]) ?_;have b:∀(day:Int),A4G [AV.agg [I 1,I 0,I 1],I day,S ⟨#[]⟩,.list 4 [exG.row] .full] [AV.agg C5S.row,I day,S ⟨#[]⟩,.list 4 (A2G [exG]) .no]:=λday=>.cons .same (.cons .same (.cons .same (.cons (.list (.cons (A4G.refl _) .nil)) .nil)));have i:=λM=>(B2j gl d f g C2f C5S 20 ⟨#[]⟩ C6D M (λM=>by rw[E4c];exact D5Z gl C5S (0,0) M)).softA (b 20);have j:=λM=>(B2j gl d f g C2f C5S 30 ⟨#[]⟩ C3e M (λM=>by rw[E3M];exact D4D gl C5S M)).softA (b 30);have c:=λM=>C6m gl M;have a:exG.row.length=4:=rfl;generalize exG.row=row at*;obtain⟨N,hN⟩:=ex (M++[A0l.cells 23 [I 1,I 0,I 1]]);have hM:N[M.length]?=some (A0l.cells 23 [I 1,I 0,I 1]):=by rw[hN];simp
 have hg:Grow M N:=by rw[hN];exact A0d.app none _ _
 have e:A0M prog 23 N (.ptr M.length 0)=some (.agg [I 1,I 0,I 1]):=by rw[A0b hM];simp[A0y]
 refine A0t hB func4 ?_;simp -dsimp -implicitDefEqProofs[E4P,A0j,A0k,A0e,A0o,A0n];rw[<-hN];refine A0Z hB (A0E gl) (λk=>if k=0\/k=6 then 1 else 0) (λ_=>M.length) (by rfl) Q2 ?_;simp -dsimp -implicitDefEqProofs[e,A1g,A5S];refine A1J (λM=>A0m func11 rfl rfl (c M)) ?_;simp -dsimp -implicitDefEqProofs[A0w,A1e,a];refine A1J (λM=>A0m func10 rfl rfl (i M)) ?_;simp -dsimp -implicitDefEqProofs[C6D,e,A1g,A5S];refine A1J (λM=>A0m func11 rfl rfl (c M)) ?_;simp -dsimp -implicitDefEqProofs[A0w,A1e,a];refine A1J (λM=>A0m func10 rfl rfl (j M)) ?_;simp -dsimp -implicitDefEqProofs[C3e,hg]
end
end Go.Abs
