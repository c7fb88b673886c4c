/- The texts CyE, CyF, CyG, CyH, CsP, CsQ, CsR, CsT, CsU, CsV, CsW, CvC, CvD, CyI. -/
import Derived.Test.YtmpdkagfplajjaaGreatDoorFG25
import Derived.Laws.RangeAny
import Derived.Laws.RangeString
set_option linter.all false
set_option maxRecDepth 100000
namespace Go.Abs
open Go.Proofs TryTypes Tryz
def A1F(p:Int->Bool)(s:ByteArray):Nat->Nat->Int
 |0,_=>-1
 |n+1,i=>if p (A1c s i)then i else A1F p s n (i+1)
def A0X(lo hi:Int)(c:Int):Bool:=decide (c<lo)||decide (c>hi)
def B9B(s:ByteArray)(i:Nat)(h:i<s.size):A1c s i=((s[i]'h).toNat:Int):=by have h':i<s.data.size:=h;simp only[A1c,Z3N,Z0R h',Z1I];rfl
def C8T{lo hi}(a:0<lo)(b:hi<128)(s:ByteArray)(pos:Nat)(hp:pos<s.size):A0X lo hi ((Utf8.decode s pos).1:Int)=A0X lo hi (A1c s pos)/\(A0X lo hi (A1c s pos)=false->(Utf8.decode s pos).2=1):=by
 rw[B9B s pos hp]
 by_cases ha:(s[pos]'hp).toNat<128
 .rw[decode_ascii s pos hp ha];exact⟨rfl,λ_=>rfl⟩
 .have:=decode_high s pos hp (by omega);have e1:A0X lo hi ((Utf8.decode s pos).1:Int)=true:=by(have:((Utf8.decode s pos).1:Int)>hi:=by omega);simp[A0X,this]
  have e2:A0X lo hi ((s[pos]'hp).toNat:Int)=true:=by(have:((s[pos]'hp).toNat:Int)>hi:=by omega);simp[A0X,this]
  rw[e1,e2];exact⟨rfl,λe=>by simp at e⟩
section
variable (gl:Nat->AV) (M:Mem)
def E0V(c:Int):A0d (WC gl) 211 [.val (.int .i32 c)] M (λv M'=>v=B (A0X 48 57 c)/\M'=M):=by
 refine A0j hB func211 ?_;by_cases h1:c<48
 .simp -dsimp -implicitDefEqProofs[A0X,h1]
 .simp -dsimp -implicitDefEqProofs[A0X,h1]
def E0z(c:Int):A0d (WC gl) 162 [.val (.int .i32 c)] M (λv M'=>v=B (A0X 65 90 c)/\M'=M):=by
 refine A0j hB func162 ?_;by_cases h1:c<65
 .simp -dsimp -implicitDefEqProofs[A0X,h1]
 .simp -dsimp -implicitDefEqProofs[A0X,h1]
def C3i(g:FuncId)(lo hi:Int)(f:0<lo)(e:hi<128)(s:ByteArray)(hg:∀M c,A4d (WC gl) g [.val (.int .i32 c)] M (λv M'=>v=B (A0X lo hi c)/\M'=M)):
 A0d (WC gl) 264 [S s,.func (.func g) [] [],B true] M (λv M'=>v=I (A1F (A0X lo hi) s s.size 0)/\Grow M M'):=by
 refine A0j hB func264 ?_
 simp -dsimp -implicitDefEqProofs[A6z]
 refine A3e hB (λT M1=>∃pos,pos<=s.size/\M1=M++[.siter s pos]/\T 1=.func (.func g) [] []/\T 2=B true/\T 10=.ptr M.length 0/\A1F (A0X lo hi) s s.size 0=A1F (A0X lo hi) s (s.size-pos) pos) (λT M1=>match M1[M.length]? with|some (.siter _ pos)=>s.size-pos|_=>0) (by kernel_rfl) ?_ ?_
 .refine⟨0,?_⟩;simp -dsimp -implicitDefEqProofs
 .rintro T M1 ⟨pos,h1,rfl,h2,h3,h4,h5⟩;by_cases hp:pos<s.size
  ·(have hn:A5D (.ptr M.length 0) (M++[.siter s pos])=some (.tuple [.val (.bool true),.val (goInt pos),.val (.int .i32 (Utf8.decode s pos).1)],M++[.siter s (pos+(Utf8.decode s pos).2)]):=by simp[A5D,hp]);have b:A1F (A0X lo hi) s (s.size-pos) pos=if A0X lo hi (A1c s pos)then(pos:Int)else A1F (A0X lo hi) s (s.size-(pos+1)) (pos+1):=by(have:s.size-pos=(s.size-(pos+1))+1:=by omega);rw[this];rfl
   obtain⟨a,d⟩:=C8T f e s pos hp;have h:((Utf8.decode s pos).1:Int)=((Utf8.decode s pos).1:Nat):=rfl;simp -dsimp -implicitDefEqProofs[h2,h4,hn];refine A4A (hg _ _) ?_;rintro r M' ⟨rfl,rfl⟩;cases hb:A0X lo hi ((Utf8.decode s pos).1:Int)
   .rw[a]at hb;have hd:=d hb;simp -dsimp -implicitDefEqProofs[h2,h3,h4,hd];refine⟨⟨pos+1,by omega,rfl,by rw[h5,b,hb];rfl⟩,?_⟩;omega
   .rw[a]at hb;simp -dsimp -implicitDefEqProofs[h3];refine⟨?_,.app _ _ _⟩;rw[h5,b,hb];rfl
  ·(have hn:A5D (.ptr M.length 0) (M++[.siter s pos])=some (.tuple [.val (.bool false)],M++[.siter s pos]):=by simp[A5D,hp]);simp -dsimp -implicitDefEqProofs[h4,hn]
   refine⟨?_,.app _ _ _⟩;rw[h5,show s.size-pos=0 by omega];rfl
def B4T(g:FuncId)(lo hi:Int)(a:0<lo)(b:hi<128)(s:ByteArray)(hg:∀M c,A4d (WC gl) g [.val (.int .i32 c)] M (λv M'=>v=B (A0X lo hi c)/\M'=M)):
 A0d (WC gl) 210 [S s,.func (.func g) [] []] M (λv M'=>v=I (A1F (A0X lo hi) s s.size 0)/\Grow M M'):=by
 refine A0j hB func210 ?_
 simp -dsimp -implicitDefEqProofs
 refine A0s func264 (C3i gl M g lo hi a b s hg) ?_
 rintro r M' ⟨rfl,d⟩
 simp -dsimp -implicitDefEqProofs[d]
def B7c(g:FuncId)(lo hi:Int)(a:0<lo)(b:hi<128)(s:ByteArray)(hg:∀M c,A4d (WC gl) g [.val (.int .i32 c)] M (λv M'=>v=B (A0X lo hi c)/\M'=M)):
 A0d (WC gl) 163 [S s,.func (.func g) [] []] M (λv M'=>v=B (decide (0<=A1F (A0X lo hi) s s.size 0))/\Grow M M'):=by
 refine A0j hB func163 ?_
 simp -dsimp -implicitDefEqProofs
 refine A0s func210 (B4T gl M g lo hi a b s hg) ?_
 rintro r M' ⟨rfl,d⟩
 simp -dsimp -implicitDefEqProofs[d]
def B1v(p:Int->Bool)(s:ByteArray):∀n i,A1F p s n i=-1\/((i:Int)<=A1F p s n i/\A1F p s n i<i+n)
 |0,i=>.inl rfl
 |n+1,i=>by
  simp only[A1F];split
  .right;omega
  .rcases B1v p s n (i+1)with h|h
   .exact .inl h
   .right;push_cast at h;omega
def A2d(s:ByteArray):Nat:=let k:=A1F (A0X 48 57) s s.size 0;if k<0 then s.size else k.toNat
def D2E(s:ByteArray):A0d (WC gl) 161 [S s] M (λv M'=>v=.tuple [S (s.extract 0 (A2d s)),S (s.extract (A2d s) s.size)]/\Grow M M'):=by
 refine A0j hB func161 ?_;simp -dsimp -implicitDefEqProofs;refine A0s func210 (B4T gl M 211 48 57 (by decide) (by decide) s λM c=>A1Y func211 rfl rfl (E0V gl M c)) ?_;rintro r M' ⟨rfl,a⟩;have hr:=B1v (A0X 48 57) s s.size 0;generalize hk:A1F (A0X 48 57) s s.size 0=k at hr;by_cases h0:k<0
 .have hd:A2d s=s.size:=by simp[A2d,hk,h0]
  simp -dsimp -implicitDefEqProofs[h0,a,hd];rfl
 .have hd:A2d s=k.toNat:=by simp[A2d,hk,h0]
  have h1:0<=k:=by omega
  have h2:k<=s.size:=by omega
  simp -dsimp -implicitDefEqProofs[h0];refine A1i hB (A0G gl) (λ_=>0) (λ_=>0) (by rfl) (by kernel_rfl) ?_;simp -dsimp -implicitDefEqProofs[a,hd,h1,h2]
def B7R(s:ByteArray):A2d s<=s.size:=by have hr:=B1v (A0X 48 57) s s.size 0;simp only[A2d];split<;>omega
def A8O(p:Int->Bool)(s:ByteArray)(d:Nat):∀n i,d+i+n<=s.size->(A1F p (s.extract d s.size) n i<0<->A1F p s n (d+i)<0)
 |0,i,h=>by simp[A1F]
 |n+1,i,h=>by
  simp only[A1F];rw[A8w (by omega) (by omega)];split
  .constructor<;>intro h<;>omega
  .exact A8O p s d n (i+1) (by omega)
def A0N(s:ByteArray):Bool:=decide (1<=A2d s)&&decide (A2d s<=4)&&!decide (A1c s 0=48)&&decide (s.size-A2d s<=3)&&decide (A1F (A0X 65 90) s (s.size-A2d s) (A2d s)<0)
def A9J(s:ByteArray):A0d (WC gl) 112 [S s] M (λv M'=>v=B (A0N s)/\Grow M M'):=by
 refine A0j hB func112 ?_;simp -dsimp -implicitDefEqProofs;refine A0s func161 (D2E gl M s) ?_;rintro r M' ⟨rfl,b⟩;have l:=B7R s;have a:(s.extract 0 (A2d s)).size=A2d s:=by simp;omega
 have f:(s.extract (A2d s) s.size).size=s.size-A2d s:=by simp
 have e:1<=A2d s->A1c (s.extract 0 (A2d s)) 0=A1c s 0:=λh=>by rw[A8w (by omega) l]
 generalize hd:A2d s=d at*;by_cases c1:1<=d;case neg=>
  have:¬(1:Int)<=d:=by omega
  simp -dsimp -implicitDefEqProofs[a,this,A0N,hd,c1,b]
 have i1:(1:Int)<=d:=by omega
 have e:=e c1;by_cases c2:d<=4;case neg=>
  have:¬(d:Int)<=4:=by omega
  simp -dsimp -implicitDefEqProofs[a,this,A0N,hd,c1,i1,c2,b]
 have i2:(d:Int)<=4:=by omega
 have g:0<d:=c1;by_cases c3:A1c s 0=48
 .simp -dsimp -implicitDefEqProofs[a,A0N,hd,c1,i1,c2,i2,c3,e,g,b]
 by_cases c4:s.size-d<=3;case neg=>
  have:¬((s.size-d:Nat):Int)<=3:=by omega
  have k:¬s.size<=3+d:=by omega
  simp -dsimp -implicitDefEqProofs[a,f,A0N,hd,c1,i1,c2,i2,c3,e,g,this,c4,b]
 have i4:((s.size-d:Nat):Int)<=3:=by omega
 simp -dsimp -implicitDefEqProofs[a,f,i1,i2,c3,e,g,i4];refine A0s func163 (B7c gl M' 162 65 90 (by decide) (by decide) _ λM c=>A1Y func162 rfl rfl (E0z gl M c)) ?_;rintro r M2 ⟨rfl,i⟩;have j:Grow M M2:=A0c.trans b i;have hx:=A8O (A0X 65 90) s d (s.size-d) 0 (by omega);rw[f];by_cases c5:0<=A1F (A0X 65 90) (s.extract d s.size) (s.size-d) 0
 .have:¬A1F (A0X 65 90) s (s.size-d) d<0:=λh=>by have:=hx.2 (by simpa using h);omega
  simp -dsimp -implicitDefEqProofs[c5,A0N,hd,c1,c2,c3,c4,this,j]
 .have:A1F (A0X 65 90) s (s.size-d) d<0:=by have:=hx.1 (by omega);simpa using this
  simp -dsimp -implicitDefEqProofs[c5,A0N,hd,c1,c2,c3,c4,this,j]
end
abbrev A0I.v(s:A0I):AV:=.agg s.row
def A1K(p:List A0I):List (List AV):=p.map A0I.row
@[simp] def E1p(p:List A0I):(A1K p).length=p.length:=by simp[A1K]
@[simp] def E8U{k j}{a b}:A1s prog .eql 159 (.agg [I k,S a]) (.agg [I j,S b])=some (B (decide (k=j)&&decide (a=b))):=by
 have h1:prog.eqGuardType prog.depth 159=false:=by kernel_rfl
 have h2:prog.stoodInHeld 159=false:=by kernel_rfl
 simp[A1s,A2F,A4t,A3H,A3E,h1,A7P,h2,A2E];by_cases c1:k=j
 .by_cases c2:a=b
  .simp[c1,c2]
  .have:¬a.data=b.data:=λe=>c2 (by cases a;cases b;simpa using e);(have e:(a.data==b.data)=false:=by simpa using this);rw[e];simp[c1,c2]
 .have e:(k==j)=false:=by simpa using c1
  rw[e];simp[c1]
def C0y{x}:A0D prog 159 [(0,I x)]=some (.agg [I x,S ⟨#[]⟩]):=by simp[A0D,A1l,A1H]
section
variable (gl:Nat->AV) (M:Mem)
def A6e(s:A0I):Bool:=decide (s.k=0)&&decide (s.lab=⟨#[]⟩)
def D0u(s:A0I):A0d (WC gl) 214 [s.v] M (λv M'=>v=B (A6e s)/\M'=M):=by refine A0j hB func214 ?_;simp -dsimp -implicitDefEqProofs[A0I.row,A6e,C0y]
def A1T(s:A0I):Bool:=decide (1<=s.k)&&decide (s.k<=7)&&A0N s.lab
def C5t(s:A0I):A0d (WC gl) 217 [s.v] M (λv M'=>v=B (A1T s)/\Grow M M'):=by
 refine A0j hB func217 ?_;by_cases c1:1<=s.k;case neg=>simp -dsimp -implicitDefEqProofs[A0I.row,A1T,c1,Grow,A0c.refl]
 by_cases c2:s.k<=7;case neg=>simp -dsimp -implicitDefEqProofs[A0I.row,A1T,c1,c2,Grow,A0c.refl]
 simp -dsimp -implicitDefEqProofs[A0I.row,c1,c2];refine A0s func112 (A9J gl M s.lab) ?_;rintro r M' ⟨rfl,a⟩;simp -dsimp -implicitDefEqProofs[A1T,c1,c2,a]
def D1q(s:A0I):A0d (WC gl) 216 [s.v] M (λv M'=>v=B (!A1T s)/\Grow M M'):=by refine A0j hB func216 ?_;simp -dsimp -implicitDefEqProofs[A0I.row];refine A0s func217 (C5t gl M s) ?_;rintro r M' ⟨rfl,a⟩;simp -dsimp -implicitDefEqProofs[a]
end
def Grow.refl(M:Mem):Grow M M:=A0c.refl _ _
def Grow.trans{A B C}(h1:Grow A B)(h2:Grow B C):Grow A C:=A0c.trans h1 h2
@[simp] def E2f{p}{i}(h:i<(A1K p).length):(A1K p)[i]=[I (p[i]'(by simpa using h)).k,S (p[i]'(by simpa using h)).lab]:=by simp[A1K,A0I.row]
def B2C{p:List A0I}{f:A0I->Bool}{i:Nat}(h:i<p.length)(ha:(p.take i).all f=true)(hf:f (p[i])=true):(p.take (i+1)).all f=true:=by rw[Z0E h,List.all_append,ha];simp[hf]
section
variable (gl:Nat->AV) (M:Mem)
def C3n(p:List A0I)(o:Own)(c:p.length<=1000000):A0d (WC gl) 270 [.list 2 (A1K p) o,.func (.func 216) [] []] M (λv M'=>(∃r,v=I r/\decide (0<=r)=p.any (λs=>!A1T s))/\Grow M M'):=by
 refine A0j hB func270 ?_;simp -dsimp -implicitDefEqProofs;refine A0v hB p.length 8 (λT M1=>∃i:Nat,i<=p.length/\Grow M M1/\T 0=.list 2 (A1K p) o/\T 1=.func (.func 216) [] []/\T 7=I p.length/\T 8=I i/\(p.take i).all A1T=true) ?_ ?_
 .refine⟨0,?_⟩;simp -dsimp -implicitDefEqProofs[Grow.refl]
 .rintro T M1 ⟨i,h1,h2,h3,h4,h5,h6,h7⟩;by_cases hi:i<p.length
  ·(have a:(i:Int)<p.length:=by omega);have hw:IntKind.i64.wrap ((i:Int)+1)=(i+1:Nat):=by rw[A0T (by omega) (by omega)];omega
   simp -dsimp -implicitDefEqProofs[h3,h4,h5,h6,hi,a];refine A0s func216 (D1q gl M1 p[i]) ?_;rintro r M' ⟨rfl,b⟩;have hg:=h2.trans b;cases hb:A1T p[i]
   .simp -dsimp -implicitDefEqProofs[];refine⟨?_,hg⟩;exact⟨p[i],Z0u hi,hb⟩
   .simp -dsimp -implicitDefEqProofs[h3,h4,h5,h6,hw,hg];refine⟨⟨i+1,?_⟩,?_⟩
    .have:=B2C hi h7 hb;simp only[Z0t]at this|-;exact⟨by clear hw;omega,by simp,this⟩
    .clear hw;omega
  ·(have a:¬(i:Int)<p.length:=by omega);rw[Z0k (by omega),Z0t]at h7
   simp -dsimp -implicitDefEqProofs[h5,h6,a];exact⟨h7,h2⟩
def B0V(p:List A0I)(o:Own)(a:p.length<=1000000):A0d (WC gl) 215 [.list 2 (A1K p) o,.func (.func 216) [] []] M (λv M'=>v=B (p.any (λs=>!A1T s))/\Grow M M'):=by refine A0j hB func215 ?_;simp -dsimp -implicitDefEqProofs;refine A0s func270 (C3n gl M p o a) ?_;rintro r M' ⟨⟨r,rfl,hr⟩,b⟩;simp -dsimp -implicitDefEqProofs[b,hr]
def B4Q(p:List A0I):List A0I:=match p with
 |[]=>[]
 |s::p'=>if A6e s then p' else s::p'
def A4F(p:List A0I):Bool:=decide (0<(B4Q p).length)&&(B4Q p).all A1T
def C3V{p:List A0I}:(!p.any (λs=>!A1T s))=p.all A1T:=by
 induction p with
 |nil=>rfl
 |cons a p ih=>simp only[Z2s,Z1t,Bool.not_or,Bool.not_not,ih]
def B4p(p:List A0I)(o:Own)(a:p.length<=1000000):A0d (WC gl) 166 [.list 2 (A1K p) o] M (λv M'=>v=B (A4F p)/\Grow M M'):=by
 refine A0j hB func166 ?_;cases p with
 |nil=>simp -dsimp -implicitDefEqProofs[A1K,A4F,B4Q,Grow.refl]
 |cons s p'=>
  simp only[Z0C]at a;simp -dsimp -implicitDefEqProofs[A1K,A0I.row];refine A0s func214 (D0u gl M s) ?_;rintro r M' ⟨rfl,rfl⟩;cases hb:A6e s
  .simp -dsimp -implicitDefEqProofs;refine A0s func215 (B0V gl M' (s::p') o (by simpa using a)) ?_;rintro r M2 ⟨rfl,b⟩;(have e:(s::p').all A1T=A4F (s::p'):=by simp[A4F,B4Q,hb]);rw[<-e,<-C3V];simp -dsimp -implicitDefEqProofs[b]
  ·(have i1:(1:Int)<=p'.length+1:=by omega);by_cases c:0<p'.length
   ·(have e:p'.all A1T=A4F (s::p'):=by simp[A4F,B4Q,hb,c]);rw[<-e,<-C3V]
    simp -dsimp -implicitDefEqProofs[i1,c];refine A0s func215 (B0V gl M' p' _ (by omega)) ?_;rintro r M2 ⟨rfl,b⟩;simp -dsimp -implicitDefEqProofs[b]
   ·(have e:A4F (s::p')=false:=by simp[A4F,B4Q,hb,c]);simp -dsimp -implicitDefEqProofs[i1,c,e,Grow.refl]
end
abbrev D8E(p:List A0I)(o:Own):AV:=.agg [I 0,.list 2 (A1K p) o,S ⟨#[]⟩,I 0,I 0]
def B1n(p:List A0I):Bool:=decide (p.length<=9)&&A4F p
def A1I:List ByteArray:=[⟨#[]⟩,⟨#[112,97,114,116]⟩,⟨#[115,101,99,116,105,111,110]⟩,⟨#[112,97,114,97,103,114,97,112,104]⟩,⟨#[116,97,98,108,101]⟩,⟨#[114,111,119]⟩,⟨#[99,101,108,108]⟩,⟨#[110,111,116,101]⟩]
def A3z:ByteArray:=⟨#[98,111,111,107]⟩
def A5z(s:A0I):List ByteArray:=if A6e s then[A3z]else[A1I.getD s.k.toNat ⟨#[]⟩,s.lab]
def A8S(p:List A0I):List ByteArray:=p.flatMap A5z
def hT:A2x:=⟨λ_=>true,λ_=>false,λd=>d==27||d==39||d==21⟩
@[simp] def E6D:hT.own=λ_=>false:=rfl
@[simp] def E6L:hT.vec=λd=>d==27||d==39||d==21:=rfl
def A8e(s:A0I):Bool:=A6e s||A1T s
def D4M{s}(h:A0N s=true):¬s=⟨#[]⟩:=by rintro rfl;revert h;decide+kernel
def B0z{M M1 M' X}{l news}{out v'}(h:A4x M l out M1)(h1:A5X 9 M' v' (l.map S++news.map S))(h2:A0c (obj out) (M1++X) M')(h3:obj v'=obj out\/A1r (M1++X).length v'):A4x M (l++news) v' M':=by
 refine⟨by simpa using h1,⟨?_,λi hi _=>?_⟩,?_⟩
 .have a:=h.2.1.1;have b:=h2.1;simp at b;omega
 .have hl:=h.2.1.1;rw[h2.2 i (by simp;omega) λe=>by have:=h.2.2 i e;omega,Z0h (by omega)];exact h.2.1.2 i hi (by simp)
 .intro f hf;rcases h3 with e|e
  .exact h.2.2 f (by rw[<-e];exact hf)
  .have a:=h.2.1.1;have b:=e f hf;simp at b;omega
def B7J{p:List A0I}{i:Nat}(h:i<p.length):A8S (p.take (i+1))=A8S (p.take i)++A5z p[i]:=by rw[Z0E h,A8S,A8S,Z1z];simp
def C0M(s:A0I):(A5z s).length<=2:=by unfold A5z;split<;>simp
def C1i(p:List A0I):(A8S p).length<=2*p.length:=by
 induction p with
 |nil=>simp[A8S]
 |cons a p ih=>have:=C0M a;simp only[A8S,Z1f,Z0v,Z0C]at*;omega
section
variable (gl:Nat->AV) (M:Mem)
def C3B(p:List A0I)(o:Own)(a:p.length<=1000000):A0d (WC gl) 116 [D8E p o] M (λv M'=>v=B (B1n p)/\Grow M M'):=by
 refine A0j hB func116 ?_;by_cases c:p.length<=9
 .have i1:¬(p.length:Int)>9:=by omega
  have i2:¬(9:Int)<p.length:=by omega
  simp -dsimp -implicitDefEqProofs[i1];refine A0s func166 (B4p gl M p o a) ?_;rintro r M2 ⟨rfl,b⟩;simp -dsimp -implicitDefEqProofs[B1n,c,b]
 .have i2:(9:Int)<p.length:=by omega
  simp -dsimp -implicitDefEqProofs[i2,B1n,c,Grow.refl]
def D2c:A0d (WC gl) 219 [] M (λv M'=>v=.list 1 (A1b A1I) .full/\M'=M):=by refine A0j hB func219 ?_;simp -dsimp -implicitDefEqProofs[A0p,A0Z,A1b,A1I]
def D7A(p:List A0I)(o:Own)(a0:p.length<=1000000)(c:p.all A8e=true):A0d (WC gl) 168 [.list 2 (A1K p) o] M (A4x M (A8S p)):=by
 refine A0j hT func168 ?_;simp -dsimp -implicitDefEqProofs;refine A0v hT p.length 8 (λT M1=>∃i:Nat,i<=p.length/\A4x M (A8S (p.take i)) (T 3) M1/\T 6=.list 2 (A1K p) o/\T 7=I p.length/\T 8=I i) ?_ ?_
 .refine⟨0,?_⟩;simp -dsimp -implicitDefEqProofs[A4x,A5X,A0c.refl,A1r,A8S]
 .rintro T M1 ⟨i,h1,h2,h3,h4,h5⟩;generalize g:T 3=t at h2;by_cases hi:i<p.length
  ·(have d:(i:Int)<p.length:=by omega);have hw:IntKind.i64.wrap ((i:Int)+1)=(i+1:Nat):=by rw[A0T (by omega) (by omega)];omega
   (have f:(M1++[A0l.cells 159 [I p[i].k,S p[i].lab]])[M1.length]?=some (.cells 159 [I p[i].k,S p[i].lab]):=by simp);have hg:=Z0t.1 c p[i] (Z0u hi)
   have q:A5X 9 (M1++[A0l.cells 159 [I p[i].k,S p[i].lab]]) t ((A8S (p.take i)).map S):=h2.1.keep (.app none _ _) (by simp);have z:=C1i (p.take i);(have u:(p.take i).length<=p.length:=by simp;omega);simp -dsimp -implicitDefEqProofs[h3,h4,h5,hi,d,A0m,A0n,A0e,A0b f];refine A0s func214 (D0u gl _ p[i]) ?_;rintro r M2 ⟨rfl,rfl⟩;cases hb:A6e p[i]
   ·(have hn:A1T p[i]=true:=by simpa[A8e,hb]using hg);simp only[A1T,Z0g,Z0m]at hn
    obtain⟨⟨n1,n2⟩,n3⟩:=hn;have hl:=D4M n3;(have y:0<=p[i].k:=by omega);(have s:p[i].k<8:=by omega);(have j:p[i].k.toNat<8:=by omega);(have l:(A1b A1I)[p[i].k.toNat]?.getD []=[S (A1I.getD p[i].k.toNat ⟨#[]⟩)]:=by have:p[i].k.toNat<A1I.length:=j;simp[A1b,this]);have b:∀h:p[i].k.toNat<(A1b A1I).length,(A1b A1I)[p[i].k.toNat]'h=[S (A1I.getD p[i].k.toNat ⟨#[]⟩)]:=by intro h;have:p[i].k.toNat<A1I.length:=j;simp[A1b,this]
    (have a:A5z p[i]=[A1I.getD p[i].k.toNat ⟨#[]⟩,p[i].lab]:=by simp only[A5z,hb];rfl);have w:A1I.length=8:=rfl
    generalize A1I.getD p[i].k.toNat ⟨#[]⟩=kw at l b a;simp -dsimp -implicitDefEqProofs[hl,A0b f];refine A1i hT (A0G gl) (λk=>if k=3\/k=7 then 1 else if k=9 then 2 else 0) (λ_=>M1.length) (by rfl) (by kernel_rfl) ?_;simp -dsimp -implicitDefEqProofs;refine A1M func219 (λM=>(D2c gl M)) ?_;simp -dsimp -implicitDefEqProofs[A0b f,y,b,s,w,A0p,A0Z,g];refine push (C:=WC gl) (e:=9) A7n A9D B5x q (news:=[kw,p[i].lab].map S) (m:=2) rfl rfl (by simp;omega) rfl ?_;intro v' M' q1 q2 q3 _;have hf:=B0z h2 q1 q2 q3;rw[<-a,<-B7J hi]at hf;simp -dsimp -implicitDefEqProofs[h3,h4,h5,hw];refine⟨⟨i+1,?_⟩,?_⟩
    .exact⟨by clear hw;omega,hf,by simp⟩
    .clear hw;omega
   ·(have a:A5z p[i]=[A3z]:=by simp[A5z,hb]);simp -dsimp -implicitDefEqProofs[A0p,A0Z,g]
    refine push (C:=WC gl) (e:=9) A7n A9D B5x q (news:=[A3z].map S) (m:=1) rfl rfl (by simp;omega) rfl ?_;intro v' M' q1 q2 q3 _;have hf:=B0z h2 q1 q2 q3;rw[<-a,<-B7J hi]at hf;simp -dsimp -implicitDefEqProofs[h3,h4,h5,hw];refine⟨⟨i+1,?_⟩,?_⟩
    .exact⟨by clear hw;omega,hf,by simp⟩
    .clear hw;omega
  ·(have d:¬(i:Int)<p.length:=by omega);rw[Z0k (by omega)]at h2
   simp -dsimp -implicitDefEqProofs[h4,h5,d,g,h2]
def D4c(p:List A0I)(o:Own)(b:p.length<=1000000)(a:p.all A8e=true):A0d (WC gl) 117 [D8E p o] M (A4x M (A8S p)):=by refine A0j hB func117 ?_;simp -dsimp -implicitDefEqProofs;refine A0s func168 (D7A gl M p o b a) ?_;intro v M' h;simp -dsimp -implicitDefEqProofs[h]
def A4n(p:List A0I):List ByteArray:=if B1n p then A8S p else[]
def C1M{p}(h:B1n p=true):p.all A8e=true:=by
 simp only[B1n,A4F,Z0g]at h;have h2:=h.2.2;cases p with
 |nil=>rfl
 |cons s p'=>
  simp only[B4Q]at h2;cases hb:A6e s
  .simp only[hb,Z0K,Z1l,Z1t,Z0g]at h2;simp only[Z1t,Z0g,A8e,hb,h2.1,Z4y,Z2t];exact Z0t.2 λx hx=>by have:=Z0t.1 h2.2 x hx;show(A6e x||A1T x)=true;rw[this,Z4y]
  .simp only[hb,Z0H]at h2;simp only[Z1t,Z0g,A8e,hb,Z1X,Z2t];exact Z0t.2 λx hx=>by have:=Z0t.1 h2 x hx;show(A6e x||A1T x)=true;rw[this,Z4y]
def C2E(p:List A0I):(A4n p).length<=18:=by
 unfold A4n;split
 .rename_i h;simp only[B1n,Z0g,Z0m]at h;have:=C1i p;omega
 .simp
def B9e{M M1 M'}{l}{v}(hg:Grow M M1)(h:A4x M1 l v M'):A4x M l v M':=⟨h.1,hg.trans h.2.1,λf hf=>Z0S hg.1 (h.2.2 f hf)⟩
def C9R(p:List A0I)(o:Own)(a:p.length<=1000000):A0d (WC gl) 60 [.list 2 (A1K p) o] M (A4x M (A4n p)):=by
 refine A0j hB func60 ?_;have c:∀M:Mem,(M++[A0l.cells 110 [I 0,.list 2 (A1K p) o,S ⟨#[]⟩,I 0,I 0]])[M.length]?=some (.cells 110 [I 0,.list 2 (A1K p) o,S ⟨#[]⟩,I 0,I 0]):=by simp
 simp -dsimp -implicitDefEqProofs[A0D,A1l,A1H,A0m,A0n,A0e,A0b (c _)];refine A0s func116 (C3B gl _ p o a) ?_;rintro r M' ⟨rfl,b⟩;have hg:Grow M M':=Grow.trans (.app none M _) b;have hc:=b.get (c M) (by simp);cases hb:B1n p
 .simp -dsimp -implicitDefEqProofs[A4n,hb];exact⟨.inl ⟨rfl,rfl⟩,hg,by simp[A1r]⟩
 .simp -dsimp -implicitDefEqProofs[A0b hc];refine A0s func117 (D4c gl M' p o a (C1M hb)) ?_;intro v M2 h;simp -dsimp -implicitDefEqProofs[A4n,hb];exact B9e hg h
end
def A3L:ByteArray:=⟨#[116,104,105,115]⟩
def A6x:ByteArray:=⟨#[116,104,101]⟩
def A9B:ByteArray:=⟨#[115,97,105,100]⟩
def A7c:ByteArray:=⟨#[102,111,114,109,101,114,108,121]⟩
def toW:ByteArray:=⟨#[116,111]⟩
def A3J:List ByteArray:=[⟨#[]⟩,⟨#[112,97,114,116,115]⟩,⟨#[115,101,99,116,105,111,110,115]⟩,⟨#[112,97,114,97,103,114,97,112,104,115]⟩,⟨#[116,97,98,108,101,115]⟩,⟨#[114,111,119,115]⟩,⟨#[]⟩,⟨#[110,111,116,101,115]⟩]
def C4j:List ByteArray->ByteArray->Nat->Int
 |[],_,_=>-1
 |a::r,s,i=>if a=s then i else C4j r s (i+1)
def A2H(l:List ByteArray)(s:ByteArray):Int:=if s=⟨#[]⟩then 0 else max (C4j l s 0) 0
def kS:ByteArray->Int:=A2H A1I
def kP:ByteArray->Int:=A2H A3J
def B7F(s:ByteArray):ByteArray:=if s.size=0 then s else if A5C (A1c s (s.size-1))then s.extract 0 (s.size-1)else s
def A4v(s:ByteArray):Bool:=decide (s.size=0)||!A5C (A1c s (s.size-1))
def C9L{s}(h:A4v s=true):B7F s=s:=by
 unfold A4v at h;unfold B7F;by_cases c:s.size=0
 .rw[Z0d c]
 .simp only[c,Z4x,Z1h,Z1Q]at h;rw[Z0e c,h];rfl
def D6Z{s}(h:A4v s=false):B7F s≠s/\0<s.size/\A5C (A1c s (s.size-1))=true/\B7F s=s.extract 0 (s.size-1):=by
 unfold A4v at h;unfold B7F;by_cases c:s.size=0
 .simp[c]at h
 .simp only[c,Z4x,Z1h,Bool.not_eq_false']at h;rw[Z0e c,Z0d h];refine⟨λe=>?_,by omega,h,rfl⟩;have:=congrArg ByteArray.size e;simp at this;omega
def B5I{p:Int->Bool}{s}:∀n i,A1F p s n i<0->∀j,i<=j->j<i+n->p (A1c s j)=false
 |0,i,_,j,h1,h2=>by omega
 |n+1,i,h,j,h1,h2=>by
  unfold A1F at h;by_cases c:p (A1c s i)=true
  .rw[Z0d c]at h;omega
  .rw[Z0e c]at h;by_cases e:j=i
   .subst e;simpa using c
   .exact B5I n (i+1) h j (by omega) (by omega)
def C6y{p:Int->Bool}{s}:∀n i,0<=A1F p s n i->i<=A1F p s n i/\A1F p s n i<i+n/\∀j,i<=j->(j:Int)<A1F p s n i->p (A1c s j)=false
 |0,i,h=>by simp[A1F]at h
 |n+1,i,h=>by
  unfold A1F at h|-;by_cases c:p (A1c s i)=true
  .rw[Z0d c];exact⟨by omega,by omega,λj h1 h2=>by omega⟩
  .rw[Z0e c]at h|-;obtain⟨a,b,d⟩:=C6y n (i+1) h;refine⟨by omega,by omega,λj h1 h2=>?_⟩;by_cases e:j=i
   .subst e;simpa using c
   .exact d j (by omega) h2
def C0W{s}:A2d s<=s.size/\∀j,j<A2d s->A0X 48 57 (A1c s j)=false:=by
 unfold A2d;by_cases c:A1F (A0X 48 57) s s.size 0<0
 .simp only[c,Z0H];exact⟨Z0o _,λj h=>B5I _ _ c j (by omega) (by omega)⟩
 .simp only[c,Z1l];obtain⟨a,b,d⟩:=C6y (p:=A0X 48 57) (s:=s) s.size 0 (by omega);exact⟨by omega,λj h=>d j (by omega) (by omega)⟩
def C6u{s}(h:A0N s=true):A4v s=true/\0<s.size:=by
 unfold A0N at h;simp only[Z0g,Z0m]at h;obtain⟨⟨⟨⟨h1,h2⟩,h3⟩,h4⟩,h5⟩:=h;obtain⟨d1,d2⟩:=C0W (s:=s);have hs:0<s.size:=by omega
 refine⟨?_,hs⟩;unfold A4v;have key:A5C (A1c s (s.size-1))=false:=by
  by_cases c:s.size-1<A2d s
  .have:=d2 _ c;simp only[A0X,Z2l,Z1x]at this;simp only[A5C,Z2l,Z1x];omega
  .have:=B5I _ _ h5 (s.size-1) (by omega) (by omega);simp only[A0X,Z2l,Z1x]at this;simp only[A5C,Z2l,Z1x];omega
 rw[key];simp
def C3d{s}(h:0<kS s):s∈A1I.drop 1:=by
 unfold kS A2H at h;by_cases c:s=⟨#[]⟩
 .rw[Z0d c]at h;omega
 .rw[Z0e c]at h;simp only[A1I,Z2c,Z1q,Z0A,Z2j,Z3y];simp only[A1I,C4j]at h;refine Z2K λhn=>?_;simp only[Z2N]at hn;obtain⟨a1,a2,a3,a4,a5,a6,a7⟩:=hn;rw[Z0e (Z2D c),Z0e (Z2D a1),Z0e (Z2D a2),Z0e (Z2D a3),Z0e (Z2D a4),Z0e (Z2D a5),Z0e (Z2D a6),Z0e (Z2D a7)]at h;omega
def B2m{s}(h:0<kP s):s∈A3J.drop 1/\s≠⟨#[]⟩:=by
 unfold kP A2H at h;by_cases c:s=⟨#[]⟩
 .rw[Z0d c]at h;omega
 .rw[Z0e c]at h;refine⟨?_,c⟩;simp only[A3J,Z2c,Z1q,Z0A,Z2j,Z3y];simp only[A3J,C4j]at h;refine Z2K λhn=>?_;simp only[Z2N]at hn;obtain⟨a1,a2,a3,a4,a5,a6,a7⟩:=hn;rw[Z0e (Z2D c),Z0e (Z2D a1),Z0e (Z2D a2),Z0e (Z2D a3),Z0e (Z2D a4),Z0e (Z2D a5),Z0e (Z2D a6),Z0e (Z2D a7)]at h;omega
def C0u:∀s∈A1I.drop 1,A4v s=true/\kP s=0/\1<=kS s/\kS s<=7/\s≠A3L/\s≠A6x/\s≠A7c/\s≠A3z:=by decide+kernel
def B9W:∀s∈A3J.drop 1,s≠⟨#[]⟩->A4v s=true/\kS s=0/\1<=kP s/\kP s<=7/\kP s≠6/\s≠A3L/\s≠A6x/\s≠A7c/\s≠A3z:=by decide+kernel
def A3T:A4v A3L=true/\A4v A6x=true/\A4v A9B=true/\A4v A7c=true/\A4v toW=true/\A4v A3z=true/\A3L≠A3z/\A6x≠A3z/\A7c≠A3z/\A6x≠A3L/\A7c≠A3L/\A7c≠A6x:=by decide+kernel
def D0r:¬0<kS A3L/\¬0<kS A6x/\¬0<kS A7c/\¬0<kS A3z/\¬0<kP A3L/\¬0<kP A6x/\¬0<kP A7c/\¬0<kP A3z:=by decide+kernel
def A3k:A0I:=⟨0,⟨#[]⟩⟩
def prs:Nat->List ByteArray->List A0I
 |n+1,a::b::r=>if 0<kS a/\A0N b=true then⟨kS a,b⟩::prs n r else[]
 |_,_=>[]
def A3W:List ByteArray->List A0I×List ByteArray
 |a::b::r=>if 0<kS a then(⟨kS a,b⟩::(A3W r).1,(A3W r).2)else([],a::b::r)
 |r=>([],r)
def bkN(w:List ByteArray):Nat:=match w with
 |[]=>0
 |a::_=>if a=A3z then 1 else 0
def bkS(w:List ByteArray):List A0I:=if bkN w=1 then[A3k]else[]
def A2O(w:List ByteArray):List A0I:=bkS w++prs (9-bkN w) (w.drop (bkN w))
def A1d(w:List ByteArray):Nat:=bkN w+2*(prs (9-bkN w) (w.drop (bkN w))).length
def A2y(w:List ByteArray):Option (List A0I×Nat):=match w with
 |[]=>none
 |a::r=>if 0<kS a then some (⟨kS a,⟨#[]⟩⟩::prs 8 r,1+2*(prs 8 r).length)else none
def A3Y(w:List ByteArray):Option (A0I×ByteArray):=match w with
 |a::b::c::d::_=>if 0<kP a/\A0N b=true/\c=toW/\A0N d=true then some (⟨kP a,b⟩,d)else none
 |_=>none
abbrev Cq:=Int×List A0I×ByteArray
def A2V(k:Int)(w:List ByteArray):Option (Cq×Nat):=if A1d w=bkN w then none else some ((k,A2O w,⟨#[]⟩),A1d w)
def B1y(w:List ByteArray):Option (Cq×Nat):=match w with
 |[]=>none
 |a::r=>
  if a=A3L then(A2y r).map λx=>((2,x.1,⟨#[]⟩),x.2+1)
  else if a=A6x then match r with
   |[]=>none
   |b::r2=>if b=A9B then(A2y r2).map λx=>((3,x.1,⟨#[]⟩),x.2+2)else none
  else if a=A7c then(A2V 4 r).map λx=>(x.1,x.2+1)
  else match A3Y ((a::r).drop (A1d (a::r)))with
   |some (s,d)=>if(A2O (a::r)).length<=8 then some ((1,A2O (a::r)++[s],d),A1d (a::r)+4)else A2V 0 (a::r)
   |none=>A2V 0 (a::r)
def B1a(p:List A0I):Bool:=match p with
 |[]=>false
 |s::p'=>decide (s.lab=⟨#[]⟩)&&decide (1<=s.k)&&decide (s.k<=7)&&p'.all A1T
def C2s(p:List A0I):Int:=match p.getLast? with
 |none=>0
 |some s=>s.k
def A4s(k:Int)(p:List A0I)(to:ByteArray):Bool:=decide (p.length<=9)&&(if k=0\/k=4 then decide (to=⟨#[]⟩)&&A4F p else if k=1 then A0N to&&A4F p&&decide (C2s p≠6)else if k=2\/k=3 then decide (to=⟨#[]⟩)&&B1a p else false)
def A2A(w:List ByteArray):Int×List A0I×List ByteArray:=match w with
 |a::b::c::r=>if a=A3L/\0<kS b then(2,[⟨kS b,⟨#[]⟩⟩],c::r)else if a=A6x/\b=A9B/\0<kS c then(3,[⟨kS c,⟨#[]⟩⟩],r)else if a=A7c then(4,[],b::c::r)else(0,[],a::b::c::r)
 |[a,b]=>if a=A3L/\0<kS b then(2,[⟨kS b,⟨#[]⟩⟩],[])else if a=A7c then(4,[],[b])else(0,[],[a,b])
 |[a]=>if a=A7c then(4,[],[])else(0,[],[a])
 |[]=>(0,[],[])
def A8k(k:Int)(w:List ByteArray):List A0I×List ByteArray:=if k=2\/k=3 then([],w)else(bkS w,w.drop (bkN w))
def A7f(k:Int)(p:List A0I)(r:List ByteArray):Cq×List ByteArray:=match r with
 |[a,b,c,d]=>if k=0/\0<kP a/\c=toW then((1,p++[⟨kP a,b⟩],d),[])else((k,p,⟨#[]⟩),r)
 |_=>((k,p,⟨#[]⟩),r)
def B3Z(x:Cq×List ByteArray):Option Cq:=if x.2=[]/\A4s x.1.1 x.1.2.1 x.1.2.2=true then some x.1 else none
def A2h(k:Int)(p:List A0I)(w:List ByteArray):Option Cq:=B3Z (A7f k (p++(A8k k w).1++(A3W (A8k k w).2).1) (A3W (A8k k w).2).2)
def A4B(w:List ByteArray):Option Cq:=A2h (A2A w).1 (A2A w).2.1 (A2A w).2.2
def A3S:∀n w,(prs n w).all A1T=true/\(prs n w).length<=n/\2*(prs n w).length<=w.length
 |0,w=>by cases w<;>simp[prs]
 |n+1,[]=>by simp[prs]
 |n+1,[a]=>by simp[prs]
 |n+1,a::b::r=>by
  unfold prs;split
  .rename_i h;obtain⟨h1,h2,h3⟩:=A3S n r;obtain⟨f1,f2,f3,f4,-⟩:=C0u a (C3d h.1);refine⟨?_,by simp;omega,by simp;omega⟩;rw[Z1t,h1,Z2R];simp[A1T,f3,f4,h.2]
  .simp
def B4f:∀n w,A3W (w.take (2*(prs n w).length))=(prs n w,[])
 |0,w=>by cases w<;>simp[prs,A3W]
 |n+1,[]=>by simp[prs,A3W]
 |n+1,[a]=>by simp[prs,A3W]
 |n+1,a::b::r=>by
  unfold prs;split
  .rename_i h;have:=B4f n r;rw[Z0C,show 2*((prs n r).length+1)=2*(prs n r).length+2 from by omega,Z0D,Z0D];unfold A3W;rw[Z0d h.1,this]
  .simp[A3W]
def C6k:∀w,w.length=2*(A3W w).1.length+(A3W w).2.length
 |[]=>by simp[A3W]
 |[a]=>by simp[A3W]
 |a::b::r=>by
  unfold A3W;split
  .have:=C6k r;simp;omega
  .simp
def C2D{a b:ByteArray}{r:List ByteArray}{i:Nat}(h:2<=i):(a::b::r).take i=a::b::r.take (i-2):=by obtain⟨j,rfl⟩:∃j,i=j+2:=⟨i-2,by omega⟩;simp
def B8S:∀n w i,i<=w.length->(A3W (w.take i)).2=[]->(A3W (w.take i)).1.all A1T=true->(A3W (w.take i)).1.length<=n->i<=2*(prs n w).length
 |n,w,0,_,_,_,_=>by omega
 |n,[],i+1,h,_,_,_=>by simp at h
 |n,w,1,h,hr,_,_=>by
  cases w with
  |nil=>simp at h
  |cons a r=>simp[A3W]at hr
 |n,[a],i+2,h,_,_,_=>by simp at h
 |n,a::b::r,i+2,h,hr,ha,hl=>by
  rw[C2D (by omega)]at hr ha hl;simp only[Nat.add_sub_cancel]at hr ha hl;unfold A3W at hr ha hl;by_cases c:0<kS a
  .rw[Z0d c]at hr ha hl;simp only[Z1t,Z0g,Z0C]at ha hl hr;cases n with
   |zero=>omega
   |succ n=>
    (have hb:A0N b=true:=by have:=ha.1;simp only[A1T,Z0g]at this;exact this.2);unfold prs
    rw[Z0d ⟨c,hb⟩];have:=B8S n r i (by simp at h;omega) hr ha.2 (by omega);simp;omega
  .rw[Z0e c]at hr;simp at hr
def B8p:∀n w i (a b c d:ByteArray),i<=w.length->(A3W (w.take i)).2=[a,b,c,d]->0<kP a->(A3W (w.take i)).1.all A1T=true->(A3W (w.take i)).1.length<=n->
 (A3W (w.take i)).1=prs (n+1) w/\i=2*(prs (n+1) w).length+4/\∃r,w.drop (2*(prs (n+1) w).length)=a::b::c::d::r
 |n,w,0,a,b,c,d,_,hr,_,_,_=>by simp[A3W]at hr
 |n,[],i+1,a,b,c,d,h,_,_,_,_=>by simp at h
 |n,w,1,a,b,c,d,h,hr,_,_,_=>by
  cases w with
  |nil=>simp at h
  |cons a r=>simp[A3W]at hr
 |n,[x],i+2,a,b,c,d,h,_,_,_,_=>by simp at h
 |n,x::y::r,i+2,a,b,c,d,h,hr,hp,ha,hl=>by
  rw[C2D (by omega)]at hr ha hl|-;simp only[Nat.add_sub_cancel]at hr ha hl|-;unfold A3W at hr ha hl|-;by_cases e:0<kS x
  .rw[Z0d e]at hr ha hl|-;simp only[Z1t,Z0g,Z0C]at ha hl hr;cases n with
   |zero=>omega
   |succ n=>
    (have hb:A0N y=true:=by have:=ha.1;simp only[A1T,Z0g]at this;exact this.2);obtain⟨h1,h2,t,h3⟩:=B8p n r i a b c d (by simp at h;omega) hr hp ha.2 (by omega)
    (have he:prs (n+1+1) (x::y::r)=⟨kS x,y⟩::prs (n+1) r:=by rw[prs];rw[Z0d ⟨e,hb⟩]);rw[he]
    refine⟨by rw[h1],by simp;omega,t,?_⟩;rw[Z0C,show 2*((prs (n+1) r).length+1)=2*(prs (n+1) r).length+2 from by omega,Z2c,Z2c,h3]
  .rw[Z0e e]at hr ha hl|-;simp only[Z1e]at hr;obtain⟨rfl,rfl,hr⟩:=hr;(have he:prs (n+1) (x::y::r)=[]:=by rw[prs];rw[Z0e λhh=>e hh.1]);rw[he];have f:=congrArg List.length hr;simp at f h;refine⟨rfl,by simp;omega,r.drop 2,?_⟩;(have:i=2:=by omega);subst this;have h4:r=r.take 2++r.drop 2:=(Z0U 2 r).symm;simp only[Z1G,Nat.mul_zero,Z1q]
   conv=>lhs;rw[h4,hr]
   rfl
def C8Y:∀n w (a b c d:ByteArray) r,w.drop (2*(prs n w).length)=a::b::c::d::r->0<kP a->A3W (w.take (2*(prs n w).length+4))=(prs n w,[a,b,c,d]):=by
 have base:∀(w:List ByteArray) (a b c d:ByteArray) r,w=a::b::c::d::r->0<kP a->A3W (w.take 4)=([],[a,b,c,d]):=by rintro w a b c d r rfl hp;have:=(B9W a (B2m hp).1 (B2m hp).2).2.1;simp only[Z0D,Z2w];unfold A3W;rw[Z0e (by omega)]
 intro n;induction n with
 |zero=>
  intro w a b c d r h hp;have e:prs 0 w=[]:=by cases w<;>simp[prs]
  rw[e]at h|-;exact base w a b c d r h hp
 |succ n ih=>
  intro w a b c d r h hp
  match w,h with
  |[],h=>simp[prs]at h
  |[x],h=>simp[prs]at h
  |x::y::w',h=>
   by_cases e:0<kS x/\A0N y=true
   ·(have he:prs (n+1) (x::y::w')=⟨kS x,y⟩::prs n w':=by rw[prs];rw[Z0d e]);rw[he,Z0C,show 2*((prs n w').length+1)=2*(prs n w').length+2 from by omega]at h|-
    rw[Z2c,Z2c]at h;rw[show 2*(prs n w').length+2+4=(2*(prs n w').length+4)+2 from by omega,Z0D,Z0D];unfold A3W;rw[Z0d e.1,ih w' a b c d r h hp]
   ·(have he:prs (n+1) (x::y::w')=[]:=by rw[prs];rw[Z0e e]);rw[he]at h|-
    exact base _ a b c d r h hp
def B4s:∀w,∀s∈(A3W w).1,0<s.k
 |[]=>by simp[A3W]
 |[a]=>by simp[A3W]
 |a::b::r=>by
  unfold A3W;split
  .rename_i h;intro s hs;simp only[Z0A]at hs;rcases hs with rfl|hs
   .exact h
   .exact B4s r s hs
  .simp
def B6c(w:List ByteArray):bkN w<=1:=by
 unfold bkN;split
 .omega
 .split<;>omega
def B0S(w:List ByteArray):(bkS w).length=bkN w:=by
 have:=B6c w;unfold bkS;split
 .simp;omega
 .simp;omega
def C4V{w}{ps}(h:∀s∈ps,0<s.k):A4F (bkS w++ps)=(!ps.isEmpty&&ps.all A1T):=by
 have e:B4Q (bkS w++ps)=ps:=by
  unfold bkS;split
  .rfl
  .cases ps with
   |nil=>rfl
   |cons s ps=>have:=h s (by simp);(have hb:A6e s=false:=by unfold A6e;rw[Z0w (by omega)];rfl);simp[B4Q,hb]
 unfold A4F;rw[e];cases ps<;>simp
def B2t{k}(hk:k=0\/k=4){w}{ps}(h:∀s∈ps,0<s.k):B3Z ((k,bkS w++ps,⟨#[]⟩),[])=if ps≠[]/\ps.all A1T=true/\bkN w+ps.length<=9 then some (k,bkS w++ps,⟨#[]⟩)else none:=by
 unfold B3Z A4s
 simp only[Z0d hk,C4V h,Z0v,B0S,decide_true,Z0r,Z0g,Z0m,Z2t]
 by_cases c:ps=[]
 .subst c;simp
 .have:ps.isEmpty=false:=by cases ps<;>simp_all
  simp only[this,Z1C,Z2t,c,not_false_iff,ne_eq];by_cases c2:ps.all A1T=true<;>by_cases c3:bkN w+ps.length<=9<;>simp[c2,c3]
def B5L{w}{ps}(h:∀s∈ps,0<s.k){a b d}(ha:0<kP a):B3Z ((1,bkS w++ps++[⟨kP a,b⟩],d),[])=if ps.all A1T=true/\bkN w+ps.length<=8/\A0N b=true/\A0N d=true then some (1,bkS w++ps++[⟨kP a,b⟩],d)else none:=by
 obtain⟨-,-,f1,f2,f3,-⟩:=B9W a (B2m ha).1 (B2m ha).2
 have c:A4F (bkS w++(ps++[⟨kP a,b⟩]))=(!(ps++[(⟨kP a,b⟩:A0I)]).isEmpty&&(ps++[(⟨kP a,b⟩:A0I)]).all A1T):=C4V λs hs=>by
  simp only[Z0Y,Z1m]at hs;rcases hs with hs|rfl
  .exact h s hs
  .exact ha
 have e1:(ps++[(⟨kP a,b⟩:A0I)]).isEmpty=false:=by cases ps<;>rfl
 have e2:A1T ⟨kP a,b⟩=A0N b:=by simp[A1T,f1,f2]
 have e3:C2s (bkS w++ps++[(⟨kP a,b⟩:A0I)])=kP a:=by simp[C2s]
 unfold B3Z A4s
 rw[e3]
 simp only[show¬((1:Int)=0\/(1:Int)=4)from by omega,Z1l,Z0H,Z0X,c,e1,List.all_append,Z1t,Z3I,Z2R,e2,Z0v,B0S,Z0C,Z1G,Z1C,Z0r,Z0g,Z0m,Z2t,f3,ne_eq,not_false_iff,Z1N]
 by_cases c4:bkN w+ps.length<=8
 .have c5:bkN w+(ps.length+(0+1))<=9:=by omega
  by_cases c1:ps.all A1T=true<;>by_cases c2:A0N b=true<;>by_cases c3:A0N d=true<;>simp only[c1,c2,c3,c4,c5,Z4b,Z1N,and_false,Z0H,Z1l,Z0K]
 .have c5:¬bkN w+(ps.length+(0+1))<=9:=by omega
  simp only[c4,c5,Z4e,and_false,Z1l]
def D0w{w}{i}(h:1<=i):bkN (w.take i)=bkN w:=by obtain⟨j,rfl⟩:∃j,i=j+1:=⟨i-1,by omega⟩;cases w<;>simp[bkN]
def C3P{k}(hk:k=0\/k=4)(w:List ByteArray){i}(h:1<=i):A2h k [] (w.take i)=B3Z (A7f k (bkS w++(A3W ((w.drop (bkN w)).take (i-bkN w))).1) (A3W ((w.drop (bkN w)).take (i-bkN w))).2):=by
 have h2:¬(k=2\/k=3):=by omega
 unfold A2h A8k
 simp only[Z0e h2]
 have e:bkS (w.take i)=bkS w:=by unfold bkS;rw[D0w h]
 rw[D0w h,e,Z2d,Z3o]
def B3N{k}{p}{r}(h:¬∃a b c d,r=[a,b,c,d]/\k=0/\0<kP a/\c=toW):A7f k p r=((k,p,⟨#[]⟩),r):=by
 unfold A7f;split
 .rename_i a b c d;rw[Z0e λhh=>h ⟨a,b,c,d,rfl,hh⟩]
 .rfl
def C2m{k}(hk:k=0\/k=4)(w:List ByteArray){i}(h:1<=i)(hw:i<=w.length){x}(hx:A2h k [] (w.take i)=some x):(i<=A1d w/\bkN w<A1d w)\/(k=0/\∃s d,A3Y (w.drop (A1d w))=some (s,d)/\(A2O w).length<=8/\i=A1d w+4):=by
 have hb:=B6c w
 rw[C3P hk w h]at hx
 have e:=B4s ((w.drop (bkN w)).take (i-bkN w))
 by_cases c:∃a b c d,(A3W ((w.drop (bkN w)).take (i-bkN w))).2=[a,b,c,d]/\k=0/\0<kP a/\c=toW
 .obtain⟨a,b,c,d,hr,rfl,hp,rfl⟩:=c;right;rw[hr]at hx;simp only[A7f,hp,Z4b,Z0H]at hx;rw[B5L e hp]at hx;split at hx
  .rename_i hc;obtain⟨c1,c2,c3,c4⟩:=hc;obtain⟨e1,e2,r,e3⟩:=B8p (8-bkN w) (w.drop (bkN w)) (i-bkN w) a b toW d (by simp;omega) hr hp c1 (by omega);rw[show 8-bkN w+1=9-bkN w from by omega]at e1 e2 e3;(have e4:w.drop (A1d w)=a::b::toW::d::r:=by rw[<-e3,Z1Y];rfl);refine⟨rfl,⟨kP a,b⟩,d,?_,?_,?_⟩
   .rw[e4];simp[A3Y,hp,c3,c4]
   .unfold A2O;rw[Z0v,B0S,<-e1];omega
   .unfold A1d;omega
  .exact absurd hx (by simp)
 .left;rw[B3N c]at hx;by_cases cr:(A3W ((w.drop (bkN w)).take (i-bkN w))).2=[]
  .rw[cr,B2t hk e]at hx;split at hx
   .rename_i hc;obtain⟨c1,c2,c3⟩:=hc;have:=B8S (9-bkN w) (w.drop (bkN w)) (i-bkN w) (by simp;omega) cr c2 (by omega);have f:=C6k ((w.drop (bkN w)).take (i-bkN w));rw[cr]at f;have:0<(A3W ((w.drop (bkN w)).take (i-bkN w))).1.length:=Z2p.2 c1;(have g:((w.drop (bkN w)).take (i-bkN w)).length=i-bkN w:=by simp;omega);unfold A1d;simp only[Z1G]at f;omega
   .exact absurd hx (by simp)
  .simp only[B3Z,cr,Z4e,Z1l]at hx;exact absurd hx (by simp)
def B8F(w:List ByteArray):A1d w<=w.length/\A1d w<=18:=by
 obtain⟨h1,h2,h3⟩:=A3S (9-bkN w) (w.drop (bkN w));have:=B6c w;have hb:bkN w<=w.length:=by cases w<;>simp[bkN];split<;>omega
 simp at h3;unfold A1d;omega
def B8X{k}(hk:k=0\/k=4)(w:List ByteArray)(h:bkN w<A1d w):A2h k [] (w.take (A1d w))=some (k,A2O w,⟨#[]⟩):=by
 obtain⟨h1,h2,h3⟩:=A3S (9-bkN w) (w.drop (bkN w));have hb:=B6c w;have hn:0<(prs (9-bkN w) (w.drop (bkN w))).length:=by unfold A1d at h;omega
 rw[C3P hk w (by omega),show A1d w-bkN w=2*(prs (9-bkN w) (w.drop (bkN w))).length from by unfold A1d;omega,B4f];rw[B3N (by rintro⟨a,b,c,d,e,-⟩;simp at e)];have f:=B4s ((w.drop (bkN w)).take (2*(prs (9-bkN w) (w.drop (bkN w))).length));rw[B4f]at f;rw[B2t hk f,Z0d ⟨Z2p.1 hn,h1,by show bkN w+(prs (9-bkN w) (w.drop (bkN w))).length<=9;omega⟩];rfl
def C8w(w:List ByteArray){s}{d}(h:A3Y (w.drop (A1d w))=some (s,d))(hl:(A2O w).length<=8):A2h 0 [] (w.take (A1d w+4))=some (1,A2O w++[s],d)/\A1d w+4<=w.length:=by
 obtain⟨h1,h2,h3⟩:=A3S (9-bkN w) (w.drop (bkN w))
 have hb:=B6c w
 unfold A3Y at h
 split at h
 .rename_i a b c d' r hd;split at h
  .rename_i hc;obtain⟨c1,c2,rfl,c4⟩:=hc;simp only[Z0a,Z0c]at h;obtain⟨rfl,rfl⟩:=h;have i:=congrArg List.length hd;simp at i;refine⟨?_,by omega⟩;(have f:(w.drop (bkN w)).drop (2*(prs (9-bkN w) (w.drop (bkN w))).length)=a::b::toW::d'::r:=by rw[Z1Y];exact hd);have hr:=C8Y _ _ a b toW d' r f c1;rw[C3P (.inl rfl) w (by omega),show A1d w+4-bkN w=2*(prs (9-bkN w) (w.drop (bkN w))).length+4 from by unfold A1d;omega];have e:=B4s ((w.drop (bkN w)).take (2*(prs (9-bkN w) (w.drop (bkN w))).length+4));rw[hr]at e|-;simp only[A7f,c1,Z4b,Z0H];(have g:bkN w+(prs (9-bkN w) (w.drop (bkN w))).length<=8:=by unfold A2O at hl;rw[Z0v,B0S]at hl;exact hl);rw[B5L e c1,Z0d ⟨h1,g,c2,c4⟩];rfl
  .exact absurd h (by simp)
 .exact absurd h (by simp)
def C6f{k}(hk:k=2\/k=3){b}(hb:0<kS b)(ps:List A0I)(r:List ByteArray):B3Z ((k,⟨kS b,⟨#[]⟩⟩::ps,⟨#[]⟩),r)=if r=[]/\ps.all A1T=true/\ps.length<=8 then some (k,⟨kS b,⟨#[]⟩⟩::ps,⟨#[]⟩)else none:=by
 obtain⟨-,-,f1,f2,-⟩:=C0u b (C3d hb)
 have h1:¬(k=0\/k=4):=by omega
 have h2:¬k=1:=by omega
 unfold B3Z A4s B1a
 simp only[Z0e h1,Z0e h2,Z0d hk,f1,f2,decide_true,Z0r,Z2R,Z0g,Z0m,Z0C]
 by_cases c1:r=[]<;>by_cases c2:ps.all A1T=true<;>by_cases c3:ps.length<=8<;>simp[c1,c2,c3]
def C1Q{k}(hk:k=2\/k=3){b}(hb:0<kS b)(v:List ByteArray):A2h k [⟨kS b,⟨#[]⟩⟩] v=if(A3W v).2=[]/\(A3W v).1.all A1T=true/\(A3W v).1.length<=8 then some (k,⟨kS b,⟨#[]⟩⟩::(A3W v).1,⟨#[]⟩)else none:=by
 unfold A2h A8k
 simp only[Z0d hk,Z1F,List.singleton_append]
 rw[B3N (by rintro⟨a,b,c,d,-,e,-⟩;omega),C6f hk hb]
def C1h{k}(hk:k=2\/k=3){b}(hb:0<kS b)(r:List ByteArray){i}(hi:i<=r.length){x}(hx:A2h k [⟨kS b,⟨#[]⟩⟩] (r.take i)=some x):i<=2*(prs 8 r).length:=by
 rw[C1Q hk hb]at hx;split at hx
 .rename_i h;exact B8S 8 r i hi h.1 h.2.1 h.2.2
 .exact absurd hx (by simp)
def D1b{k}(hk:k=2\/k=3){b}(hb:0<kS b)(r:List ByteArray):A2h k [⟨kS b,⟨#[]⟩⟩] (r.take (2*(prs 8 r).length))=some (k,⟨kS b,⟨#[]⟩⟩::prs 8 r,⟨#[]⟩):=by obtain⟨h1,h2,h3⟩:=A3S 8 r;rw[C1Q hk hb,B4f];rw[Z0d ⟨rfl,h1,h2⟩]
def C2g{a}{x}(h1:¬0<kS a)(h2:¬0<kP a)(h3:a≠A3z):A2h 0 [] (a::x)=none:=by
 have hb:bkN (a::x)=0:=by simp[bkN,h3]
 have hq:A3W (a::x)=([],a::x):=by
  cases x with
  |nil=>rfl
  |cons b r=>unfold A3W;rw[Z0e h1]
 unfold A2h A8k;simp only[show¬((0:Int)=2\/(0:Int)=3)from by omega,Z1l,hb,Z1q,hq];rw[B3N]
 .simp[B3Z]
 .rintro⟨a',b,c,d,e,-,e2,-⟩;simp only[Z1e]at e;rw[<-e.1]at e2;exact h2 e2
def B4n{k}(hk:k=0\/k=4):A2h k [] []=none:=by
 have h2:¬(k=2\/k=3):=by omega
 have:=@B2t k hk [] [] (by simp);simp only[bkS,bkN]at this;unfold A2h A8k;simp only[Z0e h2,bkN,Z4s,A3W,bkS];simpa[A7f]using this
def D2Y{b}{x}(hb:0<kS b):A2A (A3L::b::x)=(2,[⟨kS b,⟨#[]⟩⟩],x):=by cases x<;>simp[A2A,hb]
def C8y{b}{x}(hb:¬0<kS b):A2A (A3L::b::x)=(0,[],A3L::b::x):=by have h1:A3L≠A6x:=λe=>A3T.2.2.2.2.2.2.2.2.2.1 e.symm;have h2:A3L≠A7c:=λe=>A3T.2.2.2.2.2.2.2.2.2.2.1 e.symm;cases x<;>simp[A2A,hb,h1,h2]
def D1O{c}{x}(hc:0<kS c):A2A (A6x::A9B::c::x)=(3,[⟨kS c,⟨#[]⟩⟩],x):=by have h1:A6x≠A3L:=A3T.2.2.2.2.2.2.2.2.2.1;simp[A2A,hc,h1]
def D2X{x}(h:¬∃c y,x=A9B::c::y/\0<kS c):A2A (A6x::x)=(0,[],A6x::x):=by
 have h1:A6x≠A3L:=A3T.2.2.2.2.2.2.2.2.2.1;have h2:A6x≠A7c:=λe=>A3T.2.2.2.2.2.2.2.2.2.2.2 e.symm
 match x,h with
 |[],h=>simp[A2A,h2]
 |[b],h=>simp[A2A,h1,h2]
 |b::c::y,h=>have:¬(b=A9B/\0<kS c):=λhh=>h ⟨c,y,by rw[hh.1],hh.2⟩;simp[A2A,h1,h2];intro e1;exact Int.not_lt.1 λh=>this ⟨e1,h⟩
def D5O{x}:A2A (A7c::x)=(4,[],x):=by
 have h1:A7c≠A3L:=A3T.2.2.2.2.2.2.2.2.2.2.1;have h2:A7c≠A6x:=A3T.2.2.2.2.2.2.2.2.2.2.2
 match x with
 |[]=>simp[A2A]
 |[b]=>simp[A2A,h1]
 |b::c::y=>simp[A2A,h1,h2]
def D2M{a}{x}(h1:a≠A3L)(h2:a≠A6x)(h3:a≠A7c):A2A (a::x)=(0,[],a::x):=by
 match x with
 |[]=>simp[A2A,h3]
 |[b]=>simp[A2A,h1,h3]
 |b::c::y=>simp[A2A,h1,h2,h3]
def E2A(w:List ByteArray)(g:Option (Cq×Nat))(f:List ByteArray->Option Cq):Prop:=match g with
 |some (c,n)=>f (w.take n)=some c/\0<n/\n<=w.length/\n<=23/\∀i,n<i->i<=w.length->f (w.take i)=none
 |none=>∀i,i<=w.length->f (w.take i)=none
def A8V{α:Type}{o:Option α}(h:∀x,o≠some x):o=none:=by
 cases o with
 |none=>rfl
 |some x=>exact absurd rfl (h x)
def B3t(w:List ByteArray):∀i,i<=w.length->(∀s d,A3Y (w.drop (A1d w))=some (s,d)->(A2O w).length<=8->i≠A1d w+4)->(bkN w=A1d w\/A1d w<i)->A2h 0 [] (w.take i)=none:=by
 intro i hi hr hp;refine A8V λx hx=>?_;cases i with
 |zero=>rw[Z2w,B4n (.inl rfl)]at hx;exact absurd hx (by simp)
 |succ i=>
  rcases C2m (.inl rfl) w (by omega) hi hx with⟨h1,h2⟩|⟨-,s,d,h1,h2,h3⟩
  .omega
  .exact hr s d h1 h2 h3
def C7i(w:List ByteArray):∀i,i<=w.length->(bkN w=A1d w\/A1d w<i)->A2h 4 [] (w.take i)=none:=by
 intro i hi hp;refine A8V λx hx=>?_;cases i with
 |zero=>rw[Z2w,B4n (.inr rfl)]at hx;exact absurd hx (by simp)
 |succ i=>
  rcases C2m (.inr rfl) w (by omega) hi hx with⟨h1,h2⟩|⟨h0,-⟩
  .omega
  .omega
def B3O(w:List ByteArray):bkN w<=A1d w:=by unfold A1d;omega
def B8e(a:ByteArray)(r:List ByteArray):B1y (a::r)=(
 (if a=A3L then(A2y r).map λx=>((2,x.1,⟨#[]⟩),x.2+1)
 else if a=A6x then match r with
  |[]=>none
  |b::r2=>if b=A9B then(A2y r2).map λx=>((3,x.1,⟨#[]⟩),x.2+2)else none
 else if a=A7c then(A2V 4 r).map λx=>(x.1,x.2+1)
 else match A3Y ((a::r).drop (A1d (a::r)))with
  |some (s,d)=>if(A2O (a::r)).length<=8 then some ((1,A2O (a::r)++[s],d),A1d (a::r)+4)else A2V 0 (a::r)
  |none=>A2V 0 (a::r)):Option (Cq×Nat)):=rfl
def C3O(w:List ByteArray):E2A w (B1y w) A4B:=by
 obtain⟨t1,t2,t3,t4,t5,t6,t7,t8⟩:=D0r;obtain⟨-,-,-,-,-,-,b1,b2,b3,-⟩:=A3T;cases w with
 |nil=>intro i hi;rw[List.take_nil];exact B4n (.inl rfl)
 |cons a r=>
  have z:A4B []=none:=B4n (.inl rfl);rw[B8e];by_cases c1:a=A3L
  .subst c1;rw[Z0d rfl];have f:∀x,A2h 0 [] (A3L::x)=none:=λx=>C2g t1 t5 b1;cases r with
   |nil=>
    intro i hi
    match i,hi with
    |0,_=>exact z
    |1,_=>exact f []
    |i+2,hi=>simp at hi
   |cons b r=>
    by_cases c2:0<kS b
    .simp only[A2y,Z0d c2,Z0M];(have hx:∀i,A4B ((A3L::b::r).take (i+2))=A2h 2 [⟨kS b,⟨#[]⟩⟩] (r.take i):=λi=>by rw[Z0D,Z0D];unfold A4B;rw[D2Y c2]);obtain⟨h1,h2,h3⟩:=A3S 8 r;refine⟨?_,by omega,by simp;omega,by omega,λi h4 h5=>?_⟩
     .rw[show 1+2*(prs 8 r).length+1=2*(prs 8 r).length+2 from by omega,hx];exact D1b (.inl rfl) c2 r
     .obtain⟨j,rfl⟩:∃j,i=j+2:=⟨i-2,by omega⟩;rw[hx];refine A8V λx he=>?_;have:=C1h (.inl rfl) c2 r (by simp at h5;omega) he;omega
    .simp only[A2y,Z0e c2,Option.map_none];intro i hi
     match i,hi with
     |0,_=>exact z
     |1,_=>exact f []
     |i+2,hi=>rw[Z0D,Z0D];unfold A4B;rw[C8y c2];exact f _
  .rw[Z0e c1];by_cases c2:a=A6x
   .subst c2;rw[Z0d rfl];have f:∀x,A2h 0 [] (A6x::x)=none:=λx=>C2g t2 t6 b2;(have no:∀x,(¬∃c y,x=A9B::c::y/\0<kS c)->A4B (A6x::x)=none:=λx h=>by unfold A4B;rw[D2X h];exact f x);cases r with
    |nil=>
     intro i hi
     match i,hi with
     |0,_=>exact z
     |i+1,_=>rw[Z0D];exact no _ (by rintro⟨c,y,e,-⟩;simp at e)
    |cons b r=>
     by_cases c3:b=A9B
     .subst c3;simp only[Z0H];cases r with
      |nil=>
       intro i hi
       match i,hi with
       |0,_=>exact z
       |i+1,_=>rw[Z0D];refine no _ ?_;rintro⟨c,y,e,-⟩;have:=congrArg List.length e;simp at this;omega
      |cons c r=>
       by_cases c4:0<kS c
       .simp only[A2y,Z0d c4,Z0M];(have hx:∀i,A4B ((A6x::A9B::c::r).take (i+3))=A2h 3 [⟨kS c,⟨#[]⟩⟩] (r.take i):=λi=>by rw[Z0D,Z0D,Z0D];unfold A4B;rw[D1O c4]);obtain⟨h1,h2,h3⟩:=A3S 8 r;refine⟨?_,by omega,by simp;omega,by omega,λi h4 h5=>?_⟩
        .rw[show 1+2*(prs 8 r).length+2=2*(prs 8 r).length+3 from by omega,hx];exact D1b (.inr rfl) c4 r
        .obtain⟨j,rfl⟩:∃j,i=j+3:=⟨i-3,by omega⟩;rw[hx];refine A8V λx he=>?_;have:=C1h (.inr rfl) c4 r (by simp at h5;omega) he;omega
       .simp only[A2y,Z0e c4,Option.map_none];intro i hi
        match i,hi with
        |0,_=>exact z
        |i+1,_=>
         rw[Z0D];refine no _ ?_;rintro⟨c',y,e,e2⟩
         match i,e with
         |0,e=>simp at e
         |1,e=>simp at e
         |i+2,e=>rw[Z0D,Z0D]at e;simp only[Z1e]at e;rw[e.2.1]at c4;exact c4 e2
     .simp only[Z0e c3];intro i hi
      match i,hi with
      |0,_=>exact z
      |1,_=>exact no [] (by rintro⟨c,y,e,-⟩;simp at e)
      |i+2,_=>rw[Z0D,Z0D];refine no _ ?_;rintro⟨c,y,e,-⟩;simp only[Z1e]at e;exact c3 e.1
   .rw[Z0e c2];by_cases c3:a=A7c
    .subst c3;rw[Z0d rfl];(have hx:∀i,A4B ((A7c::r).take (i+1))=A2h 4 [] (r.take i):=λi=>by rw[Z0D];unfold A4B;rw[D5O]);obtain⟨h1,h2⟩:=B8F r;have hb:=B3O r;unfold A2V;by_cases c4:A1d r=bkN r
     .rw[Z0d c4];intro i hi;cases i with
      |zero=>exact z
      |succ i=>rw[hx];exact C7i r i (by simpa using hi) (.inl c4.symm)
     .rw[Z0e c4];refine⟨?_,by simp,by simp;omega,by simp;omega,λi h4 h5=>?_⟩
      .rw[hx];exact B8X (.inr rfl) r (by omega)
      .simp at h4;obtain⟨j,rfl⟩:∃j,i=j+1:=⟨i-1,by omega⟩;rw[hx];exact C7i r j (by simpa using h5) (.inr (by omega))
    .rw[Z0e c3];(have hx:∀i,1<=i->A4B ((a::r).take i)=A2h 0 [] ((a::r).take i):=λi h=>by obtain⟨j,rfl⟩:∃j,i=j+1:=⟨i-1,by omega⟩;rw[Z0D];unfold A4B;rw[D2M c1 c2 c3]);have k:∀i,A2h 0 [] ((a::r).take i)=none->A4B ((a::r).take i)=none:=λi h=>by
      cases i with
      |zero=>exact z
      |succ i=>rw[hx _ (by omega)];exact h
     generalize a::r=w at*;obtain⟨h1,h2⟩:=B8F w;have hb:=B3O w;have g:(∀s d,A3Y (w.drop (A1d w))=some (s,d)->¬(A2O w).length<=8)->E2A w (A2V 0 w) A4B:=by
      intro hr;unfold A2V;by_cases c4:A1d w=bkN w
      .rw[Z0d c4];intro i hi;exact k i (B3t w i hi (λs d e e2=>absurd e2 (hr s d e)) (.inl c4.symm))
      .rw[Z0e c4];refine⟨?_,by omega,h1,by omega,λi h4 h5=>?_⟩
       .rw[hx _ (by omega)];exact B8X (.inl rfl) w (by omega)
       .exact k i (B3t w i h5 (λs d e e2=>absurd e2 (hr s d e)) (.inr h4))
     split
     .rename_i s d e;by_cases c5:(A2O w).length<=8
      .rw[Z0d c5];obtain⟨g1,g2⟩:=C8w w e c5;refine⟨?_,by omega,g2,by omega,λi h4 h5=>?_⟩
       .rw[hx _ (by omega)];exact g1
       .exact k i (B3t w i h5 (λs d e e2=>by omega) (.inr (by omega)))
      .rw[Z0e c5];exact g λs' d' e'=>c5
     .rename_i e;exact g λs' d' e'=>absurd e' (by rw[e];simp)
def B5j:List ByteArray->List ByteArray
 |[]=>[]
 |s::r=>B7F s::(if A4v s then B5j r else[])
def B8Q:∀L,(B5j L).length<=L.length
 |[]=>by simp[B5j]
 |s::r=>by have:=B8Q r;unfold B5j;split<;>simp;omega
def A2b(i:Nat)(w:List ByteArray):Option (Cq×Nat):=match i with
 |0=>A2V 0 w
 |1=>match A3Y (w.drop (A1d w))with
  |some (s,d)=>if(A2O w).length<=8 then some ((1,A2O w++[s],d),A1d w+4)else none
  |none=>none
 |2=>match w with
  |a::r=>if a=A3L then(A2y r).map λx=>((2,x.1,⟨#[]⟩),x.2+1)else none
  |[]=>none
 |3=>match w with
  |a::b::r=>if a=A6x/\b=A9B then(A2y r).map λx=>((3,x.1,⟨#[]⟩),x.2+2)else none
  |_=>none
 |_=>match w with
  |a::r=>if a=A7c then(A2V 4 r).map λx=>(x.1,x.2+1)else none
  |[]=>none
def B3z(o:Option (Cq×Nat)):Nat:=match o with
 |some (_,n)=>n
 |none=>0
def A6d(a b:Option (Cq×Nat)):Option (Cq×Nat):=match b with
 |some (c,n)=>if B3z a<n then some (c,n)else a
 |none=>a
def A4I(w:List ByteArray):Nat->Option (Cq×Nat)
 |0=>none
 |i+1=>A6d (A4I w i) (A2b i w)
def B3g{k}{a}{r}(h1:¬0<kS a)(h2:a≠A3z):A2V k (a::r)=none:=by
 have hb:bkN (a::r)=0:=by simp[bkN,h2]
 have hp:∀n,prs n (a::r)=[]:=λn=>by
  cases n with
  |zero=>simp[prs]
  |succ n=>
   cases r with
   |nil=>simp[prs]
   |cons b r=>rw[prs,Z0e λh=>h1 h.1]
 unfold A2V A1d;rw[hb,Z1q,hp];simp
def B2W{a}{r}(h0:¬0<kS a)(h1:¬0<kP a)(h2:a≠A3z):A3Y ((a::r).drop (A1d (a::r)))=none:=by
 have hb:bkN (a::r)=0:=by simp[bkN,h2]
 have hp:∀n,prs n (a::r)=[]:=λn=>by
  cases n with
  |zero=>simp[prs]
  |succ n=>
   cases r with
   |nil=>simp[prs]
   |cons b r=>rw[prs,Z0e λh=>h0 h.1]
 unfold A1d;rw[hb,Z1q,hp];simp only[Z1G,Nat.mul_zero,Z0T,Z1q];unfold A3Y;split
 .rename_i e;simp only[Z1e]at e;rw[Z0e];rw[<-e.1]
  exactλh=>h1 h.1
 .rfl
def C9M(w:List ByteArray):A4I w 5=B1y w:=by
 obtain⟨t1,t2,t3,t4,t5,t6,t7,t8⟩:=D0r;obtain⟨-,-,-,-,-,-,b1,b2,b3,n1,n2,n3⟩:=A3T;have pos:∀x:Option (Cq×Nat),(∀c n,x=some (c,n)->0<n)->A6d none x=x:=by
  intro x h;cases x with
  |none=>rfl
  |some y=>obtain⟨c,n⟩:=y;have:=h c n rfl;simp[A6d,B3z,this]
 have keep:∀a,A6d a none=a:=λa=>rfl;cases w with
 |nil=>simp only[A4I,A2b,A2V,A1d,bkN,A3Y,B1y,A6d,Z4s,prs];simp[]
 |cons a r=>
  rw[B8e];simp only[A4I];by_cases c1:a=A3L
  .subst c1;rw[Z0d rfl];have f0:A2b 0 (A3L::r)=none:=B3g t1 b1;(have f1:A2b 1 (A3L::r)=none:=by simp only[A2b,B2W t1 t5 b1]);(have f2:A2b 2 (A3L::r)=(A2y r).map λx=>((2,x.1,⟨#[]⟩),x.2+1):=by simp only[A2b,Z0H]);(have f3:A2b 3 (A3L::r)=none:=by cases r<;>simp[A2b,n1.symm]);(have f4:A2b 4 (A3L::r)=none:=by simp[A2b,n2.symm]);rw[f0,f1,f2,f3,f4,keep,keep,keep,keep,pos];intro c n e;cases hb:A2y r with
   |none=>rw[hb]at e;exact absurd e (by simp)
   |some y=>rw[hb]at e;simp at e;omega
  .rw[Z0e c1];(have f2:A2b 2 (a::r)=none:=by simp[A2b,c1]);by_cases c2:a=A6x
   .subst c2;rw[Z0d rfl];have f0:A2b 0 (A6x::r)=none:=B3g t2 b2;(have f1:A2b 1 (A6x::r)=none:=by simp only[A2b,B2W t2 t6 b2]);(have f4:A2b 4 (A6x::r)=none:=by simp[A2b,n3.symm]);rw[f0,f1,f2,f4,keep,keep,keep,keep];cases r with
    |nil=>rfl
    |cons b r=>
     by_cases c3:b=A9B
     .simp only[A2b,c3,Z4b,Z0H];rw[pos];intro c n e;cases hb:A2y r with
      |none=>rw[hb]at e;exact absurd e (by simp)
      |some y=>rw[hb]at e;simp at e;omega
     .simp only[A2b,c3,and_false,Z1l];rfl
   .rw[Z0e c2];(have f3:A2b 3 (a::r)=none:=by cases r<;>simp[A2b,c2]);by_cases c3:a=A7c
    .subst c3;rw[Z0d rfl];have f0:A2b 0 (A7c::r)=none:=B3g t3 b3;(have f1:A2b 1 (A7c::r)=none:=by simp only[A2b,B2W t3 t7 b3]);(have f4:A2b 4 (A7c::r)=(A2V 4 r).map λx=>(x.1,x.2+1):=by simp[A2b]);rw[f0,f1,f2,f3,f4,keep,keep,keep,keep,pos];intro c n e;cases hb:A2V 4 r with
     |none=>rw[hb]at e;exact absurd e (by simp)
     |some y=>rw[hb]at e;simp at e;omega
    .rw[Z0e c3];(have f4:A2b 4 (a::r)=none:=by simp[A2b,c3]);rw[f2,f3,f4,keep,keep,keep];have f:A6d none (A2V 0 (a::r))=A2V 0 (a::r):=by
      refine pos _ λc n e=>?_;have:=B3O (a::r);unfold A2V at e;split at e
      .exact absurd e (by simp)
      .simp only[Z0a,Z0c]at e;omega
     have f0:A2b 0 (a::r)=A2V 0 (a::r):=rfl;rw[f0,f];simp only[A2b];cases e:A3Y ((a::r).drop (A1d (a::r)))with
     |none=>rfl
     |some y=>
      obtain⟨s,d⟩:=y;simp only;by_cases c5:(A2O (a::r)).length<=8
      .rw[Z0d c5];have:B3z (A2V 0 (a::r))<A1d (a::r)+4:=by
        unfold A2V;split
        .simp[B3z]
        .simp[B3z]
       simp only[A6d,this,Z0H,Z0d c5]
      .rw[Z0e c5,Z0e c5];rfl
def D8B{k}{p}{to}:B3Z ((k,p,to),[])=if A4s k p to=true then some (k,p,to)else none:=by simp[B3Z]
def B3H{k}{p}{to}{b:Prop}[Decidable b](h:B3Z ((k,p,to),[])=if b then some (k,p,to)else none):A4s k p to=decide b:=by rw[D8B]at h;by_cases c:A4s k p to=true<;>by_cases e:b<;>simp_all
def D0v(n:Nat)(w:List ByteArray):∀s∈prs n w,0<s.k:=λs hs=>by have:=Z0t.1 (A3S n w).1 s hs;simp only[A1T,Z0g,Z0m]at this;omega
def D2t{k}(hk:k=0\/k=4)(w:List ByteArray):A4s k (A2O w) ⟨#[]⟩=decide (A1d w≠bkN w):=by
 have hb:=B6c w;obtain⟨h1,h2,h3⟩:=A3S (9-bkN w) (w.drop (bkN w));refine B3H ?_;rw[show A2O w=bkS w++prs (9-bkN w) (w.drop (bkN w))from rfl,B2t hk (D0v _ _)];have e:(prs (9-bkN w) (w.drop (bkN w))≠[]/\(prs (9-bkN w) (w.drop (bkN w))).all A1T=true/\bkN w+(prs (9-bkN w) (w.drop (bkN w))).length<=9)<->A1d w≠bkN w:=by
  unfold A1d;constructor
  .rintro⟨a,-,-⟩;have:=Z2p.2 a;omega
  .intro a;exact⟨λe=>a (by rw[e];simp),h1,by omega⟩
 by_cases c:A1d w≠bkN w
 .rw[Z0d (e.2 c),Z0d c]
 .rw[Z0e λh=>c (e.1 h),Z0e c]
def D3b{w}{s}{d}(h:A3Y (w.drop (A1d w))=some (s,d)):A4s 1 (A2O w++[s]) d=decide ((A2O w).length<=8):=by
 obtain⟨h1,h2,h3⟩:=A3S (9-bkN w) (w.drop (bkN w));unfold A3Y at h;split at h
 .rename_i a b c d' r hd;split at h
  .rename_i hc;obtain⟨c1,c2,c3,c4⟩:=hc;simp only[Z0a,Z0c]at h;obtain⟨rfl,rfl⟩:=h;refine B3H ?_;have:=@B5L w _ (D0v (9-bkN w) (w.drop (bkN w))) a b d' c1;rw[show A2O w=bkS w++prs (9-bkN w) (w.drop (bkN w))from rfl,this];(have e:((prs (9-bkN w) (w.drop (bkN w))).all A1T=true/\bkN w+(prs (9-bkN w) (w.drop (bkN w))).length<=8/\A0N b=true/\A0N d'=true)<->(bkS w++prs (9-bkN w) (w.drop (bkN w))).length<=8:=by rw[Z0v,B0S];exact⟨λh=>h.2.1,λh=>⟨h1,h,c2,c4⟩⟩);by_cases c:(bkS w++prs (9-bkN w) (w.drop (bkN w))).length<=8
   .rw[Z0d (e.2 c),Z0d c]
   .rw[Z0e λh=>c (e.1 h),Z0e c]
  .exact absurd h (by simp)
 .exact absurd h (by simp)
def C7o:A0N ⟨#[]⟩=false:=by decide+kernel
def C2Q{p}:A4s 1 p ⟨#[]⟩=false:=by simp[A4s,C7o]
def D6V{k}{to}:A4s k [] to=false:=by have h1:A4F []=false:=rfl;have h2:B1a []=false:=rfl;simp[A4s,h1,h2]
def B4w{k}(hk:k=2\/k=3){r}{p}{n}(h:A2y r=some (p,n)):A4s k p ⟨#[]⟩=true:=by
 cases r with
 |nil=>simp[A2y]at h
 |cons a r=>
  unfold A2y at h;simp only at h;split at h
  .rename_i hc;simp only[Z0a,Z0c]at h;obtain⟨rfl,rfl⟩:=h;obtain⟨h1,h2,h3⟩:=A3S 8 r;have:=@B3H k (⟨kS a,⟨#[]⟩⟩::prs 8 r) ⟨#[]⟩ True _ (by rw[C6f hk hc,Z0d ⟨rfl,h1,h2⟩];simp);simpa using this
  .exact absurd h (by simp)
def B1A{w}{c}{n}(h:B1y w=some (c,n)):A4s c.1 c.2.1 c.2.2=true/\0<n/\n<=w.length/\n<=23:=by
 have hb:=C3O w;rw[h]at hb;obtain⟨h1,h2,h3,h4,-⟩:=hb;refine⟨?_,h2,h3,h4⟩;unfold A4B A2h at h1;unfold B3Z at h1;split at h1
 .rename_i hh;simp only[Z0a]at h1;rw[<-h1];exact hh.2
 .exact absurd h1 (by simp)
def A1f(l:List ByteArray)(at_:Nat)(en:Bool):List ByteArray:=if en=true then[]else B5j (l.drop at_)
def C7N{l}{at_}{en}(h:en=true\/l.length<=at_):A1f l at_ en=[]:=by
 unfold A1f;rcases h with h|h
 .rw[Z0d h]
 .split
  .rfl
  .rw[Z0n h];rfl
def D0q{l}{at_}(h:at_<l.length):A1f l at_ false=B7F (l[at_])::A1f l (at_+1) (!A4v l[at_]):=by unfold A1f;simp only[Z0K,Z1l];rw[Z0j h,B5j];cases c:A4v l[at_]<;>simp
def A6G(l:List ByteArray):Nat->Nat->List A1G
 |0,_=>[]
 |f+1,i=>if l.length<=i then[]else match B1y (B5j (l.drop i))with
  |some (c,n)=>⟨c.1,c.2.1,c.2.2,i,i+n⟩::A6G l f (i+n)
  |none=>A6G l f (i+1)
def B2f(l:List ByteArray):∀f g i,l.length<=f+i->l.length<=g+i->A6G l f i=A6G l g i
 |0,0,i,_,_=>rfl
 |0,g+1,i,h,_=>by rw[A6G,A6G,Z0d (by omega)]
 |f+1,0,i,_,h=>by rw[A6G,A6G,Z0d (by omega)]
 |f+1,g+1,i,h1,h2=>by
  rw[A6G,A6G];split
  .rfl
  .split
   .rename_i c n e;have:=(B1A e).2.1;rw[B2f l f g (i+n) (by omega) (by omega)]
   .rw[B2f l f g (i+1) (by omega) (by omega)]
def A3o(l:List ByteArray)(i:Nat):List A1G:=A6G l (l.length-i) i
def D4P{l}{i}(h:l.length<=i):A3o l i=[]:=by unfold A3o;rw[show l.length-i=0 from by omega];rfl
def D3e{l}{i n}{c}(h:i<l.length)(hc:B1y (B5j (l.drop i))=some (c,n)):A3o l i=⟨c.1,c.2.1,c.2.2,i,i+n⟩::A3o l (i+n):=by unfold A3o;obtain⟨f,hf⟩:∃f,l.length-i=f+1:=⟨l.length-i-1,by omega⟩;have:=(B1A hc).2.1;rw[hf,A6G,Z0e (by omega),hc];simp only;rw[B2f l f (l.length-(i+n)) (i+n) (by omega) (by omega)]
def D1W{l}{i}(h:i<l.length)(hc:B1y (B5j (l.drop i))=none):A3o l i=A3o l (i+1):=by unfold A3o;obtain⟨f,hf⟩:∃f,l.length-i=f+1:=⟨l.length-i-1,by omega⟩;rw[hf,A6G,Z0e (by omega),hc];simp only;rw[B2f l f (l.length-(i+1)) (i+1) (by omega) (by omega)]
def B8t(l:List ByteArray):∀f i,∀c∈A6G l f i,A4s c.k c.path c.to=true/\(i:Int)<=c.frm/\c.frm<c.at_/\c.at_<=l.length
 |0,i,c,hc=>by simp[A6G]at hc
 |f+1,i,c,hc=>by
  rw[A6G]at hc;split at hc
  .simp at hc
  .split at hc
   .rename_i x n e;obtain⟨h1,h2,h3,h4⟩:=B1A e;have ht:=B8Q (l.drop i);simp at ht;simp only[Z0A]at hc;rcases hc with rfl|hc
    .exact⟨h1,Int.le_refl _,by simp;omega,by simp;omega⟩
    .obtain⟨a,b,d,e⟩:=B8t l f (i+n) c hc;exact⟨a,by omega,d,e⟩
   .obtain⟨a,b,d,e⟩:=B8t l f (i+1) c hc;exact⟨a,by omega,d,e⟩
def A9Z(l:List ByteArray):∀f i,(A6G l f i).length<=l.length-i
 |0,i=>by simp[A6G]
 |f+1,i=>by
  rw[A6G];split
  .simp
  .split
   .rename_i x n e;have:=(B1A e).2.1;have:=A9Z l f (i+n);simp;omega
   .have:=A9Z l f (i+1);omega
def A2I(s:ByteArray):Bool:=decide (1<=s.size)&&decide (s.size<=24)&&decide (A1F (A0X 33 126) s s.size 0<0)
def A3l(ws:List A0H):Bool:=decide (ws.length<=256)&&ws.all λw=>A2I w.text
def B2P(s:ByteArray):List (List AV):=s.data.toList.map λb=>[.val (.int .u8 b.toNat)]
@[simp] def E1G(s:ByteArray):(B2P s).length=s.size:=by simp only[B2P,Z0V,Z1D];rfl
@[simp] def E1I{s}{i}(h:i<(B2P s).length):(B2P s)[i]=[.val (.int .u8 (A1c s i))]:=by
 have h':i<s.size:=by simpa using h
 rw[B9B s i h'];simp only[B2P,Z2i,Array.getElem_toList];rfl
def B2U(p:Int->Bool)(s:ByteArray){i}(h:i<s.size):A1F p s (s.size-i) i=if p (A1c s i)then(i:Int)else A1F p s (s.size-(i+1)) (i+1):=by
 have:s.size-i=(s.size-(i+1))+1:=by omega
 rw[this];rfl
def A3R{α:Type}(p:α->Bool):List α->Nat->Int
 |[],_=>-1
 |x::l,i=>if p x then(i:Int)else A3R p l (i+1)
def A8z{α:Type}(p:α->Bool):∀(l:List α) (i:Nat),decide (0<=A3R p l i)=l.any p
 |[],i=>by simp[A3R]
 |x::l,i=>by
  rw[A3R,Z2s];cases h:p x
  .rw[Z0e (by simp),Z1h];exact A8z p l (i+1)
  .rw[Z0d rfl,Z1X];exact Z0s (Int.natCast_nonneg i)
abbrev A5F(s:ByteArray):List AV:=[S s]
def A1n.at1{α:Type}{e}{enc:α->List AV}{M}{v}{l}{P}{t:TypeId}(h:A1n e 1 enc M v l){f:α->AV}(hf:∀x,enc x=[f x])(ha:A2i P t=some false)(hs:A1h P t=some 1){i}(hi:i<l.length):∃p,A6s (some (some 1)) v (I i)=some p/\A1D P t M p=some (f l[i]):=by
 have he:∀x,(enc x).length=1:=λx=>by rw[hf];rfl
 rcases h with⟨rfl,rfl⟩|⟨f',g,a,rfl,hm,hl⟩
 .simp at hi
 .refine⟨.vptr f' g (i*1),by simp[hi],?_⟩;simp only[A1D,A3b,hm,hl,Z2C,A0k,ha,hs];rw[Z0k (by rw[A3C he];exact Z0o _),A7X he,Z0j hi,Z1f,hf];rfl
section
variable (gl:Nat->AV) (M:Mem)
def E0X(c:Int):A0d (WC gl) 379 [.val (.int .u8 c)] M (λv M'=>v=B (A0X 33 126 c)/\M'=M):=by
 refine A0j hB func379 ?_;by_cases h1:c<33
 .simp -dsimp -implicitDefEqProofs[A0X,h1]
 .simp -dsimp -implicitDefEqProofs[A0X,h1]
def D7K(s:ByteArray)(hs:s.size<=maxLen):A0d (WC gl) 397 [.list 1 (B2P s) .no,.func (.func 379) [] []] M (λv M'=>v=I (A1F (A0X 33 126) s s.size 0)/\M'=M):=by
 refine A0j hB func397 ?_;have b:s.size<=9223372036854775807:=hs;simp -dsimp -implicitDefEqProofs;refine A0v hB s.size 8 (λT M1=>∃i:Nat,i<=s.size/\M1=M/\T 0=.list 1 (B2P s) .no/\T 1=.func (.func 379) [] []/\T 7=I s.size/\T 8=I i/\A1F (A0X 33 126) s s.size 0=A1F (A0X 33 126) s (s.size-i) i) ?_ ?_
 .exact⟨0,by omega,rfl,by simp,by simp,by simp,by simp,by simp⟩
 .rintro T M1 ⟨i,i1,rfl,t0,t1,t7,t8,ho⟩;by_cases hi:i<s.size
  ·(have a:(i:Int)<s.size:=by omega);have w1:IntKind.i64.wrap ((i:Int)+1)=(i+1:Nat):=by rw[A0T (by omega) (by omega)];omega
   rw[B2U _ _ hi]at ho;simp -dsimp -implicitDefEqProofs[t0,t1,t7,t8,hi,a];refine A0f func379 (E0X gl _ _) ?_;cases hp:A0X 33 126 (A1c s i)
   .rw[hp,Z0e (by simp)]at ho;simp -dsimp -implicitDefEqProofs[t0,t1,t7,t8,w1];exact⟨⟨i+1,by clear w1;omega,rfl,ho⟩,by clear w1;omega⟩
   .rw[hp,Z0d rfl]at ho;simp -dsimp -implicitDefEqProofs[ho]
  ·(have a:¬(i:Int)<s.size:=by omega);rw[show s.size-i=0 by omega]at ho
   simp -dsimp -implicitDefEqProofs[t7,t8,a,ho,A1F]
def D6b(s:ByteArray)(hs:s.size<=maxLen):A0d (WC gl) 380 [.list 1 (B2P s) .no,.func (.func 379) [] []] M (λv M'=>v=B (decide (0<=A1F (A0X 33 126) s s.size 0))/\M'=M):=by refine A0j hB func380 ?_;simp -dsimp -implicitDefEqProofs;refine A0f func397 (D7K gl M s hs) ?_;simp -dsimp -implicitDefEqProofs
def D4h{h}{d}{x}{t:TypeId}{p}{af}{g}{ρ:Operand->AV}{M}{s}(hx:ρ x=S s)(hs:s.size<2^62):A0A (WC gl) h ⟨d,.convert 9 114 x,t,p,af,g⟩ ρ M=some (.list 1 (B2P s) .no,M):=by
 have a:s.size<4611686018427387904:=by simpa using hs
 simp[A0A,A0q,A0U,A0Q,A0E,A2Q,hx,A7e,B0v,B2P,a]
def D7G(s:ByteArray)(hs:s.size<=maxLen):A0d (WC gl) 339 [S s] M (λv M'=>v=B (A2I s)/\M'=M):=by
 refine A0j hB func339 ?_;by_cases h0:s.size=0
 .have he:s=⟨#[]⟩:=A5s.2 h0;have hw:A2I ⟨#[]⟩=false:=by decide
  simp -dsimp -implicitDefEqProofs[he,hw]
 .have he:¬s=⟨#[]⟩:=λh=>h0 (A5s.1 h);have h1:decide (1<=s.size)=true:=Z0s (by omega);by_cases h2:s.size<=24
  ·(have b:(s.size:Int)<=24:=by omega);have hw:A2I s=decide (A1F (A0X 33 126) s s.size 0<0):=by simp[A2I,h1,h2]
   simp -dsimp -implicitDefEqProofs[he,b,A7e];rw[D4h gl (s:=s) (by rfl) (by omega)];simp -dsimp -implicitDefEqProofs;refine A0f func380 (D6b gl M s hs) ?_;by_cases h3:0<=A1F (A0X 33 126) s s.size 0
   ·(have a:¬A1F (A0X 33 126) s s.size 0<0:=by omega);rw[Z0w a]at hw
    simp -dsimp -implicitDefEqProofs[h3,hw]
   ·(have a:A1F (A0X 33 126) s s.size 0<0:=by omega);rw[Z0s a]at hw
    simp -dsimp -implicitDefEqProofs[h3,hw]
  ·(have b:¬(s.size:Int)<=24:=by omega);have hw:A2I s=false:=by simp[A2I,h2]
   simp -dsimp -implicitDefEqProofs[he,b,hw]
def D9B(s:ByteArray)(hs:s.size<=maxLen):A0d (WC gl) 338 [S s] M (λv M'=>v=B (!A2I s)/\M'=M):=by refine A0j hB func338 ?_;simp -dsimp -implicitDefEqProofs;refine A0f func339 (D7G gl M s hs) ?_;simp -dsimp -implicitDefEqProofs
def D8f(l:List ByteArray)(hl:l.length<=1000)(hs:∀s∈l,s.size<=maxLen)(v:AV)(hv:A1n 9 1 A5F M v l):A0d (WC gl) 378 [v,.func (.func 338) [] []] M (λr M'=>r=I (A3R (λs=>!A2I s) l 0)/\M'=M):=by
 refine A0j hB func378 ?_;have b:A1Z prog 37 v=some l.length:=hv.len (e':=9) (by simp);simp -dsimp -implicitDefEqProofs[b];refine A0v hB l.length 8 (λT M1=>∃i:Nat,i<=l.length/\M1=M/\T 0=v/\T 1=.func (.func 338) [] []/\T 7=I l.length/\T 8=I i/\A3R (λs=>!A2I s) l 0=A3R (λs=>!A2I s) (l.drop i) i) ?_ ?_
 .exact⟨0,by omega,rfl,by simp,by simp,by simp,by simp,by simp⟩
 .rintro T M1 ⟨i,i1,rfl,t0,t1,t7,t8,ho⟩;by_cases hi:i<l.length
  ·(have a:(i:Int)<l.length:=by omega);have w1:=A1y (i:=i) (by omega)
   obtain⟨p,p1,p2⟩:=hv.at1 (P:=prog) (t:=9) (f:=S) (λ_=>rfl) (by simp) (by simp) hi;have hd:l.drop i=l[i]::l.drop (i+1):=Z0j hi;rw[hd,A3R]at ho;simp -dsimp -implicitDefEqProofs[t0,t1,t7,t8,a,p1,p2];refine A0f func338 (D9B gl _ l[i] (hs _ (Z0u hi))) ?_;cases hp:A2I l[i]
   .rw[hp,Z0d (by rfl)]at ho;simp -dsimp -implicitDefEqProofs[ho]
   .rw[hp,Z0e (by simp)]at ho;simp -dsimp -implicitDefEqProofs[t0,t1,t7,t8,w1];exact⟨⟨i+1,by clear w1;omega,rfl,ho⟩,by clear w1;omega⟩
  ·(have a:¬(i:Int)<l.length:=by omega);rw[show l.drop i=[]from Z0n (by omega)]at ho
   simp -dsimp -implicitDefEqProofs[t7,t8,a,ho,A3R]
def D5Y(l:List ByteArray)(hl:l.length<=1000)(hs:∀s∈l,s.size<=maxLen)(v:AV)(hv:A1n 9 1 A5F M v l):A0d (WC gl) 337 [v,.func (.func 338) [] []] M (λr M'=>r=B (l.any λs=>!A2I s)/\M'=M):=by refine A0j hB func337 ?_;simp -dsimp -implicitDefEqProofs;refine A0f func378 (D8f gl M l hl hs v hv) ?_;rw[<-A8z _ l 0];simp -dsimp -implicitDefEqProofs
def C0V(l:List ByteArray)(hl:l.length<=1000)(hs:∀s∈l,s.size<=maxLen)(v:AV)(hv:A1n 9 1 A5F M v l):A0d (WC gl) 262 [v] M (λr M'=>r=B (decide (l.length<=256)&&l.all A2I)/\M'=M):=by
 refine A0j hB func262 ?_;have a:A1Z prog 37 v=some l.length:=hv.len (e':=9) (by simp);by_cases h1:l.length<=256
 .have b:(l.length:Int)<=256:=by omega
  simp -dsimp -implicitDefEqProofs[a,b];refine A0f func337 (D5Y gl M l hl hs v hv) ?_;have:(l.any λs=>!A2I s)=!l.all A2I:=by rw[List.not_all_eq_any_not]
  rw[this];simp -dsimp -implicitDefEqProofs[h1]
 .have b:¬(l.length:Int)<=256:=by omega
  simp -dsimp -implicitDefEqProofs[a,b,h1]
end
def A0Y(l:List A0H):List ByteArray:=l.map A0H.text
def A3y:List (List Int):=[[1,2],[2],[3,4,7],[3,4,7],[5],[6],[],[]]
def A1o(p k:Int):Bool:=decide (0<=p)&&decide (p<8)&&(A3y.getD p.toNat []).contains k
def C1T(l:List A0H):(A0Y l).all A2I=l.all λw=>A2I w.text:=by simp[A0Y,List.all_map];rfl
def hQ(l:List Nat):A2x:=⟨λ_=>true,λ_=>false,λd=>l.contains d⟩
@[simp] def E7C{l}:(hQ l).imm=λ_=>true:=rfl
@[simp] def E6y{l}:(hQ l).own=λ_=>false:=rfl
@[simp] def E6R{l}:(hQ l).vec=λd=>l.contains d:=rfl
section
variable (gl:Nat->AV) (M:Mem)
def C2u{own vec}{K:AV->Mem->Prop}{tg}{v}{M}{l}{s}{o}(hv:A1n 9 1 A5F M v l)(hl:l.length<=1000000000)(a:vec=true) (hk:∀v' M',A1n 9 1 A5F M' v' (l++[s])->A0c (obj v) M M'->(obj v'=obj v\/A1r M.length v')->K v' M'):A6a (WC gl) own vec 37 37 v (.list 1 [[S s]] o) M K tg:=by
 refine A3V (C:=WC gl) (enc:=A5F) (e:=9) (sz:=1) (news:=[s]) A7n A9D B5x (λ_=>rfl) hv (by simp[A0z]) (by simp;omega) a ?_
 intro v' M' h1 h2 h3 _
 exact hk v' M' h1 h2 h3
def A2T{M M1 M2:Mem}{v v':AV}{X:List A0l}(h1:Grow M M1)(hl:A1r M.length v)(h2:A0c (obj v) (M1++X) M2)(h3:obj v'=obj v\/A1r (M1++X).length v'):Grow M M2/\A1r M.length v':=by
 refine⟨⟨?_,λi hi _=>?_⟩,λf hf=>?_⟩
 .have:=h1.1;have:=h2.1;simp at this;omega
 .rw[h2.2 i (by have:=h1.1;simp;omega) (λe=>by have:=hl _ e;omega),Z0h (by have:=h1.1;omega)];exact h1.2 i hi (by simp)
 .rcases h3 with e|e
  .exact hl f (by rw[<-e];exact hf)
  .have:=e f hf;have:=h1.1;simp at*;omega
def D5r(ws:List A0H)(o:Own)(hl:ws.length<=100000000)(hs:∀w∈ws,w.text.size<=maxLen):A0d (WC gl) 208 [.list 4 (A0g ws) o] M (λv M'=>v=B (A3l ws)/\M'=M):=by
 have key:A0d (WC gl) 208 [.list 4 (A0g ws) o] M (λv M'=>(∃x,v=.val x/\x=.bool (A3l ws))/\Grow M M'):=by
  refine A0j (hQ [16]) func208 ?_;simp -dsimp -implicitDefEqProofs;refine A0v (hQ [16]) ws.length 8 (λT M1=>∃i:Nat,i<=ws.length/\T 0=.list 4 (A0g ws) o/\T 6=.list 4 (A0g ws) o/\T 7=I ws.length/\T 8=I i/\A1n 9 1 A5F M1 (T 3) (A0Y (ws.take i))/\Grow M M1/\A1r M.length (T 3)) ?_ ?_
  .exact⟨0,by omega,by simp,by simp,by simp,by simp,by simpa[A0Y]using A1n.nil,A0c.refl _ _,by simp[A1r]⟩
  .rintro T M1 ⟨i,i1,t0,t6,t7,t8,hv,hg,hL⟩;by_cases hi:i<ws.length
   ·(have a:(i:Int)<ws.length:=by omega);have w1:IntKind.i64.wrap ((i:Int)+1)=(i+1:Nat):=by rw[A0T (by omega) (by omega)];omega
    generalize d:T 3=ov at*;(have e:(M1++[A0l.cells 152 [S ws[i].text,I ws[i].act,I ws[i].item,I ws[i].at_]])[M1.length]?=some (A0l.cells 152 [S ws[i].text,I ws[i].act,I ws[i].item,I ws[i].at_]):=by simp);have c:A1n 9 1 A5F (M1++[A0l.cells 152 [S ws[i].text,I ws[i].act,I ws[i].item,I ws[i].at_]]) ov (A0Y (ws.take i)):=hv.keep (A0c.app none M1 _) (by simp);(have ht:A0Y (ws.take (i+1))=A0Y (ws.take i)++[ws[i].text]:=by rw[A0Y,A0Y,Z1k,Z0l hi,Z0Q];rfl);simp -dsimp -implicitDefEqProofs[t6,t7,t8,hi,a,d,A0m,A0n,A0e,A0H.row,A0b e,A0p,A0Z];refine C2u gl c (by simp[A0Y];omega) rfl ?_;intro v' M' h1 h2 h3;obtain⟨k1,k2⟩:=A2T hg hL h2 h3;simp -dsimp -implicitDefEqProofs[t0,t6,t7,t8,w1];exact⟨⟨i+1,by clear w1;omega,rfl,by rw[ht];exact h1,k1,k2⟩,by clear w1;omega⟩
   ·(have a:¬(i:Int)<ws.length:=by omega);rw[Z0k (by omega)]at hv
    by_cases h3:ws.length<=256
    ·(have b:(ws.length:Int)<=256:=by omega);simp -dsimp -implicitDefEqProofs[t0,t7,t8,a,b]
     refine A0s func262 (C0V gl M1 (A0Y ws) (by simp[A0Y];omega) (by simpa[A0Y]using hs) (T 3) hv) ?_;rintro _ _ ⟨rfl,rfl⟩;rw[C1T];simp -dsimp -implicitDefEqProofs[A3l,A0Y,hg]
    ·(have b:¬(ws.length:Int)<=256:=by omega);simp -dsimp -implicitDefEqProofs[t0,t7,t8,a,b,A3l,hg,h3]
 have:=A7B (Q:=λx=>x=.bool (A3l ws)) key;exact this.mono (by rintro v M' ⟨⟨x,rfl,rfl⟩,rfl⟩;exact⟨rfl,rfl⟩)
end
section
variable (gl:Nat->AV) (M:Mem)
def B9a(p:Int->Bool)(s:ByteArray){i}(h:i<s.size):A1F p s (s.size-i) i=if p (A1c s i)then(i:Int)else A1F p s (s.size-(i+1)) (i+1):=by
 have:s.size-i=(s.size-(i+1))+1:=by omega
 rw[this];rfl
def B8j{s:ByteArray}{i:Nat}(h:A1F (A0X 48 57) s s.size 0=(i:Int)):A2d s=i:=by simp only[A2d,h];split<;>omega
def C3e{s}(h:A1F (A0X 48 57) s s.size 0=-1):A2d s=s.size:=by simp only[A2d,h];rfl
def D1E(s:ByteArray)(hs:s.size<=maxLen):A0d (WC gl) 155 [S s] M (λv M'=>v=I (A2d s)/\M'=M):=by
 refine A0j hB func155 ?_;simp -dsimp -implicitDefEqProofs;refine A0v hB s.size 3 (λT M1=>∃i:Nat,i<=s.size/\M1=M/\T 0=S s/\T 3=I i/\A1F (A0X 48 57) s s.size 0=A1F (A0X 48 57) s (s.size-i) i) ?_ ?_
 .refine⟨0,?_⟩;simp -dsimp -implicitDefEqProofs
 .rintro T M1 ⟨i,h1,rfl,h3,h4,h5⟩;by_cases hi:i<s.size
  ·(have a:(i:Int)<s.size:=by omega);have hw:IntKind.i64.wrap ((i:Int)+1)=(i+1:Nat):=by rw[A0T (by omega) (by simp only[maxLen]at hs;omega)];omega
   rw[B9a _ _ hi]at h5;by_cases c1:A1c s i>=48
   .by_cases c2:A1c s i<=57
    ·(have ho:A0X 48 57 (A1c s i)=false:=by simp[A0X];omega);rw[ho]at h5
     have b:(48:Int)<=A1c s i:=c1;simp -dsimp -implicitDefEqProofs[h3,h4,a,c1,c2,hw];refine⟨⟨i+1,by clear hw;omega,by simp,by simpa using h5⟩,by clear hw;omega⟩
    ·(have ho:A0X 48 57 (A1c s i)=true:=by simp[A0X];omega);rw[ho]at h5
     have b:(48:Int)<=A1c s i:=c1;have hd:=B8j (by simpa using h5);simp -dsimp -implicitDefEqProofs[h3,h4,a,c1,c2,hd]
   ·(have ho:A0X 48 57 (A1c s i)=true:=by simp[A0X];omega);rw[ho]at h5
    have b:¬(48:Int)<=A1c s i:=c1;have hd:=B8j (by simpa using h5);simp -dsimp -implicitDefEqProofs[h3,h4,a,c1,hd]
  ·(have a:¬(i:Int)<s.size:=by omega);rw[show s.size-i=0 by omega]at h5
   have hd:=C3e (by rw[h5];rfl);(have c:(i:Int)=s.size:=by omega);simp -dsimp -implicitDefEqProofs[h3,h4,hd,c]
def B1i(s:ByteArray)(hs:s.size<=maxLen):A0d (WC gl) 105 [S s] M (λv M'=>v=B (A0N s)/\M'=M):=by
 refine A0j hB func105 ?_;simp -dsimp -implicitDefEqProofs;refine A0s func155 (D1E gl M s hs) ?_;rintro r M' ⟨rfl,rfl⟩;have g:=B7R s;generalize hd:A2d s=d at*;by_cases c1:1<=d;case neg=>
  have:(d:Int)<1:=by omega
  simp -dsimp -implicitDefEqProofs[this,A0N,hd,c1]
 have i1:¬(d:Int)<1:=by omega
 by_cases c2:d<=4;case neg=>
  have:(4:Int)<d:=by omega
  simp -dsimp -implicitDefEqProofs[this,A0N,hd,c1,i1,c2]
 have i2:¬(4:Int)<d:=by omega
 have b:0<s.size:=by omega
 by_cases c3:A1c s 0=48
 .simp -dsimp -implicitDefEqProofs[A0N,hd,c1,i1,c2,i2,c3,b]
 have hw:IntKind.i64.wrap ((s.size:Int)-d)=(s.size-d:Nat):=by rw[A0T (by omega) (by simp only[maxLen]at hs;omega)];omega
 by_cases c4:s.size-d<=3;case neg=>
  have:(3:Int)<(s.size-d:Nat):=by omega
  have f:¬s.size<=3+d:=by omega
  simp -dsimp -implicitDefEqProofs[A0N,hd,c1,i1,c2,i2,c3,b,hw,this,f]
 have i4:¬(3:Int)<(s.size-d:Nat):=by omega
 simp -dsimp -implicitDefEqProofs[i1,i2,c3,b,hw,i4];have e:A0N s=decide (A1F (A0X 65 90) s (s.size-d) d<0):=by simp[A0N,hd,c1,c2,c3];omega
 rw[e];clear e;refine A0v hB s.size 4 (λT M1=>∃i:Nat,i<=s.size/\M1=M'/\T 0=S s/\T 4=I i/\decide (A1F (A0X 65 90) s (s.size-d) d<0)=decide (A1F (A0X 65 90) s (s.size-i) i<0)) ?_ ?_
 .refine⟨d,?_⟩;simp -dsimp -implicitDefEqProofs[g]
 .rintro T M1 ⟨i,h1,rfl,h3,h4,h5⟩;rw[h5];by_cases hi:i<s.size
  ·(have a:(i:Int)<s.size:=by omega);have hw:IntKind.i64.wrap ((i:Int)+1)=(i+1:Nat):=by rw[A0T (by omega) (by simp only[maxLen]at hs;omega)];omega
   rw[B9a _ _ hi]at h5|-;by_cases c1:A1c s i<65
   ·(have ho:A0X 65 90 (A1c s i)=true:=by simp[A0X];omega);rw[ho]at h5|-
    simp -dsimp -implicitDefEqProofs[h3,h4,a,c1]
   .by_cases c2:A1c s i>90
    ·(have ho:A0X 65 90 (A1c s i)=true:=by simp[A0X];omega);rw[ho]at h5|-
     have c:90<A1c s i:=c2;simp -dsimp -implicitDefEqProofs[h3,h4,a,c1,c2]
    ·(have ho:A0X 65 90 (A1c s i)=false:=by simp[A0X];omega);rw[ho]at h5|-
     have c:¬90<A1c s i:=c2;simp -dsimp -implicitDefEqProofs[h3,h4,a,c1,c2,hw];refine⟨⟨i+1,by clear hw;omega,by simp,Iff.rfl⟩,by clear hw;omega⟩
  ·(have a:¬(i:Int)<s.size:=by omega);rw[show s.size-i=0 by omega]at h5|-
   simp -dsimp -implicitDefEqProofs[h3,h4,a,A1F]
end
end Go.Abs
