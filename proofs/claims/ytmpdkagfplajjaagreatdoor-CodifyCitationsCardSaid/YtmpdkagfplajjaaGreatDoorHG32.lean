/- The texts CvO, CvQ, CvR, CvT, CvU, CvV, CvW, CyJ, CyK, CyL, CyM. -/
import Derived.Test.YtmpdkagfplajjaaGreatDoorHG31
import Derived.Test.YtmpdkagfplajjaaGreatDoorHG21
set_option linter.all false
set_option maxRecDepth 100000
namespace Go.Abs
open Go.Proofs TryTypes Tryz
def A5j(u:A0a):Bool:=(A4F A9p (λ(_:Unit) _=>()) u ()).1
def B1d(u:A0a):Bool:=A5j u&&decide (A2i u<=8)&&decide (A0r u<=1024)&&C3z u
def D5U(u:A0a):Bool:=A3u u&&decide (A2i u<=8)&&decide (A0r u<=1024)&&D6f u
def C7L(u:A0a):Bool:=decide (u.kind=0)&&B1d u&&decide ((A5Y [] (A0R u)).length=A0r u)
def B1Z(u:A0a):Bool:=decide (u.kind=0)&&D5U u&&B3o (A0R u) []
def Fit(u:A0a):Prop:=u.good/\u.lims/\A0r u<=1000
def A3R(u:A0a)(h:u.lims):u.lim/\A5v u.kids:=by obtain⟨a,b,c,d,e,f⟩:=u;rw[A0a.lims]at h;exact h
section
variable (gl:Nat->AV)
def B5g(i:gl 0=A2z)(d:gl 1=A2K)(u:A0a)(M:Mem)(hf:Fit u):A0e (WC gl) 109 [.agg u.row] M (λv M'=>v=B (B1d u)/\M'=M):=by
 obtain⟨hg,hl,hc⟩:=hf;have key:A0e (WC gl) 109 [.agg u.row] M (λv M'=>(∃x,v=.val x/\x=.bool (B1d u))/\Grow M M'):=by
  refine A0n hB func109 ?_;have hR:B1d u=(A5j u&&decide (A2i u<=8)&&decide (A0r u<=1024)&&C3z u):=rfl;simp -dsimp -implicitDefEqProofs;refine A0q func86 (B0c gl 156 [] [] A9p (λ(_:Unit) _=>()) (λM1 _=>Grow M M1) (λ_ u=>u.lims) (λ_ ks=>A5v ks) ?_ ?_ ?_ ?_ ?_ u () M hg hl (A0c.refl _ _)) ?_
  .intro a u h;exact(A3R u h).2
  .intro a k ks h;rw[A5v]at h;exact h.1
  .intro a k ks h _;rw[A5v]at h;exact h.2
  .intro M1 a X h;exact h.trans (A0c.app none _ _)
  .intro u a M1 e g b;refine(A1a func156 rfl rfl (D5V gl M1 i d u e (A3R u g).1)).mono ?_;rintro _ _ ⟨rfl,h⟩;exact⟨rfl,b.trans h⟩
  .rintro _ M1 ⟨rfl,b⟩;have j:(A4F A9p (λ(_:Unit) _=>()) u ()).1=A5j u:=rfl;rw[j];cases h1:A5j u;(case false=>rw[h1]at hR;simp only[Z0O]at hR;simp -dsimp -implicitDefEqProofs[hR,b]);rw[h1,Z0L]at hR;simp -dsimp -implicitDefEqProofs;refine A0q func157 (B9c gl u M1 hg hc) ?_;rintro _ _ ⟨⟨_,rfl,rfl⟩,rfl⟩;by_cases h2:A2i u<=8;case neg=>
    (have c:¬(A2i u:Int)<=8:=by omega);rw[Z0r h2]at hR
    simp only[Z0O]at hR;simp -dsimp -implicitDefEqProofs[c,hR,b]
   (have c:(A2i u:Int)<=8:=by omega);rw[Z0w h2,Z0L]at hR
   simp -dsimp -implicitDefEqProofs[c];refine A0h func30 (B5t gl u _ hg hc) ?_;(have h3:A0r u<=1024:=by omega);(have f:(A0r u:Int)<=1024:=by omega);rw[Z0w h3,Z0L]at hR;simp -dsimp -implicitDefEqProofs[f];refine A0h func158 (E0v gl u _ hg hc) ?_;simp -dsimp -implicitDefEqProofs[hR,b]
 exact(B0g key).mono (by rintro v M' ⟨⟨x,rfl,rfl⟩,rfl⟩;exact⟨rfl,rfl⟩)
def C2J(l:gl 0=A2z)(h:gl 1=A2K)(u:A0a)(M:Mem)(hf:Fit u):A0e (WC gl) 50 [.agg u.row] M (λv M'=>v=B (C7L u)/\M'=M):=by
 have key:A0e (WC gl) 50 [.agg u.row] M (λv M'=>(∃x,v=.val x/\x=.bool (C7L u))/\Grow M M'):=by
  have c:=λM=>B5g gl l h u M hf;obtain⟨hg,hl,hc⟩:=hf;have b:=B3G gl u [] M.length (M++[.map [] 0]) hg (A2q.new M);have a:=λM=>B5t gl u M hg hc;obtain⟨q1,q2⟩:=A7T u [] M.length (M++[.map [] 0]) (A2q.new M);have g:(A6y [] (A2R u)).length=(A5Y [] (A0R u)).length:=by have:=B1S (A2R u) [];rw[A5k]at this;rw[<-Z0G (f:=λp:IdD×A0a=>p.1),this];rfl
  have i:A4A prog 92 (A5U u M.length (M++[.map [] 0])) (.mapr M.length)=some (A5Y [] (A0R u)).length:=by rw[q1.len (kt:=23) (et:=27) (by simp),g]
  have e:Grow M (A5U u M.length (M++[.map [] 0])):=by refine⟨by have:=q2.1;simp at this;omega,λj hj _=>?_⟩;rw[q2.2 j (by simp;omega) (by simp;omega),Z0i hj]
  rw[u.row_eq]at c b a|-;have hR:C7L u=(decide (u.kind=0)&&B1d u&&decide ((A5Y [] (A0R u)).length=A0r u)):=rfl;refine A0n hB func50 ?_;simp -dsimp -implicitDefEqProofs;refine A0Z hB (A0u gl) (λk=>if k=9\/k=10\/k=11 then 2 else 0) (λ_=>0) (by rfl) (by kernel_rfl) ?_;by_cases k0:u.kind=0;case neg=>rw[Z0r k0]at hR;simp only[Z0O]at hR;simp -dsimp -implicitDefEqProofs[k0,hR,A0c.refl]
  rw[Z0w k0,Z0L]at hR;simp -dsimp -implicitDefEqProofs[Z2e k0];refine A1p func109 c ?_;cases h1:B1d u;case false=>rw[h1,Z0O]at hR;simp -dsimp -implicitDefEqProofs[Z2e k0,hR,A0c.refl]
  rw[h1,Z0L]at hR;simp -dsimp -implicitDefEqProofs[Z2e k0];refine A4S (A1a func102 rfl rfl b) ?_;simp -dsimp -implicitDefEqProofs[A6m,i,Z2e k0];refine A1p func30 a ?_;by_cases h2:(A5Y [] (A0R u)).length=A0r u
  ·(have d:((A5Y [] (A0R u)).length:Int)=(A0r u:Int):=by omega);rw[Z0w h2]at hR
   simp -dsimp -implicitDefEqProofs[Z2e k0,Z2e d,Z2e h2,hR,e]
  ·(have d:¬((A5Y [] (A0R u)).length:Int)=(A0r u:Int):=by omega);rw[Z0r h2]at hR
   simp -dsimp -implicitDefEqProofs[Z2e k0,d,h2,hR,e]
 exact(B0g key).mono (by rintro v M' ⟨⟨x,rfl,rfl⟩,rfl⟩;exact⟨rfl,rfl⟩)
end
def D1L(id:IdD)(k:Int)(l:ByteArray)(h w:List A0Q)(ks:List A0a):A5j (.mk id k l h w ks)=(A9p (.mk id k l h w ks)&&ks.all A5j):=by
 have hl:∀ks:List A0a,(A3T A9p (λ(_:Unit) _=>()) ks ()).1=ks.all A5j:=by
  intro ks;induction ks with
  |nil=>rw[A3T];rfl
  |cons k ks ih=>
   rw[A3T,Z1n];have:(A4F A9p (λ(_:Unit) _=>()) k ()).1=A5j k:=rfl;rw[this];cases A5j k
   .rfl
   .rw[Z0e rfl,Z0L];exact ih
 rw[A5j,A4F];cases A9p (.mk id k l h w ks)
 .rfl
 .rw[Z0e rfl,Z0L];exact hl ks
def C7j(u:A0a):(C0y u&&decide (u.kids.length<=64))=A6b u:=by
 unfold C0y A6b;by_cases k0:u.kind=0
 .rw[Z0e k0,Z0e k0,Z2L];simp only[Z0f,Z0k];constructor
  .rintro⟨⟨h1,h2⟩,h3⟩;have hh:u.head=[]:=Z0y (by omega);have hw:u.words=[]:=Z0y (by omega);rw[hh,hw];exact⟨⟨⟨⟨by omega,h3⟩,rfl⟩,rfl⟩,⟨h1,rfl⟩,rfl⟩
  .rintro⟨⟨⟨⟨_,h3⟩,_⟩,_⟩,⟨h1,h4⟩,h5⟩;exact⟨⟨h1,by omega⟩,h3⟩
 .rw[Z0d k0,Z0d k0,Z2L];simp only[Z0f,Z0k];constructor
  .rintro⟨⟨⟨⟨h1,h2⟩,h3⟩,h4⟩,h5⟩;exact⟨⟨⟨⟨by omega,h5⟩,h3⟩,h4⟩,h2⟩
  .rintro⟨⟨⟨⟨h1,h5⟩,h3⟩,h4⟩,h2⟩;exact⟨⟨⟨⟨by omega,h2⟩,h3⟩,h4⟩,h5⟩
def B7T(kind:Int):∀(ks b:List A0a),(∀k∈ks,A5j k=A3u k)->(A8B kind ks (b.map λu=>(u.kind,u.label))&&ks.all A5j)=A6F kind ks b
 |[],_,_=>by rw[A8B,A6F];rfl
 |k::ks,b,h=>by
  have ih:=B7T kind ks (b++[k]) λx hx=>h x (by simp[hx]);rw[Z0U]at ih;have ih:(A8B kind ks (b.map (λu=>(u.kind,u.label))++[(k.kind,k.label)])&&ks.all A5j)=A6F kind ks (b++[k]):=ih;rw[A8B,A6F,<-ih,Z1n,h k (by simp)];have ha:((b.map λu=>(u.kind,u.label)).any λy=>decide (y=(k.kind,k.label)))=b.any λa=>A7F a k:=by rw[List.any_map];congr 1;funext a;simp only[Function.comp,A7F,Z0h,Bool.decide_and]
  rw[ha];cases A4E kind k.kind<;>cases A3u k<;>cases(b.any λa=>A7F a k)<;>simp
def B2B:∀u:A0a,A5j u=A3u u
 |.mk id k l h w ks=>by
  have ih:∀x∈ks,A5j x=A3u x:=λx hx=>by have:=A0a.kid_lt (u:=.mk id k l h w ks) hx;exact B2B x
  have h1:=B7T k ks [] ih;have h2:=C7j (.mk id k l h w ks);rw[D1L,A3u,<-h1,<-h2];show(C0y (.mk id k l h w ks)&&A8B k ks []&&decide (ks.length<=64)&&ks.all A5j)=(C0y (.mk id k l h w ks)&&decide (ks.length<=64)&&(A8B k ks []&&ks.all A5j));cases C0y (.mk id k l h w ks)<;>cases A8B k ks []<;>cases decide (ks.length<=64)<;>simp
termination_by u=>SizeOf.sizeOf u
def C1N(u:A0a):C7L u=B1Z u:=by
 have h:=B3a (A0R u) ([]:List IdD);simp only[Z1B,Z0N]at h;have h2:decide ((A5Y [] (A0R u)).length=A0r u)=B3o (A0R u) []:=by rw[Z2L,Z0k,<-h,A5t]
 simp only[C7L,B1Z,B1d,D5U,B2B,C4M,h2]
structure A0J where
 id:IdD
 parent:Int
 label:ByteArray
def A0J.row(s:A0J):List AV:=[I s.id.act,I s.id.item,I s.id.n,I s.parent,S s.label]
def A0J.good(s:A0J):Prop:=s.id.good/\inI s.parent/\s.label.size<=maxLen
def A1L(l:List A0J):List (List AV):=l.map A0J.row
@[simp] def E1I(l:List A0J):(A1L l).length=l.length:=by simp[A1L]
@[simp] def E2I{p}{i}(h:i<(A1L p).length):(A1L p)[i]=(p[i]'(by simpa using h)).row:=by simp[A1L]
mutual
def A0E(x:IdD):A0a->Option A0a
 |.mk id k l h w ks=>if id=x then some (.mk id k l h w ks)else A9X x ks
def A9X(x:IdD):List A0a->Option A0a
 |[]=>none
 |k::ks=>match A0E x k with
  |some v=>some v
  |none=>A9X x ks
end
def zU:List AV:=[I 0,I 0,I 0,I 0,S ⟨#[]⟩,.val (.slice none 0 0),.val (.slice none 0 0),.val (.slice none 0 0)]
def A1z:Option A0a->List AV
 |some u=>u.row
 |none=>zU
def B2O(n:Nat)(l:List A0Q):A7H n (A0g l):=by
 induction l with
 |nil=>simp[A0g,A7H]
 |cons w l ih=>simp only[A0g,Z0z,A7H];exact⟨by simp[A0Q.row,A1I,bdd],ih⟩
mutual
def A3d(n:Nat):∀u:A0a,A1I n u.row
 |.mk id k l h w ks=>by rw[A0a.row];simp only[A1I,bdd,Z1D,Z2u];exact⟨B2O n h,B2O n w,B5U n ks⟩
def B5U(n:Nat):∀l:List A0a,A7H n (A0p l)
 |[]=>by rw[A0p];simp[A7H]
 |u::l=>by rw[A0p];exact⟨A3d n u,B5U n l⟩
end
def B5Y(n:Nat)(o:Option A0a):A1I n (A1z o):=by
 cases o with
 |none=>simp[A1z,zU,A1I,bdd]
 |some u=>exact A3d n u
@[simp] def E1C(o:Option A0a):(A1z o).length=8:=by cases o<;>simp[A1z,zU]
@[simp] def E0w(o:Option A0a):List.take 8 (A1z o)=A1z o:=Z0g (by simp)
def A3r{C}{f}{args}{M}{r}(hb:∀n,bdd n r)(h:A0e C f args M (λv M'=>v=r/\Grow M M')):A0e C f args M (λv M'=>v=r/\M'=M):=by
 refine h.cut ?_;rintro _ M' ⟨rfl,hg⟩;refine⟨M'.drop M.length,?_,hb _,rfl,rfl⟩;have ht:M'.take M.length=M:=by
  apply Z1G;intro i;rw[Z0P];split
  .rename_i hi;exact hg.2 i hi (by simp)
  .rename_i hi;exact(Z1s (by omega)).symm
 have:=Z1b M.length M';rw[ht]at this;exact this.symm
@[simp] def E5K:A0x prog 27 []=some (.agg zU):=by
 simp[A0x,A1b];rfl
def C8L{M:Mem}{t:TypeId}{cs:List AV}:A3k (M++[.cells t cs]) (.ptr M.length 0)=some cs:=by simp[A3k]
def A0s{M:Mem}{b:Nat}{t:TypeId}{cs:List AV}(h:b<M.length):A3k (M.set b (.cells t cs)) (.ptr b 0)=some cs:=by simp[A3k,h]
def A0V{M M1}{b}{X}(h:Grow M M1)(hb:M.length<=b):Grow M (M1.set b X):=⟨by simpa using h.1,λi hi _=>by rw[Z0c (by omega)];exact h.2 i hi (by simp)⟩
@[simp] def E8u:zU.length=8:=(rfl)
@[simp] def E5p:List.take 8 zU=zU:=(rfl)
section
variable (gl:Nat->AV)
def C6f:∀(u:A0a) (x:IdD) (M:Mem),u.good->A0e (WC gl) 104 [.agg u.row,.agg x.row] M (λv M'=>v=.tuple [.agg (A1z (A0E x u)),B (A0E x u).isSome]/\M'=M)
 |.mk id kind lab hd ws ks,x,M,hg=>by
  refine A3r (λn=>by simp only[bdd,A1I,Z1D];exact B5Y n _) ?_;obtain⟨_,_,s,_,r,_,t,m,f⟩:=(A0a.good_iff _).1 hg;have f:∀k∈ks,k.good:=f;have q:ks.length<=9223372036854775807:=m;have b:(A0a.mk id kind lab hd ws ks).row=[I id.act,I id.item,I id.n,I kind,S lab,.list 4 (A0g hd) .no,.list 4 (A0g ws) .no,.list 8 (A0p ks) .no]:=by rw[A0a.row]
  have hR:A0E x (.mk id kind lab hd ws ks)=if id=x then some (.mk id kind lab hd ws ks)else A9X x ks:=by rw[A0E]
  rw[hR];have hx:x.row=[I x.act,I x.item,I x.n]:=rfl;by_cases h0:id=x
  .rw[Z0e h0];have o:A1z (some (.mk id kind lab hd ws ks))=[I id.act,I id.item,I id.n,I kind,S lab,.list 4 (A0g hd) .no,.list 4 (A0g ws) .no,.list 8 (A0p ks) .no]:=b;rw[o,b,hx];refine A0n hB func104 ?_;simp -dsimp[B4S,Z2e h0,A0k,A0i,A0d,A0y,A0v,A0c.refl,A0c.app,C8L,A0j]
  rw[Z0d h0];generalize p:A9X x ks=R;rw[b,hx];refine A0n hB func104 ?_;simp -dsimp[B4S,h0,A0k,A0i,A0d,A0y,A0v];refine A0B hB ks.length 6 (λT M1=>∃i:Nat,i<=ks.length/\T 2=.cptr [I id.act,I id.item,I id.n,I kind,S lab,.list 4 (A0g hd) .no,.list 4 (A0g ws) .no,.list 8 (A0p ks) .no]/\T 3=.cptr [I x.act,I x.item,I x.n]/\T 4=.ptr M.length 0/\T 6=I i/\(∃z,M1[M.length]?=some (.cells 27 z)/\z.length=8)/\Grow M M1/\R=A9X x (ks.drop i)) ?_ ?_
  .exact⟨0,by omega,by simp,by simp,by simp,by simp,⟨_,List.getElem?_concat_length,rfl⟩,A0c.app _ _ _,by simp[p]⟩
  .rintro T M1 ⟨i,i1,t2,t3,t4,t6,⟨z,hz,g⟩,j,ho⟩;by_cases hi:i<ks.length;case neg=>
    (have a:¬(i:Int)<ks.length:=by omega);rw[show ks.drop i=[]from Z0v (by omega),A9X]at ho
    subst ho;have e:M.length<M1.length:=(Z0a.1 hz).1;have hd:List.drop 8 z=[]:=Z0v (by omega);simp -dsimp[t2,t3,t4,t6,a,A0f hz,A0y,A0v,g,hd,A0s e,A0j,A1z,A0V j]
   (have a:(i:Int)<ks.length:=by omega);have w1:IntKind.i64.wrap ((i:Int)+1)=(i+1:Nat):=by rw[A0L (by omega) (by omega)];omega
   have d:ks[i]∈ks:=Z0o hi;have e:M.length<M1.length:=(Z0a.1 hz).1;rw[Z0j hi,A9X]at ho;have:=A0a.kid_lt (u:=.mk id kind lab hd ws ks) d;have hf:=λM=>C6f ks[i] x M (f _ d);generalize A0E x ks[i]=F at*;(have hX:(M1++[A0m.cells 27 (A1z F)])[M1.length]?=some (A0m.cells 27 (A1z F)):=by simp);(have h:(M1++[A0m.cells 27 (A1z F)])[M.length]?=some (A0m.cells 27 z):=by rw[Z0i e];exact hz);(have l:M.length<(M1++[A0m.cells 27 (A1z F)]).length:=by simp;omega);have hd:List.drop 8 z=[]:=Z0v (by omega);have c:Grow M (M1++[A0m.cells 27 (A1z F)]):=j.trans (A0c.app none _ _);simp -dsimp[t2,t3,t4,t6,hi,a];refine A0Z hB (A0u gl) (λk=>if k=10\/k=11 then 2 else 0) (λ_=>0) (by rfl) (by kernel_rfl) ?_;simp -dsimp[t2,t3,t4,t6,hi,a];refine A1p func104 hf ?_;cases F with
   |none=>simp -dsimp[t2,t3,t4,t6,hi,a,A0k,A0i,A0d,A0y,A0v,w1];exact⟨⟨i+1,by clear w1;omega,rfl,⟨z,h,g⟩,c,ho⟩,by clear w1;omega⟩
   |some v=>have ho:R=some v:=ho;subst ho;simp -dsimp[t2,t3,t4,t6,hi,a,A0k,A0i,A0d,A0y,A0v];rw[A0b hX];simp -dsimp[A0j,t4,A0f h,A0y,A0v,g,hd,A0s l,A0V c]
termination_by u=>SizeOf.sizeOf u
end
def C0t:Option A0a->Int
 |some u=>u.kind
 |none=>0
def A4N(F:IdD->Option A0a)(l:List A0J)(n:Int):Int:=if n<0 then 0 else match l[n.toNat]? with
 |some s=>C0t (F s.id)
 |none=>0
def A2l(l:List A0J)(n:Int):Int:=match l[n.toNat]? with
 |some s=>s.parent
 |none=>-1
def B1u(l:List A0J)(n:Nat):Prop:=∀j,(h:j<l.length)->j<=n->-1<=l[j].parent/\l[j].parent<j
def A3j(l:List A0J):Nat->Int->Nat
 |0,_=>0
 |f+1,n=>if n<0 then 0 else A3j l f (A2l l n)+1
abbrev B2e(l:List A0J)(a b c:Nat):AV:=.agg [.list 5 (A1L l) .no,.mapr a,.mapr b,.mapr c]
def C7O(o:Option A0a):∃a b c d e f g,A1z o=[I a,I b,I c,I (C0t o),d,e,f,g]:=by
 cases o with
 |none=>exact⟨_,_,_,_,_,_,_,rfl⟩
 |some u=>exact⟨_,_,_,_,_,_,_,u.row_eq⟩
def C3P:A8F prog 27=some (.agg zU):=by simp[A8F];rfl
section
variable (gl:Nat->AV)
def E3Y(u:A0a)(l:List A0J)(n:Int)(M:Mem)(hg:u.good)(hn:n<l.length):A0e (WC gl) 107 [.agg u.row,.list 5 (A1L l) .no,I n] M (λv M'=>v=I (A4N (λx=>A0E x u) l n)/\M'=M):=by
 refine A3r (λ_=>trivial) ?_;have hf:=λx M=>C6f gl u x M hg;rw[u.row_eq]at hf|-;refine A0n hB func107 ?_;by_cases h0:n<0
 .simp -dsimp[h0,A4N,A0c.refl]
 obtain⟨m,rfl⟩:∃m:Nat,n=m:=⟨n.toNat,by omega⟩;have hm:m<l.length:=by omega
 have h:¬(m:Int)<0:=by omega
 have hf:=λM=>hf l[m].id M;simp only[IdD.row]at hf;obtain⟨a,b,c,d,e,f,g,hr⟩:=C7O (A0E l[m].id u);have hX:(M++[A0m.cells 27 [I a,I b,I c,I (C0t (A0E l[m].id u)),d,e,f,g]])[M.length]?=some (A0m.cells 27 [I a,I b,I c,I (C0t (A0E l[m].id u)),d,e,f,g]):=by simp
 have i:A4N (λx=>A0E x u) l m=C0t (A0E l[m].id u):=by simp[A4N,hm,h]
 rw[i];simp -dsimp[h];refine A0Z hB (A0u gl) (λk=>if k=10\/k=11 then 2 else 0) (λ_=>0) (by rfl) (by kernel_rfl) ?_;simp -dsimp[h,hm,A0J.row];refine A1p func104 hf ?_;simp -dsimp[A0k,A0i,A0d,A0y,A0v,hr];rw[A0b hX];simp -dsimp[A0c.app]
def B8e(l:List A0J)(L:List (IdD×A0a))(a b c:Nat)(n:Int)(M:Mem)(hM:A2q A3c B5j M a L)(hn:n<l.length):A0e (WC gl) 151 [B2e l a b c,I n] M (λv M'=>v=I (A4N (A1N L) l n)/\M'=M):=by
 refine A0n hB func151 ?_;by_cases h0:n<0
 .simp -dsimp[h0,A4N]
 obtain⟨m,rfl⟩:∃m:Nat,n=m:=⟨n.toNat,by omega⟩;have hm:m<l.length:=by omega
 have d:¬(m:Int)<0:=by omega
 have e:A1Y prog 92 M (.mapr a) (.agg [I l[m].id.act,I l[m].id.item,I l[m].id.n]) false=some (.agg (A1z (A1N L l[m].id))):=by rw[show AV.agg [I l[m].id.act,I l[m].id.item,I l[m].id.n]=A3c l[m].id from rfl,hM.get (A9d 92 27 (by kernel_rfl)) l[m].id C3P false];cases A1N L l[m].id<;>rfl
 have f:A4N (A1N L) l m=C0t (A1N L l[m].id):=by simp[A4N,hm,d]
 rw[f];obtain⟨a2,b2,c2,d2,e2,f2,g2,hr⟩:=C7O (A1N L l[m].id);simp -dsimp[d];refine A0Z hB (A0u gl) (λk=>if k=8 then 1 else 0) (λ_=>a) (by rfl) (by kernel_rfl) ?_;simp -dsimp[d,hm,A0J.row,A0F,e,hr]
def E4m(l:List A0J)(n:Int)(M:Mem)(hl:l.length<=1000)(hn:-1<=n/\n<l.length)(ho:B1u l n.toNat):A0e (WC gl) 108 [.list 5 (A1L l) .no,I n] M (λv M'=>v=I (A3j l (n+1).toNat n)/\M'=M):=by
 refine A0n hB func108 ?_;obtain⟨R,hR⟩:=ex (A3j l (n+1).toNat n);rw[<-hR];simp -dsimp;refine A2P hB (λT M1=>∃(m:Int) (f d:Nat),-1<=m/\m<=n/\(m+1).toNat<=f/\d+f<=1001/\T 0=.list 5 (A1L l) .no/\T 1=I m/\T 5=I d/\M1=M/\R=d+A3j l f m) (λT M1=>match T 1 with|.val (.int _ i)=>(i+1).toNat|_=>0) (by kernel_rfl) ?_ ?_
 .exact⟨n,(n+1).toNat,0,by omega,by omega,by omega,by omega,by simp,by simp,by simp,rfl,by simp[hR]⟩
 .rintro T M1 ⟨m,f,d,m1,m2,f1,d1,t0,t1,t5,rfl,hr⟩;by_cases h0:m<0
  ·(have a:¬m>=0:=by omega);have b:¬0<=m:=by omega
   (have hz:A3j l f m=0:=by cases f<;>simp[A3j,h0]);rw[hz,Z0Z]at hr
   simp -dsimp[t0,t1,t5,a,b,hr]
  obtain⟨k,rfl⟩:∃k:Nat,m=k:=⟨m.toNat,by omega⟩;have a:(k:Int)>=0:=by omega
  have hk:k<l.length:=by omega
  obtain⟨f,rfl⟩:∃g,f=g+1:=⟨f-1,by omega⟩;obtain⟨q1,q2⟩:=ho k hk (by omega);have hp:A2l l k=l[k].parent:=by simp[A2l,hk]
  rw[A3j,Z0d h0,hp]at hr;have w1:=A1H (i:=d) (by omega);simp -dsimp[t0,t1,t5,a,hk,w1,A0J.row];exact⟨⟨_,q1,by omega,f,by omega,d+1,by omega,rfl,rfl,by omega⟩,q2⟩
def D5f(l:List A0J)(a b c:Nat)(n:Int)(M:Mem)(hl:l.length<=1000)(hn:-1<=n/\n<l.length)(ho:B1u l n.toNat):A0e (WC gl) 154 [B2e l a b c,I n] M (λv M'=>v=I (A3j l (n+1).toNat n)/\M'=M):=by
 refine A0n hB func154 ?_;obtain⟨R,hR⟩:=ex (A3j l (n+1).toNat n);rw[<-hR];simp -dsimp;refine A2P hB (λT M1=>∃(m:Int) (f d:Nat),-1<=m/\m<=n/\(m+1).toNat<=f/\d+f<=1001/\T 2=.cptr [.list 5 (A1L l) .no,.mapr a,.mapr b,.mapr c]/\T 1=I m/\T 5=I d/\M1=M/\R=d+A3j l f m) (λT M1=>match T 1 with|.val (.int _ i)=>(i+1).toNat|_=>0) (by kernel_rfl) ?_ ?_
 .exact⟨n,(n+1).toNat,0,by omega,by omega,by omega,by omega,by simp,by simp,by simp,rfl,by simp[hR]⟩
 .rintro T M1 ⟨m,f,d,m1,m2,f1,d1,t0,t1,t5,rfl,hr⟩;by_cases h0:m<0
  ·(have e:¬m>=0:=by omega);have h:¬0<=m:=by omega
   (have hz:A3j l f m=0:=by cases f<;>simp[A3j,h0]);rw[hz,Z0Z]at hr
   simp -dsimp[t0,t1,t5,e,h,hr]
  obtain⟨k,rfl⟩:∃k:Nat,m=k:=⟨m.toNat,by omega⟩;have e:(k:Int)>=0:=by omega
  have hk:k<l.length:=by omega
  obtain⟨f,rfl⟩:∃g,f=g+1:=⟨f-1,by omega⟩;obtain⟨q1,q2⟩:=ho k hk (by omega);have hp:A2l l k=l[k].parent:=by simp[A2l,hk]
  rw[A3j,Z0d h0,hp]at hr;have w1:=A1H (i:=d) (by omega);simp -dsimp[t0,t1,t5,e,hk,w1,A0J.row];exact⟨⟨_,q1,by omega,f,by omega,d+1,by omega,rfl,rfl,by omega⟩,q2⟩
end
open Go.Proofs TryTypes
def A5J(l:List A0J)(n:Nat):ByteArray:=match l[n]? with
 |some s=>s.label
 |none=>⟨#[]⟩
def A3M(l:List A0J)(p:Int)(i:Nat):List Nat:=(List.range i).filter λk=>decide (A2l l k=p)
def C4h(F:IdD->Option A0a)(l:List A0J)(n:Nat)(lab:ByteArray)(k:Nat):Bool:=decide (A5J l k=lab)&&decide (A4N F l k=A4N F l n)
def B6e(F:IdD->Option A0a)(uid:IdD)(l:List A0J)(n:Nat):Int:=match l[n]? with
 |none=>0
 |some x=>
  if !(F x.id).isSome||decide (x.id=uid)then 4
  else if(l.take n).any λs=>decide (s.id=x.id)then 5
  else if decide (x.parent< -1)||decide ((n:Int)<=x.parent)then 12
  else if !A0O x.label then 1
  else if !A4E (A4N F l x.parent) (A4N F l n)then 9
  else if(A3M l x.parent n).any (C4h F l n x.label)then 10
  else if decide (64<=(A3M l x.parent n).length)||decide (8<A3j l (n+1) n)then 6
  else 0
def D2S(l:List A0J)(p:Int)(i:Nat):A3M l p (i+1)=A3M l p i++if A2l l i=p then[i]else[]:=by simp only[A3M,Z2M,Z3t];by_cases h:A2l l i=p<;>simp[h]
def C5O{l:List A0J}{p:Int}{i k:Nat}(h:k<i)(hp:A2l l k=p):k∈A3M l p i:=by simp[A3M,h,hp]
def B1F(l:List A0J)(p:Int)(i:Nat):(A3M l p i).length<=i:=by have:=Z1V (λk:Nat=>decide (A2l l k=p)) (List.range i);simpa[A3M]using this
def A7o{l}{p}{i k}(h:k∈A3M l p i):k<i:=by simp[A3M]at h;exact h.1
section
variable (gl:Nat->AV)
end
def B0F(E:Nat->Int):Nat->Nat->Int
 |0,_=>0
 |r+1,i=>if E i=0 then B0F E r (i+1)else E i
def D5l{F:IdD->Option A0a}{uid}{l}{n}(hn:n<l.length)(h:B6e F uid l n=0):-1<=l[n].parent/\l[n].parent<n:=by
 simp only[B6e,Z0l hn]at h;split at h
 .simp at h
 split at h
 .simp at h
 split at h
 .simp at h
 rename_i h3;simp only[Z1I,Z0k,Z2N]at h3;omega
def C7P{F:IdD->Option A0a}{uid}{l}{n}(h:∀j,j<n->B6e F uid l j=0):∀j,j<n->B1u l j:=λj hj k hk hkj=>D5l hk (h k (by omega))
def A7q(F:IdD->Option A0a)(u:A0a)(l:List A0J):Int:=
 if !B1Z u then 11 else
 if B0F (B6e F u.id l) l.length 0=0 then(if(l.length:Int)=A0r u-1 then 0 else 13)else B0F (B6e F u.id l) l.length 0
section
variable (gl:Nat->AV)
end
def C8K(k:Nat):List AV:=[I k]
section
variable (gl:Nat->AV)
def D8D(b:FuncId)(first cap:List AV)(p:Nat->Bool)(l:List Nat)(hl:l.length<=1000)(v:AV)(M:Mem)(hv:A1g 3 1 C8K M v l) (hf:∀k∈l,A4r (WC gl) b (first++I k::cap) M (λr M'=>r=B (p k)/\M'=M)):A0e (WC gl) 206 [v,.func (.func b) first cap] M (λr M'=>(∃z:Int,r=I z/\decide (0<=z)=l.any p)/\M'=M):=by
 refine A0n hB func206 ?_
 have c:A2y prog 130 v=some l.length:=hv.len (e':=3) (by simp)
 simp -dsimp -implicitDefEqProofs[c]
 refine A0B hB l.length 8 (λT M1=>∃i:Nat,i<=l.length/\M1=M/\T 0=v/\T 1=.func (.func b) first cap/\T 7=I l.length/\T 8=I i/\l.any p=(l.drop i).any p) ?_ ?_
 .exact⟨0,by omega,rfl,by simp,by simp,by simp,by simp,by simp⟩
 .rintro T M1 ⟨i,i1,rfl,t0,t1,t7,t8,ho⟩;by_cases hi:i<l.length
  ·(have a:(i:Int)<l.length:=by omega);have w1:=A1H (i:=i) (by omega)
   obtain⟨q,p1,p2⟩:=hv.at1 (P:=prog) (t:=3) (f:=λk:Nat=>I k) (λ_=>rfl) (by simp) (by simp) hi;rw[Z0j hi,Z3k]at ho;simp -dsimp -implicitDefEqProofs[t0,t1,t7,t8,hi,a,p1,p2];refine A1W (hf l[i] (Z0o hi)) ?_;rintro _ _ ⟨rfl,rfl⟩;cases hp:p l[i]
   .rw[hp,Z1J]at ho;simp -dsimp -implicitDefEqProofs[t0,t1,t7,t8,w1];exact⟨⟨i+1,by clear w1;omega,rfl,ho⟩,by clear w1;omega⟩
   .rw[hp,Z2X]at ho;simp -dsimp -implicitDefEqProofs[t0,t1,t7,t8,ho]
  ·(have a:¬(i:Int)<l.length:=by omega);rw[show l.drop i=[]from Z0v (by omega),List.any_nil]at ho
   simp -dsimp -implicitDefEqProofs[t0,t1,t7,t8,a,ho]
def D5s(a:FuncId)(first cap:List AV)(p:Nat->Bool)(l:List Nat)(hl:l.length<=1000)(v:AV)(M:Mem)(hv:A1g 3 1 C8K M v l) (hf:∀k∈l,A4r (WC gl) a (first++I k::cap) M (λr M'=>r=B (p k)/\M'=M)):A0e (WC gl) 153 [v,.func (.func a) first cap] M (λr M'=>r=B (l.any p)/\M'=M):=by
 refine A0n hB func153 ?_
 simp -dsimp -implicitDefEqProofs
 refine A0q func206 (D8D gl a first cap p l hl v M hv hf) ?_
 rintro _ _ ⟨⟨z,rfl,hz⟩,rfl⟩
 by_cases h:0<=z
 .have hg:z>=0:=h;rw[Z0w h]at hz;simp -dsimp -implicitDefEqProofs[h,hg,hz]
 .have hg:¬z>=0:=h;rw[Z0r h]at hz;simp -dsimp -implicitDefEqProofs[h,hg,hz]
def D6x(l:List A0J)(L:List (IdD×A0a))(a b c bx n k:Nat)(x:A0J)(M:Mem)(hM:A2q A3c B5j M a L)(hX:M[bx]?=some (.cells 69 [I x.id.act,I x.id.item,I x.id.n,I x.parent,S x.label]))(hk:k<l.length)(hn:n<l.length):A0e (WC gl) 150 [I k,.cptr [.list 5 (A1L l) .no,.mapr a,.mapr b,.mapr c],.ptr bx 0,.cptr [I n]] M (λr M'=>r=B (C4h (A1N L) l n x.label k)/\M'=M):=by
 refine A0n hB func150 ?_
 have e:A5J l k=l[k].label:=by simp[A5J,hk]
 have d:=λ(m:Nat) (h:m<l.length)=>B8e gl l L a b c m M hM (by omega)
 simp -dsimp -implicitDefEqProofs
 refine A0Z hB (A0u gl) (λk=>if k=7 then 1 else if k=12\/k=15 then 2 else 0) (λ_=>bx) (by rfl) (by kernel_rfl) ?_
 by_cases c1:l[k].label=x.label
 case neg=>
  have hd:C4h (A1N L) l n x.label k=false:=by simp[C4h,e,c1]
  simp -dsimp -implicitDefEqProofs[hk,A0J.row,A0F,A0b hX,c1,hd]
 simp -dsimp -implicitDefEqProofs[hk,A0J.row,A0F,A0b hX,Z2e c1]
 refine A4S (A1a func151 rfl rfl (d k hk)) ?_
 simp -dsimp -implicitDefEqProofs
 refine A4S (A1a func151 rfl rfl (d n hn)) ?_
 simp -dsimp -implicitDefEqProofs[C4h,e,c1]
 rfl
def D0d:AV:=.val (.slice none 0 0)
def B5G:A8F prog 130=some D0d:=by simp[A8F];rfl
def D6G:A8F prog 3=some (I 0):=by kernel_rfl
def D3E(ap:gl 0=A2z)(u:A0a)(l:List A0J)(L:List (IdD×A0a))(IL:List (IdD×Nat))(KL:List (Int×AV))(a b c n:Nat)(M:Mem)(hM:A2q A3c B5j M a L)(hI:A2q A3c (λn:Nat=>I n) M b IL)(hK:A2q I (λv=>v) M c KL)
 (aq:∀y,(A1N IL y).isSome=(l.take n).any (λs=>decide (s.id=y)))(ar:∀p,A1g 3 1 C8K M ((A1N KL p).getD D0d) (A3M l p n))(hl:l.length<=1000)(hs:∀s∈l,s.good)(hn:n<l.length)(ag:∀j,j<n->B1u l j):
 A0e (WC gl) 103 [B2e l a b c,.agg u.row,I n] M (λr M'=>r=I (B6e (A1N L) u.id l n)/\M'=M):=by
 refine A3r (λ_=>trivial) ?_
 obtain⟨x,hx⟩:=ex (l[n])
 obtain⟨R,hR⟩:=ex (B6e (A1N L) u.id l n)
 rw[<-hR]
 have au:l[n]?=some x:=by rw[hx];simp[hn]
 have ai:=hx.symm
 simp only[B6e,au]at hR
 have ax:x.good:=hs x (by rw[hx];exact Z0o hn)
 have a1:∀y:IdD,A1B prog .eql 23 (.agg [I x.id.act,I x.id.item,I x.id.n]) (.agg [I y.act,I y.item,I y.n])=some (B (decide (x.id=y))):=λy=>B4S x.id y
 obtain⟨M1,a9⟩:=ex (M++[A0m.cells 69 [I x.id.act,I x.id.item,I x.id.n,I x.parent,S x.label]])
 have ad:M1[M.length]?=some (A0m.cells 69 [I x.id.act,I x.id.item,I x.id.n,I x.parent,S x.label]):=by rw[a9];simp
 have a3:Grow M M1:=by rw[a9];exact A0c.app none _ _
 obtain⟨M2,ac⟩:=ex (M1++[A0m.cells 27 (A1z (A1N L x.id))])
 have a5:Grow M1 M2:=by rw[ac];exact A0c.app none _ _
 have g:=a3.trans a5
 have q:=a5.get ad (by simp)
 have ae:A1Y prog 92 M1 (.mapr a) (.agg [I x.id.act,I x.id.item,I x.id.n]) true=some (.tuple [.agg (A1z (A1N L x.id)),B (A1N L x.id).isSome]):=by rw[show AV.agg [I x.id.act,I x.id.item,I x.id.n]=A3c x.id from rfl,(hM.keep a3 (by simp)).get (A9d 92 27 (by kernel_rfl)) x.id C3P true];cases A1N L x.id<;>rfl
 have f:∃z,A1Y prog 93 M2 (.mapr b) (.agg [I x.id.act,I x.id.item,I x.id.n]) true=some (.tuple [I z,B ((l.take n).any (λs=>decide (s.id=x.id)))]):=by rw[show AV.agg [I x.id.act,I x.id.item,I x.id.n]=A3c x.id from rfl,(hI.keep g (by simp)).get (A9d 93 3 (by kernel_rfl)) x.id D6G true,<-aq];cases A1N IL x.id<;>exact⟨_,rfl⟩
 obtain⟨z,f⟩:=f
 have aj:A1Y prog 94 M1 (.mapr c) (I x.parent) false=some ((A1N KL x.parent).getD D0d):=by rw[(hK.keep a3 (by simp)).get (C0h 94 130 (by kernel_rfl)) x.parent B5G false];cases A1N KL x.parent<;>rfl
 have ab:=(ar x.parent).keep g (by simp)
 obtain⟨sv,ao⟩:=ex ((A1N KL x.parent).getD D0d)
 rw[<-ao]at aj ab
 have al:=hM.keep g (by simp)
 have af:=λ(m:Int) (h:m<l.length) (M:Mem) (hM:A2q A3c B5j M a L)=>B8e gl l L a b c m M hM h
 have a7:=ab.len (P:=prog) (t:=130) (e':=3) (by simp)
 obtain⟨o,ho⟩:=ex (A1N L x.id)
 rw[<-ho]at hR ae ac
 obtain⟨b1,aw⟩:=ex (((l.take n).any (λs=>decide (s.id=x.id))))
 rw[<-aw]at f hR
 rw[u.row_eq]
 refine A0n hB func103 ?_
 simp -dsimp -implicitDefEqProofs[hn,ai,A0J.row,A0k,A0i,A0d,A0y,A0v]
 rw[<-a9]
 simp -dsimp -implicitDefEqProofs[A0b ad,aj,ae,A0k,A0i,A0d,A0y,A0v]
 rw[<-ac]
 cases o with
 |none=>
  simp only[Option.isSome_none,Z2i,Z2X,Z0T]at hR
  simp -dsimp -implicitDefEqProofs[A0b q,f,hR,g]
 |some v=>
 simp only[Z1W,Z2t,Z1J,Z0k]at hR
 by_cases c2:x.id=u.id
 case pos=>rw[Z0e c2]at hR;simp -dsimp -implicitDefEqProofs[A0b q,f,a1,Z2e c2,hR,g]
 rw[Z0d c2]at hR
 cases b1 with
 |true=>
  rw[Z0e rfl]at hR
  simp -dsimp -implicitDefEqProofs[A0b q,f,a1,c2,hR,g]
 |false=>
 simp only[Z0H,Z1i]at hR
 by_cases c3:x.parent< -1
 case pos=>
  rw[Z0w c3,Z2X,Z0e rfl]at hR;have a6:¬-1<=x.parent:=by omega
  simp -dsimp -implicitDefEqProofs[A0b q,f,a1,c2,c3,a6,hR,g]
 have a6:-1<=x.parent:=by omega
 rw[Z0r c3,Z1J]at hR
 by_cases c4:(n:Int)<=x.parent
 case pos=>rw[Z0w c4,Z0e rfl]at hR;have a8:x.parent>=n:=c4;simp -dsimp -implicitDefEqProofs[A0b q,f,a1,c2,c3,a6,c4,a8,hR,g]
 rw[Z0r c4]at hR
 simp only[Z0H,Z1i]at hR
 have a8:¬x.parent>=n:=c4
 simp -dsimp -implicitDefEqProofs[A0b q,f,a1,c2,c3,a6,c4,a8]
 refine A0q func112 (A6x gl _ x.label) ?_
 rintro _ M3 ⟨rfl,w⟩
 have ak:=w.get q (by simp)
 have a4:=al.keep w (by simp)
 have am:=ab.keep w (by simp)
 have d:=g.trans w
 cases c5:A0O x.label
 case false=>simp only[c5,Z2i,Z0T]at hR;simp -dsimp -implicitDefEqProofs[hR,d]
 simp only[c5,Z2t,Z0H,Z1i]at hR
 have an:x.parent<l.length:=by omega
 simp -dsimp -implicitDefEqProofs
 refine A0Z hB (A0u gl) (λk=>if k=2 then 1 else if k=3\/k=6\/k=7 then 2 else 0) (λ_=>M.length) (by rfl) (by kernel_rfl) ?_
 simp -dsimp -implicitDefEqProofs[A0F,A0b ak]
 refine A4S (A1a func151 rfl rfl (af x.parent an _ a4)) ?_
 simp -dsimp -implicitDefEqProofs
 refine A4S (A1a func151 rfl rfl (af n (by omega) _ a4)) ?_
 simp -dsimp -implicitDefEqProofs
 refine A4S (A1a func152 rfl rfl (A9B gl M3 ap (A4N (A1N L) l x.parent) (A4N (A1N L) l n))) ?_
 cases c6:A4E (A4N (A1N L) l x.parent) (A4N (A1N L) l n)
 case false=>simp only[c6,Z2i,Z0T]at hR;simp -dsimp -implicitDefEqProofs[hR,d]
 simp only[c6,Z2t,Z0H,Z1i]at hR
 simp -dsimp -implicitDefEqProofs
 refine A0q func153 (D5s gl 150 [] [.cptr [.list 5 (A1L l) .no,.mapr a,.mapr b,.mapr c],.ptr M.length 0,.cptr [I n]] (C4h (A1N L) l n x.label) (A3M l x.parent n) (by have:=B1F l x.parent n;omega) sv M3 am ?_) ?_
 .intro k hk;exact A1a func150 rfl rfl (D6x gl l L a b c M.length n k x M3 a4 ak (by have:=A7o hk;omega) hn)
 rintro _ _ ⟨rfl,rfl⟩
 cases c7:(A3M l x.parent n).any (C4h (A1N L) l n x.label)
 case true=>rw[c7,Z0e rfl]at hR;simp -dsimp -implicitDefEqProofs[hR,d]
 rw[c7]at hR
 simp only[Z0H,Z1i]at hR
 have av:B1u l ((n:Int)).toNat:=by
  intro j hj h;have h:j<=n:=by simpa using h
  by_cases e:j=n
  .subst e;rw[ai];exact⟨a6,by omega⟩
  .exact ag j (by omega) j hj (Z0n _)
 by_cases c9:64<=(A3M l x.parent n).length
 case pos=>
  have a0:(64:Int)<=(A3M l x.parent n).length:=by omega
  have aa:((A3M l x.parent n).length:Int)>=64:=a0;rw[Z0w c9,Z2X,Z0e rfl]at hR;simp -dsimp -implicitDefEqProofs[a7,a0,aa,hR,d]
 have a0:¬(64:Int)<=(A3M l x.parent n).length:=by omega
 have aa:¬((A3M l x.parent n).length:Int)>=64:=a0
 rw[Z0r c9,Z1J]at hR
 have ah:=λM=>D5f gl l a b c n M hl ⟨by omega,by omega⟩ av
 rw[show((n:Int)+1).toNat=n+1 by omega]at ah
 simp -dsimp -implicitDefEqProofs[a7,a0,aa]
 refine A0h func154 (ah _) ?_
 by_cases c10:8<A3j l (n+1) n
 .have i:(8:Int)<A3j l (n+1) n:=by omega
  have a2:(A3j l (n+1) n:Int)>8:=i;rw[Z0w c10,Z0e rfl]at hR;simp -dsimp -implicitDefEqProofs[i,a2,hR,d]
 .have i:¬(8:Int)<A3j l (n+1) n:=by omega
  have a2:¬(A3j l (n+1) n:Int)>8:=i;rw[Z0r c10]at hR;simp only[Z0H,Z1i]at hR;simp -dsimp -implicitDefEqProofs[i,a2,hR,d]
end
section
mutual
def B0a(x:IdD):∀u:A0a,A0E x u=(A2R u).find? λv=>decide (v.id=x)
 |.mk id k l h w ks=>by
  rw[A0E,A2R,Z2n];have a:(A0a.mk id k l h w ks).id=id:=rfl;rw[a];by_cases c:id=x
  .rw[Z0e c,Z0w c]
  .rw[Z0d c,Z0r c];exact C2W x ks
def C2W(x:IdD):∀ks:List A0a,A9X x ks=(A4s ks).find? λv=>decide (v.id=x)
 |[]=>by rw[A9X,A4s];rfl
 |k::ks=>by rw[A9X,A4s,List.find?_append,B0a x k,C2W x ks];cases(A2R k).find? (λv=>decide (v.id=x))<;>rfl
end
def B9h:∀(us:List A0a) (L:List (IdD×A0a)),(L.map (·.1)++us.map A0a.id).Nodup->A6y L us=L++us.map λu=>(u.id,u)
 |[],L,_=>by simp[A6y]
 |u::us,L,h=>by
  have hn:u.id∉L.map (·.1):=by intro hm;rw[Z1L]at h;exact h.2.2 _ hm u.id (by simp) rfl
  rw[A6y,B8Q hn,B9h us]
  .simp
  .simpa using h
def C1x(x:IdD):∀us:List A0a,A1N (us.map λu=>(u.id,u)) x=us.find? λv=>decide (v.id=x)
 |[]=>rfl
 |u::us=>by
  rw[Z0z,A1N,Z2n];by_cases c:x=u.id
  .rw[Z0e c,Z0w c.symm]
  .rw[Z0d c,Z0r (λe=>c e.symm)];exact C1x x us
def A9g{K:Type}[DecidableEq K]:∀(r S:List K),S.Nodup->B3o r S=true->(S++r).Nodup
 |[],S,h,_=>by simpa using h
 |x::r,S,h,hd=>by
  rw[B3o,Z0f,B5c]at hd;have hx:x∉S:=by simpa using hd.1
  have:=A9g r (S++[x]) (by rw[Z1L];exact⟨h,by simp,λa ha b hb=>by simp only[Z0s,Z1x,Z2G]at hb;subst hb;rintro rfl;exact hx ha⟩) hd.2;simpa using this
def C8G(u:A0a)(h:B3o (A0R u) []=true):A1N (A6y [] (A2R u))=λx=>A0E x u:=by have hn:=A9g (A0R u) [] (by simp) h;rw[<-A5k,Z1F]at hn;funext x;rw[B9h _ _ (by simpa using hn),Z1F,C1x,B0a]
abbrev z96:List AV:=[.val (.slice none 0 0),.val (.map none),.val (.map none),.val (.map none)]
@[simp] def E5Q:A0x prog 96 []=some (.agg z96):=by simp[A0x,A1b]
@[simp] def E4n{l}{a b c}:A0x prog 96 [(0,.list 5 l .no),(1,.mapr a),(2,.mapr b),(3,.mapr c)]=some (.agg [.list 5 l .no,.mapr a,.mapr b,.mapr c]):=by
 simp[A0x,A1b,A1o,A0d,A0v]
def C9I{n}:(I n).storable=true:=rfl
def C9Y{n}:(I n).cells=[I n]:=rfl
def D0L:A1f prog 130=some 3:=by kernel_rfl
def D4I:A3V prog 130:=.inl ⟨3,by kernel_rfl⟩
def E3I:A3s prog 3 1 8:=⟨_,_,type3,rfl,rfl,rfl,rfl,by decide⟩
def A8M(KL:List (Int×AV))(p:Int):AV:=(A1N KL p).getD D0d
def A1U(l:List A0J)(id:IdD):Option Nat:=l.findIdx? λs=>decide (s.id=id)
def C0i(l:List A0J)(y:IdD):(A1U l y).isSome=l.any (λs=>decide (s.id=y)):=by simp[A1U]
def C5y(l:List A0J)(x:A0J)(y:IdD):A1U (l++[x]) y=match A1U l y with
 |some k=>some k
 |none=>if x.id=y then some l.length else none:=by
 unfold A1U
 rw[List.findIdx?_append]
 cases List.findIdx? (λs=>decide (s.id=y)) l with
 |some k=>rfl
 |none=>by_cases e:x.id=y<;>simp[e]
def D6E{F:IdD->Option A0a}{uid}{l}{n}(hn:n<l.length)(h:B6e F uid l n=0):A1U (l.take n) l[n].id=none:=by
 have h2:(l.take n).any (λs=>decide (s.id=l[n].id))=false:=by
  cases c:(l.take n).any (λs=>decide (s.id=l[n].id))with
  |false=>rfl
  |true=>
   simp only[B6e,Z0l hn,c,Z0T]at h;split at h
   .simp at h
   .simp at h
 have:=C0i (l.take n) l[n].id;rw[h2]at this;cases e:A1U (l.take n) l[n].id with
 |none=>rfl
 |some k=>rw[e]at this;simp at this
structure C9Q (M0:Mem) (l:List A0J) (L:List (IdD×A0a)) (r a b c p i:Nat) (M:Mem):Prop where
 grow:Grow M0 M
 res:M[r]?=some (.cells 96 z96)
 pl:M[p]?=some (.cells 96 [.list 5 (A1L l) .no,.mapr a,.mapr b,.mapr c])
 units:A2q A3c B5j M a L
 ix:∃IL,A2q A3c (λn:Nat=>I n) M b IL/\∀y,A1N IL y=A1U (l.take i) y
 kd:∃KL,A2q I (λv=>v) M c KL/\(∀q,A1g 3 1 C8K M (A8M KL q) (A3M l q i))/\(∀q f,obj (A8M KL q)=some f->p<f)/\∀q q' f,obj (A8M KL q)=some f->obj (A8M KL q')=some f->q=q'
structure B3w (l:List A0J) (L:List (IdD×A0a)) (a b c:Nat) (M:Mem):Prop where
 units:A2q A3c B5j M a L
 ix:∃IL,A2q A3c (λn:Nat=>I n) M b IL/\∀y,A1N IL y=A1U l y
 kd:∃KL,A2q I (λv=>v) M c KL/\∀q,A1g 3 1 C8K M (A8M KL q) (A3M l q l.length)
def B7R(R:Int)(F:IdD->Option A0a)(l:List A0J)(r:List AV)(M:Mem):Prop:=r.length=4/\(R=0->∃L a b c,r=[.list 5 (A1L l) .no,.mapr a,.mapr b,.mapr c]/\A1N L=F/\B3w l L a b c M)
def B7R.bad{R}{F:IdD->Option A0a}{l}{r}{M}(h:r.length=4)(hR:R≠0):B7R R F l r M:=⟨h,λe=>absurd e hR⟩
section
variable (gl:Nat->AV)
set_option maxHeartbeats 1000000 in
def C4O(ap:gl 0=A2z)(b6:gl 1=A2K)(F:IdD->Option A0a)(u:A0a)(hF:F=λx=>A0E x u)(l:List A0J)(M:Mem)(a2:Fit u)(hl:l.length<=1000)(hs:∀s∈l,s.good):A0e (WC gl) 47 [.agg u.row,.list 5 (A1L l) .no] M (λv M'=>(∃r,v=.tuple [.agg r,I (A7q F u l)]/\B7R (A7q F u l) F l r M')/\Grow M M'):=by
 have a6:=λM=>C2J gl ap b6 u M a2;rw[C1N]at a6;obtain⟨R,hR⟩:=ex (A7q F u l);rw[<-hR];simp only[A7q]at hR;have z:=λM=>B3G gl u [] M.length (M++[.map [] 0]) a2.1 (A2q.new M);rw[u.row_eq]at a6 z|-;refine A0n (hQ [52]) func47 ?_;simp -dsimp[A0k];refine A0q func50 (a6 _) ?_;rintro _ M1 ⟨rfl,af⟩;have a0:Grow M M1:=by rw[af];exact A0c.app none _ _
 have a3:M1[M.length]?=some (.cells 96 z96):=by rw[af];simp
 cases c1:B1Z u;case false=>simp only[c1,Z2i,Z0T]at hR;have o:M.length<M1.length:=(Z0a.1 a3).1;simp -dsimp[A0f a3,A0y,A0v,hR,A0s o,A0j,A0V a0];exact .bad rfl (by decide)
 simp only[c1,Z2t,Z0H,Z1i]at hR;obtain⟨q1,q2⟩:=A7T u [] M1.length (M1++[.map [] 0]) (A2q.new M1);simp -dsimp;refine A0q func102 (z M1) ?_;rintro _ M2 ⟨rfl,ay⟩;rw[<-ay]at q1 q2;have az:M1.length<M2.length:=q1.lt;have o:M.length<M1.length:=(Z0a.1 a3).1;have ak:M2[M.length]?=some (.cells 96 z96):=by rw[q2.2 _ (by simp;omega) (by simp;omega),Z0i o];exact a3
 have a8:Grow M M2:=by refine⟨by omega,λj hj _=>?_⟩;rw[q2.2 j (by simp;omega) (by simp;omega),Z0i (by omega)];exact a0.2 j hj (by simp)
 obtain⟨L,hL⟩:=ex (A6y [] (A2R u));rw[<-hL]at q1;have al:A1N L=F:=by rw[hL,hF];refine C8G u ?_;simp only[B1Z,Z0f]at c1;exact c1.2
 have hLn:(L.length:Int)=A0r u:=by
  have h1:=B1S (A2R u) [];rw[A5k,<-hL]at h1;have h2:(A5Y [] (A0R u)).length=A0r u:=by have:=(B3a (A0R u) ([]:List IdD)).2 (by simp only[B1Z,Z0f]at c1;exact c1.2);rw[A5t]at this;simpa using this
  have h3:=congrArg List.length h1;simp only[Z0G,Z2b]at h3;omega
 have bd:=A6c u;have bg:=a2.2.2;obtain⟨E,hE⟩:=ex (B6e F u.id l);rw[<-hE]at hR;have b0:∀n,(∀j,j<n->E j=0)->∀j,j<n->B1u l j:=by rw[hE];exactλn=>C7P
 obtain⟨a,ha⟩:=ex (M1.length);obtain⟨b,hb⟩:=ex (M2.length);have ao:A2q A3c (λn:Nat=>I n) (M2++[A0m.map [] 0]) b []:=by rw[hb];exact A2q.new M2
 obtain⟨M3,w⟩:=ex (M2++[A0m.map [] 0,A0m.map [] 0,A0m.cells 96 [.list 5 (A1L l) .no,.mapr a,.mapr b,.mapr (b+1)]]);have t:C9Q M l L M.length a b (b+1) (b+2) 0 M3:=by
  have a1:Grow M2 M3:=by rw[w];exact A0c.app none _ _
  refine⟨a8.trans a1,a1.get ak (by simp),?_,?_,⟨[],⟨[],0,?_,rfl⟩,λy=>by simp[A1N,A1U]⟩,⟨[],⟨[],0,?_,rfl⟩,λq=>?_,λq f hf=>by simp[A8M,A1N,D0d]at hf,λq q' f hf=>by simp[A8M,A1N,D0d]at hf⟩⟩
  .rw[w,hb];simp
  .rw[ha];exact q1.keep a1 (by simp)
  .rw[w,hb];simp
  .rw[w,hb];simp
  .simp only[A8M,A1N,Z3A,A3M,List.range_zero,Z4i];exact .nil
 simp -dsimp[A0k,A0i,A0d,A0y,A0v];rw[<-ha,<-hb,<-w];have bf:M.length<a/\a<b:=by omega
 clear a6 z af a0 a3 ay q1 q2 az o ak a8 ao w ha hb;have ab:=λIL KL n M hM hI hK hIx hKx hn hord=>D3E gl ap u l L IL KL a b (b+1) n M hM hI hK hIx hKx hl hs hn hord;rw[al,<-hE,u.row_eq]at ab;refine A0B (hQ [52]) l.length 23 (λT M3=>∃i:Nat,i<=l.length/\T 1=.list 5 (A1L l) .no/\T 2=.cptr [I u.id.act,I u.id.item,I u.id.n,I u.kind,S u.label,.list 4 (A0g u.head) .no,.list 4 (A0g u.words) .no,.list 8 (A0p u.kids) .no]/\T 4=.ptr M.length 0/\T 6=.ptr (b+2) 0/\T 21=.list 5 (A1L l) .no/\T 22=I l.length/\T 23=I i/\C9Q M l L M.length a b (b+1) (b+2) i M3/\B0F E l.length 0=B0F E (l.length-i) i/\∀j,j<i->E j=0) ?_ ?_
 .exact⟨0,by omega,by simp,by simp,by simp,by simp,by simp,by simp,by simp,t,by simp,by simp⟩
 clear t;rintro T M3 ⟨i,i1,t1,t2,t4,t6,g,d,m,t,ho,hz⟩;by_cases hi:i<l.length;case neg=>
  have a5:¬(i:Int)<l.length:=by omega
  rw[show l.length-i=0 by omega,B0F]at ho;rw[ho,Z0e rfl]at hR;have bb:B7R 0 F l [.list 5 (A1L l) .no,.mapr a,.mapr b,.mapr (b+1)] (M3.set M.length (.cells 96 [.list 5 (A1L l) .no,.mapr a,.mapr b,.mapr (b+1)])):=by
   (have b7:i=l.length:=by omega);subst b7
   obtain⟨-,-,-,g4,⟨IL,g5,g6⟩,KL,g7,g8,g9,-⟩:=t;have p:A0c (some M.length) M3 (M3.set M.length (.cells 96 [.list 5 (A1L l) .no,.mapr a,.mapr b,.mapr (b+1)])):=.set _ _ _;refine⟨rfl,λ_=>⟨L,a,b,b+1,rfl,al,g4.keep p (by simp;omega),⟨IL,g5.keep p (by simp;omega),λy=>by rw[g6,List.take_length]⟩,KL,g7.keep p (by simp;omega),λq=>(g8 q).keep p λf hf e=>?_⟩⟩;have:=g9 q f hf;simp at e;omega
  obtain⟨h1,h2,h3,h4,-,-⟩:=t;have ax:A4A prog 92 M3 (.mapr a)=some L.length:=h4.len (kt:=23) (et:=27) (by simp);have w2:IntKind.i64.wrap ((A0r u:Int)-1)=A0r u-1:=A0L (by omega) (by omega);have a9:M.length<M3.length:=(Z0a.1 h2).1;by_cases c3:(l.length:Int)=A0r u-1
  .rw[Z0e c3]at hR;simp -dsimp[t1,t2,t4,t6,g,d,m,a5,A0b h3,A6m,ax,hLn,w2,Z2e c3,A0f h2,A0y,A0v,A0s a9,A0j,hR,A0V h1];exact bb
  .rw[Z0d c3]at hR;simp -dsimp[t1,t2,t4,t6,g,d,m,a5,A0b h3,A6m,ax,hLn,w2,c3,A0f h2,A0y,A0v,A0s a9,A0j,hR,A0V h1];exact .bad rfl (by decide)
 have a5:(i:Int)<l.length:=by omega
 have w1:=A1H (i:=i) (by omega);obtain⟨x,hx⟩:=ex (l[i]);have au:=hx.symm;rw[show l.length-i=(l.length-(i+1))+1 by omega,B0F]at ho;obtain⟨M4,ae⟩:=ex (M3++[A0m.cells 69 [I x.id.act,I x.id.item,I x.id.n,I x.parent,S x.label]]);have ai:M4[M3.length]?=some (A0m.cells 69 [I x.id.act,I x.id.item,I x.id.n,I x.parent,S x.label]):=by rw[ae];simp
 have c:Grow M3 M4:=by rw[ae];exact A0c.app none _ _
 obtain⟨h1,h2,h3,h4,⟨IL,h5,h6⟩,KL,h7,h8,h9,ah⟩:=t;have ar:b+2<M3.length:=(Z0a.1 h3).1;have ac:∀q f,obj (A8M KL q)=some f->f<M3.length:=λq f hf=>(h8 q).lt hf;replace h1:=h1.trans c;replace h2:=c.get h2 (by simp);replace h3:=c.get h3 (by simp);replace h4:=h4.keep c (by simp);replace h5:=h5.keep c (by simp);replace h7:=h7.keep c (by simp);replace h8:=λq=>(h8 q).keep c (by simp);simp -dsimp[t1,t2,t4,t6,g,d,m,hi,a5,au,A0J.row,A0k,A0i,A0d,A0y,A0v];rw[<-ae];simp -dsimp[t1,t2,t4,t6,g,d,m,A0b h3];refine A0q func103 (ab IL KL i M4 h4 h5 h7 (λy=>by rw[h6 y];exact C0i _ _) h8 hi (b0 i hz)) ?_;rintro _ M4 ⟨rfl,rfl⟩;by_cases c2:E i=0;case neg=>rw[Z0d c2]at ho;rw[ho,Z0d c2]at hR;have aq:=(Z0a.1 h2).1;simp -dsimp[t1,t2,t4,t6,g,d,m,c2,A0f h2,A0y,A0v,A0s aq,A0j,hR,A0V h1];exact .bad rfl c2
 rw[Z0e c2]at ho;obtain⟨M5,p1,p2,p3⟩:=h5.put (A9d 93 3 (by kernel_rfl)) x.id i;have b1:A2g prog 93 M4 (.mapr b) (.agg [I x.id.act,I x.id.item,I x.id.n]) (I i)=some M5:=p1;obtain⟨xo,aj⟩:=ex (M3.length);rw[<-aj]at ai ar ac;simp -dsimp[t1,t2,t4,t6,g,d,m,Z2e c2,A0b h3,<-aj];rw[A0b ai];simp -dsimp[b1];replace h1:Grow M M5:=⟨Z0R h1.1 p3.1,λj hj _=>(p3.2 j (by have:=h1.1;omega) (by simp;omega)).trans (h1.2 j hj (by simp))⟩;replace h2:=p3.get h2 (by simp;omega);replace h3:=p3.get h3 (by simp);replace h4:=h4.keep p3 (by simp;omega);replace h7:=h7.keep p3 (by simp);replace h8:=λq=>(h8 q).keep p3 (by intro f hf;have:=h9 q f hf;simp;omega);have ad:=p3.get ai (by simp;omega);have b5:A1Y prog 94 M5 (.mapr (b+1)) (I x.parent) false=some (A8M KL x.parent):=by rw[h7.get (C0h 94 130 (by kernel_rfl)) x.parent B5G false,A8M];cases A1N KL x.parent<;>rfl
 refine A3o (hQ [52]) (A0u gl) (λk=>if k=1\/k=3\/k=5\/k=7\/k=8 then 1 else if k=11\/k=12 then 2 else 0) (λk=>if k=1\/k=5 then b+2 else if k=8 then b+1 else xo) (λk=>k==8) [b+2,xo] ?_ (by rfl) (by kernel_rfl) ?_
 .intro k _ h;have h:¬k=8:=by simpa using h
  by_cases e:k=1\/k=5<;>simp[e,h]
 simp -dsimp[t1,t2,t4,t6,g,d,m,<-aj,A0F,A0b h3,A0b ad,b5,A0l,A0M,C9I,C9Y];have be:=B1F l x.parent i;have b8:A2l l i=x.parent:=by simp[A2l,hi,hx]
 refine A3B (C:=WC gl) (enc:=C8K) (e:=3) (sz:=1) (news:=[i]) D0L D4I E3I (λ_=>rfl) (h8 x.parent) (by simp[A0D,C8K]) (by simp;omega) rfl ?_;intro v' M6 k1 k2 k3 _;have ag:M6[b+2]?=M5[b+2]?:=k2.2 _ (by have:=(Z0a.1 h3).1;exact this) (λe=>by have:=h9 _ _ e;omega);have am:M6[xo]?=M5[xo]?:=k2.2 _ (by have:=(Z0a.1 ad).1;exact this) (λe=>by have:=ac _ _ e;omega);have b3:obj (A8M KL x.parent)≠some (b+1):=λe=>by have:=h9 _ _ e;omega
 obtain⟨M7,m1,m2,m3⟩:=(h7.keep k2 b3).put (C0h 94 130 (by kernel_rfl)) x.parent v';have b2:A2g prog 94 M6 (.mapr (b+1)) (I x.parent) v'=some M7:=m1;have an:M7[b+2]?=M6[b+2]?:=m3.2 _ (by have:=(Z0a.1 (ag.trans h3)).1;exact this) (by simp);have b4:M7[xo]?=M6[xo]?:=m3.2 _ (by have:=(Z0a.1 (am.trans ad)).1;exact this) (by simp;omega);simp -dsimp[t1,t2,t4,t6,g,d,m,ag,am,b2,an,b4,w1];have ba:C9Q M l L M.length a b (b+1) (b+2) (i+1) M7:=by
  have a4:∀q,A8M (A8m KL x.parent v') q=if q=x.parent then v' else A8M KL q:=λq=>by simp only[A8M,C2s];by_cases e:q=x.parent<;>simp[e]
  have bc:b+2<M5.length:=(Z0a.1 h3).1;have av:∀f,obj v'=some f->b+2<f:=λf hf=>by
   rcases k3 with e|e
   .exact h9 _ f (by rw[<-e];exact hf)
   .have:=e f hf;omega
  have a7:∀j,j<b+1->M7[j]?=M5[j]?:=λj hj=>by have e6:M6[j]?=M5[j]?:=k2.2 j (by omega) (λe=>by have:=h9 _ _ e;omega);rw[m3.2 j (by have:=k2.1;omega) (by simp;omega),e6]
  have b9:∀q,A3M l q (i+1)=A3M l q i++if q=x.parent then[i]else[]:=λq=>by
   rw[D2S,b8];by_cases e:q=x.parent
   .rw[Z0e e.symm,Z0e e]
   .rw[Z0d (λh=>e h.symm),Z0d e]
  refine⟨⟨by have:=h1.1;have:=k2.1;have:=m3.1;omega,λj hj _=>(a7 j (by omega)).trans (h1.2 j hj (by simp))⟩,by rw[a7 _ (by omega)];exact h2,by rw[an,ag];exact h3,(h4.keep k2 (λe=>by have:=h9 _ _ e;omega)).keep m3 (by simp;omega),⟨_,(p2.keep k2 (λe=>by have:=h9 _ _ e;omega)).keep m3 (by simp),λy=>?_⟩,_,m2,λq=>?_,λq f hf=>?_,λq q' f hf hf'=>?_⟩
  ·(have aw:A1U (l.take i) x.id=none:=by rw[hx];exact D6E hi (by rw[<-hE];exact c2));rw[C2s,Z0A hi,C5y,au,<-h6]
   by_cases e:y=x.id
   .rw[Z0e e,e,h6,aw];simp;omega
   .rw[Z0d e];have:¬x.id=y:=λh=>e h.symm;rw[Z0d this];cases A1N IL y<;>rfl
  .rw[a4,b9];by_cases e:q=x.parent
   .rw[Z0e e,Z0e e,e];exact k1.keep m3 (λf hf=>by have:=av f hf;simp;omega)
   .rw[Z0d e,Z0d e,Z1d];exact((h8 q).keep k2 (λf hf hs=>e (ah _ _ f hf hs))).keep m3 (λf hf=>by have:=h9 _ f hf;simp;omega)
  .rw[a4]at hf;by_cases e:q=x.parent
   .rw[Z0e e]at hf;exact av f hf
   .rw[Z0d e]at hf;exact h9 q f hf
  .have aa:∀q,obj (A8M KL q)=some f->obj v'=some f->q=x.parent:=λq h1 h2=>by
    rcases k3 with e|e
    .exact ah _ _ f h1 (by rw[<-e];exact h2)
    .have:=e f h2;have:=(h8 q).lt h1;omega
   rw[a4]at hf hf';by_cases e:q=x.parent
   .rw[Z0e e]at hf;by_cases e':q'=x.parent
    .rw[e,e']
    .rw[Z0d e']at hf';exact absurd (aa q' hf' hf) e'
   .rw[Z0d e]at hf;by_cases e':q'=x.parent
    .rw[Z0e e']at hf';exact absurd (aa q hf hf') e
    .rw[Z0d e']at hf';exact ah _ _ f hf hf'
 exact⟨⟨i+1,by clear w1;omega,rfl,ba,ho,λj hj=>by
  by_cases e:j=i
  .rw[e];exact c2
  .exact hz j (by clear w1;omega)⟩,by clear w1;omega⟩
def C8a(c:gl 0=A2z)(d:gl 1=A2K)(F:IdD->Option A0a)(u:A0a)(hF:F=λx=>A0E x u)(l:List A0J)(M:Mem)(a:Fit u)(hl:l.length<=1000)(hs:∀s∈l,s.good):A0e (WC gl) 12 [.agg u.row,.list 5 (A1L l) .no] M (λv M'=>v=I (A7q F u l)/\M'=M):=by refine A3r (λ_=>trivial) ?_;have hb:=C4O gl c d F u hF l M a hl hs;rw[u.row_eq]at hb|-;refine A6D hB func12 rfl rfl rfl rfl rfl rfl ?_;simp -dsimp;refine A1W (A1a func47 rfl rfl hb) ?_;rintro _ M1 ⟨⟨r,rfl,hr,-⟩,b⟩;have hd:List.drop 4 z96=[]:=rfl;have hz:z96.length=4:=rfl;have h2:Grow M (M1++[A0m.cells 96 r]):=b.trans (A0c.app none _ _);simp -dsimp[A0k,A0i,A0d,A0y,A0v,hr,hz,hd,h2]
end
end
def A7b(p:List A0w):Prop:=p.length<=1000000/\∀s∈p,s.lab.size<=maxLen
section
variable (gl:Nat->AV) (M:Mem)
def C8p(s:A0w)(hs:s.lab.size<=maxLen):A0e (WC gl) 221 [s.v] M (λv M'=>v=B (A1k s)/\M'=M):=by
 refine A0n hB func221 ?_;by_cases c1:1<=s.k;case neg=>simp -dsimp -implicitDefEqProofs[A0w.row,A1k,c1]
 by_cases c2:s.k<=7;case neg=>simp -dsimp -implicitDefEqProofs[A0w.row,A1k,c1,c2]
 simp -dsimp -implicitDefEqProofs[A0w.row,A1k,c1,c2];refine A0q func105 (B6J gl M s.lab hs) ?_;rintro r M' ⟨rfl,rfl⟩;simp -dsimp -implicitDefEqProofs[A1k,c1,c2]
def A7D(p:List A0w)(o:Own)(hp:A7b p):A0e (WC gl) 174 [.list 2 (A0T p) o] M (λv M'=>v=B (p.all A1k)/\M'=M):=by
 refine A0n hB func174 ?_;have b:=hp.1;simp -dsimp -implicitDefEqProofs;refine A0B hB p.length 3 (λT M1=>∃i:Nat,i<=p.length/\M1=M/\T 0=.list 2 (A0T p) o/\T 3=I i/\(p.take i).all A1k=true) ?_ ?_
 .refine⟨0,?_⟩;simp -dsimp -implicitDefEqProofs
 .rintro T M1 ⟨i,h1,rfl,h3,h4,h5⟩;by_cases hi:i<p.length
  ·(have a:(i:Int)<p.length:=by omega);have hw:IntKind.i64.wrap ((i:Int)+1)=(i+1:Nat):=by rw[A0L (by omega) (by omega)];omega
   simp -dsimp -implicitDefEqProofs[h3,h4,hi,a];refine A0q func221 (C8p gl M1 p[i] (hp.2 _ (Z0o hi))) ?_;rintro r M' ⟨rfl,rfl⟩;cases hb:A1k p[i]
   .simp -dsimp -implicitDefEqProofs[h3,h4];exact⟨p[i],Z0o hi,hb⟩
   .simp -dsimp -implicitDefEqProofs[h3,h4,hw];refine⟨⟨i+1,?_⟩,by clear hw;omega⟩;have:=A9q hi h5 hb;simp only[Z0p]at this;exact⟨by clear hw;omega,by simp,this⟩
  ·(have a:¬(i:Int)<p.length:=by omega);rw[Z0g (by omega),Z0p]at h5
   simp -dsimp -implicitDefEqProofs[h3,h4,a];exact h5
def B1I(p:List A0w)(o:Own)(hp:A7b p):A0e (WC gl) 172 [.list 2 (A0T p) o] M (λv M'=>v=B (A1X p)/\M'=M):=by
 refine A0n hB func172 ?_;cases p with
 |nil=>simp -dsimp -implicitDefEqProofs[A0T,A1X,A6r]
 |cons s p'=>
  have a:=hp.1;simp only[Z0x]at a;have b:A7b p':=⟨by omega,λx hx=>hp.2 x (by simp[hx])⟩;by_cases c1:s.k=0
  .by_cases c2:s.lab=⟨#[]⟩
   ·(have hb:A2B s=true:=by simp[A2B,c1,c2]);have i1:(1:Int)<=p'.length+1:=by omega
    by_cases c:0<p'.length
    ·(have e:p'.all A1k=A1X (s::p'):=by simp[A1X,A6r,hb,c]);rw[<-e]
     simp -dsimp -implicitDefEqProofs[A0T,A0w.row,c1,c2,i1,c];refine A0q func174 (A7D gl M p' _ b) ?_;rintro r M2 ⟨rfl,rfl⟩;simp -dsimp -implicitDefEqProofs
    ·(have e:A1X (s::p')=false:=by simp[A1X,A6r,hb,c]);simp -dsimp -implicitDefEqProofs[A0T,A0w.row,c1,c2,i1,c,e]
   ·(have hb:A2B s=false:=by simp[A2B,c1,c2]);have e:(s::p').all A1k=A1X (s::p'):=by simp[A1X,A6r,hb]
    rw[<-e];obtain⟨k,d⟩:=s;simp only at c1 c2;subst c1;simp -dsimp -implicitDefEqProofs[A0T,A0w.row,c2];refine A0q func174 (A7D gl M (⟨0,d⟩::p') _ hp) ?_;rintro r M2 ⟨rfl,rfl⟩;simp -dsimp -implicitDefEqProofs
  ·(have hb:A2B s=false:=by simp[A2B,c1]);have e:(s::p').all A1k=A1X (s::p'):=by simp[A1X,A6r,hb]
   rw[<-e];simp -dsimp -implicitDefEqProofs[A0T,A0w.row,c1];refine A0q func174 (A7D gl M (s::p') _ hp) ?_;rintro r M2 ⟨rfl,rfl⟩;simp -dsimp -implicitDefEqProofs
end
def hR:A2u:=⟨λ_=>true,λ_=>false,λd=>d==6||d==41||d==74||d==82⟩
@[simp] def E7N:hR.imm=λ_=>true:=(rfl)
@[simp] def E8x:hR.own=λ_=>false:=(rfl)
@[simp] def E8S:hR.vec=λd=>d==6||d==41||d==74||d==82:=(rfl)
def A8f:List ByteArray:=A1x.drop 1
section
variable (gl:Nat->AV) (M:Mem)
def C8H:A0e (WC gl) 175 [] M (λv M'=>v=.list 1 (A0W A8f) .full/\M'=M):=by refine A0n hB func175 ?_;simp -dsimp[A0l,A0M,A0W,A8f,A1x]
end
def C1g(M:Mem)(v:AV)(l:List ByteArray):Prop:=(∃o,v=.list 1 (A0W l) o)\/A5K 9 M v (l.map S)
def C1g.len{M:Mem}{v:AV}{l:List ByteArray}(h:C1g M v l):A2y prog 37 v=some l.length:=by
 rcases h with⟨o,rfl⟩|h
 .simp[A2y]
 .rw[h.len (e:=9) (by simp)];simp
def C1g.at{M:Mem}{v:AV}{l:List ByteArray}(h:C1g M v l){i:Nat}(hi:i<l.length):∃p,A6q (some (some 1)) v (I i)=some p/\((p=.cptr [S l[i]])\/∃f,obj v=some f/\A2Y p=some f/\A1y prog 9 M p=some (S l[i])):=by
 rcases h with⟨o,rfl⟩|h
 .refine⟨_,by simp[hi];rfl,.inl ?_⟩;simp[A0W,hi]
 .rcases h with⟨rfl,hn⟩|⟨f,g,a,rfl,hf,hl⟩
  ·(have:l.length=0:=by have:=congrArg List.length hn;simpa using this);omega
  .refine⟨_,by simp[hi];rfl,.inr ⟨f,rfl,rfl,?_⟩⟩;simp[A1y,A3k,hf,hl,A0j,hi];rw[Z0g (by simp),Z0j (by simpa using hi)];simp
section
variable (gl:Nat->AV) (M:Mem)
def D8x(a b:AV)(x y:List ByteArray)(ha:C1g M a x)(hb:C1g M b y)(hx:x.length<=1000000):A0e (WC gl) 17 [a,b] M (λv M'=>v=B (decide (x=y))/\M'=M):=by
 refine A6D hB func17 rfl rfl rfl rfl rfl rfl ?_;by_cases hlen:x.length=y.length
 .have j:(x.length:Int)=y.length:=by omega
  simp -dsimp[ha.len,hb.len,j,hlen];refine A2P hB (λT M1=>∃i:Nat,i<=x.length/\M1=M/\T 0=a/\T 1=b/\T 5=I i/\x.take i=y.take i) (λT M1=>match T 5 with|.val (.int _ i)=>x.length-i.toNat|_=>0) (by kernel_rfl) ?_ ?_
  .refine⟨0,?_⟩;simp -dsimp
  .rintro T M1 ⟨i,h1,rfl,h2,h3,h4,h5⟩;by_cases hi:i<x.length
   ·(have h:(i:Int)<x.length:=by omega);have f:i<y.length:=by omega
    (have m:(i:Int)<y.length:=by omega);have hw:IntKind.i64.wrap ((i:Int)+1)=(i+1:Nat):=by rw[A0L (by omega) (by omega)];omega
    obtain⟨pa,d,ca⟩:=ha.at hi;obtain⟨pb,c,cb⟩:=hb.at f;have fin:x[i]≠y[i]->decide (x=y)=false:=λl=>Z0r λe=>l (by subst e;rfl);(have g:x[i]=y[i]->x.take (i+1)=y.take (i+1):=λhe=>by rw[Z0A hi,Z0A f,h5,he]);simp -dsimp[h2,h3,h4,ha.len,hb.len,h];rcases ca with rfl|⟨fa,oa,ra,la⟩
    .rcases cb with rfl|⟨fb,ob,rb,lb⟩
     .refine A0Z hB (A0u gl) (λ_=>0) (λ_=>0) (by rfl) (by kernel_rfl) ?_;by_cases he:x[i]=y[i]
      .simp -dsimp[h2,h3,h4,d,c,he,hw];exact⟨⟨i+1,by clear hw;omega,by simp,g he⟩,by clear hw;omega⟩
      .simp -dsimp[h2,h3,h4,d,c,he,fin he]
     .refine A0Z hB (A0u gl) (λk=>if k=7 then 1 else 0) (λ_=>fb) (by rfl) (by kernel_rfl) ?_;by_cases he:x[i]=y[i]
      .simp -dsimp[h2,h3,h4,d,c,he,hw,rb,lb];exact⟨⟨i+1,by clear hw;omega,by simp,g he⟩,by clear hw;omega⟩
      .simp -dsimp[h2,h3,h4,d,c,he,fin he,rb,lb]
    .rcases cb with rfl|⟨fb,ob,rb,lb⟩
     .refine A0Z hB (A0u gl) (λk=>if k=3 then 1 else 0) (λ_=>fa) (by rfl) (by kernel_rfl) ?_;by_cases he:x[i]=y[i]
      .simp -dsimp[h2,h3,h4,d,c,he,hw,ra,la];exact⟨⟨i+1,by clear hw;omega,by simp,g he⟩,by clear hw;omega⟩
      .simp -dsimp[h2,h3,h4,d,c,he,fin he,ra,la]
     .refine A0Z hB (A0u gl) (λk=>if k=3\/k=7 then 1 else 0) (λk=>if k=3 then fa else fb) (by rfl) (by kernel_rfl) ?_;by_cases he:x[i]=y[i]
      .simp -dsimp[h2,h3,h4,d,c,he,hw,ra,la,rb,lb];exact⟨⟨i+1,by clear hw;omega,by simp,g he⟩,by clear hw;omega⟩
      .simp -dsimp[h2,h3,h4,d,c,he,fin he,ra,la,rb,lb]
   ·(have h:¬(i:Int)<x.length:=by omega);rw[Z0g (by omega),Z0g (by omega)]at h5
    (have f:¬i<y.length:=by omega);simp -dsimp[h2,h3,h4,ha.len,h,f,h5]
 .have j:¬(x.length:Int)=y.length:=by omega
  have:¬x=y:=λe=>hlen (by rw[e]);simp -dsimp[ha.len,hb.len,j,hlen,this]
end
def C7r(a b:A1e):Bool:=decide (a.frm=b.frm/\a.at_=b.at_)
def C3l:ByteArray:=⟨#[97,110,100]⟩
def A7m(out:List ByteArray)(s:ByteArray):List ByteArray:=out.set (out.length-1) (out.getD (out.length-1) .empty++s)
section
variable (l:List ByteArray) (old:List A1e) (names:List (List A0w))
def A5c(i:Nat):Bool:=decide (0<i)&&(match old[i-1]?,old[i]? with|some a,some b=>C7r a b|_,_=>false)
def B2h(i:Nat):Bool:=decide (i+1=old.length)||(match old[i+1]?,old[i]? with|some a,some b=>!C7r a b|_,_=>false)
def B5i(i:Nat)(out:List ByteArray)(e:Int):Option (List ByteArray×Int):=match old[i]?,names[i]? with
 |some c,some p=>
  if A4n p=[]\/c.frm<0\/c.at_<=c.frm\/c.at_>l.length\/(A5c old i=false/\c.frm<e)then none else
  let out1:=(if A5c old i then out++[C3l]else out++(l.take c.frm.toNat).drop e.toNat)++A4n p
  some (if B2h old i then A7m out1 (B2D (l.getD (c.at_.toNat-1) .empty))else out1,c.at_)
 |_,_=>none
def B5p:Nat->Nat->List ByteArray->Int->List ByteArray
 |0,_,out,e=>out++l.drop e.toNat
 |n+1,i,out,e=>match B5i l old names i out e with
  |none=>l
  |some r=>B5p n (i+1) r.1 r.2
def A4W:List ByteArray:=if old.length=names.length then B5p l old names old.length 0 [] 0 else l
end
def A3U(p:List A1e):List (List AV):=p.map A1e.row
def A7h(p:List (List A0w)):List (List AV):=p.map λx=>[A5y x]
@[simp] def E2w(p:List A1e):(A3U p).length=p.length:=by simp[A3U]
@[simp] def D9T(p:List (List A0w)):(A7h p).length=p.length:=by simp[A7h]
@[simp] def E2c{p}{i}(h:i<(A3U p).length):(A3U p)[i]=(p[i]'(by simpa using h)).row:=by simp[A3U]
@[simp] def E1t{p}{i}(h:i<(A7h p).length):(A7h p)[i]=[.list 2 (A0T (p[i]'(by simpa using h))) .no]:=by simp[A7h,A0T]
@[simp] def E2p{p}{i}(h:i<(A0W p).length):(A0W p)[i]=[S (p[i]'(by simpa using h))]:=by simp[A0W]
def B8E{p}{n}:(A0W p).take n=A0W (p.take n):=by simp[A0W,Z1u]
def B3K{p}{n}:(A0W p).drop n=A0W (p.drop n):=by simp[A0W,Z4A]
def A2v{g n}(q:Nat×Nat->Bool):∀{b:List (Nat×Nat)},b.lookup g=some n->(b.filter λx=>x.1==g||q x).lookup g=some n
 |[],h=>by simp at h
 |a::l,h=>by
  by_cases c:a.1=g
  ·(have e:(a.1==g||q a)=true:=by simp[c]);rw[Z1Z,Z0e e]
   obtain⟨a1,a2⟩:=a;simp only at c;subst c;simpa[List.lookup]using h
  ·(have hl:l.lookup g=some n:=by obtain⟨a1,a2⟩:=a;(have:(g==a1)=false:=by simpa usingλe=>c e.symm);simpa[List.lookup,this]using h);have ih:=A2v q hl;by_cases e:(a.1==g||q a)=true
   .rw[Z1Z,Z0e e];obtain⟨a1,a2⟩:=a;(have:(g==a1)=false:=by simpa usingλe=>c e.symm);simpa[List.lookup,this]using ih
   .rw[Z1Z,Z0d e];exact ih
def A5K.spot{e:TypeId}{M}{v}{cs}(h:A5K e M v cs){t:TypeId}(ht:A2w prog t=some false)(hs:A1u prog t=some 1){i}(hi:i<cs.length):∃p,A6q (some (some 1)) v (I i)=some p/\A1y prog t M p=some cs[i]/\∀x:AV,x.storable=true->x.cells=[x]->∃M',A0i (some 1) M p x=some M'/\A5K e M' v (cs.set i x)/\A0c (obj v) M M':=by
 rcases h with⟨rfl,hn⟩|⟨f,g,a,rfl,hf,hl⟩
 .subst hn;simp at hi
 .refine⟨_,by simp[hi];rfl,?_,?_⟩
  .simp[A1y,A3k,hf,hl,A0j,ht,hs];rw[Z0j hi,C6v]
  .intro x h1 h2;have b:f<M.length:=(Z0a.1 hf).1;refine⟨_,by simp only[A0i,hf,hl,h1,h2];simp;exact⟨by omega,rfl⟩,.inr ⟨f,g,A0Y 1 g i a,by simp,?_,?_⟩,.set _ _ _⟩
   .simp[b,A0d];rw[Z2R,Z0e hi]
   .simp only[Z3I];unfold A0Y;exact A2v _ hl
def B9U{C}{N}{c}{Q}{T}{M}{tg}(I:Env->Mem->Prop)(h1:wWp C N c (λe T' M'=>B6O (λT M=>I T M) (λ_ _ _=>False) e T' M' ⟨⟩) T M ⟨⟩)(h2:∀T M,I T M->Q .normal T M):wWp C N c Q T M tg:=AWp.mono h1 λe T M h=>by cases e<;>first|exact h2 T M h|exact h.elim
def E0o(M:Mem):Bld M.length M.length (M++[.cells 116 [.val (.pointer none),.val (.slice none 0 0)]]) .empty:=⟨Z0n _,_,_,by simp,.inl rfl,.inl ⟨rfl,rfl⟩,by simp,λ_=>rfl⟩
def B7p{s}(h:A0O s=true):s.size<=7:=by simp only[A0O,Z0f,Z0k]at h;omega
def B7f{p}:∀w∈A4n p,w.size<=16:=by
 intro w hw;unfold A4n at hw;split at hw
 .rename_i h;have hg:=Z0p.1 (C2c h);simp only[A8U,Z1S]at hw;obtain⟨s,hs,hw⟩:=hw;unfold A5C at hw;split at hw
  .simp only[Z0I]at hw;subst hw;decide
  .rename_i hb;(have hn:A1k s=true:=by have:=hg s hs;simpa[A8g,hb]using this);simp only[A1k,Z0f,Z0k]at hn;simp only[Z0s,Z1x,Z2G]at hw;rcases hw with rfl|rfl
   ·(have:∀k:Fin 8,(A1x.getD k.val ⟨#[]⟩).size<=16:=by decide);exact this ⟨s.k.toNat,by omega⟩
   .have:=B7p hn.2;omega
 .simp at hw
def B4G(s:ByteArray):(B2D s).size<=1:=by
 unfold B2D;split
 .decide
 .split
  .simp;omega
  .decide
def A5K.keepLow{e:TypeId}{M M'}{v}{cs}(h:A5K e M v cs){n}(hk:A1c n M M')(hn:∀f,obj v=some f->f<n):A5K e M' v cs:=by
 rcases h with⟨rfl,h⟩|⟨f',g,a,rfl,hm,hl⟩
 .exact .inl ⟨rfl,h⟩
 .exact .inr ⟨f',g,a,rfl,hk.get (hn _ rfl) hm,hl⟩
def C7y{xs ys:List ByteArray}(h:ys≠[]):(xs++ys).getD ((xs++ys).length-1) .empty∈ys:=by
 have hp:0<ys.length:=Z2f.2 h;have a:(xs++ys).length-1<(xs++ys).length:=by simp;omega
 simp only[Z1O,Z0l a,Z1w];rw[Z3p (by simp;omega)];exact Z0o _
def C4b{out}{s}:(A7m out s).map S=(out.map S).set (out.length-1) (S (out.getD (out.length-1) .empty++s)):=by simp[A7m,List.map_set]
end Go.Abs
