/- The texts CbA, CbB, CbC, CbH, CbI, CbK0. -/
import Derived.Test.YtmpdkagfplajjaaGreatDoorAG29
import Derived.Test.YtmpdkagfplajjaaGreatDoorAG20
import Derived.Test.YtmpdkagfplajjaaGreatDoorAG28
set_option linter.all false
set_option maxRecDepth 100000
namespace Go.Abs
open Go.Proofs TryTypes Tryz
abbrev A3n(k:Int)(pv:AV)(to:ByteArray):A0p:=.cells 110 [I k,pv,S to,I 0,I 0]
structure RdC (M:Mem) (k:Int) (p:List A0u) (to:ByteArray) (M1:Mem):Prop where
 res:M1[M.length]?=some (A3n 0 A0Z ⟨#[]⟩)
 c:∃pv,M1[M.length+1]?=some (A3n k pv to)/\A6r 2 A0u.row M1 pv p/\∀f,A4N pv=some f->M.length+2<=f
 grow:Grow M M1
def RdC.lt{M M1}{k}{p}{to}(h:RdC M k p to M1):M.length+1<M1.length:=by obtain⟨pv,h1,_⟩:=h.c;exact(Z0c.1 h1).1
def RdC.set{M M1}{k k'}{p p'}{to to'}{pv}(h:RdC M k p to M1)(h1:A6r 2 A0u.row M1 pv p')(h2:∀f,A4N pv=some f->M.length+2<=f):RdC M k' p' to' (M1.set (M.length+1) (A3n k' pv to')):=by have hl:=h.lt;refine⟨by rw[Z0g (by omega)];exact h.res,⟨pv,by simp[hl],h1.keep (A0c.set _ _ _) (λf hf e=>by have:=h2 f hf;simp at e;omega),h2⟩,?_⟩;exact⟨by have:=h.grow.1;simp;omega,λi hi _=>by rw[Z0g (by omega)];exact h.grow.2 i hi (by simp)⟩
def RdC.app{M M1 M2}{k}{p}{to}{pv}(h:RdC M k p to M1)(hc:M1[M.length+1]?=some (A3n k pv to))(hk:A0c (A4N pv) M1 M2)(hf:∀f,A4N pv=some f->M.length+2<=f){pv'}{p'}(h1:A6r 2 A0u.row M2 pv' p')(h2:A4N pv'=A4N pv\/∀f,A4N pv'=some f->M1.length<=f){k'}{to'}:M2[M.length+1]?=some (A3n k pv to)/\RdC M k' p' to' (M2.set (M.length+1) (A3n k' pv' to')):=by
 have hl:=h.lt
 have a:M2[M.length+1]?=some (A3n k pv to):=hk.get hc (λe=>by have:=hf _ e;omega)
 have c:M.length+1<M2.length:=(Z0c.1 a).1
 have b:∀f,A4N pv'=some f->M.length+2<=f:=λf e=>by
  rcases h2 with h2|h2
  .exact hf f (h2▸e)
  .have:=h2 f e;omega
 refine⟨a,by rw[Z0g (by omega)];exact hk.get h.res (λe=>by have:=hf _ e;omega),⟨pv',by simp[c],h1.keep (A0c.set _ _ _) (λf e q=>by have:=b f e;simp at q;omega),b⟩,?_⟩
 exact⟨by have:=h.grow.1;have:=hk.1;simp;omega,λi hi _=>by rw[Z0g (by omega),hk.2 i (by omega) (λe=>by have:=hf _ e;omega)];exact h.grow.2 i hi (by simp)⟩
def A3m{M}{f g}{w}{hist}(hm:M[f]?=some (.vec 9 1 (w.flatMap A4p) g hist))(hl:hist.lookup g=some w.length){j}(hj:j<w.length):A2u prog 9 M (.vptr f g j)=some (S (wd w j)):=by
 have hd:(w.flatMap A4p).drop j=(w.drop j).map S:=by rw[<-A9V,List.map_drop]
 simp only[A2u,A3g,hm,hl,Z2j,A0t,D4c,sz9];rw[Z0l (by rw[<-A9V];simp),hd,Z0h hj,Z0C,B3s hj];rfl
def C1v(o:Option Cq)(a b:Int):List AV:=match o with
 |some c=>[I c.1,A5G c.2.1,S c.2.2,I a,I b]
 |none=>[I 0,A5G [],S ⟨#[]⟩,I 0,I 0]
section
variable (gl:Nat->AV)
def C6x(k:Int)(to:ByteArray)(x y:Int)(M:Mem):A0e (WC gl) 120 [.agg [I k,A0Z,S to,I x,I y]] M (λv M'=>v=B false/\M'=M):=by refine A0k hB func120 ?_;simp -dsimp -implicitDefEqProofs[A0Z]
def B4M:A0Q prog 110 []=some (.agg [I 0,A0Z,S ⟨#[]⟩,I 0,I 0]):=by simp[A0Q,A1G,A0Z]
def C4g(w:List ByteArray)(ab:0<w.length)(bt:w.length<=1000)(bb:∀s∈w,s.size<=maxLen)(f g:Nat)(ar:List (Nat×Nat))(M:Mem)(hm:M[f]?=some (.vec 9 1 (w.flatMap A4p) g ar))(hl:ar.lookup g=some w.length):A0e (WC gl) 197 [.vref f g 1 0 w.length] M (λv M'=>v=.tuple [.agg (C1v (A1x w) 0 0),B (A1x w).isSome]/\M'=M):=by
 refine A0e.dataX ?_
 have hf:f<M.length:=(Z0c.1 hm).1
 have a6:=λM=>B8N gl M
 have ah:∀(s:ByteArray) M,A0e (WC gl) 246 [.list 1 (A0F A3k) .full,S s] M (λv M'=>v=I (kS s)/\M'=M):=λs M=>by have:=C1t gl A3k .full s M (by decide);rwa[D6D]at this
 have bj:∀(s:ByteArray) M,A0e (WC gl) 246 [.list 1 (A0F A5u) .full,S s] M (λv M'=>v=I (kP s)/\M'=M):=λs M=>by have:=C1t gl A5u .full s M (by decide);rwa[D6K]at this
 have n0:(0:Int)<w.length:=by omega
 refine A0k hB func197 ?_
 simp -dsimp -implicitDefEqProofs[-A4b]
 rw[A4b]
 simp -dsimp -implicitDefEqProofs[-A4b,A0o,A0l,A0d]
 rw[A4b]
 simp -dsimp -implicitDefEqProofs[-A4b,B4M,A0o,A0l,A0d]
 rw[A4b]
 simp -dsimp -implicitDefEqProofs[-A4b,A0o,A0l,A0d]
 rw[A4b]
 obtain⟨M1,an⟩:∃M1,M1=M++[A3n 0 A0Z ⟨#[]⟩,A3n 0 A0Z ⟨#[]⟩]:=⟨_,rfl⟩
 have aj:M1[M.length+1]?=some (A3n 0 A0Z ⟨#[]⟩):=by rw[an];simp[Z1B]
 have a:RdC M 0 [] ⟨#[]⟩ M1:=⟨by rw[an];simp,⟨A0Z,aj,.nil,λf h=>by simp[A0Z]at h⟩,by rw[an];exact A0c.app none _ _⟩
 have d:=C5J w
 have aq:A1x w=A1F (A1t w).1 (A1t w).2.1 (A1t w).2.2:=rfl
 obtain⟨b1,z⟩:∃b:Bool,b=decide (1<w.length/\wd w 0=A3b/\0<kS (wd w 1)):=⟨_,rfl⟩
 obtain⟨b2,t⟩:∃b:Bool,b=decide (2<w.length/\wd w 0=A5F/\wd w 1=A7w/\0<kS (wd w 2)):=⟨_,rfl⟩
 rw[<-an]
 refine A8h (λT M2=>∃(i:Nat) (k:Int) (p:List A0u),T 0=.vref f g 1 0 w.length/\T 2=.ptr M.length 0/\T 4=.ptr (M.length+1) 0/\T 5=I i/\RdC M k p ⟨#[]⟩ M2/\i<=w.length/\p.length<=i/\A5v p/\A1x w=A1F k p (w.drop i)) ?_ ?_
 .have a8:=a.grow.get hm (by simp);have l0:=A3m a8 hl (j:=0) ab;have l1:=λh=>A3m a8 hl (j:=1) h;have l2:=λh=>A3m a8 hl (j:=2) h;simp -dsimp -implicitDefEqProofs;refine B3y (λT M2=>M2=M1/\T 0=.vref f g 1 0 w.length/\T 2=.ptr M.length 0/\T 4=.ptr (M.length+1) 0/\T 5=I 0/\T 23=B b1) ?_ ?_
  .refine A2E hB (A0w gl) (λk=>if k=6\/k=13 then 1 else 0) (λ_=>f) (λ_=>false) [f] (by intros;simp) (by rfl) (by kernel_rfl) ?_;by_cases a1:1<w.length;case neg=>rw[Z0k (λh=>a1 h.1)]at z;subst z;(have m:¬(1:Int)<w.length:=by omega);simp -dsimp -implicitDefEqProofs[m]
   (have m:(1:Int)<w.length:=by omega);have l1:=l1 a1
   by_cases a2:wd w 0=A3b;(case neg=>rw[Z0k (λh=>a2 h.2.1)]at z;subst z;have a7:¬wd w 0=⟨#[116,104,105,115]⟩:=a2;simp -dsimp -implicitDefEqProofs[m,ab,n0,A0y,A4e,l0,a7]);have a7:wd w 0=⟨#[116,104,105,115]⟩:=a2;simp -dsimp -implicitDefEqProofs[m,ab,n0,A0y,A4e,l0,a7];refine A1j func175 a6 ?_;simp -dsimp -implicitDefEqProofs[a1,m,n0,A0y,A4e,l1];refine A1j func246 (λM=>(ah (wd w 1) M)) ?_;by_cases a3:0<kS (wd w 1)
   .rw[Z0p ⟨a1,a2,a3⟩]at z;subst z;simp -dsimp -implicitDefEqProofs[a3]
   .rw[Z0k (λh=>a3 h.2.2)]at z;subst z;simp -dsimp -implicitDefEqProofs[a3]
  rintro T M2 ⟨rfl,t0,t2,t4,t5,ax⟩;by_cases p1:1<w.length/\wd w 0=A3b/\0<kS (wd w 1)
  .rw[Z0p p1]at z;subst z;rw[Z0d p1]at d;(have m:(1:Int)<w.length:=by have:=p1.1;omega);have l1:=l1 p1.1;have y:=a.set (k':=2) (p':=[]) (to':=⟨#[]⟩) (pv:=A0Z) .nil (λf h=>by simp at h);have a9:M2.set (M.length+1) (.cells 110 [I 2,A0Z,S ⟨#[]⟩,I 0,I 0])=M2.set (M.length+1) (A3n 2 A0Z ⟨#[]⟩):=rfl;simp -dsimp -implicitDefEqProofs[t0,t2,t4,t5,ax,A0f aj];rw[a9];generalize ak:M2.set (M.length+1) (A3n 2 A0Z ⟨#[]⟩)=M3 at*;(have ai:M3[M.length+1]?=some (A3n 2 A0Z ⟨#[]⟩):=by rw[<-ak];have:=a.lt;simp[this]);have af:=y.grow.get hm (by simp);have br:=A3m af hl p1.1;have ac:∀X,(M3.set (M.length+1) X)[f]?=M3[f]?:=λX=>Z0g (by omega);refine A2E hB (A0w gl) (λk=>if k=3 then 1 else if k=8 then 2 else 0) (λ_=>f) (λ_=>false) [f] (by intros;simp) (by rfl) (by kernel_rfl) ?_;simp -dsimp -implicitDefEqProofs[t0,t2,t4,t5];refine A1j func175 a6 ?_;simp -dsimp -implicitDefEqProofs[t0,t2,t4,t5,p1.1,m,A0y,A4e,br];refine A1j func246 (λM=>(ah (wd w 1) M)) ?_;simp -dsimp -implicitDefEqProofs[t0,t2,t4,t5,B0h,A0h,A0J,A0f ai,ac];refine⟨2,rfl,2,[⟨kS (wd w 1),⟨#[]⟩⟩],?_,by omega,by simp,⟨by simp,λs hs=>?_⟩,?_⟩
   .exact y.set (pv:=.list 2 [[I (kS (wd w 1)),S ⟨#[]⟩]] .full) (.inr (.inl rfl)) (λf h=>by simp at h)
   .simp only[Z0P]at hs;subst hs;simp[maxLen,ByteArray.size]
   .rw[aq,d]
  rw[Z0k p1]at z;subst z;rw[Z0e p1]at d;simp -dsimp -implicitDefEqProofs[t0,t2,t4,t5,ax];refine B3y (λT M1=>M1=M2/\T 0=.vref f g 1 0 w.length/\T 2=.ptr M.length 0/\T 4=.ptr (M.length+1) 0/\T 5=I 0/\T 55=B b2) ?_ ?_
  .refine A2E hB (A0w gl) (λk=>if k=6\/k=12\/k=19 then 1 else 0) (λ_=>f) (λ_=>false) [f] (by intros;simp) (by rfl) (by kernel_rfl) ?_;by_cases a1:2<w.length;case neg=>rw[Z0k (λh=>a1 h.1)]at t;subst t;(have m:¬(2:Int)<w.length:=by omega);simp -dsimp -implicitDefEqProofs[t0,t2,t4,t5,m]
   (have m:(2:Int)<w.length:=by omega);have a0:1<w.length:=by omega
   (have bd:(1:Int)<w.length:=by omega);have l1:=l1 a0
   have l2:=l2 a1;by_cases a2:wd w 0=A5F;(case neg=>rw[Z0k (λh=>a2 h.2.1)]at t;subst t;have a7:¬wd w 0=⟨#[116,104,101]⟩:=a2;simp -dsimp -implicitDefEqProofs[t0,t2,t4,t5,m,ab,n0,A0y,A4e,l0,a7]);have a7:wd w 0=⟨#[116,104,101]⟩:=a2;by_cases a3:wd w 1=A7w;(case neg=>rw[Z0k (λh=>a3 h.2.2.1)]at t;subst t;have av:¬wd w 1=⟨#[115,97,105,100]⟩:=a3;simp -dsimp -implicitDefEqProofs[t0,t2,t4,t5,m,a0,bd,ab,n0,A0y,A4e,l0,l1,a7,av]);have av:wd w 1=⟨#[115,97,105,100]⟩:=a3;simp -dsimp -implicitDefEqProofs[t0,t2,t4,t5,m,a0,bd,ab,n0,A0y,A4e,l0,l1,a7,av];refine A1j func175 a6 ?_;simp -dsimp -implicitDefEqProofs[t0,a1,m,n0,A0y,A4e,l2];refine A1j func246 (λM=>(ah (wd w 2) M)) ?_;by_cases a4:0<kS (wd w 2)
   .rw[Z0p ⟨a1,a2,a3,a4⟩]at t;subst t;simp -dsimp -implicitDefEqProofs[t0,t2,t4,t5,a4]
   .rw[Z0k (λh=>a4 h.2.2.2)]at t;subst t;simp -dsimp -implicitDefEqProofs[t0,t2,t4,t5,a4]
  clear t0 t2 t4 t5 ax;rintro T M2 ⟨rfl,t0,t2,t4,t5,b9⟩;by_cases p2:2<w.length/\wd w 0=A5F/\wd w 1=A7w/\0<kS (wd w 2)
  .rw[Z0p p2]at t;subst t;rw[Z0d p2]at d;(have m:(2:Int)<w.length:=by have:=p2.1;omega);have y:=a.set (k':=3) (p':=[]) (to':=⟨#[]⟩) (pv:=A0Z) .nil (λf h=>by simp at h);have a9:M2.set (M.length+1) (.cells 110 [I 3,A0Z,S ⟨#[]⟩,I 0,I 0])=M2.set (M.length+1) (A3n 3 A0Z ⟨#[]⟩):=rfl;simp -dsimp -implicitDefEqProofs[t0,t2,t4,t5,b9,A0f aj];rw[a9];generalize ak:M2.set (M.length+1) (A3n 3 A0Z ⟨#[]⟩)=M3 at*;(have ai:M3[M.length+1]?=some (A3n 3 A0Z ⟨#[]⟩):=by rw[<-ak];have:=a.lt;simp[this]);have af:=y.grow.get hm (by simp);have bq:=A3m af hl p2.1;have ac:∀X,(M3.set (M.length+1) X)[f]?=M3[f]?:=λX=>Z0g (by omega);refine A2E hB (A0w gl) (λk=>if k=3 then 1 else if k=8 then 2 else 0) (λ_=>f) (λ_=>false) [f] (by intros;simp) (by rfl) (by kernel_rfl) ?_;simp -dsimp -implicitDefEqProofs[t0,t2,t4,t5];refine A1j func175 a6 ?_;simp -dsimp -implicitDefEqProofs[t0,t2,t4,t5,p2.1,m,A0y,A4e,bq];refine A1j func246 (λM=>(ah (wd w 2) M)) ?_;simp -dsimp -implicitDefEqProofs[t0,t2,t4,t5,B0h,A0h,A0J,A0f ai,ac];refine⟨3,rfl,3,[⟨kS (wd w 2),⟨#[]⟩⟩],?_,by omega,by simp,⟨by simp,λs hs=>?_⟩,?_⟩
   .exact y.set (pv:=.list 2 [[I (kS (wd w 2)),S ⟨#[]⟩]] .full) (.inr (.inl rfl)) (λf h=>by simp at h)
   .simp only[Z0P]at hs;subst hs;simp[maxLen,ByteArray.size]
   .rw[aq,d]
  rw[Z0k p2]at t;subst t;rw[Z0e p2]at d;by_cases p3:wd w 0=A6B
  .rw[Z0d ⟨ab,p3⟩]at d;have aw:wd w 0=⟨#[102,111,114,109,101,114,108,121]⟩:=p3;simp -dsimp -implicitDefEqProofs[t0,t2,t4,t5,b9,n0,ab,l0,aw,A0f aj];exact⟨1,rfl,4,[],a.set (pv:=A0Z) .nil (λf h=>by simp at h),by omega,by simp,⟨by simp,by simp⟩,by rw[aq,d]⟩
  .rw[Z0e (λh=>p3 h.2)]at d;have aw:¬wd w 0=⟨#[102,111,114,109,101,114,108,121]⟩:=p3;simp -dsimp -implicitDefEqProofs[t0,t2,t4,t5,b9,n0,ab,l0,aw];exact⟨0,rfl,0,[],a,by omega,by simp,⟨by simp,by simp⟩,by rw[aq,d];rfl⟩
 clear aj a an M1 d z t
 rintro T M1 ⟨i,k,p,t0,t2,t4,t5,a,i1,pl,sp,hr⟩
 simp -dsimp -implicitDefEqProofs[-A4b]
 rw[A4b]
 have b7:=C3W k w i
 refine A8h (λT M2=>∃(i:Nat) (p:List A0u),T 0=.vref f g 1 0 w.length/\T 2=.ptr M.length 0/\T 4=.ptr (M.length+1) 0/\T 5=I i/\RdC M k p ⟨#[]⟩ M2/\i<=w.length/\p.length<=i/\A5v p/\A1x w=A7X (A2m k (p++(A2C (w.drop i)).1) (A2C (w.drop i)).2)) ?_ ?_
 .obtain⟨pv,hc,aa,l⟩:=a.c;have a8:=a.grow.get hm (by simp);have no:(¬k=2/\¬k=3/\i<w.length/\wd w i=A2j)->False\/True:=λ_=>.inr trivial;have ad:¬(¬k=2/\¬k=3/\i<w.length/\wd w i=A2j)->A1x w=A7X (A2m k (p++(A2C (w.drop i)).1) (A2C (w.drop i)).2):=λh=>by rw[hr,A1F,b7,Z0e h,Z1f]
  by_cases c2:k=2
  .simp -dsimp -implicitDefEqProofs[t0,t2,t4,t5,A0a hc,c2];subst c2;exact⟨i,rfl,p,a,i1,pl,sp,ad λh=>h.1 rfl⟩
  by_cases c3:k=3
  .simp -dsimp -implicitDefEqProofs[t0,t2,t4,t5,A0a hc,c2,c3];subst c3;exact⟨i,rfl,p,a,i1,pl,sp,ad λh=>h.2.1 rfl⟩
  by_cases hi:i<w.length;case neg=>
   (have a5:¬(i:Int)<w.length:=by omega);simp -dsimp -implicitDefEqProofs[t0,t2,t4,t5,A0a hc,c2,c3,a5]
   exact⟨i,rfl,p,a,i1,pl,sp,ad λh=>hi h.2.2.1⟩
  have a5:(i:Int)<w.length:=by omega
  have li:=A3m a8 hl hi;by_cases c4:wd w i=A2j;case neg=>have b8:¬wd w i=⟨#[98,111,111,107]⟩:=c4;simp -dsimp -implicitDefEqProofs[t0,t2,t4,t5,A0a hc,c2,c3,hi,a5,li,b8];exact⟨i,rfl,p,a,i1,pl,sp,ad λh=>c4 h.2.2.2⟩
  have b8:wd w i=⟨#[98,111,111,107]⟩:=c4;have w1:=A1i (i:=i) (by omega);simp -dsimp -implicitDefEqProofs[t0,t2,t4,t5,A0a hc,c2,c3,hi,a5,li,b8,A0h,A0J];refine A7Q (C:=WC gl) (enc:=A0u.row) (e:=159) (sz:=2) (news:=[A3N]) (o:=.full) A7K B0S A7J aa (by simp;omega) rfl rfl ?_;intro v' M2 k1 k2 k3;obtain⟨b4,y⟩:=a.app hc k2 l k1 k3 (k':=k) (to':=⟨#[]⟩);have am:A0l (some 1) M2 (.ptr (M.length+1) 1) v'=some (M2.set (M.length+1) (A3n k v' ⟨#[]⟩)):=by rw[A0f b4,k1.cells,Z0d ⟨k1.store,by simp,rfl⟩];rfl
  simp -dsimp -implicitDefEqProofs[t0,t2,t4,t5,am,w1];refine⟨i+1,rfl,p++[A3N],y,by clear w1;omega,by simp;clear w1;omega,⟨by simp;clear w1;omega,λs hs=>?_⟩,?_⟩
  .rcases Z1b.1 hs with h|h
   .exact sp.2 s h
   .simp only[Z0P]at h;subst h;simp[A3N,maxLen,ByteArray.size]
  .rw[hr,A1F,b7,Z0d ⟨c2,c3,hi,c4⟩]
 clear b7 hr sp pl i1 a t0 t2 t4 t5 p i M1 T
 rintro T M1 ⟨i,p,t0,t2,t4,t5,a,i1,pl,sp,hr⟩
 simp -dsimp -implicitDefEqProofs[t0,t2,t4,t5]
 refine A7i (.exit 0) (λT M2=>∃(i:Nat) (p:List A0u),T 0=.vref f g 1 0 w.length/\T 2=.ptr M.length 0/\T 4=.ptr (M.length+1) 0/\T 5=I i/\RdC M k p ⟨#[]⟩ M2/\i<=w.length/\p.length<=i/\A5v p/\A1x w=A7X (A2m k p (w.drop i))) ?_ ?_
 .refine A0s hB w.length 5 (λT M2=>∃(i:Nat) (p:List A0u),T 0=.vref f g 1 0 w.length/\T 2=.ptr M.length 0/\T 4=.ptr (M.length+1) 0/\T 5=I i/\RdC M k p ⟨#[]⟩ M2/\i<=w.length/\p.length<=i/\A5v p/\A1x w=A7X (A2m k (p++(A2C (w.drop i)).1) (A2C (w.drop i)).2)) ?_ ?_
  .exact⟨i,p,by simp[t0],by simp[t2],by simp[t4],by simp[t5],a,i1,pl,sp,hr⟩
  clear hr sp pl i1 a t0 t2 t4 t5 p i M1 T;rintro T M1 ⟨i,p,t0,t2,t4,t5,a,i1,pl,sp,hr⟩;have w1:=A1i (i:=i) (by omega);have a8:=a.grow.get hm (by simp);by_cases hi:i+1<w.length;case neg=>
   (have a5:¬(i:Int)+1<w.length:=by omega);rw[C7b w i hi,Z1f]at hr
   simp -dsimp -implicitDefEqProofs;refine A2E hB (A0w gl) (λk=>if k=10 then 1 else 0) (λ_=>f) (λ_=>false) [f] (by intros;simp) (by rfl) (by kernel_rfl) ?_;simp -dsimp -implicitDefEqProofs[t0,t2,t4,t5,w1,a5];exact⟨i,rfl,p,a,i1,pl,sp,hr⟩
  have a5:(i:Int)+1<w.length:=by omega
  have j1:i<w.length:=by omega
  have ag:(i:Int)<w.length:=by omega
  have li:=A3m a8 hl j1;have lj:=A3m a8 hl hi;rw[C9D w i hi]at hr;simp -dsimp -implicitDefEqProofs;refine A2E hB (A0w gl) (λk=>if k=10 then 1 else 0) (λ_=>f) (λ_=>false) [f] (by intros;simp) (by rfl) (by kernel_rfl) ?_;simp -dsimp -implicitDefEqProofs[t0,t2,t4,t5,w1,a5];refine A1j func175 a6 ?_;simp -dsimp -implicitDefEqProofs[t0,t2,t4,t5,j1,ag,A0y,A4e,li];refine A1j func246 (λM=>(ah (wd w i) M)) ?_;by_cases c:0<kS (wd w i);case neg=>rw[Z0e c,Z1f]at hr;simp -dsimp -implicitDefEqProofs[t0,t2,t4,t5,c];exact⟨i,rfl,p,a,i1,pl,sp,hr⟩
  rw[Z0d c]at hr;obtain⟨pv,hc,aa,l⟩:=a.c;have w2:IntKind.i64.wrap ((i:Int)+2)=(i+2:Nat):=by rw[A0H (by omega) (by omega)];omega
  obtain⟨s,hs⟩:∃s:A0u,s=⟨kS (wd w i),wd w (i+1)⟩:=⟨_,rfl⟩;have b5:kS (wd w i)=s.k:=by rw[hs]
  have a9:wd w (i+1)=s.lab:=by rw[hs]
  rw[<-hs]at hr;rw[a9]at lj;have az:s.lab.size<=maxLen:=by rw[<-a9,<-B3s hi];exact bb _ (Z0v hi)
  simp -dsimp -implicitDefEqProofs[t0,t2,t4,t5,c];refine A2E hB (A0w gl) (λk=>if k=1\/k=6\/k=12 then 1 else if k=15\/k=17 then 2 else 0) (λk=>if k=1 then M.length+1 else f) (λk=>k==1) [f] (by intro j _ h;have:j≠1:=(by simpa using h);simp[this]) (by rfl) (by kernel_rfl) ?_;simp -dsimp -implicitDefEqProofs[t0,t2,t4,t5,A0y,A4e,A0a hc];refine A1j func175 a6 ?_;simp -dsimp -implicitDefEqProofs[t0,t2,t4,t5,j1,ag,A0y,A4e,li];refine A1j func246 (λM=>(ah (wd w i) M)) ?_;have p0:(0:Int)<=(i:Int)+1:=by omega
  simp -dsimp -implicitDefEqProofs[t0,t2,t4,t5,hi,a5,p0,w1,A0y,A4e,lj,b5,A0h,A0J];refine A7Q (C:=WC gl) (enc:=A0u.row) (e:=159) (sz:=2) (news:=[s]) (o:=.full) A7K B0S A7J aa (by simp;omega) rfl rfl ?_;intro v' M2 k1 k2 k3;obtain⟨b4,y⟩:=a.app hc k2 l k1 k3 (k':=k) (to':=⟨#[]⟩);have am:A0l (some 1) M2 (.ptr (M.length+1) 1) v'=some (M2.set (M.length+1) (A3n k v' ⟨#[]⟩)):=by rw[A0f b4,k1.cells,Z0d ⟨k1.store,by simp,rfl⟩];rfl
  have ba:M2[f]?=M1[f]?:=k2.2 f (by have:=a.grow.1;omega) (λe=>by have:=l _ e;omega);refine⟨by intro r hr;simp only[Z0P]at hr;subst hr;exact ba,?_⟩;have ac:∀X,(M2.set (M.length+1) X)[f]?=M2[f]?:=λX=>Z0g (by omega);simp -dsimp -implicitDefEqProofs[t0,t2,t4,t5,am,ac,w2];refine⟨⟨i+2,rfl,p++[s],y,by clear w1 w2;omega,by simp;clear w1 w2;omega,⟨by simp;clear w1 w2;omega,λx hx=>?_⟩,?_⟩,by clear w1 w2;omega⟩
  .rcases Z1b.1 hx with h|h
   .exact sp.2 x h
   .simp only[Z0P]at h;subst h;exact az
  .rw[hr,Z0O];rfl
 clear hr sp pl i1 a t0 t2 t4 t5 p i M1 T
 rintro T M1 ⟨i,p,t0,t2,t4,t5,a,i1,pl,sp,hr⟩
 simp -dsimp -implicitDefEqProofs[-A4b]
 rw[A4b]
 rw[C2J k p w i i1]at hr
 obtain⟨b3,u⟩:∃b:Bool,b=decide (k=0/\i+4=w.length/\0<kP (wd w i)/\wd w (i+2)=toW):=⟨_,rfl⟩
 refine A8h (λT M2=>∃(i:Nat) (k:Int) (p:List A0u) (to:ByteArray),T 0=.vref f g 1 0 w.length/\T 2=.ptr M.length 0/\T 4=.ptr (M.length+1) 0/\T 5=I i/\RdC M k p to M2/\i<=w.length/\A5v p/\to.size<=maxLen/\A1x w=A7X ((k,p,to),w.drop i)) ?_ ?_
 .obtain⟨pv,hc,aa,l⟩:=a.c;have a8:=a.grow.get hm (by simp);have w4:IntKind.i64.wrap ((i:Int)+4)=(i+4:Nat):=by rw[A0H (by omega) (by omega)];omega
  have w2:IntKind.i64.wrap ((i:Int)+2)=(i+2:Nat):=by rw[A0H (by omega) (by omega)];omega
  simp -dsimp -implicitDefEqProofs;refine B3y (λT M2=>M2=M1/\T 0=.vref f g 1 0 w.length/\T 2=.ptr M.length 0/\T 4=.ptr (M.length+1) 0/\T 5=I i/\T 163=B b3) ?_ ?_
  .refine A2E hB (A0w gl) (λk=>if k=1\/k=15\/k=24 then 1 else 0) (λk=>if k=1 then M.length+1 else f) (λ_=>false) [M.length+1,f] (by intro j _ _;by_cases h:j=1<;>simp[h]) (by rfl) (by kernel_rfl) ?_;by_cases a1:k=0;(case neg=>rw[Z0k (λh=>a1 h.1)]at u;subst u;simp -dsimp -implicitDefEqProofs[t0,t2,t4,t5,A0y,A4e,A0a hc,a1]);by_cases a2:i+4=w.length;case neg=>rw[Z0k (λh=>a2 h.2.1)]at u;subst u;(have a7:¬(i:Int)+4=w.length:=by omega);simp -dsimp -implicitDefEqProofs[t0,t2,t4,t5,A0y,A4e,A0a hc,a1,w4,a7]
   (have a7:(i:Int)+4=w.length:=by omega);have j1:i<w.length:=by omega
   (have ag:(i:Int)<w.length:=by omega);have li:=A3m a8 hl j1
   have wl:IntKind.i64.wrap (w.length:Int)=w.length:=A0H (by omega) (by omega);simp -dsimp -implicitDefEqProofs[t0,t2,t4,t5,A0y,A4e,A0a hc,a1,w4,a7,wl];refine A1j func173 (λM=>(B1E gl M)) ?_;simp -dsimp -implicitDefEqProofs[t0,t2,t4,t5,j1,ag,A0y,A4e,li];refine A1j func246 (λM=>(bj (wd w i) M)) ?_;by_cases a3:0<kP (wd w i);case neg=>rw[Z0k (λh=>a3 h.2.2.1)]at u;subst u;simp -dsimp -implicitDefEqProofs[t0,t2,t4,t5,a3]
   (have j2:i+2<w.length:=by omega);have ap:(i:Int)+2<w.length:=by omega
   (have p0:(0:Int)<=(i:Int)+2:=by omega);have lj:=A3m a8 hl j2
   (have e2:((i:Int)+2).toNat=i+2:=by omega);by_cases a4:wd w (i+2)=toW
   .rw[Z0p ⟨a1,a2,a3,a4⟩]at u;subst u;have ay:wd w (i+2)=⟨#[116,111]⟩:=a4;simp -dsimp -implicitDefEqProofs[t0,t2,t4,t5,a3,w2,e2,j2,ap,p0,A0y,A4e,lj,ay]
   .rw[Z0k (λh=>a4 h.2.2.2)]at u;subst u;have ay:¬wd w (i+2)=⟨#[116,111]⟩:=a4;simp -dsimp -implicitDefEqProofs[t0,t2,t4,t5,a3,w2,e2,j2,ap,p0,A0y,A4e,lj,ay]
  clear t0 t2 t4 t5;rintro T M2 ⟨rfl,t0,t2,t4,t5,au⟩;by_cases q:k=0/\i+4=w.length/\0<kP (wd w i)/\wd w (i+2)=toW;case neg=>rw[Z0k q]at u;subst u;rw[Z0e q]at hr;simp -dsimp -implicitDefEqProofs[t0,t2,t4,t5,au];exact⟨i,rfl,k,p,⟨#[]⟩,a,i1,sp,by simp[maxLen,ByteArray.size],hr⟩
  rw[Z0p q]at u;subst u;rw[Z0d q]at hr;obtain⟨q1,q2,q3,q4⟩:=q;have y:=a.set (k':=1) (p':=p) (to':=⟨#[]⟩) aa l;have bl:A6r 2 A0u.row (M2.set (M.length+1) (A3n 1 pv ⟨#[]⟩)) pv p:=aa.keep (A0c.set _ _ _) (λf e h=>by have:=l f e;simp at h;omega);have a9:M2.set (M.length+1) (.cells 110 [I 1,pv,S ⟨#[]⟩,I 0,I 0])=M2.set (M.length+1) (A3n 1 pv ⟨#[]⟩):=rfl;simp -dsimp -implicitDefEqProofs[t0,t2,t4,t5,au,A0f hc];rw[a9];generalize ak:M2.set (M.length+1) (A3n 1 pv ⟨#[]⟩)=M3 at*;have ai:M3[M.length+1]?=some (A3n 1 pv ⟨#[]⟩):=by rw[<-ak];have:=a.lt;simp[this]
  have af:=y.grow.get hm (by simp);have j1:i<w.length:=by omega
  have ag:(i:Int)<w.length:=by omega
  have j2:i+1<w.length:=by omega
  have ap:(i:Int)+1<w.length:=by omega
  have p0:(0:Int)<=(i:Int)+1:=by omega
  have w1:=A1i (i:=i) (by omega);have li:=A3m af hl j1;have lj:=A3m af hl j2;obtain⟨s,hs⟩:∃s:A0u,s=⟨kP (wd w i),wd w (i+1)⟩:=⟨_,rfl⟩;have b5:kP (wd w i)=s.k:=by rw[hs]
  have a9:wd w (i+1)=s.lab:=by rw[hs]
  rw[<-hs]at hr;rw[a9]at lj;have az:s.lab.size<=maxLen:=by rw[<-a9,<-B3s j2];exact bb _ (Z0v j2)
  refine A2E hB (A0w gl) (λk=>if k=1\/k=6\/k=12 then 1 else if k=15\/k=17 then 2 else 0) (λk=>if k=1 then M.length+1 else f) (λk=>k==1) [f] (by intro j _ h;have:j≠1:=(by simpa using h);simp[this]) (by rfl) (by kernel_rfl) ?_;simp -dsimp -implicitDefEqProofs[t0,t2,t4,t5,A0y,A4e,A0a ai];refine A1j func173 (λM=>(B1E gl M)) ?_;simp -dsimp -implicitDefEqProofs[t0,t2,t4,t5,j1,ag,A0y,A4e,li];refine A1j func246 (λM=>(bj (wd w i) M)) ?_;simp -dsimp -implicitDefEqProofs[t0,t2,t4,t5,j2,ap,p0,w1,A0y,A4e,lj,b5,A0h,A0J];refine A7Q (C:=WC gl) (enc:=A0u.row) (e:=159) (sz:=2) (news:=[s]) (o:=.full) A7K B0S A7J bl (by simp;omega) rfl rfl ?_;intro v' M4 k1 k2 k3;obtain⟨bk,b6⟩:=y.app ai k2 l k1 k3 (k':=1) (to':=⟨#[]⟩);have am:A0l (some 1) M4 (.ptr (M.length+1) 1) v'=some (M4.set (M.length+1) (A3n 1 v' ⟨#[]⟩)):=by rw[A0f bk,k1.cells,Z0d ⟨k1.store,by simp,rfl⟩];rfl
  have ba:M4[f]?=M3[f]?:=k2.2 f (by have:=y.grow.1;omega) (λe=>by have:=l _ e;omega);refine⟨by intro r hr;simp only[Z0P]at hr;subst hr;exact ba,?_⟩;have ac:∀X,(M4.set (M.length+1) X)[f]?=M4[f]?:=λX=>Z0g (by omega);generalize bh:M4.set (M.length+1) (A3n 1 v' ⟨#[]⟩)=M5 at*;have bf:M.length+1<M4.length:=(Z0c.1 bk).1;have bi:M5[M.length+1]?=some (A3n 1 v' ⟨#[]⟩):=by rw[<-bh];simp[bf]
  have be:M5[f]?=M4[f]?:=by rw[<-bh];exact ac _
  have bn:=b6.grow.get hm (by simp);have j3:i+3<w.length:=by omega
  have bp:(i:Int)+3<w.length:=by omega
  have p3:(0:Int)<=(i:Int)+3:=by omega
  have w3:IntKind.i64.wrap ((i:Int)+3)=(i+3:Nat):=by rw[A0H (by omega) (by omega)];omega
  have lk:=A3m bn hl j3;have e3:((i:Int)+3).toNat=i+3:=by omega
  have bo:(wd w (i+3)).size<=maxLen:=by rw[<-B3s j3];exact bb _ (Z0v j3)
  have h5:A6r 2 A0u.row M5 v' (p++[s])/\∀f,A4N v'=some f->M.length+2<=f:=by obtain⟨bs,e1,e2,e3⟩:=b6.c;rw[bi]at e1;simp only[Z0a,A0p.cells.injEq,Z1g,Z2u,Z2e]at e1;subst e1;exact⟨e2,e3⟩
  have bm:=b6.set (k':=1) (p':=p++[s]) (to':=wd w (i+3)) h5.1 h5.2;simp -dsimp -implicitDefEqProofs[t0,t2,t4,t5,am,be,w3,w4,e3,j3,bp,p3,lk,A0f bi];refine⟨i+4,rfl,1,p++[s],wd w (i+3),bm,by clear w1 w2 w3 w4;omega,⟨by simp;clear w1 w2 w3 w4;omega,λx hx=>?_⟩,bo,?_⟩
  .rcases Z1b.1 hx with h|h
   .exact sp.2 x h
   .simp only[Z0P]at h;subst h;exact az
  .rw[hr,q2,List.drop_length]
 clear hr u sp pl i1 a t0 t2 t4 t5 p i k M1 T
 rintro T M1 ⟨i,k,p,to,t0,t2,t4,t5,a,i1,sp,tl,hr⟩
 obtain⟨pv,hc,aa,l⟩:=a.c
 have al:=a.res
 have ao:M.length<M1.length:=by have:=a.lt;omega
 have b0:∀X,Grow M (M1.set M.length X):=λX=>⟨by have:=a.grow.1;simpa using this,λj hj _=>by rw[Z0g (by omega)];exact a.grow.2 j hj (by simp)⟩
 have a8:=a.grow.get hm (by simp)
 have ae:∀M2,Still M2 M.length (bdd M.length) [.tuple [.agg [I 0,A0Z,S ⟨#[]⟩,I 0,I 0],B false]] [.tuple [.agg (C1v none 0 0),B false]]:=λM2=>.tuple (.agg (.same trivial (.nilS (.same trivial (.same trivial (.same trivial .nil))))) (.same trivial .nil)) .nil
 by_cases hi:i=w.length
 case neg=>
  have a5:¬(i:Int)=w.length:=by omega
  have hn:A1x w=none:=by rw[hr,A7X,Z0e];intro h;exact hi ((B3V i1).1 h.1)
  rw[hn];simp -dsimp -implicitDefEqProofs[t0,t2,t4,t5,a5,B4M,A0f al,A0C ao];exact⟨b0 _,ae _⟩
 have a5:(i:Int)=w.length:=by omega
 have hd:w.drop i=[]:=(B3V i1).2 hi
 have bc:A0e (WC gl) 120 [.agg [I k,pv,S to,I 0,I 0]] M1 (λv M'=>v=B (A2D k p to)/\M'=M1):=by
  rcases aa with⟨rfl,rfl⟩|rfl|⟨q,rfl,_⟩
  .rw[C2P];exact C6x gl k to 0 0 M1
  .exact C3o gl k p .full to 0 0 M1 sp tl
  .exact C3o gl k p (.fam q) to 0 0 M1 sp tl
 simp -dsimp -implicitDefEqProofs[t0,t2,t4,t5,a5,A0a hc]
 refine A0i func120 bc ?_
 cases hmc:A2D k p to with
 |false=>
  have hn:A1x w=none:=by rw[hr,A7X,Z0e];intro h;rw[hmc]at h;exact absurd h.2 (by simp)
  rw[hn]
  simp -dsimp -implicitDefEqProofs[t0,t2,t4,t5,B4M,A0f al,A0C ao]
  exact⟨b0 _,ae _⟩
 |true=>
  have hn:A1x w=some (k,p,to):=by rw[hr,A7X,Z0d ⟨hd,hmc⟩]
  rw[hn]
  have bg:A6r 2 A0u.row (M1.set M.length (.cells 110 [I k,pv,S to,I 0,I 0])) pv p:=aa.keep (A0c.set _ _ _) (λf e h=>by have:=l f e;simp at h;omega)
  simp -dsimp -implicitDefEqProofs[t0,t2,t4,t5,A0a hc,A0f al,A0C ao]
  exact⟨b0 _,.tuple (.agg (.same trivial (A6r.data bg (A8w _ _) (.same trivial (.same trivial (.same trivial .nil))))) (.same trivial .nil)) .nil⟩
end
def C6O{M:Mem}{f g:Nat}{w:List ByteArray}{a:List (Nat×Nat)}(hm:M[f]?=some (.vec 9 1 (w.flatMap A4p) g a))(hl:a.lookup g=some w.length){j:Nat}(hj:j<w.length)(s:ByteArray):∃hist',A0l (some 1) M (.vptr f g j) (S s)=some (M.set f (.vec 9 1 ((w.set j s).flatMap A4p) g hist'))/\hist'.lookup g=some w.length:=by
 refine⟨A2q 1 g j a,?_,?_⟩
 .rw[<-A9V]at hm|-;simp only[A0l,hm,hl];rw[Z0d (by simp;omega)];congr 3;simp only[A0d,AV.cells];rw[List.map_set,Z3p,Z0d (by simpa using hj)];simp
 .unfold A2q;exact A5R _ hl
def C4W{s}{B}(h:s.size<=B):(A7s s).size<=B:=by
 unfold A7s;split
 .exact h
 .split
  .rw[ByteArray.size_extract];omega
  .exact h
def C4u(o:Option (Cq×Nat))(a:Nat):List AV:=match o with
 |some (c,n)=>[I c.1,A5G c.2.1,S c.2.2,I a,I ((a+n:Nat):Int)]
 |none=>[I 0,A5G [],S ⟨#[]⟩,I 0,I 0]
section
variable (gl:Nat->AV)
set_option maxHeartbeats 1000000 in
def D8R(l:List ByteArray)(b7:l.length<=1000000000)(b0:∀s∈l,s.size<=maxLen)(o:Own)(a:Nat)(ha:a<=l.length)(M:Mem):A0e (WC gl) 146 [.list 1 (A0F l) o,I a] M (λv M'=>v=.tuple [.agg (C4u (A6N (l.drop a) (l.length-a)) a),B (A6N (l.drop a) (l.length-a)).isSome]/\M'=M):=by
 refine A0e.dataX ?_
 refine A0k (hQ [21,26]) func146 ?_
 generalize hR:A6N (l.drop a) (l.length-a)=R
 simp -dsimp -implicitDefEqProofs[A0o,A0l,A0d]
 refine A2o (hQ [21,26]) (λT M1=>∃e:Nat,a<=e/\e<=l.length/\T 0=.list 1 (A0F l) o/\T 1=I a/\T 4=.ptr M.length 0/\T 6=I e/\M1[M.length]?=some (.cells 110 [I 0,A0Z,S ⟨#[]⟩,I 0,I 0])/\Grow M M1/\R=A6N (l.drop a) (e-a)) (λT M1=>match T 6 with|.val (.int _ e)=>e.toNat|_=>0) (by kernel_rfl) ?_ ?_
 .exact⟨l.length,ha,by omega,by simp,by simp,by simp,by simp,by simp,A0c.app none _ _,hR.symm⟩
 rintro T M1 ⟨e,e1,e2,t0,t1,t4,t6,p,hg,hr⟩
 have ab:M.length<M1.length:=(Z0c.1 p).1
 by_cases he:a<e
 case neg=>
  have a4:¬(a:Int)<e:=by omega
  rw[show e-a=0 from by omega,A6N]at hr;subst hr;have az:∀X,Grow M (M1.set M.length X):=λX=>⟨by have:=hg.1;simpa using this,λj hj _=>by rw[Z0g (by omega)];exact hg.2 j hj (by simp)⟩;simp -dsimp -implicitDefEqProofs[t0,t1,t4,t6,a4,B4M,A0f p,A0C ab];exact⟨az _,.tuple (.agg (.same trivial (.nilS (.same trivial (.same trivial (.same trivial .nil))))) (.same trivial .nil)) .nil⟩
 have a4:(a:Int)<e:=by omega
 have ws:IntKind.i64.wrap ((e:Int)-a)=(e-a:Nat):=by rw[A0H (by omega) (by omega)];omega
 have wm:IntKind.i64.wrap ((e:Int)-1)=(e-1:Nat):=by rw[A0H (by omega) (by omega)];omega
 obtain⟨n,hn⟩:∃n,e-a=n+1:=⟨e-a-1,by omega⟩
 have au:e-1-a=n:=by omega
 rw[hn,A6N]at hr
 by_cases h23:23<n+1
 .rw[Z0d h23]at hr;have a0:(23:Int)<(e-a:Nat):=by omega
  simp -dsimp -implicitDefEqProofs[t0,t1,t4,t6,a4,ws,a0,wm];exact⟨⟨e-1,by omega,by omega,rfl,p,hg,by rw[au];exact hr⟩,by clear ws wm;omega⟩
 rw[Z0e h23]at hr
 have a0:¬(23:Int)<(e-a:Nat):=by omega
 obtain⟨W,hW⟩:∃W,W=(l.take e).drop a:=⟨_,rfl⟩
 have av:(l.drop a).take (n+1)=W:=by rw[hW,Z2W,hn]
 have ap:W.length=n+1:=by rw[hW,Z1e,Z0I];omega
 have a5:∀s∈W,s.size<=maxLen:=λs hs=>by rw[hW]at hs;exact b0 s (Z1r (Z1z hs))
 rw[av]at hr
 have al:(List.drop a (List.take e (A0F l)))=A0F W:=by rw[B3h,A8j,hW]
 have ax:(0:Int)<=a:=by omega
 have b2:(a:Int)<=e:=by omega
 have ay:(e:Int)<=l.length:=by omega
 simp -dsimp -implicitDefEqProofs[t0,t1,t4,t6,a4,ws,a0,ax,b2,ay,al,C6l]
 have ar:A1z 9 1 A4p (M1++[.vec 9 1 [] 0 [(0,0)]]) (.vref M1.length 0 1 0 0) []:=.inr ⟨M1.length,0,[(0,0)],by simp,by simp,by simp[List.lookup]⟩
 refine A3E (C:=WC gl) (enc:=A4p) (e:=9) (sz:=1) (news:=W) A4X A6S B0K (λ_=>rfl) ar (by simp[A0B,A0F,List.flatMap]) (by simp;omega) rfl ?_
 intro v2 M2 q1 q2 q3 _
 rw[Z2h]at q1
 have ag:Grow M M2:=⟨by have:=hg.1;have:=q2.1;simp at this;omega,λj hj _=>by rw[q2.2 j (by have:=hg.1;simp;omega) (by have:=hg.1;simp;omega),Z0j (by have:=hg.1;omega)];exact hg.2 j hj (by simp)⟩
 have i:M2[M.length]?=some (.cells 110 [I 0,A0Z,S ⟨#[]⟩,I 0,I 0]):=by rw[q2.2 _ (by simp;omega) (by simp;omega),Z0j ab];exact p
 have a6:A1n M1.length v2:=λf hf=>by
  rcases q3 with h|h
  .rw[h]at hf;simp at hf;omega
  .have:=h f hf;simp at this;omega
 clear q2 q3 ar
 rcases q1 with⟨rfl,h0⟩|⟨f,g,aj,rfl,hm,hl⟩
 .rw[h0]at ap;simp at ap
 have b9:M1.length<=f:=a6 f rfl
 have y:=C4g gl W (by omega) (by omega) a5 f g aj M2 hm hl
 clear a6 p hg
 have b6:M.length<M2.length:=(Z0c.1 i).1
 simp -dsimp -implicitDefEqProofs[t0,t1,t4,t6]
 refine A0i func197 y ?_
 obtain⟨q,hq⟩:∃q,q=M2.length:=⟨_,rfl⟩
 have ad:IntKind.i64.wrap ((W.length:Int)-1)=(W.length-1:Nat):=by rw[A0H (by omega) (by omega)];omega
 have aa:∀(c:Cq) (M4:Mem),M4[M.length]?=some (.cells 110 [I 0,A0Z,S ⟨#[]⟩,I 0,I 0])->Grow M M4->∀X,Grow M (M4.set M.length X):=λc M4 _ h X=>⟨by have:=h.1;simpa using this,λj hj _=>by rw[Z0g (by omega)];exact h.2 j hj (by simp)⟩
 have a9:((a+(n+1):Nat):Int)=e:=by omega
 cases hr1:A1x W with
 |some c=>
  have a2:R=some (c,n+1):=by rw[hr,B3m,hr1]
  subst a2
  obtain⟨M3,m⟩:∃M3,M3=M2++[A0p.cells 110 [I c.1,A5G c.2.1,S c.2.2,I a,I e]]:=⟨_,rfl⟩
  have a1:M3[q]?=some (A0p.cells 110 [I c.1,A5G c.2.1,S c.2.2,I a,I e]):=by rw[m,hq];simp
  have t:Grow M2 M3:=by rw[m];exact A0c.app none _ _
  have b:=t.get i (by simp)
  have z:=ag.trans t
  have b8:q<M3.length:=(Z0c.1 a1).1
  have ac:M.length<M3.length:=by omega
  simp -dsimp -implicitDefEqProofs[t0,t1,t4,t6,C1v,A0o,A0l,A0d]
  rw[<-m,<-hq]
  simp -dsimp -implicitDefEqProofs[t0,t1,t4,t6,A0a a1,A0f b,A0C,ac]
  refine⟨aa c _ b z _,?_⟩
  rw[C4u,a9]
  exact .tuple (.agg (.same trivial (.same (A8w _ _) (.same trivial (.same trivial (.same trivial .nil))))) (.same trivial .nil)) .nil
 |none=>
  obtain⟨M3,m⟩:∃M3,M3=M2++[A0p.cells 110 [I 0,A5G [],S ⟨#[]⟩,I 0,I 0]]:=⟨_,rfl⟩
  have a1:M3[q]?=some (A0p.cells 110 [I 0,A5G [],S ⟨#[]⟩,I 0,I 0]):=by rw[m,hq];simp
  have t:Grow M2 M3:=by rw[m];exact A0c.app none _ _
  have b:=t.get i (by simp)
  have z:=ag.trans t
  have a3:=t.get hm (by simp)
  have b5:f<M2.length:=(Z0c.1 hm).1
  have k:W.length-1<W.length:=by omega
  have a7:((W.length-1:Nat):Int)<W.length:=by omega
  have ll:=A3m a3 hl k
  obtain⟨w,af,aq⟩:=C6O a3 hl k (A7s (wd W (W.length-1)))
  have b1:W.set (W.length-1) (A7s (wd W (W.length-1)))=A3r W:=rfl
  rw[b1]at af
  have a8:(A3r W).length=W.length:=by simp[A3r]
  rw[<-a8]at aq
  have ai:∀s∈A3r W,s.size<=maxLen:=λs hs=>by
   rcases Z3e hs with h|h
   .exact a5 s h
   .rw[h];refine C4W ?_;rw[Z1d,Z0m k];exact a5 _ (Z0v k)
  have ao:(wd W (W.length-1)).size<=maxLen:=by rw[<-B3s k];exact a5 _ (Z0v k)
  obtain⟨M4,r⟩:∃M4,M4=M3.set f (.vec 9 1 ((A3r W).flatMap A4p) g w):=⟨_,rfl⟩
  have aw:f<M3.length:=(Z0c.1 a3).1
  have b3:M4[f]?=some (.vec 9 1 ((A3r W).flatMap A4p) g w):=by rw[r];simp[aw]
  have ae:M4[q]?=some (A0p.cells 110 [I 0,A5G [],S ⟨#[]⟩,I 0,I 0]):=by rw[r,Z0g (by omega)];exact a1
  have u:M4[M.length]?=some (.cells 110 [I 0,A0Z,S ⟨#[]⟩,I 0,I 0]):=by rw[r,Z0g (by omega)];exact b
  have am:Grow M M4:=⟨by rw[r];have:=z.1;simpa using this,λj hj _=>by rw[r,Z0g (by omega)];exact z.2 j hj (by simp)⟩
  have d:=C4g gl (A3r W) (by omega) (by omega) ai f g w M4 b3 aq
  rw[a8]at d
  simp -dsimp -implicitDefEqProofs[t0,t1,t4,t6,C1v,A0o,A0l,A0d]
  rw[<-m,<-hq]
  simp -dsimp -implicitDefEqProofs[t0,t1,t4,t6,ad,k,a7,ll]
  refine A0i func198 (D2c gl _ M3 ao) ?_
  simp -dsimp -implicitDefEqProofs[t0,t1,t4,t6,ad,k,a7,af]
  rw[<-r]
  refine A0i func197 d ?_
  clear r m a3 a1 b z af ll t i hm ag y d
  have b4:q<M4.length:=(Z0c.1 ae).1
  have ak:∀X,(M4.set q X)[q]?=some X:=λX=>by simp[b4]
  have ah:∀X,(M4.set q X)[M.length]?=M4[M.length]?:=λX=>Z0g (by omega)
  have an:∀X,Grow M (M4.set q X):=λX=>⟨by have:=am.1;simpa using this,λj hj _=>by rw[Z0g (by omega)];exact am.2 j hj (by simp)⟩
  have ac:M.length<M4.length:=by omega
  cases hr2:A1x (A3r W)with
  |some c=>
   have a2:R=some (c,n+1):=by rw[hr,B3m,hr1];simp only;rw[hr2]
   subst a2
   simp -dsimp -implicitDefEqProofs[t0,t1,t4,t6,C1v,A0f ae,A0f (ak _),A0a (ak _),Z3D,A0f ((ah _).trans u),A0C,ac]
   refine⟨aa c _ ((ah _).trans u) (an _) _,?_⟩
   rw[C4u,a9]
   exact .tuple (.agg (.same trivial (.same (A8w _ _) (.same trivial (.same trivial (.same trivial .nil))))) (.same trivial .nil)) .nil
  |none=>
   have a2:R=A6N (l.drop a) n:=by rw[hr,B3m,hr1];simp only;rw[hr2]
   simp -dsimp -implicitDefEqProofs[t0,t1,t4,t6,C1v,A0f ae,wm]
   exact⟨⟨e-1,by omega,by omega,rfl,(ah _).trans u,an _,by rw[au];exact a2⟩,by clear ws wm ad;omega⟩
def C5L(l:List ByteArray)(o:Own)(hl:l.length<=1000000000)(h:∀s∈l,s.size<=maxLen)(M:Mem):A0e (WC gl) 97 [.list 1 (A0F l) o] M (λv M'=>v=.list 5 (A2K (A2z l 0)) .no/\M'=M):=by
 refine A0e.dataX ?_
 refine A0k (hQ [7,22]) func97 ?_
 simp -dsimp -implicitDefEqProofs[A1v,A0J]
 refine A0s (hQ [7,22]) l.length 4 (λT M1=>∃(i:Nat) (q:List A0P) (vq:AV),T 0=.list 1 (A0F l) o/\T 3=vq/\T 4=I i/\i<=l.length/\Arr 110 5 A0P.row M.length M1 vq q/\A2z l 0=q++A2z l i/\q.length<=i/\Grow M M1) ?_ ?_
 .refine⟨0,[],.vref M.length 0 5 0 0,by simp,by simp,by simp,by omega,⟨.inr ⟨M.length,0,[(0,0)],rfl,by simp,by simp[List.lookup]⟩,λf hf=>by simp at hf;omega⟩,rfl,by simp,A0c.app none _ _⟩
 rintro T M1 ⟨i,q,vq,t0,t3,t4,h1,h2,h3,h4,h5⟩
 by_cases c:i<l.length
 case neg=>
  have c':¬(i:Int)<l.length:=by omega
  rw[C3T (l:=l) (i:=i) (by omega),Z1f]at h3;simp -dsimp -implicitDefEqProofs[t0,t3,t4,c'];rw[h3];exact⟨h5,A4u (enc:=A0P.row) (λ_=>rfl) B7k h2.own h2.lat⟩
 have c':(i:Int)<l.length:=by omega
 have j:IntKind.i64.wrap ((i:Int)+1)=(i+1:Nat):=by rw[A0H (by omega) (by omega)];omega
 have b:=D8R gl l hl h o i (by omega) M1
 rw[show l.length-i=(l.drop i).length from Z1e.symm,D1p]at b
 simp -dsimp -implicitDefEqProofs[t0,t3,t4,c']
 refine A0j func146 b ?_
 rintro _ M2 ⟨rfl,rfl⟩
 cases hc:A8P (A5B (l.drop i))with
 |none=>
  rw[C1r c hc]at h3
  have hk:Grow M2 (M2++[A0p.cells 110 [I 0,A5G [],S ⟨#[]⟩,I 0,I 0]]):=A0c.app none _ _
  simp -dsimp -implicitDefEqProofs[t0,t3,t4,C4u,A0o,A0l,A0d,j]
  exact⟨⟨i+1,by omega,by omega,q,h2.keep hk,h3,by omega,h5.trans hk⟩,by omega⟩
 |some g=>
  obtain⟨⟨k,p,to⟩,n⟩:=g
  rw[C0k c hc]at h3
  obtain⟨b1,b2,b3,b4⟩:=A9K hc
  have hn:=A9t (l.drop i)
  rw[Z1e]at hn
  obtain⟨M3,a⟩:∃M3,M3=M2++[A0p.cells 110 [I k,A5G p,S to,I i,I ((i+n:Nat):Int)]]:=⟨_,rfl⟩
  have hk:Grow M2 M3:=by rw[a];exact A0c.app none _ _
  have hx:M3[M2.length]?=some (A0p.cells 110 [I k,A5G p,S to,I i,I ((i+n:Nat):Int)]):=by rw[a];simp
  have ho:=h2.keep hk
  have d:((i+n:Nat):Int)=(i:Int)+n:=by omega
  rw[d]at a hx
  simp -dsimp -implicitDefEqProofs[t0,t3,t4,C4u,A0o,A0l,A0d,d]
  rw[<-a]
  simp -dsimp -implicitDefEqProofs[t0,t3,t4,A0a hx,A0h,A0J]
  refine A3E (C:=WC gl) (enc:=A0P.row) (e:=110) (sz:=5) (news:=[⟨k,p,to,i,(i:Int)+n⟩]) B1k B5L B1U (λ_=>rfl) ho.own (by simp[A0B,A0P.row]) (by simp;omega) rfl ?_
  intro v' M4 k1 k2 k3 _
  have hg:=ho.grow (h5.trans hk) k2
  have m:=ho.cells k2 hx
  simp -dsimp -implicitDefEqProofs[t0,t3,t4,A0a m]
  exact⟨⟨i+n,by omega,by omega,_,⟨k1,ho.later (h5.trans hk).1 k3⟩,by rw[h3];simp,by simp;omega,hg⟩,by omega⟩
def D2l(ws:List A0G)(o:Own)(hl:ws.length<=300)(hs:∀w∈ws,w.text.size<=maxLen)(M:Mem):A0e (WC gl) 40 [.list 4 (A0g ws) o] M (λv M'=>v=.list 5 (A2K (A2z (A1o ws) 0)) .no/\M'=M):=by
 refine A0k hB func40 ?_
 have ht:=λM=>A0e.still (enc:=A4p) (sz:=1) (e:=9) (λ_=>rfl) A5N (B5q gl M ws o (by omega))
 simp -dsimp -implicitDefEqProofs
 refine A0i func33 (ht M) ?_
 simp -dsimp -implicitDefEqProofs
 refine A0j func97 (C5L gl (A1o ws) .no (by simp[A1o];omega) (by simpa[A1o]using hs) M) ?_
 rintro _ M ⟨rfl,rfl⟩
 simp -dsimp -implicitDefEqProofs
end
section
variable (gl:Nat->AV)
def C8f(l:List A0L)(id:IdD)(M:Mem)(hl:l.length<=1000):A0e (WC gl) 184 [.list 5 (A1A l) .no,.agg id.row] M (λv M'=>v=I (B4F l id)/\M'=M):=by
 refine A0k hB func184 ?_;simp -dsimp -implicitDefEqProofs[IdD.row];refine A0s hB l.length 5 (λT M1=>∃i:Nat,M1=M/\i<=l.length/\T 0=.list 5 (A1A l) .no/\T 3=.cptr [I id.act,I id.item,I id.n]/\T 5=I i/\A1l l id=(A1l (l.drop i) id).map (·+i)) ?_ ?_
 .exact⟨0,rfl,by omega,by simp,by simp,by simp,by simp⟩
 rintro T M1 ⟨i,rfl,h1,t0,t3,t5,h2⟩;by_cases hi:i<l.length
 .have a:(i:Int)<l.length:=by omega
  have w1:=A1i (i:=i) (by omega);have h3:=C4T hi h2;have he:=B2E l[i].id id;simp -dsimp -implicitDefEqProofs[t0,t3,t5,a];refine A1h hB (A0w gl) (λ_=>0) (λ_=>0) (by rfl) (by kernel_rfl) ?_;by_cases c:l[i].id=id
  .rw[Z0d c]at h3;rw[Z0p c]at he;(have hr:B4F l id=i:=by simp[B4F,h3]);simp -dsimp -implicitDefEqProofs[t0,t3,t5,hi,a,A0L.row,he,hr]
  .rw[Z0e c]at h3;rw[Z0k c]at he;simp -dsimp -implicitDefEqProofs[t0,t3,t5,hi,a,A0L.row,he,w1];exact⟨⟨i+1,by clear w1;omega,rfl,h3⟩,by clear w1;omega⟩
 .have a:¬(i:Int)<l.length:=by omega
  rw[Z0n (by omega)]at h2;have hn:A1l l id=none:=by rw[h2];rfl
  have hr:B4F l id=-1:=by simp[B4F,hn]
  simp -dsimp -implicitDefEqProofs[t0,t3,t5,a,hr]
def D9U(s:List A2k)(id:IdD)(n:Int)(M:Mem)(hl:s.length<=1000):A0e (WC gl) 42 [.list 5 (A2p s) .no,.agg id.row,I n] M (λv M'=>v=.list 3 (A4L (B6G s id n)) .no/\M'=M):=by
 refine A0e.dataX ?_;refine A0k hB func42 ?_;simp -dsimp -implicitDefEqProofs[IdD.row];refine A0s hB s.length 7 (λT M1=>∃i:Nat,M1=M/\i<=s.length/\T 0=.list 5 (A2p s) .no/\T 2=I n/\T 4=.cptr [I id.act,I id.item,I id.n]/\T 7=I i/\s.find? (λm=>decide (m.at_=id)&&decide (m.n=n))=(s.drop i).find? (λm=>decide (m.at_=id)&&decide (m.n=n))) ?_ ?_
 .exact⟨0,rfl,by omega,by simp,by simp,by simp,by simp,by simp⟩
 rintro T M1 ⟨i,rfl,h1,t0,t2,t4,t7,h2⟩;by_cases hi:i<s.length
 .have a:(i:Int)<s.length:=by omega
  have w1:=A1i (i:=i) (by omega);have h3:=D0d hi h2;have he:=B2E s[i].at_ id;simp -dsimp -implicitDefEqProofs[t0,t2,t4,t7,a];refine A1h hB (A0w gl) (λ_=>0) (λ_=>0) (by rfl) (by kernel_rfl) ?_;by_cases c:s[i].at_=id;case neg=>rw[Z0k c]at he h3;rw[Z0e (by simp)]at h3;simp -dsimp -implicitDefEqProofs[t0,t2,t4,t7,hi,a,A2k.row,he,w1];exact⟨⟨i+1,by clear w1;omega,rfl,h3⟩,by clear w1;omega⟩
  rw[Z0p c]at he h3;by_cases c2:s[i].n=n
  .rw[Z0d (by simp[c2])]at h3;(have hr:B6G s id n=s[i].to:=by simp[B6G,h3]);simp -dsimp -implicitDefEqProofs[t0,t2,t4,t7,hi,a,A2k.row,he,c2];rw[hr];exact⟨Grow.refl _,.same (A3C (B7G _) _) .nil⟩
  .rw[Z0e (by simp[c2])]at h3;simp -dsimp -implicitDefEqProofs[t0,t2,t4,t7,hi,a,A2k.row,he,c2,w1];exact⟨⟨i+1,by clear w1;omega,rfl,h3⟩,by clear w1;omega⟩
 .have a:¬(i:Int)<s.length:=by omega
  rw[Z0n (by omega)]at h2;have hr:B6G s id n=[]:=by simp[B6G,h2]
  simp -dsimp -implicitDefEqProofs[t0,t2,t4,t7,a];rw[hr];exact⟨Grow.refl _,B5D⟩
def C0M(u:A0b)(l:List A0L)(n:Int)(M:Mem)(hn:n<0):A0e (WC gl) 185 [.agg u.row,.list 5 (A1A l) .no,I n] M (λv M'=>A1z 159 2 A0u.row M' v [A3N]/\Grow M M'/\A1n M.length v):=by
 refine A0k (hQ [10,30]) func185 ?_
 simp -dsimp -implicitDefEqProofs[hn,B3n]
 refine⟨.inr ⟨M.length,0,[(0,1)],rfl,by simp[A0u.row,A3N],rfl⟩,A0c.app none _ _,λf hf=>by simp at hf;omega⟩
def D0I(u:A0b)(hg:u.good)(l:List A0L)(hl:l.length<=1000)(g:∀j,j<l.length->A8I l j):∀(f:Nat) (n:Int) (M:Mem),n<l.length->n<f->f<=2000->A0e (WC gl) 185 [.agg u.row,.list 5 (A1A l) .no,I n] M (λv M'=>A1z 159 2 A0u.row M' v (A4i (λx=>A1O x u) l f n)/\Grow M M'/\A1n M.length v):=by
 intro f
 induction f with
 |zero=>intro n M h1 h2 _;exact C0M gl u l n M (by omega)
 |succ f ih=>
  intro n M h1 h2 z
  by_cases hn:n<0
  .rw[A4i,Z0d hn];exact C0M gl u l n M hn
  .refine A0k (hQ [10,30]) func185 ?_;(have b:n.toNat<l.length:=by omega);have a:0<=n/\n<l.length:=⟨by omega,h1⟩;obtain⟨x,hx⟩:∃x,x=l[n.toNat]:=⟨_,rfl⟩;(have w:A4s l n=x.parent:=by simp[A4s,b,hx]);(have m:B0W l n.toNat=x.label:=by simp[B0W,b,hx]);have t:=g n.toNat b n.toNat b (Z0u _);rw[<-hx]at t;(have o:x.parent<f:=by omega);(have i:x.parent<l.length:=by omega);(have s:A4i (λx=>A1O x u) l (f+1) n=A4i (λx=>A1O x u) l f x.parent++[⟨A4w (λx=>A1O x u) l n,x.label⟩]:=by rw[A4i,Z0e hn,w,m]);have r:=A0e.repack (enc:=A0u.row) (e:=159) (sz:=2) (λ_=>rfl) (λn x=>B1N n x) (C4Z (λx=>A1O x u) l f x.parent) (ih x.parent M i o (by omega));rw[s];have y:=B2o (λx=>A1O x u) l f x.parent;generalize hA:A4i (λx=>A1O x u) l f x.parent=A at*;simp -dsimp -implicitDefEqProofs[hn,a,a.1,a.2,b,A0L.row];refine A1h (hQ [10,30]) (A0w gl) (λk=>if k=7\/k=19 then 2 else 0) (λ_=>0) (by rfl) (by kernel_rfl) ?_;simp -dsimp -implicitDefEqProofs[hn,a,a.1,a.2,b,A0L.row];rw[<-hx];refine A6x (A2B func185 rfl rfl r) ?_;obtain⟨M2,d⟩:∃M2,M2=M++[A0p.vec 159 2 (A.flatMap A0u.row) 0 [(0,A.length)]]:=⟨_,rfl⟩;(have c:Grow M M2:=by rw[d];exact A0c.app none _ _);have p:A1z 159 2 A0u.row M2 (.vref M.length 0 2 0 A.length) A:=.inr ⟨M.length,0,[(0,A.length)],rfl,by rw[d];simp,by simp⟩;rw[<-d];simp -dsimp -implicitDefEqProofs;refine A1j func107 (λM=>(C4p gl u l n M hg (by omega))) ?_;simp -dsimp -implicitDefEqProofs[hn,a,a.1,a.2,b,A0L.row,A0h,A0J];rw[<-hx];refine A3E (C:=WC gl) (enc:=A0u.row) (e:=159) (sz:=2) (news:=[⟨A4w (λx=>A1O x u) l n,x.label⟩]) A7K B0S A7J (λ_=>rfl) p (by simp[A0B,A0u.row]) (by simp;omega) rfl ?_;intro v' M3 k1 k2 k3 _;simp -dsimp -implicitDefEqProofs;refine⟨k1,⟨Z0T c.1 k2.1,λj hj _=>?_⟩,λq hq=>?_⟩
   .rw[k2.2 j (by have:=c.1;omega) (by simp;omega)];exact c.2 j hj (by simp)
   .rcases k3 with h|h
    .rw[h]at hq;simp at hq;omega
    .have:=h q hq;have:=c.1;omega
end
def D2d{l}{y}:(0<=B4F l y)<->(A1l l y).isSome=true:=by
 unfold B4F;cases A1l l y with
 |none=>simp
 |some k=>simp
def C6G{l}{y}(h:(A1l l y).isSome=true):B4F l y=((A1l l y).getD 0:Nat)/\(A1l l y).getD 0<l.length:=by
 cases hs:A1l l y with
 |none=>rw[hs]at h;simp at h
 |some k=>exact⟨by simp[B4F,hs],(Z2y.1 hs).1⟩
def C8Q{M}{v}{l}{n}(h:D2b M v l)(hn:A1n n v):Still M n (bdd n) [v] [.list 1 (A0F l) .no]:=by
 rcases h with⟨o,rfl⟩|h
 .exact .dis (A3C (f:=A4p) (A5N _) l) .nil
 .refine A4u (enc:=A4p) (e:=9) (λ_=>rfl) A5N ?_ hn;rcases h with⟨rfl,h0⟩|⟨f,g,a,rfl,hm,hl⟩
  .exact .inl ⟨rfl,by simpa using h0⟩
  .rw[Z0L]at*;exact .inr ⟨f,g,a,rfl,by rw[<-A9V];exact hm,hl⟩
def D2p{α:Type}{p:α->Bool}{l:List α}{i:Nat}(h:i<l.length):(l.take (i+1)).all p=((l.take i).all p&&p l[i]):=by rw[Z0A h,Z3H];simp
def B9M(l:List A0L)(to:List IdD)(j:Nat):Bool:=decide (0<to.length)&&(to.take j).all λy=>(A1l l y).isSome
def D0p{l:List A0L}{to:List IdD}{j:Nat}(h:j<to.length):B9M l to (j+1)=(B9M l to j&&(A1l l to[j]).isSome):=by rw[B9M,D2p h,B9M,Bool.and_assoc]
section
variable (gl:Nat->AV)
set_option maxHeartbeats 1000000 in
def C9a(s:List A2k)(l:List A0L)(u x:A0b)(M:Mem)(hu:u.good)(hl:l.length<=1000)(bm:∀s∈l,s.good)(hs:s.length<=1000)(ht:∀m∈s,m.to.length<=40)(bj:∀j,j<l.length->A8I l j)
 (hx:x.good)(bf:x.words.length<=300):
 A0e (WC gl) 128 [.agg u.row,.agg x.row,.list 5 (A1A l) .no,.list 5 (A2p s) .no] M (λv M'=>v=.tuple [.list 1 (A0F (A5I (λy=>A1O y u) l s x).1) .no,B (A5I (λy=>A1O y u) l s x).2]/\M'=M):=by
 refine A0e.dataX ?_
 obtain⟨F,hF⟩:∃F,F=λy=>A1O y u:=⟨_,rfl⟩
 rw[<-hF]
 obtain⟨xs,ah⟩:∃xs,xs=A1o x.words:=⟨_,rfl⟩
 have bv:xs.length<=300:=by rw[ah];simpa[A1o]using bf
 have bd:∀w∈x.words,w.text.size<=maxLen:=λw hw=>(((A0b.good_iff _).1 hx).2.2.2.2.2.2.1 w hw).1
 have ax:∀t∈xs,t.size<=maxLen:=by rw[ah];intro t h;obtain⟨w,hw,rfl⟩:=Z0W.1 h;exact bd w hw
 obtain⟨cs,au⟩:∃cs,cs=A2z xs 0:=⟨_,rfl⟩
 have c3:cs.length<=xs.length:=by rw[au];exact A7z xs _ _
 obtain⟨nm,ak⟩:∃nm:Nat->List (List A0u),nm=λn:Nat=>A2G F l s x.id n:=⟨_,rfl⟩
 have ai:∀i,(nm i).length<=40:=λi=>by rw[ak];exact A8X ht
 have bc:∀i,∀p∈nm i,A5v p:=λi p hp=>by rw[ak]at hp;exact B2F hl bm p hp
 have b7:=λM=>A0e.still (enc:=A4p) (sz:=1) (e:=9) (λ_=>rfl) A5N (B5q gl M x.words .no (by omega))
 have b4:=λM=>D2l gl x.words .no bf bd M
 rw[<-ah]at b7
 simp only[<-ah,<-au]at b4
 refine A0k (hQ [31,32,33,72,94,98,103]) func128 ?_
 have bp:=x.row_eq
 simp -dsimp -implicitDefEqProofs[x.row_eq]
 refine A0i func33 (b7 M) ?_
 simp -dsimp -implicitDefEqProofs
 refine A0i func40 (b4 M) ?_
 simp -dsimp -implicitDefEqProofs[A1v,A0J]
 obtain⟨M0,ae⟩:∃M0:Mem,M0=M++[.vec 110 5 [] 0 [(0,0)],.vec 40 1 [] 0 [(0,0)],.vec 110 5 [] 0 [(0,0)]]:=⟨_,rfl⟩
 have af:Tri M M0 (.vref M.length 0 5 0 0) (.vref (M.length+2) 0 5 0 0) (.vref (M.length+1) 0 1 0 0) [] [] []:=by refine⟨by rw[ae];exact A0c.app none _ _,⟨.inr ⟨M.length,0,[(0,0)],rfl,by rw[ae];simp,by simp[List.lookup]⟩,λf hf=>by simp at hf;omega⟩,⟨.inr ⟨M.length+2,0,[(0,0)],rfl,by rw[ae];simp[Z1B],by simp[List.lookup]⟩,λf hf=>by simp at hf;omega⟩,⟨.inr ⟨M.length+1,0,[(0,0)],rfl,by rw[ae];simp[Z1B],by simp[List.lookup]⟩,λf hf=>by simp at hf;omega⟩,?_,?_,?_⟩<;>(intro f h1 h2;simp at h1 h2;omega)
 rw[<-ae]
 refine C7v (.exit 0) (λT M1=>T 10=.list 1 (A0F xs) .no/\Tri M M1 (T 12) (T 14) (T 13) (A6d cs nm cs.length) (A5w cs nm cs.length) (A7C nm cs.length)) ?_ ?_
 .refine A0s (hQ [31,32,33,72,94,98,103]) cs.length 15 (λT M1=>∃i:Nat,i<=cs.length/\T 2=.list 5 (A1A l) .no/\T 3=.list 5 (A2p s) .no/\T 4=.cptr u.row/\T 5=.cptr [I x.id.act,I x.id.item,I x.id.n,I x.kind,S x.label,.list 4 (A0g x.head) .no,.list 4 (A0g x.words) .no,.list 8 (A0O x.kids) .no]/\T 10=.list 1 (A0F xs) .no/\T 11=.list 5 (A2K cs) .no/\T 15=I i/\Tri M M1 (T 12) (T 14) (T 13) (A6d cs nm i) (A5w cs nm i) (A7C nm i)) ?_ ?_
  .exact⟨0,by omega,by simp,by simp,by simp,by simp,by simp[C1k],by simp[A2K],by simp,by simpa[A6d,A5w,A7C]using af⟩
  clear af ae M0;rintro T M1 ⟨i,i1,t2,t3,t4,t5,a,g,d,h3⟩;generalize a1:T 12=b6 at*;generalize a3:T 13=b9 at*;generalize a4:T 14=b8 at*;by_cases hi:i<cs.length;case neg=>
   (have z:¬(i:Int)<cs.length:=by omega);obtain rfl:i=cs.length:=by omega
   simp -dsimp -implicitDefEqProofs[t2,t3,t4,t5,a,g,d,z,a1,a3,a4];exact h3
  have z:(i:Int)<cs.length:=by omega
  have w1:=A1i (i:=i) (by omega);have o1:=B4W cs nm i hi;have o2:=B3e cs nm i hi;have o3:=B5o nm i;have b1:=A8l cs nm ai i;have b2:=B2i cs nm ai i;have b3:=B8O nm ai i;obtain⟨D,hD⟩:∃D,D=nm i:=⟨_,rfl⟩;have bk:=ai i;rw[<-hD]at o1 o2 o3 bk;obtain⟨to,b5⟩:∃to,to=B6G s x.id i:=⟨_,rfl⟩;have ar:D=if(to.all λy=>(A1l l y).isSome)=true then to.map λy=>A4i F l ((A1l l y).getD 0+1) ((A1l l y).getD 0:Nat)else[]:=by rw[hD,ak,b5];rfl
  have ad:=D9U gl s x.id (i:Int) M1 hs;rw[<-b5]at ad;simp only[IdD.row]at ad;have c4:to.length<=40:=by
   rw[b5];unfold B6G;split
   .rename_i m hm;exact ht m (Z3f hm)
   .simp
  simp -dsimp -implicitDefEqProofs[t2,t3,t4,t5,a,g,d,z];refine A0i func42 ad ?_;simp -dsimp -implicitDefEqProofs[t2,t3,t4,t5,a,g,d];refine A7i (.exit 2) (λT M2=>M2=M1/\T 2=.list 5 (A1A l) .no/\T 3=.list 5 (A2p s) .no/\T 4=.cptr u.row/\T 5=.cptr [I x.id.act,I x.id.item,I x.id.n,I x.kind,S x.label,.list 4 (A0g x.head) .no,.list 4 (A0g x.words) .no,.list 8 (A0O x.kids) .no]/\T 10=.list 1 (A0F xs) .no/\T 11=.list 5 (A2K cs) .no/\T 12=b6/\T 13=b9/\T 14=b8/\T 15=I i/\T 16=.list 3 (A4L to) .no/\T 17=B (B9M l to to.length)) ?_ ?_
  .refine A2o (hQ [31,32,33,72,94,98,103]) (λT M2=>∃j:Nat,j<=to.length/\M2=M1/\T 2=.list 5 (A1A l) .no/\T 3=.list 5 (A2p s) .no/\T 4=.cptr u.row/\T 5=.cptr [I x.id.act,I x.id.item,I x.id.n,I x.kind,S x.label,.list 4 (A0g x.head) .no,.list 4 (A0g x.words) .no,.list 8 (A0O x.kids) .no]/\T 10=.list 1 (A0F xs) .no/\T 11=.list 5 (A2K cs) .no/\T 12=b6/\T 13=b9/\T 14=b8/\T 15=I i/\T 16=.list 3 (A4L to) .no/\T 18=I j/\T 17=B (B9M l to j)) (λT M1=>match T 18 with|.val (.int _ j)=>to.length-j.toNat|_=>0) (by kernel_rfl) ?_ ?_
   .refine⟨0,by omega,rfl,by simp[t2],by simp[t3],by simp[t4],by simp[t5],by simp[a],by simp[g],by simp[a1],by simp[a3],by simp[a4],by simp[d],by simp,by simp,?_⟩;simp -dsimp -implicitDefEqProofs[B9M]
   clear t2 t3 t4 t5 a g d a1 a3 a4;rintro T M2 ⟨j,j1,rfl,t2,t3,t4,t5,a,g,a6,a5,o,d,r,aq,a0⟩;by_cases hj:j<to.length;case neg=>
    (have a7:¬(j:Int)<to.length:=by omega);obtain rfl:j=to.length:=by omega
    simp -dsimp -implicitDefEqProofs[t2,t3,t4,t5,a,g,a6,a5,o,d,r,a0,aq,a7]
   (have a7:(j:Int)<to.length:=by omega);have w2:=A1i (i:=j) (by omega)
   have ap:=D0p (l:=l) hj;cases hal:B9M l to j with
   |false=>rw[hal]at a0 ap;simp -dsimp -implicitDefEqProofs[t2,t3,t4,t5,a,g,a6,a5,o,d,r,a0,aq,a7,w2];exact⟨⟨j+1,by clear w1 w2;omega,rfl,by rw[ap];rfl⟩,by clear w1 w2;omega⟩
   |true=>rw[hal]at a0 ap;have aj:=C8f gl l to[j] M2 hl;simp only[IdD.row]at aj;simp -dsimp -implicitDefEqProofs[t2,t3,t4,t5,a,g,a6,a5,o,d,r,a0,aq,hj,a7,IdD.row];refine A0i func184 aj ?_;simp -dsimp -implicitDefEqProofs[t2,t3,t4,t5,a,g,a6,a5,o,d,r,a0,aq,w2];refine⟨⟨j+1,by clear w1 w2;omega,rfl,?_⟩,by clear w1 w2;omega⟩;rw[ap,Z0s,Z1Q,Z3P];exact D2d
  have ay:=d;clear t2 t3 t4 t5 a g d a1 a3 a4;rintro T M2 ⟨rfl,t2,t3,t4,t5,a,g,a6,a5,o,d,r,a0⟩;have bg:B9M l to to.length=(decide (0<to.length)&&to.all λy=>(A1l l y).isSome):=by rw[B9M,Z0l (Z0u _)]
  rw[bg]at a0;cases hab:(decide (0<to.length)&&to.all λy=>(A1l l y).isSome)with
  |false=>
   have hn:D=[]:=by
    rw[ar];split
    .rename_i h;rw[h,Z2p,Z1n]at hab;have:to=[]:=Z0w (by omega);rw[this];rfl
    .rfl
   rw[hab]at a0;simp -dsimp -implicitDefEqProofs[t2,t3,t4,t5,a,g,a6,a5,o,d,r,a0,hi,z,A0P.row,A0h,A0J];refine A3E (C:=WC gl) (enc:=A0P.row) (e:=110) (sz:=5) (news:=[cs[i]]) B1k B5L B1U (λ_=>rfl) h3.h2.own (by simp[A0B,A0P.row]) (by simp;omega) rfl ?_;intro v' M4 q1 q2 q3 _;simp -dsimp -implicitDefEqProofs[t2,t3,t4,t5,a,g,a6,a5,o,d,r,a0,w1,ay];refine⟨⟨i+1,by clear w1;omega,rfl,?_⟩,by clear w1;omega⟩;rw[o1,o2,o3,Z0d hn,hn,Z1P,Z1f,Z1f];exact h3.push2 q1 q2 q3
  |true=>
   rw[Z0f,Z3P]at hab;obtain⟨bh,al⟩:=hab;rw[Z0d al]at ar;(have be:D.length=to.length:=by rw[ar,Z0L]);(have ba:D≠[]:=λe=>by rw[e]at be;simp at be;omega);rw[Z0e ba]at o2;rw[Z0p bh,al]at a0;simp -dsimp -implicitDefEqProofs[t2,t3,t4,t5,a,g,a6,a5,o,d,r,a0];refine A2o (hQ [31,32,33,72,94,98,103]) (λT M2=>∃j:Nat,j<=to.length/\T 2=.list 5 (A1A l) .no/\T 3=.list 5 (A2p s) .no/\T 4=.cptr u.row/\T 5=.cptr [I x.id.act,I x.id.item,I x.id.n,I x.kind,S x.label,.list 4 (A0g x.head) .no,.list 4 (A0g x.words) .no,.list 8 (A0O x.kids) .no]/\T 10=.list 1 (A0F xs) .no/\T 11=.list 5 (A2K cs) .no/\T 15=I i/\T 16=.list 3 (A4L to) .no/\T 19=I j/\
    Tri M M2 (T 12) (T 14) (T 13) (A6d cs nm i++(D.take j).map λ_=>cs[i]) (A5w cs nm i++(D.take j).map λp=>⟨0,p,⟨#[]⟩,0,0⟩) (A7C nm i++D.take j))
    (λT M1=>match T 19 with|.val (.int _ j)=>to.length-j.toNat|_=>0) (by kernel_rfl) ?_ ?_
   .refine⟨0,by omega,by simp[t2],by simp[t3],by simp[t4],by simp[t5],by simp[a],by simp[g],by simp[d],by simp[r],by simp,?_⟩;simp -dsimp -implicitDefEqProofs[a6,a5,o];exact h3
   clear t2 t3 t4 t5 a g a6 a5 o d r a0 h3;rintro T M2 ⟨j,j1,t2,t3,t4,t5,a,g,d,r,ab,h5⟩;generalize a1:T 12=b6 at*;generalize a3:T 13=b9 at*;generalize a4:T 14=b8 at*;by_cases hj:j<to.length;case neg=>
    (have a7:¬(j:Int)<to.length:=by omega);rw[Z0l (by omega),<-o1,<-o2,<-o3]at h5
    simp -dsimp -implicitDefEqProofs[t2,t3,t4,t5,a,g,d,r,ab,a7,w1,a1,a3,a4,ay];exact⟨⟨i+1,by clear w1;omega,rfl,h5⟩,by clear w1;omega⟩
   (have a7:(j:Int)<to.length:=by omega);have w2:=A1i (i:=j) (by omega)
   (have bn:j<D.length:=by omega);have aj:=λM=>C8f gl l to[j] M hl
   simp only[IdD.row]at aj;obtain⟨g1,g2⟩:=C6G (Z0r.1 al to[j] (Z0v hj));(have br:D[j]=A4i F l ((A1l l to[j]).getD 0+1) ((A1l l to[j]).getD 0:Nat):=by simp only[ar,Z2w]);have aw:=λM=>A0e.still (enc:=A0u.row) (sz:=2) (λ_=>rfl) B1N (D0I gl u hu l hl bj ((A1l l to[j]).getD 0+1) ((A1l l to[j]).getD 0:Nat) M (by omega) (by omega) (by omega));rw[<-hF,<-br,<-g1]at aw;simp -dsimp -implicitDefEqProofs[t2,t3,t4,t5,a,g,d,r,ab,a7];refine A1h (hQ [31,32,33,72,94,98,103]) (A0w gl) (λ_=>0) (λ_=>0) (by rfl) (by kernel_rfl) ?_;simp -dsimp -implicitDefEqProofs[t2,t3,t4,t5,a,g,d,r,ab,hj,a7,IdD.row];refine A1j func184 aj ?_;simp -dsimp -implicitDefEqProofs[t2,t3,t4,t5,a,g,d,r,ab];refine A1j func185 aw ?_;simp -dsimp -implicitDefEqProofs[t2,t3,t4,t5,a,g,d,r,ab,hi,z,a1,A0P.row,A0h,A0J];refine A3E (C:=WC gl) (enc:=A0P.row) (e:=110) (sz:=5) (news:=[cs[i]]) B1k B5L B1U (λ_=>rfl) h5.h1.own (by simp[A0B,A0P.row]) (by simp;omega) rfl ?_;intro bx M6 q1 q2 q3 _;replace h5:=h5.push1 q1 q2 q3;simp -dsimp -implicitDefEqProofs[t2,t3,t4,t5,a,g,d,r,ab,a1,a3,a4,A0h,A0J];refine A3E (C:=WC gl) (enc:=C2m) (e:=40) (sz:=1) (news:=[D[j]]) C7l D1m D0Y (λ_=>rfl) h5.h3.own (by simp[A0B,C2m]) (by simp;omega) rfl ?_;intro bw M7 q4 q5 q6 _;replace h5:=h5.push3 q4 q5 q6;simp -dsimp -implicitDefEqProofs[t2,t3,t4,t5,a,g,d,r,ab,a1,a3,a4,A0h,A0J];refine A3E (C:=WC gl) (enc:=A0P.row) (e:=110) (sz:=5) (news:=[⟨0,D[j],⟨#[]⟩,0,0⟩]) B1k B5L B1U (λ_=>rfl) h5.h2.own (by simp[A0B,A0P.row]) (by simp;omega) rfl ?_;intro bz M8 q7 q8 q9 _;replace h5:=h5.push2 q7 q8 q9;(have bt:D.take (j+1)=D.take j++[D[j]]:=by rw[Z0A bn]);simp -dsimp -implicitDefEqProofs[t2,t3,t4,t5,a,g,d,r,ab,w2];refine⟨⟨j+1,by clear w1 w2;omega,rfl,?_⟩,by clear w1 w2;omega⟩;rw[<-Z1l,<-Z1l,bt,Z0Q,Z0Q,<-Z0O,<-Z0O,<-Z0O];exact h5
 clear af ae M0
 rintro T M1 ⟨a,h3⟩
 refine⟨M.length,((T.put (some 12) (.list 5 (A2K (A6d cs nm cs.length)) .no)).put (some 14) (.list 5 (A2K (A5w cs nm cs.length)) .no)).put (some 13) (.list 1 (A5f (A7C nm cs.length)) .no),?_,?_⟩
 .refine A7a (A7a (A7a (B5h T) ?_) ?_) ?_
  .exact Still.rows (λ_=>rfl) (λ_ _ _=>trivial) h3.h1.own h3.h1.lat .nil
  .exact Still.rows (λ_=>rfl) (λ_ _ _=>trivial) h3.h2.own h3.h2.lat .nil
  .exact Still.rows (λ_=>rfl) (λ_ _ _=>trivial) h3.h3.own h3.h3.lat .nil
 have b0:=B1y h3.grow
 generalize A5L M1 M.length=M2 at*
 clear h3
 have bo:=A8l cs nm ai cs.length
 obtain⟨a2,ag⟩:∃a2,a2=A4m xs (A6d cs nm cs.length) (A7C nm cs.length):=⟨_,rfl⟩
 obtain⟨s1,s2⟩:=A6t (old:=A6d cs nm cs.length) (names:=A7C nm cs.length) (B:=maxLen) (by simp[maxLen]) ax
 rw[<-ag]at s1 s2
 have bu:a2.length<=10000000:=by have:(A6d cs nm cs.length).length*(xs.length+19)<=12000*400:=Z3b (by omega) (by omega);omega
 have az:=λM=>A0e.dataX ((B9Q gl M xs (A6d cs nm cs.length) (A7C nm cs.length) .no .no .no (by omega) ax (by omega) (λp hp=>by obtain⟨j,hj⟩:=C4F nm hp;exact bc j p hj)).mono λv M' h=>⟨h.2.1,C8Q h.1 h.2.2⟩)
 rw[<-ag]at az
 obtain⟨A,hA⟩:∃A,A=A2z a2 0:=⟨_,rfl⟩
 obtain⟨Bw,hB⟩:∃Bw,Bw=A5w cs nm cs.length:=⟨_,rfl⟩
 have am:=λM=>C5L gl a2 .no (by omega) s1 M
 have hW:A5I F l s x=(a2,A9m A Bw):=by unfold A5I;simp only;rw[<-ah,<-au,<-ak,<-ag,hA,hB]
 rw[hW]
 have c0:A.length<=a2.length:=by have:=A7z a2 (a2.length-0) 0;rw[hA];simpa[A2z]using this
 have bq:∀c∈A,c.path.length<=1000000:=λc hc=>by rw[hA]at hc;have h:=(B4i a2 _ _ c hc).1;simp only[A2D,Z0f,Z0o]at h;omega
 rw[<-hA]at am
 rw[<-hB]
 simp -dsimp -implicitDefEqProofs[Env.put_some,a]
 refine A0i func19 (az M2) ?_
 simp -dsimp -implicitDefEqProofs[Env.put_some,a]
 refine A0i func97 (am M2) ?_
 simp -dsimp -implicitDefEqProofs[Env.put_some,a]
 clear az am hW hA hB ag bo s1 s2 au ak ai bc b7 b4 bp ah
 obtain⟨q,hq⟩:∃q:Bool,q=A9m A Bw:=⟨_,rfl⟩
 rw[<-hq]
 refine A0s (hQ [31,32,33,72,94,98,103]) A.length 24 (λT M1=>∃(i:Nat) (ok:Bool),M1=M2/\i<=A.length/\T 14=.list 5 (A2K Bw) .no/\T 21=.list 1 (A0F a2) .no/\T 22=.list 5 (A2K A) .no/\T 23=B ok/\T 24=I i/\(ok=false->q=false)/\(ok=true->A.length=Bw.length/\q=((A.drop i).zip (Bw.drop i)).all (λx=>A7O x.1 x.2))) ?_ ?_
 .refine⟨0,decide (A.length=Bw.length),rfl,by omega,?_⟩;simp -dsimp -implicitDefEqProofs[Env.put_some,C1k,A2K];refine⟨?_,λh=>?_,λh=>?_⟩
  .rw[Z1Q,Z2E,Z3P];omega
  .rw[hq,A9m,Z0k h,Z0q]
  .rw[hq,A9m,Z0p h,Z0s];exact⟨h,rfl⟩
 clear a
 rintro T M1 ⟨i,ok,rfl,i1,o,a9,aa,a8,ac,h1,h2⟩
 cases ok with
 |false=>
  have bl:=h1 rfl
  by_cases hi:i<A.length
  ·(have z:(i:Int)<A.length:=by omega);simp -dsimp -implicitDefEqProofs[o,a9,aa,a8,ac,z]
   rw[bl];exact⟨b0,.tuple (.same (A3C (f:=A4p) (A5N _) a2) (.same trivial .nil)) .nil⟩
  ·(have z:¬(i:Int)<A.length:=by omega);simp -dsimp -implicitDefEqProofs[o,a9,aa,a8,ac,z]
   rw[bl];exact⟨b0,.tuple (.same (A3C (f:=A4p) (A5N _) a2) (.same trivial .nil)) .nil⟩
 |true=>
  obtain⟨bi,ao⟩:=h2 rfl
  by_cases hi:i<A.length
  case neg=>
   (have z:¬(i:Int)<A.length:=by omega);rw[Z0n (by omega)]at ao
   simp -dsimp -implicitDefEqProofs[o,a9,aa,a8,ac,z];rw[show q=true from ao];exact⟨b0,.tuple (.same (A3C (f:=A4p) (A5N _) a2) (.same trivial .nil)) .nil⟩
  have z:(i:Int)<A.length:=by omega
  have av:i<Bw.length:=by omega
  have an:(i:Int)<Bw.length:=by omega
  have w1:IntKind.i64.wrap ((i:Int)+1)=(i+1:Nat):=by rw[A0H (by omega) (by omega)];omega
  rw[Z0h hi,Z0h av,List.zip_cons_cons,Z1k]at ao
  have next:∀(b:Bool),b=A7O A[i] Bw[i]->(b=false->q=false)/\(b=true->A.length=Bw.length/\q=((A.drop (i+1)).zip (Bw.drop (i+1))).all (λx=>A7O x.1 x.2)):=λb hb=>by
   refine⟨λe=>?_,λe=>⟨bi,?_⟩⟩
   .rw[ao];simp only;rw[<-hb,e,Z0q]
   .rw[ao];simp only;rw[<-hb,e,Z0s]
  simp -dsimp -implicitDefEqProofs[o,a9,aa,a8,ac,z]
  refine A1h (hQ [31,32,33,72,94,98,103]) (A0w gl) (λ_=>0) (λ_=>0) (by rfl) (by kernel_rfl) ?_
  by_cases c1:A[i].k=Bw[i].k
  case neg=>
   (have:=next false (by simp[A7O,c1]));simp -dsimp -implicitDefEqProofs[o,a9,aa,a8,ac,hi,z,av,an,A0P.row,c1,w1]
   exact⟨⟨i+1,by clear w1;omega,rfl,this.1 rfl⟩,by clear w1;omega⟩
  by_cases c2:A[i].to=Bw[i].to
  case neg=>
   (have:=next false (by simp[A7O,c1,c2]));simp -dsimp -implicitDefEqProofs[o,a9,aa,a8,ac,hi,z,av,an,A0P.row,c1,c2,w1]
   exact⟨⟨i+1,by clear w1;omega,rfl,this.1 rfl⟩,by clear w1;omega⟩
  have bs:=λM=>C1i gl A[i].path Bw[i].path .no .no M (bq _ (Z0v hi))
  have hn:=next (decide (pk A[i].path=pk Bw[i].path)) (by simp only[A7O,c1,c2,Z4m,Z0s];exact decide_eq_decide.2 Iff.rfl)
  simp -dsimp -implicitDefEqProofs[o,a9,aa,a8,ac,hi,z,av,an,A0P.row,c1,c2]
  refine A1j func37 bs ?_
  generalize decide (pk A[i].path=pk Bw[i].path)=bb at*
  simp -dsimp -implicitDefEqProofs[o,a9,aa,a8,ac,w1]
  exact⟨⟨i+1,by clear w1;omega,rfl,hn⟩,by clear w1;omega⟩
end
def A5M(n:Nat)(w:A0G):A2l n w.row:=by simp[A0G.row,A2l,bdd]
@[simp] def D4r{k}{t}{r1 r2}{o1 o2}:A0Q prog 27 [(1,I k),(2,S t),(3,.list 4 r1 o1),(4,.list 4 r2 o2)]=some (.agg [I 0,I 0,I 0,I k,S t,.list 4 r1 o1,.list 4 r2 o2,A0Z]):=by
 simp[A0Q,A1G,A2e,A0d,AV.cells,AV.storable]
def B2s{l}(a:∀j,j<l.length->A8I l j){n}(hn:n<l.length):A2a l n (n+1)=[]:=by
 rw[A2a,Z2R];intro k hk;have hk:k<n+1:=by simpa using hk
 have:=(a k (by omega) k (by omega) (Z0u _)).2;simp[A4s,show k<l.length by omega];omega
section
variable (gl:Nat->AV)
def D2v(w:List ByteArray)(o:Own)(M:Mem)(hw:w.length<=1000000000):A0e (WC gl) 129 [.list 1 (A0F w) o] M (λv M'=>v=.list 4 (A0g (w.map A3v)) .no/\M'=M):=by
 refine A0e.dataX ?_;refine A0k (hQ [5,19]) func129 ?_;simp -dsimp -implicitDefEqProofs[A1v,A0J];refine A0s (hQ [5,19]) w.length 4 (λT M1=>∃i:Nat,i<=w.length/\T 0=.list 1 (A0F w) o/\T 4=I i/\Arr 152 4 A0G.row M.length M1 (T 3) ((w.take i).map A3v)/\Grow M M1) ?_ ?_
 .refine⟨0,by omega,by simp,by simp,?_,A0c.app none M _⟩;simp -dsimp -implicitDefEqProofs;exact⟨.inr ⟨M.length,0,[(0,0)],rfl,by simp,by simp[List.lookup]⟩,λf hf=>by simp at hf;omega⟩
 rintro T M1 ⟨i,i1,t0,t4,hv,hg⟩;generalize b:T 3=ov at*;by_cases hi:i<w.length;case neg=>
  have a:¬(i:Int)<w.length:=by omega
  rw[Z0l (by omega)]at hv;simp -dsimp -implicitDefEqProofs[t0,t4,a,b];exact⟨hg,A4u (enc:=A0G.row) (λ_=>rfl) A5M hv.own hv.lat⟩
 have a:(i:Int)<w.length:=by omega
 have w1:IntKind.i64.wrap ((i:Int)+1)=(i+1:Nat):=by rw[A0H (by omega) (by omega)];omega
 simp -dsimp -implicitDefEqProofs[t0,t4,hi,a,b,A0h,A0J];refine A3E (C:=WC gl) (enc:=A0G.row) (e:=152) (sz:=4) (news:=[A3v w[i]]) B8B C3P B7c (λ_=>rfl) hv.own (by simp[A0B,A0G.row,A3v]) (by simp;omega) rfl ?_;intro v' M' q1 q2 q3 _;simp -dsimp -implicitDefEqProofs[t0,t4,w1];refine⟨⟨i+1,by clear w1;omega,rfl,?_,hv.grow hg q2⟩,by clear w1;omega⟩;rw[<-Z1l,Z0A hi,Z0Q];exact⟨q1,hv.later hg.1 q3⟩
def D0M(ws:List A0G)(o:Own)(M:Mem)(hw:ws.length<=1000000000):A0e (WC gl) 96 [.list 4 (A0g ws) o] M (λv M'=>v=.list 4 (A0g (ws.map λh=>A3v h.text)) .no/\M'=M):=by
 refine A0e.dataX ?_;refine A0k (hQ [5,20]) func96 ?_;simp -dsimp -implicitDefEqProofs[A1v,A0J];refine A0s (hQ [5,20]) ws.length 4 (λT M1=>∃i:Nat,i<=ws.length/\T 0=.list 4 (A0g ws) o/\T 4=I i/\Arr 152 4 A0G.row M.length M1 (T 3) ((ws.take i).map λh=>A3v h.text)/\Grow M M1) ?_ ?_
 .refine⟨0,by omega,by simp,by simp,?_,A0c.app none M _⟩;simp -dsimp -implicitDefEqProofs;exact⟨.inr ⟨M.length,0,[(0,0)],rfl,by simp,by simp[List.lookup]⟩,λf hf=>by simp at hf;omega⟩
 rintro T M1 ⟨i,i1,t0,t4,hv,hg⟩;generalize b:T 3=ov at*;by_cases hi:i<ws.length;case neg=>
  have a:¬(i:Int)<ws.length:=by omega
  rw[Z0l (by omega)]at hv;simp -dsimp -implicitDefEqProofs[t0,t4,a,b];exact⟨hg,A4u (enc:=A0G.row) (λ_=>rfl) A5M hv.own hv.lat⟩
 have a:(i:Int)<ws.length:=by omega
 have w1:IntKind.i64.wrap ((i:Int)+1)=(i+1:Nat):=by rw[A0H (by omega) (by omega)];omega
 simp -dsimp -implicitDefEqProofs[t0,t4,hi,a,b,A0G.row,A0h,A0J];refine A3E (C:=WC gl) (enc:=A0G.row) (e:=152) (sz:=4) (news:=[A3v ws[i].text]) B8B C3P B7c (λ_=>rfl) hv.own (by simp[A0B,A0G.row,A3v]) (by simp;omega) rfl ?_;intro v' M' q1 q2 q3 _;simp -dsimp -implicitDefEqProofs[t0,t4,w1];refine⟨⟨i+1,by clear w1;omega,rfl,?_,hv.grow hg q2⟩,by clear w1;omega⟩;rw[<-Z1l,Z0A hi,Z0Q];exact⟨q1,hv.later hg.1 q3⟩
set_option maxHeartbeats 1000000 in
def D2P(s:List A2k)(l:List A0L)(u:A0b)(hu:u.good)(hl:l.length<=1000)(b2:∀s∈l,s.good)(hs:s.length<=1000)(ht:∀m∈s,m.to.length<=40)(p:∀j,j<l.length->A8I l j)
 (bl:∀n (h:n<l.length),∃x,A1O l[n].id u=some x/\x.good/\x.words.length<=300/\x.head.length<=300):∀(f n:Nat) (M:Mem),n<l.length->l.length<=f+n->
 A0e (WC gl) 75 [.agg u.row,.list 5 (A1A l) .no,.list 5 (A2p s) .no,I n] M (λv M'=>v=B5P (A1N (λy=>A1O y u) l s f n)/\M'=M):=by
 intro f
 induction f with
 |zero=>intro n M h1 h2;omega
 |succ f ih=>
 intro n M h1 h2
 refine A0e.dataX ?_
 obtain⟨x,hx,bb,b5,c5⟩:=bl n h1
 obtain⟨F,hF⟩:∃F,F=λy=>A1O y u:=⟨_,rfl⟩
 rw[<-hF]at ih|-
 have bp:A9D F l n=x:=by simp[A9D,h1,hF,hx]
 have az:B0W l n=l[n].label:=by simp[B0W,h1]
 obtain⟨W,hW⟩:∃W,W=A5I F l s x:=⟨_,rfl⟩
 have hT:A1N F l s (f+1) n=(.mk idZ x.kind l[n].label (x.head.map λh=>A3v h.text) (W.1.map A3v) (((A2a l n l.length).map (A1N F l s f)).map (·.1)),x.id::((A2a l n l.length).map (A1N F l s f)).flatMap (·.2.1),((A2a l n l.length).map (A1N F l s f)).foldl (λe k=>A4r e k.2.2) (B0I W)):=by rw[A1N,bp,az,<-hW]
 rw[hT]
 clear hT
 have aw:W.1.length<=1000000000:=by rw[hW];exact B7z hl b2 ht bb b5
 have n0:(0:Int)<=n:=by omega
 have n1:(n:Int)<l.length:=by omega
 have ad:=λM=>B4Q gl u l[n].id M hu
 simp only[hx,A2y,Z2N,IdD.row]at ad
 have a2:=λM=>C9a gl s l u x M hu hl b2 hs ht p bb b5
 simp only[<-hF,<-hW]at a2
 refine A0k hB func75 ?_
 simp -dsimp -implicitDefEqProofs[A0o]
 obtain⟨Ma,a9⟩:∃Ma,Ma=M++[z8]:=⟨_,rfl⟩
 have b6:Grow M Ma:=by rw[a9];exact A0c.app none _ _
 have b8:Ma[M.length]?=some z8:=by rw[a9];simp
 have bv:Ma.length=M.length+1:=by rw[a9];simp
 rw[<-a9]
 obtain⟨Mb,a5⟩:∃Mb,Mb=Ma++[A0p.cells 27 x.row]:=⟨_,rfl⟩
 have aq:Grow Ma Mb:=by rw[a5];exact A0c.app none _ _
 refine A1h hB (A0w gl) (λk=>if k=10\/k=11 then 2 else 0) (λ_=>0) (by rfl) (by kernel_rfl) ?_
 simp -dsimp -implicitDefEqProofs[n0,n1,h1,A0L.row,IdD.row]
 refine A1j func104 ad ?_
 simp -dsimp -implicitDefEqProofs[A0o,A0l,A0d,AV.storable,AV.cells]
 obtain⟨xa,b1⟩:∃xa,xa=Ma.length:=⟨_,rfl⟩
 have hX:Mb[xa]?=some (A0p.cells 27 x.row):=by rw[a5,b1];simp
 have bc:=aq.get b8 (by simp)
 have aj:=b6.trans aq
 have c0:Mb.length=M.length+2:=by rw[a5];simp[bv]
 rw[<-a5,<-b1]
 clear a5 a9
 simp -dsimp -implicitDefEqProofs[A0a hX]
 refine A0i func128 (a2 Mb) ?_
 simp -dsimp -implicitDefEqProofs[-A4b]
 rw[A4b]
 simp -dsimp -implicitDefEqProofs[-A4b]
 rw[A4b]
 refine A8h (λT M1=>M1=Mb/\T 1=.list 5 (A1A l) .no/\T 2=.list 5 (A2p s) .no/\T 3=I n/\T 4=.cptr u.row/\T 8=.ptr M.length 0/\T 11=.ptr xa 0/\T 13=.list 1 (A0F W.1) .no/\T 15=I (if W.2=true then 0 else 2)) ?_ ?_
 .cases hw2:W.2<;>simp -dsimp -implicitDefEqProofs[hw2]
 rintro T M1 ⟨rfl,t1,t2,t3,t4,t8,a0,t,b⟩
 simp -dsimp -implicitDefEqProofs[-A4b]
 rw[A4b]
 refine A8h (λT M2=>M2=M1/\T 1=.list 5 (A1A l) .no/\T 2=.list 5 (A2p s) .no/\T 3=I n/\T 4=.cptr u.row/\T 8=.ptr M.length 0/\T 11=.ptr xa 0/\T 13=.list 1 (A0F W.1) .no/\T 15=I (B0I W)) ?_ ?_
 .by_cases hw:256<W.1.length
  ·(have av:(256:Int)<W.1.length:=by omega);simp -dsimp -implicitDefEqProofs[t1,t2,t3,t4,t8,a0,t,b,av,B0I,hw]
  ·(have av:¬(256:Int)<W.1.length:=by omega);simp -dsimp -implicitDefEqProofs[t1,t2,t3,t4,t8,a0,t,b,av,B0I,hw]
 clear t1 t2 t3 t4 t8 a0 t b
 rintro T Mb ⟨rfl,t1,t2,t3,t4,t8,a0,t,b⟩
 obtain⟨H,hH⟩:∃H,H=x.head.map λh=>A3v h.text:=⟨_,rfl⟩
 rw[<-hH]
 obtain⟨q,hq⟩:∃q,q=Mb.length:=⟨_,rfl⟩
 obtain⟨Mc,aa⟩:∃Mc,Mc=Mb++[ouC x.kind l[n].label (.list 4 (A0g H) .no) (.list 4 (A0g (W.1.map A3v)) .no) A0Z]:=⟨_,rfl⟩
 have ai:Grow Mb Mc:=by rw[aa];exact A0c.app none _ _
 have b9:Mc[q]?=some (ouC x.kind l[n].label (.list 4 (A0g H) .no) (.list 4 (A0g (W.1.map A3v)) .no) A0Z):=by rw[aa,hq];simp
 have ae:=hX
 rw[x.row_eq]at ae
 have ba:xa<Mb.length:=(Z0c.1 hX).1
 have al:∀X,(Mb++[X])[xa]?=Mb[xa]?:=λX=>Z0j ba
 have bh:=λM=>D0M gl x.head .no M (by omega)
 simp only[<-hH]at bh
 simp -dsimp -implicitDefEqProofs
 refine A2E hB (A0w gl) (λk=>if k=1\/k=8 then 1 else if k=13\/k=14 then 2 else 0) (λ_=>xa) (λ_=>false) [xa] (by intros;simp) (by rfl) (by kernel_rfl) ?_
 simp -dsimp -implicitDefEqProofs[t1,t2,t3,t4,t8,a0,t,b,n0,n1,h1,A0L.row,A0y,A4e,A0a ae]
 refine A1j func96 bh ?_
 simp -dsimp -implicitDefEqProofs[t1,t2,t3,t4,t8,a0,t,b]
 refine A1j func129 (λM=>(D2v gl W.1 .no M aw)) ?_
 simp -dsimp -implicitDefEqProofs[t1,t2,t3,t4,t8,a0,t,b,A0o,A0l,A0d,al]
 rw[<-aa,<-hq]
 have bo:=ai.get ae (by simp)
 have bn:=ai.get bc (by simp)
 have be:=aj.trans ai
 have c1:Mc.length=q+1:=by rw[aa,hq];simp
 have c6:M.length+2=q:=by omega
 have bw:xa<q:=by omega
 clear aa ai al hX ae bc aj b6 aq b8
 have w0:=A1i (i:=n) (by omega)
 simp -dsimp -implicitDefEqProofs[t1,t2,t3,t4,t8,a0,t,b,A0a bo,A0h,A0J,w0]
 have br:∀M1,A0I q Mc M1->Grow M M1:=λM1 h=>h.grow be (by omega)
 refine A0s hB l.length 18 (λT M2=>∃j:Nat,n+1<=j/\j<=l.length/\T 1=.list 5 (A1A l) .no/\T 2=.list 5 (A2p s) .no/\T 3=I n/\T 4=.cptr u.row/\T 8=.ptr M.length 0/\T 16=.ptr q 0/\T 18=I j/\T 15=I (((A2a l n j).map (A1N F l s f)).foldl (λe k=>A4r e k.2.2) (B0I W))/\A0I q Mc M2/\∃kv,M2[q]?=some (ouC x.kind l[n].label (.list 4 (A0g H) .no) (.list 4 (A0g (W.1.map A3v)) .no) kv)/\Fm 8 A0b.row (q+1) M2 kv (((A2a l n j).map (A1N F l s f)).map (·.1))/\Fm 3 IdD.row (q+1) M2 (T 17) (x.id::((A2a l n j).map (A1N F l s f)).flatMap (·.2.1))/\A7G kv (T 17)/\(((A2a l n j).map (A1N F l s f)).flatMap (·.2.1)).length<=j*1000) ?_ ?_
 .refine⟨n+1,by omega,by omega,by simp[t1],by simp[t2],by simp[t3],by simp[t4],by simp[t8],by simp,by simp,?_,A0I.refl _ _,A0Z,b9,?_,?_,.nil,?_⟩
  .rw[B2s p h1];simp[b]
  .rw[B2s p h1];exact .nil
  .rw[B2s p h1];simp -dsimp -implicitDefEqProofs;exact Fm.full (l:=[x.id])
  .rw[B2s p h1];simp
 clear t1 t2 t3 t4 t8 a0 t b b9
 rintro T M2 ⟨j,j0,j1,t1,t2,t3,t4,t8,w,z,b,ag,kv,ho,r,a4,ar,ay⟩
 generalize g:T 17=iv at*
 by_cases hj:j<l.length
 case neg=>
  have af:¬(j:Int)<l.length:=by omega
  obtain rfl:j=l.length:=by omega
  have ao:M2[M.length]?=some z8:=(ag.2 _ (by omega)).trans bn;have b0:M.length<M2.length:=(Z0c.1 ao).1;have bi:=br M2 ag;have bq:∀X,Grow M (M2.set M.length X):=λX=>⟨by have:=bi.1;simpa using this,λj hj _=>by rw[Z0g (by omega)];exact bi.2 j hj (by simp)⟩;simp -dsimp -implicitDefEqProofs[t1,t2,t3,t4,t8,w,z,b,af,g,A0a ho,A0f ao,A0C b0];refine⟨bq _,?_⟩;rw[B5P,A0b.row];refine .tuple (.agg (.same trivial (.same trivial (.same trivial (.same trivial (.same trivial (.same (A3C (f:=A0G.row) (A5M _) _) (.same (A3C (f:=A0G.row) (A5M _) _) ?_))))))) (a4.data (A3C (f:=IdD.row) (B7G _) _) (.same trivial .nil))) .nil;rw[A6o,<-Z1L];exact r.data (A3C (f:=A0b.row) (A8s _) _) .nil
 have af:(j:Int)<l.length:=by omega
 have w1:=A1i (i:=j) (by omega)
 have a1:=B2k l n j
 have bu:A4s l j=l[j].parent:=by simp[A4s,hj]
 rw[bu]at a1
 by_cases hp:l[j].parent=n
 case neg=>rw[Z0e hp,Z1f]at a1;simp -dsimp -implicitDefEqProofs[t1,t2,t3,t4,t8,w,z,b,hj,af,A0L.row,hp,g,w1];exact⟨⟨j+1,by clear w1;omega,by clear w1;omega,rfl,by rw[a1],ag,kv,ho,by rw[a1,<-Z1L];exact r,by rw[a1];exact a4,ar,by rw[Z3K]at ay;rw[a1,<-Z1L];clear w1;omega⟩,by clear w1;omega⟩
 rw[Z0d hp]at a1
 have a8:=ih j M2 hj (by omega)
 have bs:=A9H (F:=F) (s:=s) p f j hj (by omega)
 obtain⟨k,bk⟩:∃k,k=A1N F l s f j:=⟨_,rfl⟩
 have ah:(A2a l n (j+1)).map (A1N F l s f)=(A2a l n j).map (A1N F l s f)++[k]:=by rw[a1,Z0Q,bk];rfl
 rw[<-bk]at a8 bs
 obtain⟨M3,au⟩:∃M3,M3=M2++[A0p.cells 27 k.1.row]:=⟨_,rfl⟩
 have ac:Grow M2 M3:=by rw[au];exact A0c.app none _ _
 have bj:M3[M2.length]?=some (A0p.cells 27 k.1.row):=by rw[au];simp
 have b3:=ac.get ho (by simp)
 have c2:q<M2.length:=(Z0c.1 ho).1
 have b7:=ag.trans (ac.low (n:=q) (by omega) (by simp))
 have ak:q+1<=M3.length:=by have:=ac.1;omega
 replace r:=r.keep ac
 replace a4:=a4.keep ac
 have bz:=A6H l n j
 generalize hA:(A2a l n j).map (A1N F l s f)=A at*
 have c4:A.length<=1000:=by rw[<-hA,Z0L];omega
 simp -dsimp -implicitDefEqProofs[t1,t2,t3,t4,t8,w,z,b,hj,af,A0L.row,hp]
 refine A0i func75 a8 ?_
 simp -dsimp -implicitDefEqProofs[t1,t2,t3,t4,t8,w,z,b,B5P,A0o,A0l,A0d,AV.storable,AV.cells]
 rw[<-au]
 simp -dsimp -implicitDefEqProofs[t1,t2,t3,t4,t8,w,z,b,g,A0a b3,A0a bj,A0h,A0J]
 refine A7Q (C:=WC gl) (enc:=A0b.row) (e:=27) (sz:=8) (news:=[k.1]) (o:=.full) C7I D2q D2Y r.fam (by simp;omega) rfl rfl ?_
 intro v1 M4 k1 k2 k3
 have bt:=r.cells k2 b3
 have c3:=r.cells k2 bj
 have a3:=a4.beside ar k2
 have an:=r.push ak k1 k3
 have ap:=a4.apart ar k3
 have b4:=b7.trans ((r.low ak k2).le (by omega))
 have am:q+1<=M4.length:=by have:=k2.1;omega
 simp -dsimp -implicitDefEqProofs[t1,t2,t3,t4,t8,w,z,b,g]
 refine A7Q (C:=WC gl) (enc:=IdD.row) (e:=23) (sz:=3) (news:=k.2.1) (o:=.no) C1L C7N C8z a3.fam (by simp only[Z0B];omega) rfl rfl ?_
 intro v2 M5 k4 k5 k6
 have bd:=a3.cells k5 bt
 have a7:=an.beside ap.symm k5
 have bf:=a3.push am k4 k6
 have a6:=(an.apart ap.symm k6).symm
 have bg:=b4.trans ((a3.low am k5).le (by omega))
 have ax:A0l (some 1) M5 (.ptr q 7) v1=some (M5.set q (ouC x.kind l[n].label (.list 4 (A0g H) .no) (.list 4 (A0g (W.1.map A3v)) .no) v1)):=by rw[A0f bd,a7.fam.cells,Z0d ⟨a7.fam.store,by simp,rfl⟩];rfl
 have bm:q<M5.length:=(Z0c.1 bd).1
 have fin:T=T->(∃e,e=A4r (A.foldl (λe k=>A4r e k.2.2) (B0I W)) k.2.2):=λ_=>⟨_,rfl⟩
 have g1:(((A2a l n (j+1)).map (A1N F l s f)).foldl (λe k=>A4r e k.2.2) (B0I W))=A4r (A.foldl (λe k=>A4r e k.2.2) (B0I W)) k.2.2:=by rw[ah,Z2n];rfl
 have g2:Fm 8 A0b.row (q+1) (M5.set q (ouC x.kind l[n].label (.list 4 (A0g H) .no) (.list 4 (A0g (W.1.map A3v)) .no) v1)) v1 (((A2a l n (j+1)).map (A1N F l s f)).map (·.1)):=by rw[ah,Z0Q];exact a7.setq (by omega)
 have g3:Fm 3 IdD.row (q+1) (M5.set q (ouC x.kind l[n].label (.list 4 (A0g H) .no) (.list 4 (A0g (W.1.map A3v)) .no) v1)) v2 (x.id::((A2a l n (j+1)).map (A1N F l s f)).flatMap (·.2.1)):=by
  rw[ah,Z1y];have e:x.id::(A.flatMap (λy=>y.2.1)++[k].flatMap (λy=>y.2.1))=(x.id::A.flatMap (λy=>y.2.1))++k.2.1:=by simp
  rw[e];exact bf.setq (by omega)
 have g4:(((A2a l n (j+1)).map (A1N F l s f)).flatMap (·.2.1)).length<=(j+1)*1000:=by
  rw[ah,Z1y,Z0z];have e:[k].flatMap (λy=>y.2.1)=k.2.1:=by simp
  rw[e];clear w1 w0;omega
 have ab:(M5.set q (ouC x.kind l[n].label (.list 4 (A0g H) .no) (.list 4 (A0g (W.1.map A3v)) .no) v1))[q]?=some (ouC x.kind l[n].label (.list 4 (A0g H) .no) (.list 4 (A0g (W.1.map A3v)) .no) v1):=by simp[bm]
 have gk:=bg.setq (X:=ouC x.kind l[n].label (.list 4 (A0g H) .no) (.list 4 (A0g (W.1.map A3v)) .no) v1) (Z0u q)
 generalize bx:M5.set q (ouC x.kind l[n].label (.list 4 (A0g H) .no) (.list 4 (A0g (W.1.map A3v)) .no) v1)=M6 at*
 have gm:(((A2a l n (j+1)).map (A1N F l s f)).flatMap (·.2.1)).length=((A2a l n (j+1)).map ((λa=>a.2.1.length)∘A1N F l s f)).sum:=by rw[Z3K,Z1L]
 rw[Z1L]at g2
 have ge:∀c d:Int,(d=6\/c=0)->A4r c d=d:=λc d h=>Z0d h
 have gn:∀c d:Int,¬(d=6\/c=0)->A4r c d=c:=λc d h=>Z0e h
 generalize A.foldl (λe k=>A4r e k.2.2) (B0I W)=ce at*
 by_cases q6:k.2.2=6
 .have:=ge ce k.2.2 (.inl q6);simp -dsimp -implicitDefEqProofs[t1,t2,t3,t4,t8,w,z,b,g,ax,q6,w1];exact⟨⟨j+1,by clear w1 w0;omega,by clear w1 w0;omega,rfl,by rw[g1,this,q6],gk,v1,ab,g2,g3,a6,by rw[<-gm];exact g4⟩,by clear w1 w0;omega⟩
 .by_cases q0:ce=0
  .have:=ge ce k.2.2 (.inr q0);simp -dsimp -implicitDefEqProofs[t1,t2,t3,t4,t8,w,z,b,g,ax,q6,q0,w1];exact⟨⟨j+1,by clear w1 w0;omega,by clear w1 w0;omega,rfl,by rw[g1,this],gk,v1,ab,g2,g3,a6,by rw[<-gm];exact g4⟩,by clear w1 w0;omega⟩
  .have:=gn ce k.2.2 (λh=>h.elim q6 q0);simp -dsimp -implicitDefEqProofs[t1,t2,t3,t4,t8,w,z,b,g,ax,q6,q0,w1];exact⟨⟨j+1,by clear w1 w0;omega,by clear w1 w0;omega,rfl,by rw[g1,this],gk,v1,ab,g2,g3,a6,by rw[<-gm];exact g4⟩,by clear w1 w0;omega⟩
end
open Go.Proofs TryTypes
def B4T(w:A0G):Prop:=w.act=0/\w.item=0/\w.at_=0
mutual
def A5p:A0b->Prop
 |.mk id _ _ h w ks=>id=idZ/\(∀x∈h,B4T x)/\(∀x∈w,B4T x)/\B9v ks
def B9v:List A0b->Prop
 |[]=>True
 |k::ks=>A5p k/\B9v ks
end
def B5g:∀{ks:List A0b},B9v ks<->∀k∈ks,A5p k
 |[]=>by simp[B9v]
 |k::ks=>by simp[B9v,B5g (ks:=ks)]
def A9J(u:A0b):A5p u<->u.id=idZ/\(∀x∈u.head,B4T x)/\(∀x∈u.words,B4T x)/\∀k∈u.kids,A5p k:=by obtain⟨a,b,c,d,e,f⟩:=u;rw[A5p,B5g];rfl
def D0i{w}(h:B4T w):w.row=[S w.text,I 0,I 0,I 0]:=by obtain⟨h1,h2,h3⟩:=h;simp[A0G.row,h1,h2,h3]
def B9z(F:IdD->Option A0b)(l:List A0L)(s:List A2k):∀f n,A5p (A1N F l s f n).1
 |0,n=>by rw[A1N,C7J,A5p];exact⟨rfl,by simp,by simp,trivial⟩
 |f+1,n=>by
  rw[A1N,A5p,B5g];refine⟨rfl,λx hx=>?_,λx hx=>?_,λk hk=>?_⟩
  .obtain⟨y,_,rfl⟩:=Z0W.1 hx;exact⟨rfl,rfl,rfl⟩
  .obtain⟨y,_,rfl⟩:=Z0W.1 hx;exact⟨rfl,rfl,rfl⟩
  .rw[Z1L]at hk;obtain⟨y,_,rfl⟩:=Z0W.1 hk;exact B9z F l s f y
mutual
def C4t:∀u:A0b,A5p u->∀x∈A0X u,x=idZ
 |.mk id _ _ _ _ ks,h,x,hx=>by
  rw[A5p]at h;rw[A0X]at hx;rcases Z0F.1 hx with rfl|hx
  .exact h.1
  .exact C0X ks h.2.2.2 x hx
def C0X:∀ks:List A0b,B9v ks->∀x∈A9M ks,x=idZ
 |[],_,x,hx=>by rw[A9M]at hx;simp at hx
 |k::ks,h,x,hx=>by
  rw[B9v]at h;rw[A9M]at hx;rcases Z1b.1 hx with hx|hx
  .exact C4t k h.1 x hx
  .exact C0X ks h.2 x hx
end
def D0m{u}(h:A5p u):C1F u=true:=by rw[C4w];unfold C5n;rw[show(A0X u).all (λx=>decide (x=idZ))=true from Z0r.2 λx hx=>Z0p (C4t u h x hx)];rfl
def A7u(u:A0b):Bool:=A2T u&&decide (A2f u<=8)&&decide (A0x u<=1024)
def B8j{u}(h:A5p u):B0o u=A7u u:=by rw[B0o,D0m h,Z2p,B1C];rfl
def A6E:A0b->A0b
 |.mk _ k l h w _=>.mk idZ k l h w []
def C9Q{u}(h:A4t u=true):A7u (A6E u)=true:=by
 obtain⟨a,b,c,d,e,f⟩:=u;have h2:A4t (.mk idZ b c d e [])=true:=by unfold A4t at h|-;simp only[Z0f,Z0o]at h|-;exact⟨⟨⟨⟨h.1.1.1.1,by simp[A0b.kids]⟩,h.1.1.2⟩,h.1.2⟩,h.2⟩
 simp only[A6E,A7u,A2T,A4M,h2,A2f,A3h,A0x,A0V];rfl
def B5e(u:A0b):Int:=if A7u u=true then if 16384<A4O (A4c 0 u)then 6 else 0 else 1
def D1C(u:A0b):(B0F 0 u&&decide (A0x u<=1024))=A7u u:=by rw[B5Y,A7u];simp
end Go.Abs
