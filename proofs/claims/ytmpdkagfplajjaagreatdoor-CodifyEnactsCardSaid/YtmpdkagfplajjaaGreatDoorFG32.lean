/- The texts CaR, CaS, CbU, CbT, CbD, CbE, CbF, CbG0, CbG, CbA0, CbA, CbB, CbC, CbH, CbI, CbK0. -/
import Derived.Test.YtmpdkagfplajjaaGreatDoorFG31
import Derived.Test.YtmpdkagfplajjaaGreatDoorFG23
import Derived.Test.YtmpdkagfplajjaaGreatDoorFG25
import Derived.Test.YtmpdkagfplajjaaGreatDoorFG28
set_option linter.all false
set_option maxRecDepth 100000
namespace Go.Abs
open Go.Proofs TryTypes Tryz
section
variable (gl:Nat->AV)
def C1E(l:List A0S)(a b c:Nat)(n:Int)(M:Mem)(hn:n<0):A0d (WC gl) 224 [B1w l a b c,I n] M (λv M'=>A1n 159 2 A0I.row M' v [A3k]/\Grow M M'/\A1r M.length v):=by
 refine A0j (hQ [9,26]) func224 ?_
 simp -dsimp -implicitDefEqProofs[hn,B8H]
 refine⟨.inr ⟨M.length,0,[(0,1)],rfl,by simp[A0I.row,A3k],rfl⟩,A0c.app none _ _,λf hf=>by simp at hf;omega⟩
end
section
variable (gl:Nat->AV)
def D6c(F:IdD->Option A0a)(l:List A0S):∀f n,A5O F l f n≠[]
 |0,n=>by simp[A5O]
 |f+1,n=>by rw[A5O];split<;>simp
def B5q(F:IdD->Option A0a)(l:List A0S):∀f n,(A5O F l f n).length<=f+1
 |0,n=>by simp[A5O]
 |f+1,n=>by have:=B5q F l f (A3w l n);rw[A5O];split<;>simp<;>omega
def D3I(l:List A0S)(L:List (IdD×A0a))(a b c:Nat)(hl:l.length<=1000)(y:∀j,j<l.length->B2A l j):∀(f:Nat) (n:Int) (M:Mem),n<l.length->n<f->f<=2000->A2a A2M B4D M a L->A0d (WC gl) 224 [B1w l a b c,I n] M (λv M'=>A1n 159 2 A0I.row M' v (A5O (A1L L) l f n)/\Grow M M'/\A1r M.length v):=by
 intro f
 induction f with
 |zero=>intro n M h1 h2 _ hM;exact C1E gl l a b c n M (by omega)
 |succ f ih=>
  intro n M h1 h2 a8 hM
  by_cases hn:n<0
  .rw[A5O,Z0d hn];exact C1E gl l a b c n M hn
  .refine A0j (hQ [9,26]) func224 ?_;(have d:n.toNat<l.length:=by omega);have s:0<=n/\n<l.length:=⟨by omega,h1⟩;simp -dsimp -implicitDefEqProofs[hn,s,d,A0S.row,A0m,A0n,A0e];obtain⟨x,hx⟩:∃x,x=l[n.toNat]:=⟨_,rfl⟩;rw[<-hx];obtain⟨M1,p⟩:∃M1,M1=M++[A0l.cells 69 [I x.id.act,I x.id.item,I x.id.n,I x.parent,S x.label]]:=⟨_,rfl⟩;(have g:M1[M.length]?=some (A0l.cells 69 [I x.id.act,I x.id.item,I x.id.n,I x.parent,S x.label]):=by rw[p];simp);(have u:Grow M M1:=by rw[p];exact A0c.app none _ _);have w:=hM.keep u (by simp);rw[<-p];(have a3:A3w l n=x.parent:=by simp[A3w,d,hx]);(have a7:B1T l n.toNat=x.label:=by simp[B1T,d,hx]);have a6:=y n.toNat d n.toNat d (Z0o _);rw[<-hx]at a6;(have a4:x.parent<f:=by omega);(have z:x.parent<l.length:=by omega);(have a0:A5O (A1L L) l (f+1) n=A5O (A1L L) l f x.parent++[⟨A4U (A1L L) l n,x.label⟩]:=by rw[A5O,Z0e hn,a3,a7]);have a1:=A0d.repack (enc:=A0I.row) (e:=159) (sz:=2) (λ_=>rfl) (λn x=>by simp[A0I.row,A1Q,bdd]) (D6c (A1L L) l f x.parent) (ih x.parent M1 z a4 (by omega) w);rw[a0];have hAl:=B5q (A1L L) l f x.parent;generalize hA:A5O (A1L L) l f x.parent=A at*;refine A5r (hQ [9,26]) (A0G gl) (λk=>if k=2\/k=8 then 1 else if k=3\/k=6\/k=11 then 2 else 0) (λ_=>M.length) (λ_=>false) [M.length] (by intros;simp) (by rfl) (by kernel_rfl) ?_;simp -dsimp -implicitDefEqProofs[A0b g];refine A5f (A1Y func224 rfl rfl a1) ?_;obtain⟨M2,t⟩:∃M2,M2=M1++[A0l.vec 159 2 (A.flatMap A0I.row) 0 [(0,A.length)]]:=⟨_,rfl⟩;(have i:Grow M1 M2:=by rw[t];exact A0c.app none _ _);have a5:A1n 159 2 A0I.row M2 (.vref M1.length 0 2 0 A.length) A:=.inr ⟨M1.length,0,[(0,A.length)],rfl,by rw[t];simp,by simp⟩;(have o:M2[M.length]?=M1[M.length]?:=by rw[g];exact i.get g (by simp));have a2:=w.keep i (by simp);rw[<-t];refine⟨by intro r hr;simp only[Z1m]at hr;subst hr;exact o,?_⟩;simp -dsimp -implicitDefEqProofs;refine A5f (A1Y func151 rfl rfl (B7I gl l L a b c n M2 a2 (by omega))) ?_;simp -dsimp -implicitDefEqProofs[A0b (o.trans g),A0p,A0Z];refine A3V (C:=WC gl) (enc:=A0I.row) (e:=159) (sz:=2) (news:=[⟨A4U (A1L L) l n,x.label⟩]) B5t C1e B5B (λ_=>rfl) a5 (by simp[A0z,A0I.row]) (by simp;omega) rfl ?_;intro v' M3 k1 k2 k3 _;have a9:M.length<M1.length:=(Z0b.1 g).1;refine⟨by intro r hr;simp only[Z1m]at hr;subst hr;exact k2.2 _ (by have:=i.1;omega) (by simp;omega),?_⟩;simp -dsimp -implicitDefEqProofs;have m:=u.trans i;refine⟨k1,⟨Z0S m.1 k2.1,λj hj _=>?_⟩,λq hq=>?_⟩
   .rw[k2.2 j (by have:=m.1;omega) (by simp;omega)];exact m.2 j hj (by simp)
   .rcases k3 with h|h
    .rw[h]at hq;simp at hq;omega
    .have:=h q hq;have:=m.1;omega
end
open Go.Proofs TryTypes
def A0d.dataX{C}{f}{args}{M}{X}(h:A0d C f args M (λv M'=>Grow M M'/\Still M' M.length (bdd M.length) [v] [X])):A0d C f args M (λd M'=>d=X/\M'=M):=A0d.data (Q:=λd=>d=X) (h.mono λ_ _ h=>⟨h.1,X,h.2,rfl⟩)
def C6c{α:Type}{f:α->List AV}{n}(h:∀x,A1Q n (f x)):∀l:List α,A9S n (l.map f)
 |[]=>by simp[A9S]
 |x::l=>by simp only[Z0B,A9S];exact⟨h x,C6c h l⟩
def A7U{α:Type}{f:α->List AV}{n sz}(h:∀x,A1Q n (f x))(l:List α):bdd n (.list sz (l.map f) .no):=by simp only[bdd,Z1N];exact C6c h l
def C0e(n:Nat)(x:A0I):A1Q n x.row:=by simp[A0I.row,A1Q,bdd]
def C8M(n:Nat)(x:IdD):A1Q n x.row:=by simp[IdD.row,A1Q,bdd]
def B3Q(n:Nat)(p:List A0I):bdd n (A6X p):=A7U (C0e n) p
def C4N(n:Nat)(c:A1G):A1Q n c.row:=by simp only[A1G.row,A1Q,Z1N];exact⟨trivial,B3Q n _,trivial,trivial,trivial⟩
def C1Z{M}{n sz}{ok:AV->Prop}:Still M n ok [.val (.slice none 0 0)] [.list sz [] .no]:=.nilS .nil
def A2W{α:Type}{M}{n e sz}{enc:α->List AV}{v}{l}(he:∀x,(enc x).length=sz)(hb:∀n x,A1Q n (enc x))(h:A1n e sz enc M v l)(hn:A1r n v):Still M n (bdd n) [v] [.list sz (l.map enc) .no]:=Still.rows he (λx c hc=>bddL_mem (hb n x) hc) h hn .nil
where
 bddL_mem {n:Nat}:∀{cs:List AV} {c:AV},A1Q n cs->c∈cs->bdd n c
  |d::cs,c,h,hc=>by
   simp only[A1Q]at h;rcases Z0A.1 hc with rfl|hc
   .exact h.1
   .exact bddL_mem h.2 hc
abbrev A4y(l:List IdD):List (List AV):=l.map IdD.row
def A3P(s:List A1R):List (List AV):=s.map A1R.row
@[simp] def E1B(l:List A1R):(A3P l).length=l.length:=by simp[A3P]
@[simp] def E2b{p}{i}(h:i<(A3P p).length):(A3P p)[i]=(p[i]'(by simpa using h)).row:=by simp[A3P]
def A8B(a b:AV):Prop:=∀f,obj a=some f->obj b≠some f
def A8B.symm{a b}(h:A8B a b):A8B b a:=λf h1 h2=>h f h2 h1
def A8B.nil{b}:A8B (.val (.slice none 0 0)) b:=λf h=>by simp at h
structure Arr {α:Type} (e sz:Nat) (enc:α->List AV) (n:Nat) (M:Mem) (v:AV) (l:List α):Prop where
 own:A1n e sz enc M v l
 lat:A1r n v
section
variable {α β:Type} {e e2 sz sz2 n:Nat} {enc:α->List AV} {enc2:β->List AV} {M M':Mem} {v v' u:AV} {l news:List α} {r:List β}
def Arr.nil:Arr e sz enc n M (.val (.slice none 0 0)) []:=⟨.nil,λf h=>by simp at h⟩
def Arr.keep(h:Arr e sz enc n M v l)(hk:Grow M M'):Arr e sz enc n M' v l:=⟨h.own.keep hk (by simp),h.lat⟩
def Arr.beside(h:Arr e2 sz2 enc2 n M u r)(ha:A8B v u)(hk:A0c (obj v) M M'):Arr e2 sz2 enc2 n M' u r:=⟨h.own.keep hk (λf hf hv=>ha f hv hf),h.lat⟩
def Arr.later(h:Arr e sz enc n M v l)(hn:n<=M.length)(h3:obj v'=obj v\/A1r M.length v'):A1r n v':=λf hf=>by
 rcases h3 with h3|h3
 .exact h.lat f (h3▸hf)
 .have:=h3 f hf;omega
def Arr.apart(h:Arr e2 sz2 enc2 n M u r)(ha:A8B v u)(h3:obj v'=obj v\/A1r M.length v'):A8B v' u:=λf hf hu=>by
 rcases h3 with h3|h3
 .exact ha f (h3▸hf) hu
 .have:=h3 f hf;have:=h.own.lt hu;omega
def Arr.grow{M0}(h:Arr e sz enc M0.length M v l)(hg:Grow M0 M)(hk:A0c (obj v) M M'):Grow M0 M':=⟨Z0S hg.1 hk.1,λi hi _=>by rw[hk.2 i (by have:=hg.1;omega) (λe=>by have:=h.lat _ e;omega)];exact hg.2 i hi (by simp)⟩
end
def Arr.cells{α:Type}{e sz n q t:Nat}{enc:α->List AV}{M M':Mem}{v:AV}{l:List α}{xs:List AV}(h:Arr e sz enc n M v l)(hk:A0c (obj v) M M')(hq:M[q]?=some (.cells t xs)):M'[q]?=some (.cells t xs):=hk.get hq λe=>by
 rcases h.own with⟨rfl,_⟩|⟨f,g,a,rfl,hm,_⟩
 .simp at e
 .simp only[D6l,Z0a]at e;subst e;rw[hm]at hq;simp at hq
abbrev C8X(p:List A0I):List AV:=[A6X p]
structure Tri (M M1:Mem) (v1 v2 v3:AV) (A B:List A1G) (C:List (List A0I)):Prop where
 grow:Grow M M1
 h1:Arr 110 5 A1G.row M.length M1 v1 A
 h2:Arr 110 5 A1G.row M.length M1 v2 B
 h3:Arr 40 1 C8X M.length M1 v3 C
 a12:A8B v1 v2
 a13:A8B v1 v3
 a23:A8B v2 v3
section
variable {M M1 M2:Mem} {v1 v2 v3 v':AV} {A B A' B':List A1G} {C C':List (List A0I)}
def Tri.keep(h:Tri M M1 v1 v2 v3 A B C)(hk:Grow M1 M2):Tri M M2 v1 v2 v3 A B C:=⟨h.grow.trans hk,h.h1.keep hk,h.h2.keep hk,h.h3.keep hk,h.a12,h.a13,h.a23⟩
def Tri.push1(h:Tri M M1 v1 v2 v3 A B C)(q1:A1n 110 5 A1G.row M2 v' A')(q2:A0c (obj v1) M1 M2)(q3:obj v'=obj v1\/A1r M1.length v'):Tri M M2 v' v2 v3 A' B C:=⟨h.h1.grow h.grow q2,⟨q1,h.h1.later h.grow.1 q3⟩,h.h2.beside h.a12 q2,h.h3.beside h.a13 q2,h.h2.apart h.a12 q3,h.h3.apart h.a13 q3,h.a23⟩
def Tri.push2(h:Tri M M1 v1 v2 v3 A B C)(q1:A1n 110 5 A1G.row M2 v' B')(q2:A0c (obj v2) M1 M2)(q3:obj v'=obj v2\/A1r M1.length v'):Tri M M2 v1 v' v3 A B' C:=⟨h.h2.grow h.grow q2,h.h1.beside h.a12.symm q2,⟨q1,h.h2.later h.grow.1 q3⟩,h.h3.beside h.a23 q2,(h.h1.apart h.a12.symm q3).symm,h.a13,h.h3.apart h.a23 q3⟩
def Tri.push3(h:Tri M M1 v1 v2 v3 A B C)(q1:A1n 40 1 C8X M2 v' C')(q2:A0c (obj v3) M1 M2)(q3:obj v'=obj v3\/A1r M1.length v'):Tri M M2 v1 v2 v' A B C':=⟨h.h3.grow h.grow q2,h.h1.beside h.a13.symm q2,h.h2.beside h.a23.symm q2,⟨q1,h.h3.later h.grow.1 q3⟩,h.a12,(h.h1.apart h.a13.symm q3).symm,(h.h2.apart h.a23.symm q3).symm⟩
end
def B2Z.keep{l}{L}{a b c}{M M1}(h:B2Z l L a b c M)(hk:Grow M M1):B2Z l L a b c M1:=by obtain⟨p1,⟨IL,p2,p3⟩,KL,p4,p5⟩:=h;exact⟨p1.keep hk (by simp),⟨IL,p2.keep hk (by simp),p3⟩,KL,p4.keep hk (by simp),λq=>(p5 q).keep hk (by simp)⟩
def C0n(n:Nat)(s:ByteArray):A1Q n (A5F s):=by simp[A1Q,bdd]
def D1x(l:List ByteArray):l.map S=l.flatMap A5F:=by
 induction l with
 |nil=>rfl
 |cons a l ih=>rw[Z0B,Z1f,ih];rfl
def A4x.toT{M M'}{l}{v}(h:A4x M l v M'):A1n 9 1 A5F M' v l/\Grow M M'/\A1r M.length v:=by
 have e:=D1x;obtain⟨h1,h2,h3⟩:=h;refine⟨?_,h2,h3⟩;rcases h1 with⟨rfl,hn⟩|⟨f,g,a,rfl,hm,hl⟩
 .exact .inl ⟨rfl,by simpa using hn⟩
 .rw[Z0V]at*;exact .inr ⟨f,g,a,rfl,by rw[<-e];exact hm,hl⟩
section
variable {l:List ByteArray} {old:List A1G} {names:List (List A0I)} {B:Nat}
def C5Y(a:List ByteArray)(s:ByteArray):(A7p a s).length=a.length:=by simp[A7p]
def C0D{xs ys}{s}(hB:17<=B)(hx:∀t∈xs,t.size<=B)(hy:∀t∈ys,t.size<=16)(hn:ys≠[])(hs:s.size<=1):∀t∈A7p (xs++ys) s,t.size<=B:=by
 intro t ht;have hm:=hy _ (C7r (xs:=xs) hn);rcases Z3X ht with h|h
 .rcases Z0Y.1 h with h|h
  .exact hx t h
  .have:=hy t h;omega
 .rw[h,Z0x];omega
def C6J(hB:17<=B)(hl:∀t∈l,t.size<=B){i}{out}{e}{r}(ho:∀t∈out,t.size<=B)(h:B4A l old names i out e=some r):(∀t∈r.1,t.size<=B)/\r.1.length<=out.length+l.length+19:=by
 unfold B4A at h;split at h;case h_2=>exact absurd h (by simp)
 rename_i c p hc hp;split at h
 .exact absurd h (by simp)
 rename_i hne;simp only[Z2N]at hne;have hw:∀t∈A4n p,t.size<=16:=B6K;have b:=C2E p;have a:C2S.size=3:=rfl;simp only[Z0a]at h;have h1:∀t∈(if A5e old i=true then out++[C2S]else out++(l.take c.frm.toNat).drop e.toNat),t.size<=B:=by
  intro t ht;split at ht
  .rcases Z0Y.1 ht with q|q
   .exact ho t q
   .simp only[Z1m]at q;rw[q,a];omega
  .rcases Z0Y.1 ht with q|q
   .exact ho t q
   .exact hl t (Z1p (Z1s q))
 have h2:(if A5e old i=true then out++[C2S]else out++(l.take c.frm.toNat).drop e.toNat).length<=out.length+l.length+1:=by
  split
  .rw[Z0v,List.length_singleton];omega
  .simp only[Z0v,Z1w,Z0F];omega
 generalize(if A5e old i=true then out++[C2S]else out++(l.take c.frm.toNat).drop e.toNat)=X at*;rw[<-h];refine⟨?_,?_⟩
 .simp only;split
  .exact C0D hB h1 hw hne.1 (B4d _)
  .intro t ht;rcases Z0Y.1 ht with q|q
   .exact h1 t q
   .have:=hw t q;omega
 .simp only;split
  .rw[C5Y,Z0v];omega
  .rw[Z0v];omega
def B8x(hB:17<=B)(hl:∀t∈l,t.size<=B):∀(n i:Nat) (a:List ByteArray) (e:Int),(∀t∈a,t.size<=B)->(∀t∈B5M l old names n i a e,t.size<=B)/\(B5M l old names n i a e).length<=a.length+n*(l.length+19)+l.length
 |0,i,a,e,ho=>by
  rw[B5M];refine⟨λt ht=>?_,by simp only[Z0v,Z1w];omega⟩;rcases Z0Y.1 ht with q|q
  .exact ho t q
  .exact hl t (Z1s q)
 |n+1,i,a,e,ho=>by
  rw[B5M];cases hs:B4A l old names i a e with
  |none=>exact⟨hl,by simp only;omega⟩
  |some r=>obtain⟨k1,k2⟩:=C6J hB hl ho hs;obtain⟨q1,q2⟩:=B8x hB hl n (i+1) r.1 r.2 k1;refine⟨q1,?_⟩;simp only;rw[Z0L];omega
def A8x(hB:17<=B)(hl:∀t∈l,t.size<=B):(∀t∈A6P l old names,t.size<=B)/\(A6P l old names).length<=old.length*(l.length+19)+l.length:=by
 unfold A6P;split
 .obtain⟨a,b⟩:=B8x (old:=old) (names:=names) hB hl old.length 0 [] 0 (by simp);exact⟨a,by simpa using b⟩
 .exact⟨hl,by omega⟩
end
section
variable (cs:List A1G) (nm:Nat->List (List A0I))
def C2N(i:Nat)(h:i<cs.length):A8L cs nm (i+1)=A8L cs nm i++(nm i).map λ_=>cs[i]:=by simp[A8L,Z2U,h]
def C1n(i:Nat):B1d nm (i+1)=B1d nm i++nm i:=by simp[B1d,Z2U]
def B8l(i:Nat)(h:i<cs.length):A7v cs nm (i+1)=A7v cs nm i++if nm i=[]then[cs[i]]else(nm i).map λp=>⟨0,p,⟨#[]⟩,0,0⟩:=by simp[A7v,Z2U,h]
def B1o{K}(hk:∀i,(nm i).length<=K):∀i,(A8L cs nm i).length<=i*K
 |0=>by simp[A8L]
 |i+1=>by
  have:=B1o hk i;have:=hk i;by_cases h:i<cs.length
  .rw[C2N cs nm i h,Z0v,Z0V,Z0L];omega
  ·(have e:A8L cs nm (i+1)=A8L cs nm i:=by simp[A8L,Z2U,h]);rw[e,Z0L];omega
def C5n{K}(hk:∀i,(nm i).length<=K):∀i,(B1d nm i).length<=i*K
 |0=>by simp[B1d]
 |i+1=>by have:=C5n hk i;have:=hk i;rw[C1n,Z0v,Z0L];omega
def B5N{K}(hk:∀i,(nm i).length<=K):∀i,(A7v cs nm i).length<=i*(K+1)
 |0=>by simp[A7v]
 |i+1=>by
  have:=B5N hk i;have:=hk i;by_cases h:i<cs.length
  .rw[B8l cs nm i h,Z0v,Z0L];split
   .simp;omega
   .rw[Z0V];omega
  ·(have e:A7v cs nm (i+1)=A7v cs nm i:=by simp[A7v,Z2U,h]);rw[e,Z0L];omega
def D5B{i}{p}(h:p∈B1d nm i):∃j,p∈nm j:=by simp only[B1d,Z3c]at h;obtain⟨j,_,h⟩:=h;exact⟨j,h⟩
end
def B1Y{F:IdD->Option A0a}{l}{s}{id}{n}{K}(h:∀m∈s,m.to.length<=K):(A2U F l s id n).length<=K:=by
 have ht:(D4k s id n).length<=K:=by
  unfold D4k;split
  .rename_i m hm;exact h m (Z3h hm)
  .simp
 unfold A2U;split
 .rw[Z0V];exact ht
 .simp
def B8v{F:IdD->Option A0a}{l}(hs:∀s∈l,s.good):∀f n,∀x∈A5O F l f n,x.lab.size<=maxLen
 |0,n,x,hx=>by simp only[A5O,Z1m]at hx;subst hx;simp[A3k,maxLen,ByteArray.size]
 |f+1,n,x,hx=>by
  rw[A5O]at hx;split at hx
  .simp only[Z1m]at hx;subst hx;simp[A3k,maxLen,ByteArray.size]
  .rcases Z0Y.1 hx with h|h
   .exact B8v hs f _ x h
   .simp only[Z1m]at h;subst h;simp only[B1T];split
    .rename_i s hs';exact(hs _ (Z3b hs')).2.2
    .simp[maxLen,ByteArray.size]
def C0P{F:IdD->Option A0a}{l}{s}{id}{n}(hl:l.length<=1000)(hs:∀s∈l,s.good):∀p∈A2U F l s id n,C8R p:=by
 intro p hp;unfold A2U at hp;split at hp
 .obtain⟨y,_,rfl⟩:=Z0J.1 hp;refine⟨?_,B8v hs _ _⟩;have:=B5q F l ((A3h l y).getD 0+1) (((A3h l y).getD 0:Nat):Int);have:(A3h l y).getD 0<=l.length:=by
   cases h:A3h l y with
   |none=>simp
   |some k=>have:=(Z3n.1 h).1;simp only[Z1I];omega
  omega
 .simp at hp
def isM(id:IdD)(n:Int)(m:A1R):Bool:=decide (m.at_=id)&&decide (m.n=n)
def D7R(s:List A1R)(id:IdD)(n:Int):D4k s id n=match s.find? (isM id n)with|some m=>m.to|none=>[]:=rfl
def C1x{α:Type}(p:α->Bool):∀(l:List α) (j:Nat),(A3R p l j=-1/\l.find? p=none)\/∃k:Nat,A3R p l j=((j+k:Nat):Int)/\∃h:k<l.length,l.find? p=some l[k]
 |[],j=>.inl ⟨rfl,rfl⟩
 |x::l,j=>by
  rw[A3R,Z3G];cases c:p x with
  |true=>exact .inr ⟨0,by simp,by simp,by simp⟩
  |false=>
   simp only[Z0K,Z1l];rcases C1x p l (j+1)with h|⟨k,h1,h2,h3⟩
   .exact .inl h
   .exact .inr ⟨k+1,by rw[h1];congr 1;omega,by simpa using h2,by rw[h3];simp⟩
def C2M{α:Type}{p:α->Bool}{l}{i}(hi:i<l.length)(h:A3R p l 0=A3R p (l.drop i) i):A3R p l 0=if p l[i]=true then(i:Int)else A3R p (l.drop (i+1)) (i+1):=by rw[h,Z0j hi,A3R]
section
variable (gl:Nat->AV)
def E0R(m:A1R)(id:IdD)(n:Int)(M:Mem):A0d (WC gl) 223 [.agg m.row,.cptr [I id.act,I id.item,I id.n],.cptr [I n]] M (λv M'=>v=B (isM id n m)/\M'=M):=by
 refine A0j hB func223 ?_;have he:=B5z m.at_ id;by_cases c:m.at_=id
 .rw[Z0s c]at he;simp -dsimp -implicitDefEqProofs[A1R.row,he,isM,Z0s c];rfl
 .rw[Z0w c]at he;simp -dsimp -implicitDefEqProofs[A1R.row,he,isM,c]
def D7D(s:List A1R)(id:IdD)(n:Int)(M:Mem)(hl:s.length<=1000):A0d (WC gl) 222 [.list 5 (A3P s) .no,.func (.func 223) [] [.cptr [I id.act,I id.item,I id.n],.cptr [I n]]] M (λv M'=>v=I (A3R (isM id n) s 0)/\M'=M):=by
 refine A0j hB func222 ?_;simp -dsimp -implicitDefEqProofs;refine A0v hB s.length 8 (λT M1=>∃i:Nat,M1=M/\i<=s.length/\T 0=.list 5 (A3P s) .no/\T 1=.func (.func 223) [] [.cptr [I id.act,I id.item,I id.n],.cptr [I n]]/\T 7=I s.length/\T 8=I i/\A3R (isM id n) s 0=A3R (isM id n) (s.drop i) i) ?_ ?_
 .exact⟨0,rfl,by omega,by simp,by simp,by simp,by simp,by simp⟩
 rintro T M1 ⟨i,rfl,h1,t0,t1,t7,t8,h2⟩;by_cases hi:i<s.length
 .have a:(i:Int)<s.length:=by omega
  have w1:=A1y (i:=i) (by omega);have h3:=C2M hi h2;have hm:=E0R gl s[i] id n M1;simp only[A1R.row]at hm;simp -dsimp -implicitDefEqProofs[t0,t1,t7,t8,hi,a,A1R.row];refine A0f func223 hm ?_;cases c:isM id n s[i]with
  |true=>rw[c,Z0d rfl]at h3;simp -dsimp -implicitDefEqProofs[h3]
  |false=>rw[c,Z0e (by simp)]at h3;simp -dsimp -implicitDefEqProofs[t0,t1,t7,t8,w1];exact⟨⟨i+1,by clear w1;omega,rfl,h3⟩,by clear w1;omega⟩
 .have a:¬(i:Int)<s.length:=by omega
  rw[Z0n (by omega)]at h2;simp -dsimp -implicitDefEqProofs[t7,t8,a,h2,A3R]
def E0r:A7I prog 3=some (I 0):=D6m
def C8e(F:IdD->Option A0a)(s:List A1R)(l:List A0S)(L:List (IdD×A0a))(hF:A1L L=F)(a b c:Nat)(id:IdD)(n:Int)(M:Mem)(hP:B2Z l L a b c M)(hl:l.length<=1000)(hs:s.length<=1000)(ht:∀m∈s,m.to.length<=1000)(a6:∀j,j<l.length->B2A l j):A0d (WC gl) 176 [B1w l a b c,.list 5 (A3P s) .no,.agg id.row,I n] M (λv M'=>v=.list 1 (A7o (A2U F l s id n)) .no/\M'=M):=by
 subst hF
 refine A0d.dataX ?_
 refine A0j (hQ [44]) func176 ?_
 simp -dsimp -implicitDefEqProofs[IdD.row]
 refine A0f func222 (D7D gl s id n M hs) ?_
 have f:=D7R s id n
 rcases C1x (isM id n) s 0 with⟨h1,h2⟩|⟨k,h1,h2,h3⟩
 .rw[h2]at f;have hn:A2U (A1L L) l s id n=[]:=by simp[A2U,f]
  simp -dsimp -implicitDefEqProofs[h1];rw[hn];exact⟨Grow.refl _,C1Z⟩
 rw[h3]at f
 simp only at f
 obtain⟨T0,a2⟩:∃t,t=s[k].to:=⟨_,rfl⟩
 rw[<-a2]at f
 have ad:T0.length<=1000:=by rw[a2];exact ht _ (Z0u h2)
 rw[Z0I]at h1
 have k1:¬(k:Int)<0:=by omega
 have k2:(k:Int)<s.length:=by omega
 simp -dsimp -implicitDefEqProofs[h1,k1,k2,h2,A1R.row]
 rw[<-a2]
 obtain⟨IL,ab,a9⟩:=hP.ix
 refine A0v (hQ [44]) T0.length 26 (λT M1=>∃i:Nat,Grow M M1/\i<=T0.length/\T 4=.cptr [.list 5 (A2C l) .no,.mapr a,.mapr b,.mapr c]/\T 24=.list 3 (A4y T0) .no/\T 25=I T0.length/\T 26=I i/\(∀y∈T0.take i,(A3h l y).isSome=true)/\A1n 40 1 C8X M1 (T 10) ((T0.take i).map λy=>A5O (A1L L) l ((A3h l y).getD 0+1) ((A3h l y).getD 0:Nat))/\A1r M.length (T 10)) ?_ ?_
 .refine⟨0,Grow.refl _,by omega,by simp,by simp,by simp,by simp,by simp,?_,?_⟩
  .simp only[Z2w,Z2g];exact .inl ⟨by simp,rfl⟩
  .simp[A1r]
 rintro T M1 ⟨i,hg,i1,t4,w,r,u,z,hv,hL⟩
 generalize g:T 10=ov at*
 by_cases hi:i<T0.length
 .have a0:(i:Int)<T0.length:=by omega
  have w1:=A1y (i:=i) (by omega);obtain⟨M2,a1⟩:∃M2,M2=M1++[A0l.cells 23 [I T0[i].act,I T0[i].item,I T0[i].n]]:=⟨_,rfl⟩;have o:Grow M1 M2:=by rw[a1];exact A0c.app none _ _
  have a3:M2[M1.length]?=some (A0l.cells 23 [I T0[i].act,I T0[i].item,I T0[i].n]):=by rw[a1];simp
  have a8:=(ab.keep hg (by simp)).keep o (by simp);have aa:=(hP.units.keep hg (by simp)).keep o (by simp);have a7:=hv.keep o (by simp);have d:=a8.get (A8Z 93 3 (by kernel_rfl)) T0[i] E0r true;simp only[A2M,IdD.row,a9]at d;have ac:A2U (A1L L) l s id n=if(T0.all λy=>(A3h l y).isSome)=true then T0.map λy=>A5O (A1L L) l ((A3h l y).getD 0+1) ((A3h l y).getD 0:Nat)else[]:=by simp only[A2U,f]
  simp -dsimp -implicitDefEqProofs[t4,w,r,u,hi,a0,IdD.row,A0m,A0n,A0e];rw[<-a1];cases hsl:A3h l T0[i]with
  |none=>rw[hsl]at d;(have hn:A2U (A1L L) l s id n=[]:=by rw[ac,Z0e];rw[Z0t];intro h;have:=h T0[i] (Z0u hi);rw[hsl]at this;exact absurd this (by simp));simp -dsimp -implicitDefEqProofs[A0b a3,d];rw[hn];exact⟨hg.trans o,C1Z⟩
  |some q=>
   rw[hsl]at d;(have hq:q<l.length:=by have:=Z3n.1 hsl;exact this.1);have a5:=A0d.still (enc:=A0I.row) (sz:=2) (λ_=>rfl) C0e (D3I gl l L a b c hl a6 (q+1) q M2 (by omega) (by omega) (by omega) aa);simp -dsimp -implicitDefEqProofs[t4,A0b a3,d,g];refine A0f func224 a5 ?_;simp -dsimp -implicitDefEqProofs[A0p,A0Z];refine A3V (C:=WC gl) (enc:=C8X) (e:=40) (sz:=1) (news:=[A5O (A1L L) l (q+1) (q:Nat)]) D5E D9c D8Z (λ_=>rfl) a7 (by simp[A0z]) (by simp;omega) rfl ?_;intro v' M3 q1 q2 q3 _;obtain⟨r1,r2⟩:=A2T (X:=[]) (hg.trans o) hL (by simpa using q2) (by simpa using q3);(have a4:T0.take (i+1)=T0.take i++[T0[i]]:=by rw[Z0E hi]);simp -dsimp -implicitDefEqProofs[t4,w,r,u,w1];refine⟨⟨r1,i+1,by clear w1;omega,rfl,λy hy=>?_,?_,r2⟩,by clear w1;omega⟩
   .rw[a4]at hy;rcases Z0Y.1 hy with h|h
    .exact z y h
    .simp only[Z1m]at h;rw[h,hsl];rfl
   .rw[<-Z1v,a4,Z0Q];simp only[Z0B,Z2g,hsl,Z1I];exact q1
 .have a0:¬(i:Int)<T0.length:=by omega
  rw[Z0k (by omega)]at hv z;have hn:A2U (A1L L) l s id n=T0.map λy=>A5O (A1L L) l ((A3h l y).getD 0+1) ((A3h l y).getD 0:Nat):=by simp only[A2U,f];rw[Z0d (Z0t.2 z)]
  rw[<-hn]at hv;simp -dsimp -implicitDefEqProofs[r,u,a0,g];exact⟨hg,A2W (λ_=>rfl) (λn p=>by simp only[A1Q,Z1N];exact B3Q n p) hv hL⟩
end
@[simp] def E7G{k j}{a b}:A1s prog .neq 159 (.agg [I k,S a]) (.agg [I j,S b])=some (B (!(decide (k=j)&&decide (a=b)))):=by
 have h1:prog.eqGuardType prog.depth 159=false:=by kernel_rfl
 have h2:prog.stoodInHeld 159=false:=by kernel_rfl
 simp[A1s,A2F,A4t,A3H,A3E,h1,A7P,h2,A2E];by_cases c1:k=j
 .by_cases c2:a=b
  .simp[c1,c2]
  .have:¬a.data=b.data:=λe=>c2 (by cases a;cases b;simpa using e);(have e:(a.data==b.data)=false:=by simpa using this);rw[e];simp[c1,c2]
 .have e:(k==j)=false:=by simpa using c1
  rw[e];simp[c1]
def pk(p:List A0I):List (Int×ByteArray):=p.map λs=>(s.k,s.lab)
def C3N(p:List A0I):(pk p).length=p.length:=by simp[pk]
def D0P{p q}{i}(hp:i<p.length)(hq:i<q.length)(h:pk p=pk q<->pk (p.drop i)=pk (q.drop i)):pk p=pk q<->(p[i].k=q[i].k/\p[i].lab=q[i].lab)/\pk (p.drop (i+1))=pk (q.drop (i+1)):=by
 rw[h,Z0j hp,Z0j hq]
 simp only[pk,Z0B,Z1e,Z0c]
section
variable (gl:Nat->AV)
def C1N(p q:List A0I)(o1 o2:Own)(M:Mem)(hp:p.length<=1000000):A0d (WC gl) 178 [.list 2 (A1K p) o1,.list 2 (A1K q) o2] M (λv M'=>v=B (decide (pk p=pk q))/\M'=M):=by
 refine A0j hB func178 ?_;by_cases hl:p.length=q.length;case neg=>
  have b:¬(p.length:Int)=q.length:=by omega
  have hr:¬pk p=pk q:=λe=>hl (by rw[<-C3N p,e,C3N]);simp -dsimp -implicitDefEqProofs[b,hr]
 have b:(p.length:Int)=q.length:=by omega
 simp -dsimp -implicitDefEqProofs[b];refine A0v hB p.length 13 (λT M1=>∃i:Nat,M1=M/\i<=p.length/\T 0=.list 2 (A1K p) o1/\T 1=.list 2 (A1K q) o2/\T 12=I q.length/\T 13=I i/\(pk p=pk q<->pk (p.drop i)=pk (q.drop i))) ?_ ?_
 .exact⟨0,rfl,by omega,by simp,by simp,by simp[],by simp,by simp⟩
 rintro T M1 ⟨i,rfl,h1,t0,t1,d,f,h2⟩;by_cases hi:i<p.length
 .have a:(i:Int)<q.length:=by omega
  have g:(i:Int)<p.length:=by omega
  have hq:i<q.length:=by omega
  have w1:=A1y (i:=i) (by omega);have h3:=D0P hi hq h2;simp -dsimp -implicitDefEqProofs[d,f,a];refine A1i hB (A0G gl) (λ_=>0) (λ_=>0) (by rfl) (by kernel_rfl) ?_;by_cases c:p[i].k=q[i].k/\p[i].lab=q[i].lab
  .simp -dsimp -implicitDefEqProofs[t0,t1,d,f,hi,a,hq,g,c.1,c.2,w1];exact⟨⟨i+1,by clear w1;omega,rfl,by rw[h3];exact⟨λh=>h.2,λh=>⟨c,h⟩⟩⟩,by clear w1;omega⟩
  .have hr:¬pk p=pk q:=λe=>c (h3.1 e).1;have hd:(decide (p[i].k=q[i].k)&&decide (p[i].lab=q[i].lab))=false:=by
    rw[Z2F,Z1x,Z1x];by_cases c1:p[i].k=q[i].k
    .exact .inr λe=>c ⟨c1,e⟩
    .exact .inl c1
   simp -dsimp -implicitDefEqProofs[t0,t1,hi,a,hq,g,hd,hr]
 .have a:¬(i:Int)<q.length:=by omega
  rw[Z0n (by omega),Z0n (by omega)]at h2;have hr:pk p=pk q:=h2.2 rfl;simp -dsimp -implicitDefEqProofs[d,f,a,hr]
def D2W(p q:List A0I)(o1 o2:Own)(M:Mem)(hp:p.length<=1000000):A0d (WC gl) 37 [.list 2 (A1K p) o1,.list 2 (A1K q) o2] M (λv M'=>v=B (decide (pk p=pk q))/\M'=M):=by
 refine A0j hB func37 ?_;by_cases hl:p.length=q.length;case neg=>
  have b:¬(p.length:Int)=q.length:=by omega
  have hr:¬pk p=pk q:=λe=>hl (by rw[<-C3N p,e,C3N]);simp -dsimp -implicitDefEqProofs[b,hr]
 have b:(p.length:Int)=q.length:=by omega
 simp -dsimp -implicitDefEqProofs[b];refine A0v hB p.length 5 (λT M1=>∃i:Nat,M1=M/\i<=p.length/\T 0=.list 2 (A1K p) o1/\T 1=.list 2 (A1K q) o2/\T 5=I i/\(pk p=pk q<->pk (p.drop i)=pk (q.drop i))) ?_ ?_
 .exact⟨0,rfl,by omega,by simp,by simp,by simp,by simp⟩
 rintro T M1 ⟨i,rfl,h1,t0,t1,t5,h2⟩;by_cases hi:i<p.length
 .have a:(i:Int)<q.length:=by omega
  have d:(i:Int)<p.length:=by omega
  have hq:i<q.length:=by omega
  have w1:=A1y (i:=i) (by omega);have h3:=D0P hi hq h2;simp -dsimp -implicitDefEqProofs[t0,t5,d];refine A1i hB (A0G gl) (λ_=>0) (λ_=>0) (by rfl) (by kernel_rfl) ?_;by_cases c:p[i].k=q[i].k/\p[i].lab=q[i].lab
  .simp -dsimp -implicitDefEqProofs[t0,t1,t5,hi,a,hq,d,c.1,c.2,w1];exact⟨⟨i+1,by clear w1;omega,rfl,by rw[h3];exact⟨λh=>h.2,λh=>⟨c,h⟩⟩⟩,by clear w1;omega⟩
  .have hr:¬pk p=pk q:=λe=>c (h3.1 e).1;have hd:(decide (p[i].k=q[i].k)&&decide (p[i].lab=q[i].lab))=false:=by
    rw[Z2F,Z1x,Z1x];by_cases c1:p[i].k=q[i].k
    .exact .inr λe=>c ⟨c1,e⟩
    .exact .inl c1
   simp -dsimp -implicitDefEqProofs[t0,t1,t5,hi,a,hq,d,hd,hr]
 .have a:¬(i:Int)<p.length:=by omega
  have f:¬(i:Int)<q.length:=by omega
  rw[Z0n (by omega),Z0n (by omega)]at h2;have hr:pk p=pk q:=h2.2 rfl;simp -dsimp -implicitDefEqProofs[t0,t5,a,hr]
def D4K(a b:A1G)(M:Mem)(ha:a.path.length<=1000000):A0d (WC gl) 177 [.agg a.row,.agg b.row] M (λv M'=>v=B (B2G a b)/\M'=M):=by
 refine A0j hB func177 ?_;by_cases c1:a.k=b.k;case neg=>simp -dsimp -implicitDefEqProofs[A1G.row,c1,B2G]
 by_cases c2:a.to=b.to;case neg=>simp -dsimp -implicitDefEqProofs[A1G.row,c1,c2,B2G]
 simp -dsimp -implicitDefEqProofs[A1G.row,c1,c2];refine A0f func178 (C1N gl a.path b.path .no .no M ha) ?_;simp -dsimp -implicitDefEqProofs[B2G,c1,c2,pk];exact decide_eq_decide.2 Iff.rfl
def D5f{a b:List A1G}{f:A1G×A1G->Bool}{i:Nat}(ha:i<a.length)(hb:i<b.length)(h:(a.zip b).all f=((a.drop i).zip (b.drop i)).all f):(a.zip b).all f=(f (a[i],b[i])&&((a.drop (i+1)).zip (b.drop (i+1))).all f):=by rw[h,Z0j ha,Z0j hb];rfl
def D2D(a b:List A1G)(o1 o2:Own)(M:Mem)(hl:a.length<=1000000000)(ha:∀c∈a,c.path.length<=1000000):A0d (WC gl) 179 [.list 5 (A5p a) o1,.list 5 (A5p b) o2,.func (.func 177) [] []] M (λv M'=>v=B (B5D a b)/\M'=M):=by
 refine A4j (λ_=>trivial) ?_;refine A0j hB func179 ?_;by_cases hlen:a.length=b.length;case neg=>
  have d:¬(a.length:Int)=b.length:=by omega
  simp -dsimp -implicitDefEqProofs[d,B5D,hlen,A0c.refl]
 have d:(a.length:Int)=b.length:=by omega
 have hm:B5D a b=(a.zip b).all (λx=>B2G x.1 x.2):=by simp[B5D,hlen]
 rw[hm];simp -dsimp -implicitDefEqProofs[d];refine A0v hB a.length 17 (λT M1=>∃i:Nat,Grow M M1/\i<=a.length/\T 0=.list 5 (A5p a) o1/\T 1=.list 5 (A5p b) o2/\T 2=.func (.func 177) [] []/\T 15=.list 5 (A5p a) o1/\T 16=I b.length/\T 17=I i/\(a.zip b).all (λx=>B2G x.1 x.2)=((a.drop i).zip (b.drop i)).all (λx=>B2G x.1 x.2)) ?_ ?_
 .exact⟨0,Grow.refl _,by omega,by simp,by simp,by simp,by simp,by simp[],by simp,by simp⟩
 rintro T M1 ⟨i,hg,h1,t0,t1,t2,j,f,g,h2⟩;by_cases hi:i<a.length
 .have h:(i:Int)<b.length:=by omega
  have k:(i:Int)<a.length:=by omega
  have hq:i<b.length:=by omega
  have w1:IntKind.i64.wrap ((i:Int)+1)=(i+1:Nat):=by rw[A0T (by omega) (by omega)];omega
  have h3:=D5f hi hq h2;have hX:(M1++[A0l.cells 110 a[i].row,A0l.cells 110 b[i].row])[M1.length]?=some (A0l.cells 110 a[i].row):=by simp
  have hY:(M1++[A0l.cells 110 a[i].row,A0l.cells 110 b[i].row])[M1.length+1]?=some (A0l.cells 110 b[i].row):=by simp[]
  have e:Grow M (M1++[A0l.cells 110 a[i].row,A0l.cells 110 b[i].row]):=hg.trans (A0c.app none _ _);have hs:=D4K gl a[i] b[i] (M1++[A0l.cells 110 a[i].row,A0l.cells 110 b[i].row]) (ha _ (Z0u hi));simp only[A1G.row]at hX hY e hs;simp -dsimp -implicitDefEqProofs[t1,t2,j,f,g,hi,h,k,hq,A1G.row,A0m,A0n,A0e,A0b hX,A0b hY];refine A0f func177 hs ?_;cases c:B2G a[i] b[i]with
  |false=>rw[c,Z0q]at h3;simp -dsimp -implicitDefEqProofs[h3,e]
  |true=>rw[c,Z0r]at h3;simp -dsimp -implicitDefEqProofs[t0,t1,t2,j,f,g,w1];exact⟨⟨e,i+1,by clear w1;omega,rfl,h3⟩,by clear w1;omega⟩
 .have h:¬(i:Int)<b.length:=by omega
  rw[Z0n (by omega)]at h2;have hr:(a.zip b).all (λx=>B2G x.1 x.2)=true:=by rw[h2];rfl
  simp -dsimp -implicitDefEqProofs[f,g,h,hr,hg]
end
@[simp] def D8R{k}{rows}{o}:A0D prog 110 [(0,I k),(1,.list 2 rows o)]=some (.agg [I k,.list 2 rows o,S ⟨#[]⟩,I 0,I 0]):=by
 simp[A0D,A1l,A1H,AV.cells,AV.storable]
section
variable (gl:Nat->AV)
def D3g(F:IdD->Option A0a)(s:List A1R)(l:List A0S)(L:List (IdD×A0a))(hF:A1L L=F)(a b c:Nat)(x:A0a)(M:Mem)(hP:B2Z l L a b c M)(hl:l.length<=1000)(ba:∀s∈l,s.good)(hs:s.length<=1000)(ht:∀m∈s,m.to.length<=40)(aq:∀j,j<l.length->B2A l j)
 (hx:x.good)(bc:x.words.length<=300):
 A0d (WC gl) 125 [B1w l a b c,.agg x.row,.list 5 (A3P s) .no] M (λv M'=>v=.tuple [.list 1 (A1b (A8y F l s x).1) .no,B (A8y F l s x).2]/\M'=M):=by
 refine A0d.dataX ?_
 obtain⟨xs,ad⟩:∃xs,xs=A0Y x.words:=⟨_,rfl⟩
 have bi:xs.length<=300:=by rw[ad];simpa[A0Y]using bc
 have a7:∀t∈xs,t.size<=maxLen:=by rw[ad];intro t h;obtain⟨w,hw,rfl⟩:=Z0J.1 h;exact(((A0a.good_iff _).1 hx).2.2.2.2.2.2.1 w hw).1
 rw[x.row_eq]
 refine A0j (hQ [32,54,64,68,73]) func125 ?_
 simp -dsimp -implicitDefEqProofs
 refine D4v (.exit 0) (λT M1=>T 2=.list 5 (A3P s) .no/\T 3=.cptr [.list 5 (A2C l) .no,.mapr a,.mapr b,.mapr c]/\T 4=.cptr [I x.id.act,I x.id.item,I x.id.n,I x.kind,S x.label,.list 4 (A0g x.head) .no,.list 4 (A0g x.words) .no,.list 8 (A0r x.kids) .no]/\Grow M M1/\Arr 9 1 A5F M.length M1 (T 8) xs) ?_ ?_
 .refine A0v (hQ [32,54,64,68,73]) x.words.length 24 (λT M1=>∃i:Nat,i<=x.words.length/\T 2=.list 5 (A3P s) .no/\T 3=.cptr [.list 5 (A2C l) .no,.mapr a,.mapr b,.mapr c]/\T 4=.cptr [I x.id.act,I x.id.item,I x.id.n,I x.kind,S x.label,.list 4 (A0g x.head) .no,.list 4 (A0g x.words) .no,.list 8 (A0r x.kids) .no]/\T 22=.list 4 (A0g x.words) .no/\T 23=I x.words.length/\T 24=I i/\Grow M M1/\Arr 9 1 A5F M.length M1 (T 8) (A0Y (x.words.take i))) ?_ ?_
  .refine⟨0,by omega,by simp,by simp,by simp,by simp,by simp,by simp,Grow.refl _,?_⟩;simpa[A0Y]using Arr.nil
  rintro T M1 ⟨i,i1,t2,t3,t4,a9,ae,aa,hg,hv⟩;generalize av:T 8=ov at*;by_cases hi:i<x.words.length
  ·(have a0:(i:Int)<x.words.length:=by omega);have w1:=A1y (i:=i) (by omega)
   obtain⟨M2,al⟩:∃M2,M2=M1++[A0l.cells 152 [S x.words[i].text,I x.words[i].act,I x.words[i].item,I x.words[i].at_]]:=⟨_,rfl⟩;(have ah:Grow M1 M2:=by rw[al];exact A0c.app none _ _);(have be:M2[M1.length]?=some (A0l.cells 152 [S x.words[i].text,I x.words[i].act,I x.words[i].item,I x.words[i].at_]):=by rw[al];simp);(have ai:A0Y (x.words.take (i+1))=A0Y (x.words.take i)++[x.words[i].text]:=by rw[A0Y,A0Y,Z1k,Z0l hi,Z0Q];rfl);have af:=hv.keep ah;simp -dsimp -implicitDefEqProofs[a9,ae,aa,hi,a0,A0H.row,A0m,A0n,A0e];rw[<-al];simp -dsimp -implicitDefEqProofs[av,A0b be,A0p,A0Z];refine A3V (C:=WC gl) (enc:=A5F) (e:=9) (sz:=1) (news:=[x.words[i].text]) A7n A9D B5x (λ_=>rfl) af.own (by simp[A0z]) (by simp[A0Y];omega) rfl ?_;intro v' M3 q1 q2 q3 _;simp -dsimp -implicitDefEqProofs[t2,t3,t4,a9,ae,aa,w1];refine⟨⟨i+1,by clear w1;omega,rfl,af.grow (hg.trans ah) q2,?_⟩,by clear w1;omega⟩;rw[ai];exact⟨q1,af.later (hg.trans ah).1 q3⟩
  ·(have a0:¬(i:Int)<x.words.length:=by omega);rw[Z0k (by omega),<-ad]at hv
   simp -dsimp -implicitDefEqProofs[t2,t3,t4,ae,aa,a0,av,hg];exact hv
 rintro T M1 ⟨t2,t3,t4,hg,hv⟩
 refine⟨M.length,T.put (some 8) (.list 1 (A1b xs) .no),B2k (C2k T) (Still.rows (λ_=>rfl) (λ_ _ _=>trivial) hv.own hv.lat .nil),?_⟩
 have a6:=B6F hg
 generalize A5I M1 M.length=M2 at*
 clear hv hg M1
 obtain⟨cs,am⟩:∃cs,cs=A3o xs 0:=⟨_,rfl⟩
 have bq:cs.length<=xs.length:=by rw[am];exact A9Z xs _ _
 have ar:=λM=>A0d.still (enc:=A1G.row) (sz:=5) (λ_=>rfl) C4N (C7O gl xs .no (by omega) a7 M)
 rw[<-am]at ar
 simp -dsimp -implicitDefEqProofs[]
 refine A0f func98 (ar M2) ?_
 obtain⟨nm,ab⟩:∃nm:Nat->List (List A0I),nm=λn:Nat=>A2U F l s x.id n:=⟨_,rfl⟩
 have a1:∀i,(nm i).length<=40:=λi=>by rw[ab];exact B1Y ht
 have bf:∀i,∀p∈nm i,C8R p:=λi p hp=>by rw[ab]at hp;exact C0P hl ba p hp
 simp -dsimp -implicitDefEqProofs[]
 refine D4v (.exit 2) (λT M1=>T 8=.list 1 (A1b xs) .no/\Tri M M1 (T 11) (T 12) (T 13) (A8L cs nm cs.length) (A7v cs nm cs.length) (B1d nm cs.length)) ?_ ?_
 .refine A0v (hQ [32,54,64,68,73]) cs.length 37 (λT M1=>∃i:Nat,i<=cs.length/\T 2=.list 5 (A3P s) .no/\T 3=.cptr [.list 5 (A2C l) .no,.mapr a,.mapr b,.mapr c]/\T 4=.cptr [I x.id.act,I x.id.item,I x.id.n,I x.kind,S x.label,.list 4 (A0g x.head) .no,.list 4 (A0g x.words) .no,.list 8 (A0r x.kids) .no]/\T 8=.list 1 (A1b xs) .no/\T 35=.list 5 (A5p cs) .no/\T 36=I cs.length/\T 37=I i/\Tri M M1 (T 11) (T 12) (T 13) (A8L cs nm i) (A7v cs nm i) (B1d nm i)) ?_ ?_
  .refine⟨0,by omega,?_⟩;simp -dsimp -implicitDefEqProofs[t2,t3,t4,A5p];exact⟨a6,.nil,.nil,.nil,.nil,.nil,.nil⟩
  clear t2 t3 t4 a6;rintro T M1 ⟨i,i1,t2,t3,t4,t8,d,g,t37,h3⟩;generalize r:T 11=b9 at*;generalize o:T 12=bd at*;generalize u:T 13=b0 at*;by_cases hi:i<cs.length;case neg=>
   (have a0:¬(i:Int)<cs.length:=by omega);obtain rfl:i=cs.length:=by omega
   simp -dsimp -implicitDefEqProofs[t8,g,t37,a0,r,o,u];exact h3
  have a0:(i:Int)<cs.length:=by omega
  have w1:=A1y (i:=i) (by omega);obtain⟨M3,ac⟩:∃M3,M3=M1++[A0l.cells 110 cs[i].row]:=⟨_,rfl⟩;have b7:Grow M1 M3:=by rw[ac];exact A0c.app none _ _
  have a2:M3[M1.length]?=some (A0l.cells 110 cs[i].row):=by rw[ac];simp
  replace h3:=h3.keep b7;have ag:=C8e gl F s l L hF a b c x.id (i:Int) M3 (hP.keep h3.grow) hl hs (λm hm=>by have:=ht m hm;omega) aq;have o1:=C2N cs nm i hi;have o2:=B8l cs nm i hi;have o3:=C1n nm i;have b1:=B1o cs nm a1 i;have b2:=B5N cs nm a1 i;have b3:=C5n nm a1 i;have aw:A2U F l s x.id i=nm i:=by rw[ab]
  rw[aw]at ag;have ax:=a1 i;obtain⟨q,hq⟩:∃q,q=M1.length:=⟨_,rfl⟩;simp only[A1G.row]at a2 ac;simp only[IdD.row]at ag;rw[<-hq]at a2;simp -dsimp -implicitDefEqProofs[t2,t3,t4,d,g,t37,hi,a0,A1G.row,A0m,A0n,A0e];rw[<-ac,<-hq];refine A0f func176 ag ?_;simp -dsimp -implicitDefEqProofs[-B3S];rw[B3S];obtain⟨D,hD⟩:∃D,D=nm i:=⟨_,rfl⟩;rw[<-hD]at o1 o2 o3 ax;rw[<-hD];obtain⟨B,hB⟩:∃B,B=if D=[]then A7v cs nm i++[cs[i]]else A7v cs nm i:=⟨_,rfl⟩;have bl:B.length<=i*(40+1)+1:=by
   rw[hB];split
   .simp;omega
   .omega
  refine C2W (λT M4=>T 2=.list 5 (A3P s) .no/\T 3=.cptr [.list 5 (A2C l) .no,.mapr a,.mapr b,.mapr c]/\T 4=.cptr [I x.id.act,I x.id.item,I x.id.n,I x.kind,S x.label,.list 4 (A0g x.head) .no,.list 4 (A0g x.words) .no,.list 8 (A0r x.kids) .no]/\T 8=.list 1 (A1b xs) .no/\T 15=.ptr q 0/\T 16=.list 1 (A7o D) .no/\T 35=.list 5 (A5p cs) .no/\T 36=I cs.length/\T 37=I i/\M4[q]?=some (A0l.cells 110 [I cs[i].k,A6X cs[i].path,S cs[i].to,I cs[i].frm,I cs[i].at_])/\Tri M M4 (T 11) (T 12) (T 13) (A8L cs nm i) B (B1d nm i)) ?_ ?_
  .by_cases hn:D=[]
   ·(have aj:((D.length:Nat):Int)=0:=by rw[hn];rfl);rw[Z0d hn]at hB
    simp -dsimp -implicitDefEqProofs[o,hn,A0b a2,A0p,A0Z];refine A3V (C:=WC gl) (enc:=A1G.row) (e:=110) (sz:=5) (news:=[cs[i]]) C2U D0G C3D (λ_=>rfl) h3.h2.own (by simp[A0z,A1G.row]) (by simp;omega) rfl ?_;intro v' M4 q1 q2 q3 _;simp -dsimp -implicitDefEqProofs[t2,t3,t4,t8,d,g,t37,r,u];refine⟨by rw[hn],h3.h2.cells q2 a2,?_⟩;rw[hB];exact h3.push2 q1 q2 q3
   .have aj:¬((D.length:Nat):Int)=0:=λe=>hn (Z0z (by omega));have bg:¬D.length=0:=λe=>hn (Z0z e);rw[Z0e hn]at hB;rw[hB];simp -dsimp -implicitDefEqProofs[t2,t3,t4,t8,d,g,t37,r,o,u,bg];exact⟨a2,h3⟩
  have au:=t37;clear t2 t3 t4 t8 d g t37 r o u h3 a2;rintro T M4 ⟨t2,t3,t4,t8,z,ap,d,g,t37,ay,h4⟩;simp -dsimp -implicitDefEqProofs[ap];refine A3e (hQ [32,54,64,68,73]) (λT M5=>∃j:Nat,j<=D.length/\T 2=.list 5 (A3P s) .no/\T 3=.cptr [.list 5 (A2C l) .no,.mapr a,.mapr b,.mapr c]/\T 4=.cptr [I x.id.act,I x.id.item,I x.id.n,I x.kind,S x.label,.list 4 (A0g x.head) .no,.list 4 (A0g x.words) .no,.list 8 (A0r x.kids) .no]/\T 8=.list 1 (A1b xs) .no/\T 15=.ptr q 0/\T 35=.list 5 (A5p cs) .no/\T 36=I cs.length/\T 37=I i/\T 55=.list 1 (A7o D) .no/\T 56=I D.length/\T 57=I j/\
   M5[q]?=some (A0l.cells 110 [I cs[i].k,A6X cs[i].path,S cs[i].to,I cs[i].frm,I cs[i].at_])/\Tri M M5 (T 11) (T 12) (T 13) (A8L cs nm i++(D.take j).map λ_=>cs[i]) (B++(D.take j).map λp=>⟨0,p,⟨#[]⟩,0,0⟩) (B1d nm i++D.take j))
   (λT M1=>match T 57 with|.val (.int _ j)=>D.length-j.toNat|_=>0) (by kernel_rfl) ?_ ?_
  .refine⟨0,by omega,by simp[t2],by simp[t3],by simp[t4],by simp[t8],by simp[z],by simp[d],by simp[g],by simp[t37],by simp,by simp,by simp,ay,?_⟩;simpa using h4
  clear t2 t3 t4 t8 z ap d g t37 ay h4;rintro T M5 ⟨j,j1,t2,t3,t4,t8,z,d,g,t37,a8,a5,a4,an,h5⟩;generalize r:T 11=b9 at*;generalize o:T 12=bd at*;generalize u:T 13=b0 at*;by_cases hj:j<D.length;case neg=>
   (have ak:¬(j:Int)<D.length:=by omega);rw[Z0k (by omega)]at h5
   rw[<-o1,<-o3]at h5;have b6:B++D.map (λp=>(⟨0,p,⟨#[]⟩,0,0⟩:A1G))=A7v cs nm (i+1):=by
    rw[o2,hB];by_cases hn:D=[]
    .rw[Z0d hn,Z0d hn,hn];simp
    .rw[Z0e hn,Z0e hn]
   rw[b6]at h5;simp -dsimp -implicitDefEqProofs[t2,t3,t4,t8,d,g,t37,a5,a4,ak,w1,r,o,u,au];exact⟨⟨i+1,by clear w1;omega,rfl,h5⟩,by clear w1;omega⟩
  have ak:(j:Int)<D.length:=by omega
  have w2:=A1y (i:=j) (by omega);simp -dsimp -implicitDefEqProofs[z,a8,a5,a4,hj,ak,r,A0b an,A0p,A0Z];refine A3V (C:=WC gl) (enc:=A1G.row) (e:=110) (sz:=5) (news:=[cs[i]]) C2U D0G C3D (λ_=>rfl) h5.h1.own (by simp[A0z,A1G.row]) (by simp;omega) rfl ?_;intro bk M6 q1 q2 q3 _;have b8:=h5.h1.cells q2 an;replace h5:=h5.push1 q1 q2 q3;simp -dsimp -implicitDefEqProofs[u,A0p,A0Z];refine A3V (C:=WC gl) (enc:=C8X) (e:=40) (sz:=1) (news:=[D[j]]) D5E D9c D8Z (λ_=>rfl) h5.h3.own (by simp[A0z,A1K,C8X]) (by simp;omega) rfl ?_;intro bp M7 q4 q5 q6 _;have b5:=h5.h3.cells q5 b8;replace h5:=h5.push3 q4 q5 q6;simp -dsimp -implicitDefEqProofs[o,A0p,A0Z];refine A3V (C:=WC gl) (enc:=A1G.row) (e:=110) (sz:=5) (news:=[⟨0,D[j],⟨#[]⟩,0,0⟩]) C2U D0G C3D (λ_=>rfl) h5.h2.own (by simp[A0z,A1G.row,A1K]) (by simp;omega) rfl ?_;intro bj M8 q7 q8 q9 _;have bb:=h5.h2.cells q8 b5;replace h5:=h5.push2 q7 q8 q9;have ai:D.take (j+1)=D.take j++[D[j]]:=by rw[Z0E hj]
  simp -dsimp -implicitDefEqProofs[t2,t3,t4,t8,z,d,g,t37,a8,a5,a4,w2];refine⟨⟨j+1,by clear w1 w2;omega,rfl,bb,?_⟩,by clear w1 w2;omega⟩;rw[<-Z1v,<-Z1v,ai,Z0Q,Z0Q,<-Z0X,<-Z0X,<-Z0X];exact h5
 clear t2 t3 t4 a6
 rintro T M1 ⟨t8,h3⟩
 refine⟨M.length,((T.put (some 11) (.list 5 (A5p (A8L cs nm cs.length)) .no)).put (some 12) (.list 5 (A5p (A7v cs nm cs.length)) .no)).put (some 13) (.list 1 (A7o (B1d nm cs.length)) .no),?_,?_⟩
 .refine B2k (B2k (B2k (C2k T) ?_) ?_) ?_
  .exact Still.rows (λ_=>rfl) (λ_ _ _=>trivial) h3.h1.own h3.h1.lat .nil
  .exact Still.rows (λ_=>rfl) (λ_ _ _=>trivial) h3.h2.own h3.h2.lat .nil
  .exact Still.rows (λ_=>rfl) (λ_ _ _=>trivial) h3.h3.own h3.h3.lat .nil
 have a6:=B6F h3.grow
 generalize A5I M1 M.length=M2 at*
 clear h3
 have bm:=B1o cs nm a1 cs.length
 have bn:=B5N cs nm a1 cs.length
 obtain⟨y,a3⟩:∃y,y=A6P xs (A8L cs nm cs.length) (B1d nm cs.length):=⟨_,rfl⟩
 obtain⟨s1,s2⟩:=A8x (old:=A8L cs nm cs.length) (names:=B1d nm cs.length) (B:=maxLen) (by simp[maxLen]) a7
 rw[<-a3]at s1 s2
 have bh:y.length<=1000000000:=by have:(A8L cs nm cs.length).length*(xs.length+19)<=12000*400:=Z4o (by omega) (by omega);omega
 have ao:=λM=>A0d.still (enc:=A5F) (sz:=1) (e:=9) (λ_=>rfl) C0n ((C9Q gl M xs (A8L cs nm cs.length) (B1d nm cs.length) .no .no .no (by omega) a7 (by omega) (λp hp=>by obtain⟨j,hj⟩:=D5B nm hp;exact bf j p hj)).mono λv M' h=>h.toT)
 rw[<-a3]at ao
 have az:=λM=>A0d.still (enc:=A1G.row) (sz:=5) (λ_=>rfl) C4N (C7O gl y .no (by omega) s1 M)
 have hW:A8y F l s x=(y,B5D (A3o y 0) (A7v cs nm cs.length)):=by unfold A8y;simp only;rw[<-ad,<-am,<-ab,<-a3]
 rw[hW]
 have bo:(A3o y 0).length<=y.length:=by have:=A9Z y (y.length-0) 0;simpa[A3o]using this
 have b4:∀c∈A3o y 0,c.path.length<=1000000:=λc hc=>by have h:=(B8t y _ _ c hc).1;simp only[A4s,Z0g,Z0m]at h;omega
 simp -dsimp -implicitDefEqProofs[t8]
 refine A0f func18 (ao M2) ?_
 simp -dsimp -implicitDefEqProofs[]
 refine A0f func98 (az M2) ?_
 simp -dsimp -implicitDefEqProofs[]
 refine A0f func179 (D2D gl (A3o y 0) (A7v cs nm cs.length) .no .no M2 (by omega) b4) ?_
 simp -dsimp -implicitDefEqProofs[]
 exact⟨a6,.tuple (.same (A7U (f:=A5F) (C0n _) y) (.same trivial .nil)) .nil⟩
end
structure Fm {α:Type} (sz:Nat) (enc:α->List AV) (n:Nat) (M:Mem) (v:AV) (l:List α):Prop where
 fam:A9V sz enc M v l
 lat:∀f,A7D v=some f->n<=f
def B0G(a b:AV):Prop:=∀f,A7D a=some f->A7D b≠some f
def B0G.symm{a b:AV}(h:B0G a b):B0G b a:=λf h1 h2=>h f h2 h1
def B0G.nil{b:AV}:B0G (.val (.slice none 0 0)) b:=λf h=>by simp at h
section
variable {α β:Type} {sz sz2 n q:Nat} {enc:α->List AV} {enc2:β->List AV} {M M':Mem} {v v' u:AV} {l l':List α} {r:List β}
def Fm.nil:Fm sz enc n M (.val (.slice none 0 0)) []:=⟨.nil,λf h=>by simp at h⟩
def Fm.full:Fm sz enc n M (.list sz (l.map enc) .full) l:=⟨.full,λf h=>by simp at h⟩
def Fm.keep(h:Fm sz enc n M v l)(hk:Grow M M'):Fm sz enc n M' v l:=⟨h.fam.keep hk (by simp),h.lat⟩
def Fm.beside(h:Fm sz2 enc2 n M u r)(ha:B0G v u)(hk:A0c (A7D v) M M'):Fm sz2 enc2 n M' u r:=⟨h.fam.keep hk (λf hf hv=>ha f hv hf),h.lat⟩
def Fm.setq(h:Fm sz enc n M v l){X:A0l}(hq:q<n):Fm sz enc n (M.set q X) v l:=⟨h.fam.keep (A0c.set _ _ _) (λf hf e=>by have:=h.lat f hf;simp at e;omega),h.lat⟩
def Fm.push(h:Fm sz enc n M v l)(hn:n<=M.length)(k1:A9V sz enc M' v' l')(k3:A7D v'=A7D v\/∀f,A7D v'=some f->M.length<=f):Fm sz enc n M' v' l':=⟨k1,λf hf=>by
 rcases k3 with e|e
 .exact h.lat f (e▸hf)
 .have:=e f hf;omega⟩
def Fm.low(h:Fm sz enc n M v l)(hn:n<=M.length)(hk:A0c (A7D v) M M'):A1a n M M':=hk.low hn h.lat
def Fm.apart(h:Fm sz2 enc2 n M u r)(ha:B0G v u)(k3:A7D v'=A7D v\/∀f,A7D v'=some f->M.length<=f):B0G v' u:=λf hf hu=>by
 rcases k3 with e|e
 .exact ha f (e▸hf) hu
 .have:=e f hf;have:=h.fam.lt hu;omega
def Fm.cells{t:Nat}{xs:List AV}(h:Fm sz enc n M v l)(hk:A0c (A7D v) M M')(hq:M[q]?=some (.cells t xs)):M'[q]?=some (.cells t xs):=hk.get hq λe=>by
 rcases h.fam with⟨rfl,_⟩|rfl|⟨f,rfl,hm⟩
 .simp at e
 .simp at e
 .simp only[C6F,Z0a]at e;subst e;rw[hm]at hq;simp at hq
def Fm.data{ok:AV->Prop}{m:Nat}{cs ds:List AV}(h:Fm sz enc n M v l)(hb:ok (.list sz (l.map enc) .no))(hr:Still M' m ok cs ds):Still M' m ok (v::cs) (.list sz (l.map enc) .no::ds):=by
 rcases h.fam with⟨rfl,rfl⟩|rfl|⟨f',rfl,hm⟩
 .exact .nilS hr
 .exact .dis hb hr
 .exact .dis hb hr
end
def A1a.le{n m:Nat}{A B:Mem}(h:A1a n A B)(hm:m<=n):A1a m A B:=⟨h.1,λi hi=>h.2 i (by omega)⟩
def A1a.setq{n q:Nat}{A B:Mem}(h:A1a n A B){X:A0l}(hq:n<=q):A1a n A (B.set q X):=⟨by simpa using h.1,λi hi=>by rw[Z0f (by omega)];exact h.2 i hi⟩
def A1a.grow{n:Nat}{M A B:Mem}(h:A1a n A B)(hg:Grow M A)(hn:M.length<=n):Grow M B:=⟨Z0S hg.1 h.1,λi hi _=>by rw[h.2 i (by omega)];exact hg.2 i hi (by simp)⟩
def D0H(t:A0a×List IdD×Int):AV:=.tuple [.agg t.1.row,.list 3 (A4y t.2.1) .no,I t.2.2]
abbrev ouC(k:Int)(lab:ByteArray)(hv wv kv:AV):A0l:=.cells 27 [I 0,I 0,I 0,I k,S lab,hv,wv,kv]
abbrev z8:A0l:=ouC 0 ⟨#[]⟩ A0i A0i A0i
@[simp] def E1b{k}{t}:A0D prog 27 [(1,I k),(2,S t)]=some (.agg [I 0,I 0,I 0,I k,S t,A0i,A0i,A0i]):=by
 simp[A0D,A1l,A1H,AV.cells,AV.storable]
@[simp] def E0t{t}:A0D prog 152 [(0,S t)]=some (.agg [S t,I 0,I 0,I 0]):=by
 simp[A0D,A1l,A1H,AV.cells,AV.storable]
def B5s{F:IdD->Option A0a}{l}{s}(a:∀j,j<l.length->B2A l j)(f n:Nat)(hn:n<l.length)(hf:l.length<=f+n):(A2N F l s f n).2.1.length<=l.length:=by rw[B5S,Z0V];obtain⟨h1,h2⟩:=B3D (par:=λk=>A3w l k) (N:=l.length) (λj hj=>by have:=(a j hj j hj (Z0o _)).2;simpa[A3w,hj]using this) f n hn hf;have:=C3H (l:=A6Z (λk=>A3w l ↑k) l.length f n) (m:=List.range l.length) h1 (λx hx=>by have:=((h2 x).1 hx).1;simpa using this);simpa using this
def C9K{F:IdD->Option A0a}{s}{l}{x}(hl:l.length<=1000)(f:∀s∈l,s.good)(ht:∀m∈s,m.to.length<=40)(hx:x.good)(b:x.words.length<=300):(A8y F l s x).1.length<=1000000000:=by
 have c:(A0Y x.words).length<=300:=by simpa[A0Y]using b
 have a:∀t∈A0Y x.words,t.size<=maxLen:=by intro t h;obtain⟨w,hw,rfl⟩:=Z0J.1 h;exact(((A0a.good_iff _).1 hx).2.2.2.2.2.2.1 w hw).1
 unfold A8y;simp only;generalize A0Y x.words=xs at*;have e:(A3o xs 0).length<=xs.length:=A9Z xs _ _;have d:=B1o (A3o xs 0) (λn:Nat=>A2U F l s x.id n) (λi=>B1Y ht) (A3o xs 0).length;obtain⟨s1,s2⟩:=A8x (old:=A8L (A3o xs 0) (λn:Nat=>A2U F l s x.id n) (A3o xs 0).length) (names:=B1d (λn:Nat=>A2U F l s x.id n) (A3o xs 0).length) (B:=maxLen) (by simp[maxLen]) a;have:(A8L (A3o xs 0) (λn:Nat=>A2U F l s x.id n) (A3o xs 0).length).length*(xs.length+19)<=12000*400:=Z4o (by omega) (by omega);omega
section
variable (gl:Nat->AV)
set_option maxHeartbeats 1000000 in
def D8A(F:IdD->Option A0a)(s:List A1R)(l:List A0S)(L:List (IdD×A0a))(hF:A1L L=F)(a b c:Nat)(hl:l.length<=1000)(c4:∀s∈l,s.good)(hs:s.length<=1000)(ht:∀m∈s,m.to.length<=40)(aj:∀j,j<l.length->B2A l j)
 (cd:∀n (h:n<l.length),∃u,F l[n].id=some u/\u.good/\u.words.length<=300/\u.head.length<=300):∀(f n:Nat) (M:Mem),n<l.length->l.length<=f+n->B2Z l L a b c M->
 A0d (WC gl) 71 [B1w l a b c,.list 5 (A3P s) .no,I n] M (λv M'=>v=D0H (A2N F l s f n)/\M'=M):=by
 intro f
 induction f with
 |zero=>intro n M h1 h2 _;omega
 |succ f ih=>
 intro n M h1 h2 hP
 refine A0d.dataX ?_
 obtain⟨x,hx,bj,c5,d5⟩:=cd n h1
 have cf:A6U F l n=x:=by simp[A6U,h1,hx]
 have c2:B1T l n=l[n].label:=by simp[B1T,h1]
 obtain⟨K,hK⟩:∃K,K=A4m l n l.length:=⟨_,rfl⟩
 obtain⟨W,hW⟩:∃W,W=A8y F l s x:=⟨_,rfl⟩
 have hT:A2N F l s (f+1) n=(.mk idZ x.kind l[n].label (x.head.map λh=>A5l h.text) (W.1.map A5l) ((K.map (A2N F l s f)).map (·.1)),x.id::(K.map (A2N F l s f)).flatMap (·.2.1),(K.map (A2N F l s f)).foldl (λe k=>A9z e k.2.2) (C0J W)):=by rw[A2N,cf,c2,<-hK,<-hW]
 rw[hT]
 clear hT
 have b8:W.1.length<=1000000000:=by rw[hW];exact C9K hl c4 ht bj c5
 have n0:(0:Int)<=n:=by omega
 have n1:(n:Int)<l.length:=by omega
 refine A0j hB func71 ?_
 simp -dsimp -implicitDefEqProofs[A0m]
 obtain⟨Ma,ab⟩:∃Ma,Ma=M++[z8]:=⟨_,rfl⟩
 have bd:Grow M Ma:=by rw[ab];exact A0c.app none _ _
 have bi:Ma[M.length]?=some z8:=by rw[ab];simp
 have cn:Ma.length=M.length+1:=by rw[ab];simp
 rw[<-ab]
 have aq:=hP.keep bd
 have b1:A1J prog 92 Ma (.mapr a) (.agg [I l[n].id.act,I l[n].id.item,I l[n].id.n]) false=some (.agg x.row):=by
  rw[show AV.agg [I l[n].id.act,I l[n].id.item,I l[n].id.n]=A2M l[n].id from rfl,aq.units.get (A8Z 92 27 (by kernel_rfl)) l[n].id C3y false];have:A1L L l[n].id=some x:=by rw[hF];exact hx
  rw[this];rfl
 have ci:a<Ma.length:=aq.units.lt
 obtain⟨Mb,af⟩:∃Mb,Mb=Ma++[A0l.cells 27 x.row]:=⟨_,rfl⟩
 have ax:Grow Ma Mb:=by rw[af];exact A0c.app none _ _
 have b0:∀X,(Ma++[X])[a]?=Ma[a]?:=λX=>Z0h ci
 refine A5r hB (A0G gl) (λk=>if k=8 then 1 else if k=9\/k=10 then 2 else 0) (λ_=>a) (λ_=>false) [a] (by intros;simp) (by rfl) (by kernel_rfl) ?_
 simp -dsimp -implicitDefEqProofs[n0,n1,h1,A0S.row,A0M,b1,A0m,A0n,A0e,AV.storable,AV.cells,b0]
 obtain⟨xa,bt⟩:∃xa,xa=Ma.length:=⟨_,rfl⟩
 have hX:Mb[xa]?=some (A0l.cells 27 x.row):=by rw[af,bt];simp
 have c1:=aq.keep ax
 have c7:=ax.get bi (by simp)
 have ay:=bd.trans ax
 have d6:Mb.length=M.length+2:=by rw[af];simp[cn]
 rw[<-af,<-bt]
 clear af ab b1 b0
 simp -dsimp -implicitDefEqProofs[A0b hX]
 refine A0f func125 (D3g gl F s l L hF a b c x Mb c1 hl c4 hs ht aj bj c5) ?_
 rw[<-hW]
 simp -dsimp -implicitDefEqProofs[-B3S]
 rw[B3S]
 simp -dsimp -implicitDefEqProofs[-B3S]
 rw[B3S]
 refine C2W (λT M1=>M1=Mb/\T 1=.list 5 (A3P s) .no/\T 2=I n/\T 3=.cptr [.list 5 (A2C l) .no,.mapr a,.mapr b,.mapr c]/\T 6=.ptr M.length 0/\T 9=.ptr xa 0/\T 10=.list 1 (A1b W.1) .no/\T 12=I (if W.2=true then 0 else 2)) ?_ ?_
 .cases hw2:W.2<;>simp -dsimp -implicitDefEqProofs[]
 rintro T M1 ⟨rfl,t1,t2,t3,t6,t9,r,d⟩
 simp -dsimp -implicitDefEqProofs[-B3S]
 rw[B3S]
 refine C2W (λT M2=>M2=M1/\T 1=.list 5 (A3P s) .no/\T 2=I n/\T 3=.cptr [.list 5 (A2C l) .no,.mapr a,.mapr b,.mapr c]/\T 6=.ptr M.length 0/\T 9=.ptr xa 0/\T 10=.list 1 (A1b W.1) .no/\T 12=I (C0J W)) ?_ ?_
 .by_cases hw:256<W.1.length
  ·(have ba:(256:Int)<W.1.length:=by omega);simp -dsimp -implicitDefEqProofs[t1,t2,t3,t6,t9,r,ba,C0J,hw]
  ·(have ba:¬(256:Int)<W.1.length:=by omega);simp -dsimp -implicitDefEqProofs[t1,t2,t3,t6,t9,r,d,ba,C0J,hw]
 clear t1 t2 t3 t6 t9 r d
 rintro T Mb ⟨rfl,t1,t2,t3,t6,t9,r,d⟩
 obtain⟨q,hq⟩:∃q,q=Mb.length:=⟨_,rfl⟩
 obtain⟨Mc,ad⟩:∃Mc,Mc=Mb++[ouC x.kind l[n].label A0i A0i A0i]:=⟨_,rfl⟩
 have am:Grow Mb Mc:=by rw[ad];exact A0c.app none _ _
 have cp:Mc[q]?=some (ouC x.kind l[n].label A0i A0i A0i):=by rw[ad,hq];simp
 have ar:=hX
 rw[x.row_eq]at ar
 have ca:xa<Mb.length:=(Z0b.1 hX).1
 have b3:∀X,(Mb++[X])[xa]?=Mb[xa]?:=λX=>Z0h ca
 simp -dsimp -implicitDefEqProofs
 refine A5r hB (A0G gl) (λk=>if k=1 then 1 else if k=9\/k=10 then 2 else 0) (λ_=>xa) (λ_=>false) [xa] (by intros;simp) (by rfl) (by kernel_rfl) ?_
 simp -dsimp -implicitDefEqProofs[t2,t3,t9,n0,n1,h1,A0S.row,A6w,A0b ar,A0m,A0n,A0e,b3]
 rw[<-ad,<-hq]
 have c9:=am.get ar (by simp)
 have cj:=am.get c7 (by simp)
 have bn:=ay.trans am
 have d1:Mc.length=q+1:=by rw[ad,hq];simp
 have cz:M.length+2=q:=by omega
 have bv:xa<q:=by omega
 clear ad am b3 hX ar c7 ay c1 aq bd ax bi
 simp -dsimp -implicitDefEqProofs[A0b c9]
 refine A9j (.exit 0) (λT M1=>T 1=.list 5 (A3P s) .no/\T 2=I n/\T 3=.cptr [.list 5 (A2C l) .no,.mapr a,.mapr b,.mapr c]/\T 6=.ptr M.length 0/\T 9=.ptr xa 0/\T 10=.list 1 (A1b W.1) .no/\T 12=I (C0J W)/\T 13=.ptr q 0/\A1a q Mc M1/\∃hv,M1[q]?=some (ouC x.kind l[n].label hv A0i A0i)/\Fm 4 A0H.row (q+1) M1 hv (x.head.map λh=>A5l h.text)) ?_ ?_
 .refine A0v hB x.head.length 57 (λT M1=>∃i:Nat,i<=x.head.length/\T 1=.list 5 (A3P s) .no/\T 2=I n/\T 3=.cptr [.list 5 (A2C l) .no,.mapr a,.mapr b,.mapr c]/\T 6=.ptr M.length 0/\T 9=.ptr xa 0/\T 10=.list 1 (A1b W.1) .no/\T 12=I (C0J W)/\T 13=.ptr q 0/\T 55=.list 4 (A0g x.head) .no/\T 56=I x.head.length/\T 57=I i/\A1a q Mc M1/\∃hv,M1[q]?=some (ouC x.kind l[n].label hv A0i A0i)/\Fm 4 A0H.row (q+1) M1 hv ((x.head.take i).map λh=>A5l h.text)) ?_ ?_
  .exact⟨0,by omega,by simp[t1],by simp[t2],by simp[t3],by simp[t6],by simp[t9],by simp[r],by simp[d],by simp,by simp,by simp,by simp,A1a.refl _ _,A0i,cp,.nil⟩
  clear t1 t2 t3 t6 t9 r d;rintro T M1 ⟨i,i1,t1,t2,t3,t6,t9,r,d,g,ao,au,an,hk,hv,ho,hf⟩;by_cases hi:i<x.head.length;case neg=>
   (have a4:¬(i:Int)<x.head.length:=by omega);rw[Z0k (by omega)]at hf
   simp -dsimp -implicitDefEqProofs[t1,t2,t3,t6,t9,r,d,g,au,an,a4];exact⟨hk,hv,ho,hf⟩
  have a4:(i:Int)<x.head.length:=by omega
  have w1:=A1y (i:=i) (by omega);have bg:q+1<=M1.length:=by have:=hk.1;omega
  obtain⟨M2,aw⟩:∃M2,M2=M1++[A0l.cells 152 x.head[i].row]:=⟨_,rfl⟩;have z:Grow M1 M2:=by rw[aw];exact A0c.app none _ _
  have bq:M2[M1.length]?=some (A0l.cells 152 x.head[i].row):=by rw[aw];simp
  have bu:=z.get ho (by simp);have ap:=hf.keep z;have a8:=hk.trans (z.low (n:=q) (by omega) (by simp));have az:q+1<=M2.length:=by have:=z.1;omega
  simp only[A0H.row]at aw bq;simp -dsimp -implicitDefEqProofs[g,ao,au,an,hi,a4,A0H.row,A0m,A0n,A0e];rw[<-aw];simp -dsimp -implicitDefEqProofs[A0b bu,A0b bq,A0p,A0Z];refine B8U (C:=WC gl) (enc:=A0H.row) (e:=152) (sz:=4) (news:=[A5l x.head[i].text]) (o:=.full) B5a C2G B5W ap.fam (by simp;omega) rfl rfl ?_;intro v' M3 k1 k2 k3;have a3:=ap.cells k2 bu;have bb:=ap.push az k1 k3;have a2:=a8.trans ((ap.low az k2).le (by omega));have ag:A0n (some 1) M3 (.ptr q 5) v'=some (M3.set q (ouC x.kind l[n].label v' A0i A0i)):=by rw[A0h a3,k1.cells,Z0d ⟨k1.store,by simp,rfl⟩];rfl
  have b9:q<M3.length:=(Z0b.1 a3).1;simp -dsimp -implicitDefEqProofs[t1,t2,t3,t6,t9,r,d,g,ao,au,an,ag,w1];refine⟨⟨i+1,by clear w1;omega,rfl,a2.setq (Z0o _),v',by simp[b9],?_⟩,by clear w1;omega⟩;rw[<-Z1v,Z0E hi,Z0Q];exact bb.setq (by omega)
 clear t1 t2 t3 t6 t9 r d
 rintro T M1 ⟨t1,t2,t3,t6,t9,r,d,g,hk,hv,ho,ce⟩
 simp -dsimp -implicitDefEqProofs[r]
 refine A9j (.exit 2) (λT M1=>T 1=.list 5 (A3P s) .no/\T 2=I n/\T 3=.cptr [.list 5 (A2C l) .no,.mapr a,.mapr b,.mapr c]/\T 6=.ptr M.length 0/\T 9=.ptr xa 0/\T 12=I (C0J W)/\T 13=.ptr q 0/\A1a q Mc M1/\∃wv,M1[q]?=some (ouC x.kind l[n].label hv wv A0i)/\Fm 4 A0H.row (q+1) M1 wv (W.1.map A5l)) ?_ ?_
 .refine A0v hB W.1.length 72 (λT M1=>∃i:Nat,i<=W.1.length/\T 1=.list 5 (A3P s) .no/\T 2=I n/\T 3=.cptr [.list 5 (A2C l) .no,.mapr a,.mapr b,.mapr c]/\T 6=.ptr M.length 0/\T 9=.ptr xa 0/\T 12=I (C0J W)/\T 13=.ptr q 0/\T 70=.list 1 (A1b W.1) .no/\T 71=I W.1.length/\T 72=I i/\A1a q Mc M1/\∃wv,M1[q]?=some (ouC x.kind l[n].label hv wv A0i)/\Fm 4 A0H.row (q+1) M1 wv ((W.1.take i).map A5l)) ?_ ?_
  .exact⟨0,by omega,by simp[t1],by simp[t2],by simp[t3],by simp[t6],by simp[t9],by simp[d],by simp[g],by simp,by simp,by simp,hk,A0i,ho,.nil⟩
  clear t1 t2 t3 t6 t9 r d g hk ho;rintro T M1 ⟨i,i1,t1,t2,t3,t6,t9,d,g,t70,bf,t72,hk,wv,ho,hf⟩;by_cases hi:i<W.1.length;case neg=>
   (have a4:¬(i:Int)<W.1.length:=by omega);rw[Z0k (by omega)]at hf
   simp -dsimp -implicitDefEqProofs[t1,t2,t3,t6,t9,d,g,bf,t72,a4];exact⟨hk,wv,ho,hf⟩
  have a4:(i:Int)<W.1.length:=by omega
  have d4:=b8;have w1:IntKind.i64.wrap ((i:Int)+1)=(i+1:Nat):=by rw[A0T (by omega) (by omega)];omega
  have bg:q+1<=M1.length:=by have:=hk.1;omega
  simp -dsimp -implicitDefEqProofs[g,t70,bf,t72,hi,a4,A0b ho,A0p,A0Z];refine B8U (C:=WC gl) (enc:=A0H.row) (e:=152) (sz:=4) (news:=[A5l W.1[i]]) (o:=.full) B5a C2G B5W hf.fam (by simp;omega) rfl rfl ?_;intro v' M3 k1 k2 k3;have a3:=hf.cells k2 ho;have bb:=hf.push bg k1 k3;have a2:=hk.trans ((hf.low bg k2).le (by omega));have ag:A0n (some 1) M3 (.ptr q 6) v'=some (M3.set q (ouC x.kind l[n].label hv v' A0i)):=by rw[A0h a3,k1.cells,Z0d ⟨k1.store,by simp,rfl⟩];rfl
  have b9:q<M3.length:=(Z0b.1 a3).1;simp -dsimp -implicitDefEqProofs[t1,t2,t3,t6,t9,d,g,t70,bf,t72,ag,w1];refine⟨⟨i+1,by clear w1;omega,rfl,a2.setq (Z0o _),v',by simp[b9],?_⟩,by clear w1;omega⟩;rw[<-Z1v,Z0E hi,Z0Q];exact bb.setq (by omega)
 clear t1 t2 t3 t6 t9 r d g hk ho
 rintro T M1 ⟨t1,t2,t3,t6,t9,d,g,hk,wv,ho,co⟩
 have ac:∀M1,A1a q Mc M1->Grow M M1:=λM1 h=>h.grow bn (by omega)
 have cc:M1[xa]?=_:=(hk.2 xa bv).trans c9
 obtain⟨KL,bo,bp⟩:=hP.kd
 have ck:=bo.keep (ac M1 hk) (by simp)
 have ai:=bp (n:Int)
 rw[<-hK]at ai
 have cg:A1J prog 94 M1 (.mapr c) (I n) false=some (A8J KL n):=by rw[ck.get (C0c 94 130 (by kernel_rfl)) (n:Int) B4V false];unfold A8J;cases A1L KL (n:Int)<;>rfl
 have cw:=ai.keep (ac M1 hk) (by simp)
 generalize cx:A8J KL (n:Int)=bw at*
 have d3:K.length<=l.length:=by rw[hK];exact B1e l n l.length
 have bm:A1Z prog 130 bw=some K.length:=cw.len (e':=3) (by simp)
 simp -dsimp -implicitDefEqProofs[t2,t3,t9,A0b cc,A0p,A0Z,cg,bm]
 refine A0v hB K.length 92 (λT M2=>∃j:Nat,j<=K.length/\T 1=.list 5 (A3P s) .no/\T 3=.cptr [.list 5 (A2C l) .no,.mapr a,.mapr b,.mapr c]/\T 6=.ptr M.length 0/\T 13=.ptr q 0/\T 90=bw/\T 91=I K.length/\T 92=I j/\T 12=I (((K.take j).map (A2N F l s f)).foldl (λe k=>A9z e k.2.2) (C0J W))/\A1a q Mc M2/\∃kv,M2[q]?=some (ouC x.kind l[n].label hv wv kv)/\Fm 8 A0a.row (q+1) M2 kv (((K.take j).map (A2N F l s f)).map (·.1))/\Fm 3 IdD.row (q+1) M2 (T 18) (x.id::((K.take j).map (A2N F l s f)).flatMap (·.2.1))/\B0G kv (T 18)/\(((K.take j).map (A2N F l s f)).flatMap (·.2.1)).length<=j*1000) ?_ ?_
 .refine⟨0,by omega,by simp[t1],by simp[t3],by simp[t6],by simp[g],by simp,by simp,by simp,by simp[d],hk,A0i,ho,.nil,?_,.nil,by simp⟩;simp -dsimp -implicitDefEqProofs;exact Fm.full (l:=[x.id])
 clear t1 t2 t3 t6 t9 d g ho
 rintro T M2 ⟨j,j1,t1,t3,t6,g,a7,a5,a6,d,z,kv,ho,a0,aa,bx,be⟩
 generalize a1:T 18=iv at*
 by_cases hj:j<K.length
 case neg=>
  have bh:¬(j:Int)<K.length:=by omega
  rw[Z0k (by omega)]at a0 aa d;have b7:M2[M.length]?=some z8:=(z.2 _ (by omega)).trans cj;have bs:M.length<M2.length:=(Z0b.1 b7).1;have c8:=ac M2 z;have cu:∀X,Grow M (M2.set M.length X):=λX=>⟨by have:=c8.1;simpa using this,λj hj _=>by rw[Z0f (by omega)];exact c8.2 j hj (by simp)⟩;simp -dsimp -implicitDefEqProofs[t6,g,a5,a6,d,bh,a1,A0b ho,A0h b7,A0y bs];refine⟨cu _,?_⟩;rw[D0H,A0a.row];refine .tuple (.agg (.same trivial (.same trivial (.same trivial (.same trivial (.same trivial (ce.data (A7U (f:=A0H.row) (λw=>by simp[A0H.row,A1Q,bdd]) _) (co.data (A7U (f:=A0H.row) (λw=>by simp[A0H.row,A1Q,bdd]) _) ?_))))))) (aa.data (A7U (f:=IdD.row) (C8M _) _) (.same trivial .nil))) .nil;rw[A4k,<-Z1O];exact a0.data (A7U (f:=A0a.row) (A2J _) _) .nil
 have bh:(j:Int)<K.length:=by omega
 have w1:=A1y (i:=j) (by omega)
 have ct:=hP.keep (ac M2 z)
 have bz:=ai.keep (ac M2 z) (by simp)
 obtain⟨p,cq,cm⟩:=bz.at1 (P:=prog) (t:=3) (f:=λk:Nat=>I k) (λ_=>rfl) E4g sz3 hj
 have ah:K[j]∈A4m l n l.length:=by rw[<-hK];exact Z0u hj
 have a8:K[j]<l.length:=A9c ah
 have cy:n<K[j]:=by
  have hp:A3w l K[j]=n:=by simp[A4m]at ah;exact ah.2
  have:=(aj K[j] a8 K[j] a8 (Z0o _)).2;simp only[A3w,Z0l a8,Int.toNat_natCast]at hp;omega
 have ae:=ih K[j] M2 a8 (by omega) ct
 have ch:=B5s (F:=F) (s:=s) aj f K[j] a8 (by omega)
 have cr:K.take (j+1)=K.take j++[K[j]]:=by rw[Z0E hj]
 obtain⟨k,br⟩:∃k,k=A2N F l s f K[j]:=⟨_,rfl⟩
 have av:(K.take (j+1)).map (A2N F l s f)=(K.take j).map (A2N F l s f)++[k]:=by rw[cr,Z0Q,br];rfl
 rw[<-br]at ae ch
 obtain⟨M3,bc⟩:∃M3,M3=M2++[A0l.cells 27 k.1.row]:=⟨_,rfl⟩
 have ak:Grow M2 M3:=by rw[bc];exact A0c.app none _ _
 have cb:M3[M2.length]?=some (A0l.cells 27 k.1.row):=by rw[bc];simp
 have a3:=ak.get ho (by simp)
 have d2:q<M2.length:=(Z0b.1 ho).1
 have a2:=z.trans (ak.low (n:=q) (by omega) (by simp))
 have b2:q+1<=M3.length:=by have:=ak.1;omega
 replace a0:=a0.keep ak
 replace aa:=aa.keep ak
 generalize hA:(K.take j).map (A2N F l s f)=A at*
 have hAl:A.length<=1000:=by rw[<-hA,Z0V,Z0F];omega
 simp -dsimp -implicitDefEqProofs[t1,t3,a7,a5,a6,bh,cq,cm]
 refine A0f func71 ae ?_
 simp -dsimp -implicitDefEqProofs[g,D0H,A0m,A0n,A0e,AV.storable,AV.cells]
 rw[<-bc]
 simp -dsimp -implicitDefEqProofs[A0b a3,A0b cb,A0p,A0Z]
 refine B8U (C:=WC gl) (enc:=A0a.row) (e:=27) (sz:=8) (news:=[k.1]) (o:=.full) A8n B2L B2H a0.fam (by simp;omega) rfl rfl ?_
 intro v1 M4 k1 k2 k3
 have cs:=a0.cells k2 a3
 have d0:=a0.cells k2 cb
 have a9:=aa.beside bx k2
 have b6:=a0.push b2 k1 k3
 have b5:=aa.apart bx k3
 have bl:=a2.trans ((a0.low b2 k2).le (by omega))
 have b4:q+1<=M4.length:=by have:=k2.1;omega
 simp -dsimp -implicitDefEqProofs[a1]
 refine B8U (C:=WC gl) (enc:=IdD.row) (e:=23) (sz:=3) (news:=k.2.1) (o:=.no) C4u D0n D1c a9.fam (by simp only[Z0C];omega) rfl rfl ?_
 intro v2 M5 k4 k5 k6
 have bk:=a9.cells k5 cs
 have al:=b6.beside b5.symm k5
 have c6:=a9.push b4 k4 k6
 have c3:=(b6.apart b5.symm k6).symm
 have c0:=bl.trans ((a9.low b4 k5).le (by omega))
 have ag:A0n (some 1) M5 (.ptr q 7) v1=some (M5.set q (ouC x.kind l[n].label hv wv v1)):=by rw[A0h bk,al.fam.cells,Z0d ⟨al.fam.store,by simp,rfl⟩];rfl
 have cv:q<M5.length:=(Z0b.1 bk).1
 simp -dsimp -implicitDefEqProofs[d]
 refine A0f func73 (C7f gl _ k.2.2 M5) ?_
 simp -dsimp -implicitDefEqProofs[t1,t3,t6,g,a7,a5,a6,ag,w1]
 refine⟨⟨j+1,by clear w1;omega,rfl,?_,c0.setq (Z0o _),v1,by simp[cv],?_,?_,c3,?_⟩,by clear w1;omega⟩
 .rw[<-Z1v,av,Z2X];rfl
 .rw[<-Z1O,<-Z1v,<-Z1v,av,Z0Q];exact al.setq (by omega)
 .rw[<-Z1v,av,Z1z];have e:x.id::(A.flatMap (λy=>y.2.1)++[k].flatMap (λy=>y.2.1))=(x.id::A.flatMap (λy=>y.2.1))++k.2.1:=by simp
  rw[e];exact c6.setq (by omega)
 .rw[List.length_flatMap]at be;rw[<-Z1O,<-Z1v,<-Z1v,av,Z0Q,List.sum_append];simp only[Z0B,Z2g,List.sum_cons,List.sum_nil];clear w1;omega
end

section
variable (gl:Nat->AV)
end
section
variable (gl:Nat->AV)
end
section
variable (gl:Nat->AV)
end
section
variable (gl:Nat->AV)
end
def A5t(n:Nat)(w:A0H):A1Q n w.row:=by simp[A0H.row,A1Q,bdd]
@[simp] def D7a{k}{t}{r1 r2}{o1 o2}:A0D prog 27 [(1,I k),(2,S t),(3,.list 4 r1 o1),(4,.list 4 r2 o2)]=some (.agg [I 0,I 0,I 0,I k,S t,.list 4 r1 o1,.list 4 r2 o2,A0i]):=by
 simp[A0D,A1l,A1H,AV.cells,AV.storable]
section
variable (gl:Nat->AV)
def E4E(w:List ByteArray)(o:Own)(M:Mem)(hw:w.length<=1000000000):A0d (WC gl) 129 [.list 1 (A1b w) o] M (λv M'=>v=.list 4 (A0g (w.map A5l)) .no/\M'=M):=by
 refine A0d.dataX ?_;refine A0j (hQ [5,19]) func129 ?_;simp -dsimp -implicitDefEqProofs[A1C,A0Z];refine A0v (hQ [5,19]) w.length 4 (λT M1=>∃i:Nat,i<=w.length/\T 0=.list 1 (A1b w) o/\T 4=I i/\Arr 152 4 A0H.row M.length M1 (T 3) ((w.take i).map A5l)/\Grow M M1) ?_ ?_
 .refine⟨0,by omega,by simp,by simp,?_,A0c.app none M _⟩;simp -dsimp -implicitDefEqProofs;exact⟨.inr ⟨M.length,0,[(0,0)],rfl,by simp,by simp[List.lookup]⟩,λf hf=>by simp at hf;omega⟩
 rintro T M1 ⟨i,i1,t0,t4,hv,hg⟩;generalize b:T 3=ov at*;by_cases hi:i<w.length;case neg=>
  have a:¬(i:Int)<w.length:=by omega
  rw[Z0k (by omega)]at hv;simp -dsimp -implicitDefEqProofs[t0,t4,a,b];exact⟨hg,A2W (enc:=A0H.row) (λ_=>rfl) A5t hv.own hv.lat⟩
 have a:(i:Int)<w.length:=by omega
 have w1:IntKind.i64.wrap ((i:Int)+1)=(i+1:Nat):=by rw[A0T (by omega) (by omega)];omega
 simp -dsimp -implicitDefEqProofs[t0,t4,hi,a,b,A0p,A0Z];refine A3V (C:=WC gl) (enc:=A0H.row) (e:=152) (sz:=4) (news:=[A5l w[i]]) B5a C2G B5W (λ_=>rfl) hv.own (by simp[A0z,A0H.row,A5l]) (by simp;omega) rfl ?_;intro v' M' q1 q2 q3 _;simp -dsimp -implicitDefEqProofs[t0,t4,w1];refine⟨⟨i+1,by clear w1;omega,rfl,?_,hv.grow hg q2⟩,by clear w1;omega⟩;rw[<-Z1v,Z0E hi,Z0Q];exact⟨q1,hv.later hg.1 q3⟩
def C7z(ws:List A0H)(o:Own)(M:Mem)(hw:ws.length<=1000000000):A0d (WC gl) 96 [.list 4 (A0g ws) o] M (λv M'=>v=.list 4 (A0g (ws.map λh=>A5l h.text)) .no/\M'=M):=by
 refine A0d.dataX ?_;refine A0j (hQ [5,20]) func96 ?_;simp -dsimp -implicitDefEqProofs[A1C,A0Z];refine A0v (hQ [5,20]) ws.length 4 (λT M1=>∃i:Nat,i<=ws.length/\T 0=.list 4 (A0g ws) o/\T 4=I i/\Arr 152 4 A0H.row M.length M1 (T 3) ((ws.take i).map λh=>A5l h.text)/\Grow M M1) ?_ ?_
 .refine⟨0,by omega,by simp,by simp,?_,A0c.app none M _⟩;simp -dsimp -implicitDefEqProofs;exact⟨.inr ⟨M.length,0,[(0,0)],rfl,by simp,by simp[List.lookup]⟩,λf hf=>by simp at hf;omega⟩
 rintro T M1 ⟨i,i1,t0,t4,hv,hg⟩;generalize b:T 3=ov at*;by_cases hi:i<ws.length;case neg=>
  have a:¬(i:Int)<ws.length:=by omega
  rw[Z0k (by omega)]at hv;simp -dsimp -implicitDefEqProofs[t0,t4,a,b];exact⟨hg,A2W (enc:=A0H.row) (λ_=>rfl) A5t hv.own hv.lat⟩
 have a:(i:Int)<ws.length:=by omega
 have w1:IntKind.i64.wrap ((i:Int)+1)=(i+1:Nat):=by rw[A0T (by omega) (by omega)];omega
 simp -dsimp -implicitDefEqProofs[t0,t4,hi,a,b,A0H.row,A0p,A0Z];refine A3V (C:=WC gl) (enc:=A0H.row) (e:=152) (sz:=4) (news:=[A5l ws[i].text]) B5a C2G B5W (λ_=>rfl) hv.own (by simp[A0z,A0H.row,A5l]) (by simp;omega) rfl ?_;intro v' M' q1 q2 q3 _;simp -dsimp -implicitDefEqProofs[t0,t4,w1];refine⟨⟨i+1,by clear w1;omega,rfl,?_,hv.grow hg q2⟩,by clear w1;omega⟩;rw[<-Z1v,Z0E hi,Z0Q];exact⟨q1,hv.later hg.1 q3⟩
end
def B0b(w:A0H):Prop:=w.act=0/\w.item=0/\w.at_=0
mutual
def A2P:A0a->Prop
 |.mk id _ _ h w ks=>id=idZ/\(∀x∈h,B0b x)/\(∀x∈w,B0b x)/\B2F ks
def B2F:List A0a->Prop
 |[]=>True
 |k::ks=>A2P k/\B2F ks
end
def B5Q:∀{ks:List A0a},B2F ks<->∀k∈ks,A2P k
 |[]=>by simp[B2F]
 |k::ks=>by simp[B2F,B5Q (ks:=ks)]
def A6v(u:A0a):A2P u<->u.id=idZ/\(∀x∈u.head,B0b x)/\(∀x∈u.words,B0b x)/\∀k∈u.kids,A2P k:=by obtain⟨a,b,c,d,e,f⟩:=u;rw[A2P,B5Q];rfl
def C1P{w}(h:B0b w):w.row=[S w.text,I 0,I 0,I 0]:=by obtain⟨h1,h2,h3⟩:=h;simp[A0H.row,h1,h2,h3]
def B3e(F:IdD->Option A0a)(l:List A0S)(s:List A1R):∀f n,A2P (A2N F l s f n).1
 |0,n=>by rw[A2N,D0W,A2P];exact⟨rfl,by simp,by simp,trivial⟩
 |f+1,n=>by
  rw[A2N,A2P,B5Q];refine⟨rfl,λx hx=>?_,λx hx=>?_,λk hk=>?_⟩
  .obtain⟨y,_,rfl⟩:=Z0J.1 hx;exact⟨rfl,rfl,rfl⟩
  .obtain⟨y,_,rfl⟩:=Z0J.1 hx;exact⟨rfl,rfl,rfl⟩
  .rw[Z1O]at hk;obtain⟨y,_,rfl⟩:=Z0J.1 hk;exact B3e F l s f y
mutual
def C6n:∀u:A0a,A2P u->∀x∈A0V u,x=idZ
 |.mk id _ _ _ _ ks,h,x,hx=>by
  rw[A2P]at h;rw[A0V]at hx;rcases Z0A.1 hx with rfl|hx
  .exact h.1
  .exact C2C ks h.2.2.2 x hx
def C2C:∀ks:List A0a,B2F ks->∀x∈A3v ks,x=idZ
 |[],_,x,hx=>by rw[A3v]at hx;simp at hx
 |k::ks,h,x,hx=>by
  rw[B2F]at h;rw[A3v]at hx;rcases Z0Y.1 hx with hx|hx
  .exact C6n k h.1 x hx
  .exact C2C ks h.2 x hx
end
def C2t{u}(h:A2P u):C3g u=true:=by rw[B7x];unfold C4q;rw[show(A0V u).all (λx=>decide (x=idZ))=true from Z0t.2 λx hx=>Z0s (C6n u h x hx)];rfl
def A5k(u:A0a):Bool:=A2l u&&decide (A1w u<=8)&&decide (A0o u<=1024)
def B3E{u}(h:A2P u):B0B u=A5k u:=by rw[B0B,C2t h,Z2R,B1U];rfl
def A6Q:A0a->A0a
 |.mk _ k l h w _=>.mk idZ k l h w []
def D1o{u}(h:A3U u=true):A5k (A6Q u)=true:=by
 obtain⟨a,b,c,d,e,f⟩:=u;have h2:A3U (.mk idZ b c d e [])=true:=by unfold A3U at h|-;simp only[Z0g,Z0m]at h|-;exact⟨⟨⟨⟨h.1.1.1.1,by simp[A0a.kids]⟩,h.1.1.2⟩,h.1.2⟩,h.2⟩
 simp only[A6Q,A5k,A2l,A4h,h2,A1w,A2v,A0o,A0u];rfl
def A7C(u:A0a):Int:=if A5k u=true then if 16384<A4T (A4g 0 u)then 6 else 0 else 1
def D5A(u:A0a):(B0w 0 u&&decide (A0o u<=1024))=A5k u:=by rw[B6h,A5k];simp
end Go.Abs
