/- The texts CbU, CbT, CbD, CbE, CbF, CbG0, CbG, CbA0, CbA, CbB, CbC, CbH, CbI, CbK0. -/
import Derived.Test.YtmpdkagfplajjaaGreatDoorGG32
import Derived.Test.YtmpdkagfplajjaaGreatDoorGG25
import Derived.Test.YtmpdkagfplajjaaGreatDoorGG21
import Derived.Test.YtmpdkagfplajjaaGreatDoorGG28
import Derived.Test.YtmpdkagfplajjaaGreatDoorGG31
set_option linter.all false
set_option maxRecDepth 100000
namespace Go.Abs
open Go.Proofs TryTypes
def A0c.dataX{C}{f}{args}{M}{X}(h:A0c C f args M (λv M'=>Grow M M'/\Still M' M.length (bdd M.length) [v] [X])):A0c C f args M (λd M'=>d=X/\M'=M):=A0c.data (Q:=λd=>d=X) (h.mono λ_ _ h=>⟨h.1,X,h.2,rfl⟩)
def C6v{α:Type}{f:α->List AV}{n}(h:∀x,A1Y n (f x)):∀l:List α,A8U n (l.map f)
 |[]=>by simp[A8U]
 |x::l=>by simp only[Z0s,A8U];exact⟨h x,C6v h l⟩
def A8d{α:Type}{f:α->List AV}{n sz}(h:∀x,A1Y n (f x))(l:List α):bdd n (.list sz (l.map f) .no):=by simp only[bdd,Z1M];exact C6v h l
def C0L(n:Nat)(x:A0M):A1Y n x.row:=by simp[A0M.row,A1Y,bdd]
def C9h(n:Nat)(x:IdD):A1Y n x.row:=by simp[IdD.row,A1Y,bdd]
def B4q(n:Nat)(p:List A0M):bdd n (A9r p):=A8d (C0L n) p
def C5u(n:Nat)(c:A1F):A1Y n c.row:=by simp only[A1F.row,A1Y,Z1M];exact⟨trivial,B4q n _,trivial,trivial,trivial⟩
def C2K{M}{n sz}{ok:AV->Prop}:Still M n ok [.val (.slice none 0 0)] [.list sz [] .no]:=.nilS .nil
def A3i{α:Type}{M}{n e sz}{enc:α->List AV}{v}{l}(he:∀x,(enc x).length=sz)(hb:∀n x,A1Y n (enc x))(h:A1b e sz enc M v l)(hn:A1g n v):Still M n (bdd n) [v] [.list sz (l.map enc) .no]:=Still.rows he (λx c hc=>bddL_mem (hb n x) hc) h hn .nil
where
 bddL_mem {n:Nat}:∀{cs:List AV} {c:AV},A1Y n cs->c∈cs->bdd n c
  |d::cs,c,h,hc=>by
   simp only[A1Y]at h;rcases Z0t.1 hc with rfl|hc
   .exact h.1
   .exact bddL_mem h.2 hc
abbrev A4C(l:List IdD):List (List AV):=l.map IdD.row
def A4g(s:List A2m):List (List AV):=s.map A2m.row
@[simp] def E1Y(l:List A2m):(A4g l).length=l.length:=by simp[A4g]
@[simp] def E2A{p}{i}(h:i<(A4g p).length):(A4g p)[i]=(p[i]'(by simpa using h)).row:=by simp[A4g]
def A8L(a b:AV):Prop:=∀f,obj a=some f->obj b≠some f
def A8L.symm{a b}(h:A8L a b):A8L b a:=λf h1 h2=>h f h2 h1
def A8L.nil{b}:A8L (.val (.slice none 0 0)) b:=λf h=>by simp at h
structure Arr {α:Type} (e sz:Nat) (enc:α->List AV) (n:Nat) (M:Mem) (v:AV) (l:List α):Prop where
 own:A1b e sz enc M v l
 lat:A1g n v
section
variable {α β:Type} {e e2 sz sz2 n:Nat} {enc:α->List AV} {enc2:β->List AV} {M M':Mem} {v v' u:AV} {l news:List α} {r:List β}
def Arr.nil:Arr e sz enc n M (.val (.slice none 0 0)) []:=⟨.nil,λf h=>by simp at h⟩
def Arr.keep(h:Arr e sz enc n M v l)(hk:Grow M M'):Arr e sz enc n M' v l:=⟨h.own.keep hk (by simp),h.lat⟩
def Arr.beside(h:Arr e2 sz2 enc2 n M u r)(ha:A8L v u)(hk:A0d (obj v) M M'):Arr e2 sz2 enc2 n M' u r:=⟨h.own.keep hk (λf hf hv=>ha f hv hf),h.lat⟩
def Arr.later(h:Arr e sz enc n M v l)(hn:n<=M.length)(h3:obj v'=obj v\/A1g M.length v'):A1g n v':=λf hf=>by
 rcases h3 with h3|h3
 .exact h.lat f (h3▸hf)
 .have:=h3 f hf;omega
def Arr.apart(h:Arr e2 sz2 enc2 n M u r)(ha:A8L v u)(h3:obj v'=obj v\/A1g M.length v'):A8L v' u:=λf hf hu=>by
 rcases h3 with h3|h3
 .exact ha f (h3▸hf) hu
 .have:=h3 f hf;have:=h.own.lt hu;omega
def Arr.grow{M0}(h:Arr e sz enc M0.length M v l)(hg:Grow M0 M)(hk:A0d (obj v) M M'):Grow M0 M':=⟨Z0X hg.1 hk.1,λi hi _=>by rw[hk.2 i (by have:=hg.1;omega) (λe=>by have:=h.lat _ e;omega)];exact hg.2 i hi (by simp)⟩
end
def Arr.cells{α:Type}{e sz n q t:Nat}{enc:α->List AV}{M M':Mem}{v:AV}{l:List α}{xs:List AV}(h:Arr e sz enc n M v l)(hk:A0d (obj v) M M')(hq:M[q]?=some (.cells t xs)):M'[q]?=some (.cells t xs):=hk.get hq λe=>by
 rcases h.own with⟨rfl,_⟩|⟨f,g,a,rfl,hm,_⟩
 .simp at e
 .simp only[D6I,Z0b]at e;subst e;rw[hm]at hq;simp at hq
abbrev C9p(p:List A0M):List AV:=[A9r p]
structure Tri (M M1:Mem) (v1 v2 v3:AV) (A B:List A1F) (C:List (List A0M)):Prop where
 grow:Grow M M1
 h1:Arr 110 5 A1F.row M.length M1 v1 A
 h2:Arr 110 5 A1F.row M.length M1 v2 B
 h3:Arr 40 1 C9p M.length M1 v3 C
 a12:A8L v1 v2
 a13:A8L v1 v3
 a23:A8L v2 v3
section
variable {M M1 M2:Mem} {v1 v2 v3 v':AV} {A B A' B':List A1F} {C C':List (List A0M)}
def Tri.keep(h:Tri M M1 v1 v2 v3 A B C)(hk:Grow M1 M2):Tri M M2 v1 v2 v3 A B C:=⟨h.grow.trans hk,h.h1.keep hk,h.h2.keep hk,h.h3.keep hk,h.a12,h.a13,h.a23⟩
def Tri.push1(h:Tri M M1 v1 v2 v3 A B C)(q1:A1b 110 5 A1F.row M2 v' A')(q2:A0d (obj v1) M1 M2)(q3:obj v'=obj v1\/A1g M1.length v'):Tri M M2 v' v2 v3 A' B C:=⟨h.h1.grow h.grow q2,⟨q1,h.h1.later h.grow.1 q3⟩,h.h2.beside h.a12 q2,h.h3.beside h.a13 q2,h.h2.apart h.a12 q3,h.h3.apart h.a13 q3,h.a23⟩
def Tri.push2(h:Tri M M1 v1 v2 v3 A B C)(q1:A1b 110 5 A1F.row M2 v' B')(q2:A0d (obj v2) M1 M2)(q3:obj v'=obj v2\/A1g M1.length v'):Tri M M2 v1 v' v3 A B' C:=⟨h.h2.grow h.grow q2,h.h1.beside h.a12.symm q2,⟨q1,h.h2.later h.grow.1 q3⟩,h.h3.beside h.a23 q2,(h.h1.apart h.a12.symm q3).symm,h.a13,h.h3.apart h.a23 q3⟩
def Tri.push3(h:Tri M M1 v1 v2 v3 A B C)(q1:A1b 40 1 C9p M2 v' C')(q2:A0d (obj v3) M1 M2)(q3:obj v'=obj v3\/A1g M1.length v'):Tri M M2 v1 v2 v' A B C':=⟨h.h3.grow h.grow q2,h.h1.beside h.a13.symm q2,h.h2.beside h.a23.symm q2,⟨q1,h.h3.later h.grow.1 q3⟩,h.a12,(h.h1.apart h.a13.symm q3).symm,(h.h2.apart h.a23.symm q3).symm⟩
end
def B3z.keep{l}{L}{a b c}{M M1}(h:B3z l L a b c M)(hk:Grow M M1):B3z l L a b c M1:=by obtain⟨p1,⟨IL,p2,p3⟩,KL,p4,p5⟩:=h;exact⟨p1.keep hk (by simp),⟨IL,p2.keep hk (by simp),p3⟩,KL,p4.keep hk (by simp),λq=>(p5 q).keep hk (by simp)⟩
def C0T(n:Nat)(s:ByteArray):A1Y n (A6U s):=by simp[A6U,A1Y,bdd]
def D1G(l:List ByteArray):l.map S=l.flatMap A6U:=by
 induction l with
 |nil=>rfl
 |cons a l ih=>rw[Z0s,Z0W,ih];rfl
def A4B.toT{M M'}{l}{v}(h:A4B M l v M'):A1b 9 1 A6U M' v l/\Grow M M'/\A1g M.length v:=by
 have e:=D1G;obtain⟨h1,h2,h3⟩:=h;refine⟨?_,h2,h3⟩;rcases h1 with⟨rfl,hn⟩|⟨f,g,a,rfl,hm,hl⟩
 .exact .inl ⟨rfl,by simpa using hn⟩
 .rw[Z0K]at*;exact .inr ⟨f,g,a,rfl,by rw[<-e];exact hm,hl⟩
section
variable {l:List ByteArray} {old:List A1F} {names:List (List A0M)} {B:Nat}
def C6r(a:List ByteArray)(s:ByteArray):(A7y a s).length=a.length:=by simp[A7y]
def C1i{xs ys}{s}(hB:17<=B)(hx:∀t∈xs,t.size<=B)(hy:∀t∈ys,t.size<=16)(hn:ys≠[])(hs:s.size<=1):∀t∈A7y (xs++ys) s,t.size<=B:=by
 intro t ht;have hm:=hy _ (C7R (xs:=xs) hn);rcases Z4b ht with h|h
 .rcases Z0P.1 h with h|h
  .exact hx t h
  .have:=hy t h;omega
 .rw[h,Z0H];omega
def C7h(hB:17<=B)(hl:∀t∈l,t.size<=B){i}{out}{e}{r}(ho:∀t∈out,t.size<=B)(h:B4Y l old names i out e=some r):(∀t∈r.1,t.size<=B)/\r.1.length<=out.length+l.length+19:=by
 unfold B4Y at h;split at h;case h_2=>exact absurd h (by simp)
 rename_i c p hc hp;split at h
 .exact absurd h (by simp)
 rename_i hne;simp only[Z3a]at hne;have hw:∀t∈A4m p,t.size<=16:=B7e;have b:=C3o p;have a:C3G.size=3:=rfl;simp only[Z0b]at h;have h1:∀t∈(if A5f old i=true then out++[C3G]else out++(l.take c.frm.toNat).drop e.toNat),t.size<=B:=by
  intro t ht;split at ht
  .rcases Z0P.1 ht with q|q
   .exact ho t q
   .simp only[Z1m]at q;rw[q,a];omega
  .rcases Z0P.1 ht with q|q
   .exact ho t q
   .exact hl t (Z1n (Z1u q))
 have h2:(if A5f old i=true then out++[C3G]else out++(l.take c.frm.toNat).drop e.toNat).length<=out.length+l.length+1:=by
  split
  .rw[Z0r,List.length_singleton];omega
  .simp only[Z0r,Z1x,Z0E];omega
 generalize(if A5f old i=true then out++[C3G]else out++(l.take c.frm.toNat).drop e.toNat)=X at*;rw[<-h];refine⟨?_,?_⟩
 .simp only;split
  .exact C1i hB h1 hw hne.1 (B4x _)
  .intro t ht;rcases Z0P.1 ht with q|q
   .exact h1 t q
   .have:=hw t q;omega
 .simp only;split
  .rw[C6r,Z0r];omega
  .rw[Z0r];omega
def B9i(hB:17<=B)(hl:∀t∈l,t.size<=B):∀(n i:Nat) (a:List ByteArray) (e:Int),(∀t∈a,t.size<=B)->(∀t∈B5c l old names n i a e,t.size<=B)/\(B5c l old names n i a e).length<=a.length+n*(l.length+19)+l.length
 |0,i,a,e,ho=>by
  rw[B5c];refine⟨λt ht=>?_,by simp only[Z0r,Z1x];omega⟩;rcases Z0P.1 ht with q|q
  .exact ho t q
  .exact hl t (Z1u q)
 |n+1,i,a,e,ho=>by
  rw[B5c];cases hs:B4Y l old names i a e with
  |none=>exact⟨hl,by simp only;omega⟩
  |some r=>obtain⟨k1,k2⟩:=C7h hB hl ho hs;obtain⟨q1,q2⟩:=B9i hB hl n (i+1) r.1 r.2 k1;refine⟨q1,?_⟩;simp only;rw[Z0L];omega
def A8D(hB:17<=B)(hl:∀t∈l,t.size<=B):(∀t∈A5u l old names,t.size<=B)/\(A5u l old names).length<=old.length*(l.length+19)+l.length:=by
 unfold A5u;split
 .obtain⟨a,b⟩:=B9i (old:=old) (names:=names) hB hl old.length 0 [] 0 (by simp);exact⟨a,by simpa using b⟩
 .exact⟨hl,by omega⟩
end
section
variable (cs:List A1F) (nm:Nat->List (List A0M))
def C3y(i:Nat)(h:i<cs.length):A8e cs nm (i+1)=A8e cs nm i++(nm i).map λ_=>cs[i]:=by simp[A8e,Z2N,Z1r,h]
def C1O(i:Nat):A9S nm (i+1)=A9S nm i++nm i:=by simp[A9S,Z2N,Z1r]
def B8Q(i:Nat)(h:i<cs.length):A6l cs nm (i+1)=A6l cs nm i++if nm i=[]then[cs[i]]else(nm i).map λp=>⟨0,p,⟨#[]⟩,0,0⟩:=by simp[A6l,Z2N,Z1r,h]
def B1Q{K}(hk:∀i,(nm i).length<=K):∀i,(A8e cs nm i).length<=i*K
 |0=>by simp[A8e]
 |i+1=>by
  have:=B1Q hk i;have:=hk i;by_cases h:i<cs.length
  .rw[C3y cs nm i h,Z0r,Z0K,Z0L];omega
  ·(have e:A8e cs nm (i+1)=A8e cs nm i:=by simp[A8e,Z2N,Z1r,h]);rw[e,Z0L];omega
def C5N{K}(hk:∀i,(nm i).length<=K):∀i,(A9S nm i).length<=i*K
 |0=>by simp[A9S]
 |i+1=>by have:=C5N hk i;have:=hk i;rw[C1O,Z0r,Z0L];omega
def B6j{K}(hk:∀i,(nm i).length<=K):∀i,(A6l cs nm i).length<=i*(K+1)
 |0=>by simp[A6l]
 |i+1=>by
  have:=B6j hk i;have:=hk i;by_cases h:i<cs.length
  .rw[B8Q cs nm i h,Z0r,Z0L];split
   .simp;omega
   .rw[Z0K];omega
  ·(have e:A6l cs nm (i+1)=A6l cs nm i:=by simp[A6l,Z2N,Z1r,h]);rw[e,Z0L];omega
def D5V{i}{p}(h:p∈A9S nm i):∃j,p∈nm j:=by simp only[A9S,Z2W]at h;obtain⟨j,_,h⟩:=h;exact⟨j,h⟩
end
def B2F{F:IdD->Option A0a}{l}{s}{id}{n}{K}(h:∀m∈s,m.to.length<=K):(A2F F l s id n).length<=K:=by
 have ht:(D1P s id n).length<=K:=by
  unfold D1P;split
  .rename_i m hm;exact h m (Z3m hm)
  .simp
 unfold A2F;split
 .rw[Z0K];exact ht
 .simp
def B9g{F:IdD->Option A0a}{l}(hs:∀s∈l,s.good):∀f n,∀x∈A5O F l f n,x.lab.size<=maxLen
 |0,n,x,hx=>by simp only[A5O,Z1m]at hx;subst hx;simp[A3a,maxLen,ByteArray.size]
 |f+1,n,x,hx=>by
  rw[A5O]at hx;split at hx
  .simp only[Z1m]at hx;subst hx;simp[A3a,maxLen,ByteArray.size]
  .rcases Z0P.1 hx with h|h
   .exact B9g hs f _ x h
   .simp only[Z1m]at h;subst h;simp only[A8V];split
    .rename_i s hs';exact(hs _ (Z3g hs')).2.2
    .simp[maxLen,ByteArray.size]
def C1r{F:IdD->Option A0a}{l}{s}{id}{n}(hl:l.length<=1000)(hs:∀s∈l,s.good):∀p∈A2F F l s id n,C9l p:=by
 intro p hp;unfold A2F at hp;split at hp
 .obtain⟨y,_,rfl⟩:=Z0G.1 hp;refine⟨?_,B9g hs _ _⟩;have:=B5L F l ((A3e l y).getD 0+1) (((A3e l y).getD 0:Nat):Int);have:(A3e l y).getD 0<=l.length:=by
   cases h:A3e l y with
   |none=>simp
   |some k=>have:=(Z3s.1 h).1;simp only[Z1y];omega
  omega
 .simp at hp
open Go.Proofs TryTypes Tryz
def isM(id:IdD)(n:Int)(m:A2m):Bool:=decide (m.at_=id)&&decide (m.n=n)
def D8n(s:List A2m)(id:IdD)(n:Int):D1P s id n=match s.find? (isM id n)with|some m=>m.to|none=>[]:=rfl
def C2b{α:Type}(p:α->Bool):∀(l:List α) (j:Nat),(A3S p l j=-1/\l.find? p=none)\/∃k:Nat,A3S p l j=((j+k:Nat):Int)/\∃h:k<l.length,l.find? p=some l[k]
 |[],j=>.inl ⟨rfl,rfl⟩
 |x::l,j=>by
  rw[A3S,Z3K];cases c:p x with
  |true=>exact .inr ⟨0,by simp,by simp,by simp⟩
  |false=>
   simp only[Z0J,Z1o];rcases C2b p l (j+1)with h|⟨k,h1,h2,h3⟩
   .exact .inl h
   .exact .inr ⟨k+1,by rw[h1];congr 1;omega,by simpa using h2,by rw[h3];simp⟩
def C3x{α:Type}{p:α->Bool}{l}{i}(hi:i<l.length)(h:A3S p l 0=A3S p (l.drop i) i):A3S p l 0=if p l[i]=true then(i:Int)else A3S p (l.drop (i+1)) (i+1):=by rw[h,Z0i hi,A3S]
section
variable (gl:Nat->AV)
def E1q(m:A2m)(id:IdD)(n:Int)(M:Mem):A0c (WC gl) 223 [.agg m.row,.cptr [I id.act,I id.item,I id.n],.cptr [I n]] M (λv M'=>v=B (isM id n m)/\M'=M):=by
 refine A0o hB func223 ?_;have he:=B3h m.at_ id;by_cases c:m.at_=id
 .rw[Z0v c]at he;simp -dsimp -implicitDefEqProofs[A2m.row,he,isM,Z0v c];rfl
 .rw[Z0y c]at he;simp -dsimp -implicitDefEqProofs[A2m.row,he,isM,c]
def D8b(s:List A2m)(id:IdD)(n:Int)(M:Mem)(hl:s.length<=1000):A0c (WC gl) 222 [.list 5 (A4g s) .no,.func (.func 223) [] [.cptr [I id.act,I id.item,I id.n],.cptr [I n]]] M (λv M'=>v=I (A3S (isM id n) s 0)/\M'=M):=by
 refine A0o hB func222 ?_;simp -dsimp -implicitDefEqProofs;refine A0y hB s.length 8 (λT M1=>∃i:Nat,M1=M/\i<=s.length/\T 0=.list 5 (A4g s) .no/\T 1=.func (.func 223) [] [.cptr [I id.act,I id.item,I id.n],.cptr [I n]]/\T 7=I s.length/\T 8=I i/\A3S (isM id n) s 0=A3S (isM id n) (s.drop i) i) ?_ ?_
 .exact⟨0,rfl,by omega,by simp,by simp,by simp,by simp,by simp⟩
 rintro T M1 ⟨i,rfl,h1,t0,t1,t7,t8,h2⟩;by_cases hi:i<s.length
 .have a:(i:Int)<s.length:=by omega
  have w1:=A1E (i:=i) (by omega);have h3:=C3x hi h2;have hm:=E1q gl s[i] id n M1;simp only[A2m.row]at hm;simp -dsimp -implicitDefEqProofs[t0,t1,t7,t8,hi,a,A2m.row];refine A0i func223 hm ?_;cases c:isM id n s[i]with
  |true=>rw[c,Z0d rfl]at h3;simp -dsimp -implicitDefEqProofs[t0,t1,t7,t8,h3]
  |false=>rw[c,Z0c (by simp)]at h3;simp -dsimp -implicitDefEqProofs[t0,t1,t7,t8,w1];exact⟨⟨i+1,by clear w1;omega,rfl,h3⟩,by clear w1;omega⟩
 .have a:¬(i:Int)<s.length:=by omega
  rw[Z0o (by omega)]at h2;simp -dsimp -implicitDefEqProofs[t0,t1,t7,t8,a,h2,A3S]
def E0P:A8O prog 3=some (I 0):=D6K
def C8A(F:IdD->Option A0a)(s:List A2m)(l:List A0C)(L:List (IdD×A0a))(hF:A1V L=F)(a b c:Nat)(id:IdD)(n:Int)(M:Mem)(hP:B3z l L a b c M)(hl:l.length<=1000)(hs:s.length<=1000)(ht:∀m∈s,m.to.length<=1000)(a5:∀j,j<l.length->B3j l j):A0c (WC gl) 176 [B2d l a b c,.list 5 (A4g s) .no,.agg id.row,I n] M (λv M'=>v=.list 1 (A7s (A2F F l s id n)) .no/\M'=M):=by
 subst hF
 refine A0c.dataX ?_
 refine A0o (hQ [44]) func176 ?_
 simp -dsimp -implicitDefEqProofs[IdD.row]
 refine A0i func222 (D8b gl s id n M hs) ?_
 have f:=D8n s id n
 rcases C2b (isM id n) s 0 with⟨h1,h2⟩|⟨k,h1,h2,h3⟩
 .rw[h2]at f;have hn:A2F (A1V L) l s id n=[]:=by simp[A2F,f]
  simp -dsimp -implicitDefEqProofs[h1];rw[hn];exact⟨Grow.refl _,C2K⟩
 rw[h3]at f
 simp only at f
 obtain⟨T0,a1⟩:∃t,t=s[k].to:=⟨_,rfl⟩
 rw[<-a1]at f
 have ac:T0.length<=1000:=by rw[a1];exact ht _ (Z0q h2)
 rw[Z0I]at h1
 have k1:¬(k:Int)<0:=by omega
 have k2:(k:Int)<s.length:=by omega
 simp -dsimp -implicitDefEqProofs[h1,k1,k2,h2,A2m.row]
 rw[<-a1]
 obtain⟨IL,aa,a8⟩:=hP.ix
 refine A0y (hQ [44]) T0.length 26 (λT M1=>∃i:Nat,Grow M M1/\i<=T0.length/\T 4=.cptr [.list 5 (A1U l) .no,.mapr a,.mapr b,.mapr c]/\T 24=.list 3 (A4C T0) .no/\T 25=I T0.length/\T 26=I i/\(∀y∈T0.take i,(A3e l y).isSome=true)/\A1b 40 1 C9p M1 (T 10) ((T0.take i).map λy=>A5O (A1V L) l ((A3e l y).getD 0+1) ((A3e l y).getD 0:Nat))/\A1g M.length (T 10)) ?_ ?_
 .refine⟨0,Grow.refl _,by omega,by simp,by simp,by simp,by simp,by simp,?_,?_⟩
  .simp only[Z2l,Z2c];exact .inl ⟨by simp,rfl⟩
  .simp[A1g]
 rintro T M1 ⟨i,hg,i1,t4,w,r,u,x,hv,hL⟩
 generalize g:T 10=ov at*
 by_cases hi:i<T0.length
 .have z:(i:Int)<T0.length:=by omega
  have w1:=A1E (i:=i) (by omega);obtain⟨M2,a0⟩:∃M2,M2=M1++[A0p.cells 23 [I T0[i].act,I T0[i].item,I T0[i].n]]:=⟨_,rfl⟩;have o:Grow M1 M2:=by rw[a0];exact A0d.app none _ _
  have a2:M2[M1.length]?=some (A0p.cells 23 [I T0[i].act,I T0[i].item,I T0[i].n]):=by rw[a0];simp
  have a7:=(aa.keep hg (by simp)).keep o (by simp);have a9:=(hP.units.keep hg (by simp)).keep o (by simp);have a6:=hv.keep o (by simp);have d:=a7.get (A9j 93 3 (by kernel_rfl)) T0[i] E0P true;simp only[A2R,IdD.row,a8]at d;have ab:A2F (A1V L) l s id n=if(T0.all λy=>(A3e l y).isSome)=true then T0.map λy=>A5O (A1V L) l ((A3e l y).getD 0+1) ((A3e l y).getD 0:Nat)else[]:=by simp only[A2F,f]
  simp -dsimp -implicitDefEqProofs[t4,w,r,u,hi,z,IdD.row,A0l,A0m,A0e];rw[<-a0];cases hsl:A3e l T0[i]with
  |none=>rw[hsl]at d;(have hn:A2F (A1V L) l s id n=[]:=by rw[ab,Z0c];rw[Z0u];intro h;have:=h T0[i] (Z0q hi);rw[hsl]at this;exact absurd this (by simp));simp -dsimp -implicitDefEqProofs[t4,w,r,u,A0b a2,d];rw[hn];exact⟨hg.trans o,C2K⟩
  |some q=>
   rw[hsl]at d;(have hq:q<l.length:=by have:=Z3s.1 hsl;exact this.1);have a4:=A0c.still (enc:=A0M.row) (sz:=2) (λ_=>rfl) C0L (D3N gl l L a b c hl a5 (q+1) q M2 (by omega) (by omega) (by omega) a9);simp -dsimp -implicitDefEqProofs[t4,w,r,u,A0b a2,d,g];refine A0i func224 a4 ?_;simp -dsimp -implicitDefEqProofs[g,A0n,A0W];refine A3p (C:=WC gl) (enc:=C9p) (e:=40) (sz:=1) (news:=[A5O (A1V L) l (q+1) (q:Nat)]) D5Y D9D D9B (λ_=>rfl) a6 (by simp[A0A]) (by simp;omega) rfl ?_;intro v' M3 q1 q2 q3 _;obtain⟨r1,r2⟩:=A2D (X:=[]) (hg.trans o) hL (by simpa using q2) (by simpa using q3);(have a3:T0.take (i+1)=T0.take i++[T0[i]]:=by rw[Z0D hi]);simp -dsimp -implicitDefEqProofs[t4,w,r,u,w1];refine⟨⟨r1,i+1,by clear w1;omega,rfl,λy hy=>?_,?_,r2⟩,by clear w1;omega⟩
   .rw[a3]at hy;rcases Z0P.1 hy with h|h
    .exact x y h
    .simp only[Z1m]at h;rw[h,hsl];rfl
   .rw[<-Z1w,a3,Z0Q];simp only[Z0s,Z2c,hsl,Z1y];exact q1
 .have z:¬(i:Int)<T0.length:=by omega
  rw[Z0k (by omega)]at hv x;have hn:A2F (A1V L) l s id n=T0.map λy=>A5O (A1V L) l ((A3e l y).getD 0+1) ((A3e l y).getD 0:Nat):=by simp only[A2F,f];rw[Z0d (Z0u.2 x)]
  rw[<-hn]at hv;simp -dsimp -implicitDefEqProofs[t4,w,r,u,z,g];exact⟨hg,A3i (λ_=>rfl) (λn p=>by simp only[C9p,A1Y,Z1M];exact B4q n p) hv hL⟩
end
@[simp] def E8j{k j}{a b}:A1z prog .neq 159 (.agg [I k,S a]) (.agg [I j,S b])=some (B (!(decide (k=j)&&decide (a=b)))):=by
 have h1:prog.eqGuardType prog.depth 159=false:=by kernel_rfl
 have h2:prog.stoodInHeld 159=false:=by kernel_rfl
 simp[A1z,A2O,A4s,A3I,A3F,h1,A8a,h2,A2N];by_cases c1:k=j
 .by_cases c2:a=b
  .simp[c1,c2]
  .have:¬a.data=b.data:=λe=>c2 (by cases a;cases b;simpa using e);(have e:(a.data==b.data)=false:=by simpa using this);rw[e];simp[c1,c2]
 .have e:(k==j)=false:=by simpa using c1
  rw[e];simp[c1]
def pk(p:List A0M):List (Int×ByteArray):=p.map λs=>(s.k,s.lab)
def C4w(p:List A0M):(pk p).length=p.length:=by simp[pk]
def D0W{p q}{i}(hp:i<p.length)(hq:i<q.length)(h:pk p=pk q<->pk (p.drop i)=pk (q.drop i)):pk p=pk q<->(p[i].k=q[i].k/\p[i].lab=q[i].lab)/\pk (p.drop (i+1))=pk (q.drop (i+1)):=by
 rw[h,Z0i hp,Z0i hq]
 simp only[pk,Z0s,Z1c,Z0f]
section
variable (gl:Nat->AV)
def C2s(p q:List A0M)(o1 o2:Own)(M:Mem)(hp:p.length<=1000000):A0c (WC gl) 178 [.list 2 (A1T p) o1,.list 2 (A1T q) o2] M (λv M'=>v=B (decide (pk p=pk q))/\M'=M):=by
 refine A0o hB func178 ?_;by_cases hl:p.length=q.length;case neg=>
  have b:¬(p.length:Int)=q.length:=by omega
  have hr:¬pk p=pk q:=λe=>hl (by rw[<-C4w p,e,C4w]);simp -dsimp -implicitDefEqProofs[b,hr]
 have b:(p.length:Int)=q.length:=by omega
 simp -dsimp -implicitDefEqProofs[b];refine A0y hB p.length 13 (λT M1=>∃i:Nat,M1=M/\i<=p.length/\T 0=.list 2 (A1T p) o1/\T 1=.list 2 (A1T q) o2/\T 12=I q.length/\T 13=I i/\(pk p=pk q<->pk (p.drop i)=pk (q.drop i))) ?_ ?_
 .exact⟨0,rfl,by omega,by simp,by simp,by simp[b],by simp,by simp⟩
 rintro T M1 ⟨i,rfl,h1,t0,t1,d,f,h2⟩;by_cases hi:i<p.length
 .have a:(i:Int)<q.length:=by omega
  have g:(i:Int)<p.length:=by omega
  have hq:i<q.length:=by omega
  have w1:=A1E (i:=i) (by omega);have h3:=D0W hi hq h2;simp -dsimp -implicitDefEqProofs[t0,t1,d,f,a];refine A0X hB (A0t gl) (λ_=>0) (λ_=>0) (by rfl) (by kernel_rfl) ?_;by_cases c:p[i].k=q[i].k/\p[i].lab=q[i].lab
  .simp -dsimp -implicitDefEqProofs[t0,t1,d,f,hi,a,hq,g,c.1,c.2,w1];exact⟨⟨i+1,by clear w1;omega,rfl,by rw[h3];exact⟨λh=>h.2,λh=>⟨c,h⟩⟩⟩,by clear w1;omega⟩
  .have hr:¬pk p=pk q:=λe=>c (h3.1 e).1;have hd:(decide (p[i].k=q[i].k)&&decide (p[i].lab=q[i].lab))=false:=by
    rw[Z2M,Z1e,Z1e];by_cases c1:p[i].k=q[i].k
    .exact .inr λe=>c ⟨c1,e⟩
    .exact .inl c1
   simp -dsimp -implicitDefEqProofs[t0,t1,d,f,hi,a,hq,g,hd,hr]
 .have a:¬(i:Int)<q.length:=by omega
  rw[Z0o (by omega),Z0o (by omega)]at h2;have hr:pk p=pk q:=h2.2 rfl;simp -dsimp -implicitDefEqProofs[t0,t1,d,f,a,hr]
def D3e(p q:List A0M)(o1 o2:Own)(M:Mem)(hp:p.length<=1000000):A0c (WC gl) 37 [.list 2 (A1T p) o1,.list 2 (A1T q) o2] M (λv M'=>v=B (decide (pk p=pk q))/\M'=M):=by
 refine A0o hB func37 ?_;by_cases hl:p.length=q.length;case neg=>
  have b:¬(p.length:Int)=q.length:=by omega
  have hr:¬pk p=pk q:=λe=>hl (by rw[<-C4w p,e,C4w]);simp -dsimp -implicitDefEqProofs[b,hr]
 have b:(p.length:Int)=q.length:=by omega
 simp -dsimp -implicitDefEqProofs[b];refine A0y hB p.length 5 (λT M1=>∃i:Nat,M1=M/\i<=p.length/\T 0=.list 2 (A1T p) o1/\T 1=.list 2 (A1T q) o2/\T 5=I i/\(pk p=pk q<->pk (p.drop i)=pk (q.drop i))) ?_ ?_
 .exact⟨0,rfl,by omega,by simp,by simp,by simp,by simp⟩
 rintro T M1 ⟨i,rfl,h1,t0,t1,t5,h2⟩;by_cases hi:i<p.length
 .have a:(i:Int)<q.length:=by omega
  have d:(i:Int)<p.length:=by omega
  have hq:i<q.length:=by omega
  have w1:=A1E (i:=i) (by omega);have h3:=D0W hi hq h2;simp -dsimp -implicitDefEqProofs[t0,t1,t5,a,d];refine A0X hB (A0t gl) (λ_=>0) (λ_=>0) (by rfl) (by kernel_rfl) ?_;by_cases c:p[i].k=q[i].k/\p[i].lab=q[i].lab
  .simp -dsimp -implicitDefEqProofs[t0,t1,t5,hi,a,hq,d,c.1,c.2,w1];exact⟨⟨i+1,by clear w1;omega,rfl,by rw[h3];exact⟨λh=>h.2,λh=>⟨c,h⟩⟩⟩,by clear w1;omega⟩
  .have hr:¬pk p=pk q:=λe=>c (h3.1 e).1;have hd:(decide (p[i].k=q[i].k)&&decide (p[i].lab=q[i].lab))=false:=by
    rw[Z2M,Z1e,Z1e];by_cases c1:p[i].k=q[i].k
    .exact .inr λe=>c ⟨c1,e⟩
    .exact .inl c1
   simp -dsimp -implicitDefEqProofs[t0,t1,t5,hi,a,hq,d,hd,hr]
 .have a:¬(i:Int)<p.length:=by omega
  have f:¬(i:Int)<q.length:=by omega
  rw[Z0o (by omega),Z0o (by omega)]at h2;have hr:pk p=pk q:=h2.2 rfl;simp -dsimp -implicitDefEqProofs[t0,t1,t5,a,f,hr]
def D5a(a b:A1F)(M:Mem)(ha:a.path.length<=1000000):A0c (WC gl) 177 [.agg a.row,.agg b.row] M (λv M'=>v=B (B1J a b)/\M'=M):=by
 refine A0o hB func177 ?_;by_cases c1:a.k=b.k;case neg=>simp -dsimp -implicitDefEqProofs[A1F.row,c1,B1J]
 by_cases c2:a.to=b.to;case neg=>simp -dsimp -implicitDefEqProofs[A1F.row,c1,c2,B1J]
 simp -dsimp -implicitDefEqProofs[A1F.row,c1,c2];refine A0i func178 (C2s gl a.path b.path .no .no M ha) ?_;simp -dsimp -implicitDefEqProofs[B1J,c1,c2,pk];exact decide_eq_decide.2 Iff.rfl
def D5x{a b:List A1F}{f:A1F×A1F->Bool}{i:Nat}(ha:i<a.length)(hb:i<b.length)(h:(a.zip b).all f=((a.drop i).zip (b.drop i)).all f):(a.zip b).all f=(f (a[i],b[i])&&((a.drop (i+1)).zip (b.drop (i+1))).all f):=by rw[h,Z0i ha,Z0i hb];rfl
def D2J(a b:List A1F)(o1 o2:Own)(M:Mem)(hl:a.length<=1000000000)(ha:∀c∈a,c.path.length<=1000000):A0c (WC gl) 179 [.list 5 (A5p a) o1,.list 5 (A5p b) o2,.func (.func 177) [] []] M (λv M'=>v=B (B2h a b)/\M'=M):=by
 refine A3f (λ_=>trivial) ?_;refine A0o hB func179 ?_;by_cases hlen:a.length=b.length;case neg=>
  have d:¬(a.length:Int)=b.length:=by omega
  simp -dsimp -implicitDefEqProofs[d,B2h,hlen,A0d.refl]
 have d:(a.length:Int)=b.length:=by omega
 have hm:B2h a b=(a.zip b).all (λx=>B1J x.1 x.2):=by simp[B2h,hlen]
 rw[hm];simp -dsimp -implicitDefEqProofs[d];refine A0y hB a.length 17 (λT M1=>∃i:Nat,Grow M M1/\i<=a.length/\T 0=.list 5 (A5p a) o1/\T 1=.list 5 (A5p b) o2/\T 2=.func (.func 177) [] []/\T 15=.list 5 (A5p a) o1/\T 16=I b.length/\T 17=I i/\(a.zip b).all (λx=>B1J x.1 x.2)=((a.drop i).zip (b.drop i)).all (λx=>B1J x.1 x.2)) ?_ ?_
 .exact⟨0,Grow.refl _,by omega,by simp,by simp,by simp,by simp,by simp[d],by simp,by simp⟩
 rintro T M1 ⟨i,hg,h1,t0,t1,t2,j,f,g,h2⟩;by_cases hi:i<a.length
 .have h:(i:Int)<b.length:=by omega
  have k:(i:Int)<a.length:=by omega
  have hq:i<b.length:=by omega
  have w1:IntKind.i64.wrap ((i:Int)+1)=(i+1:Nat):=by rw[A0J (by omega) (by omega)];omega
  have h3:=D5x hi hq h2;have hX:(M1++[A0p.cells 110 a[i].row,A0p.cells 110 b[i].row])[M1.length]?=some (A0p.cells 110 a[i].row):=by simp
  have hY:(M1++[A0p.cells 110 a[i].row,A0p.cells 110 b[i].row])[M1.length+1]?=some (A0p.cells 110 b[i].row):=by simp[Z0Z]
  have e:Grow M (M1++[A0p.cells 110 a[i].row,A0p.cells 110 b[i].row]):=hg.trans (A0d.app none _ _);have hs:=D5a gl a[i] b[i] (M1++[A0p.cells 110 a[i].row,A0p.cells 110 b[i].row]) (ha _ (Z0q hi));simp only[A1F.row]at hX hY e hs;simp -dsimp -implicitDefEqProofs[t0,t1,t2,j,f,g,hi,h,k,hq,A1F.row,A0l,A0m,A0e,A0b hX,A0b hY];refine A0i func177 hs ?_;cases c:B1J a[i] b[i]with
  |false=>rw[c,Z0B]at h3;simp -dsimp -implicitDefEqProofs[h3,e]
  |true=>rw[c,Z0A]at h3;simp -dsimp -implicitDefEqProofs[t0,t1,t2,j,f,g,w1];exact⟨⟨e,i+1,by clear w1;omega,rfl,h3⟩,by clear w1;omega⟩
 .have h:¬(i:Int)<b.length:=by omega
  rw[Z0o (by omega)]at h2;have hr:(a.zip b).all (λx=>B1J x.1 x.2)=true:=by rw[h2];rfl
  simp -dsimp -implicitDefEqProofs[t0,t1,t2,j,f,g,h,hr,hg]
end
@[simp] def D9v{k}{rows}{o}:A0w prog 110 [(0,I k),(1,.list 2 rows o)]=some (.agg [I k,.list 2 rows o,S ⟨#[]⟩,I 0,I 0]):=by
 simp[A0w,A1e,A1r,A0e,AV.cells,AV.storable]
section
variable (gl:Nat->AV)
def D3m(F:IdD->Option A0a)(s:List A2m)(l:List A0C)(L:List (IdD×A0a))(hF:A1V L=F)(a b c:Nat)(x:A0a)(M:Mem)(hP:B3z l L a b c M)(hl:l.length<=1000)(ba:∀s∈l,s.good)(hs:s.length<=1000)(ht:∀m∈s,m.to.length<=40)(aq:∀j,j<l.length->B3j l j)
 (hx:x.good)(bc:x.words.length<=300):
 A0c (WC gl) 125 [B2d l a b c,.agg x.row,.list 5 (A4g s) .no] M (λv M'=>v=.tuple [.list 1 (A1d (A7o F l s x).1) .no,B (A7o F l s x).2]/\M'=M):=by
 refine A0c.dataX ?_
 obtain⟨xs,ad⟩:∃xs,xs=A0N x.words:=⟨_,rfl⟩
 have bi:xs.length<=300:=by rw[ad];simpa[A0N]using bc
 have a7:∀t∈xs,t.size<=maxLen:=by rw[ad];intro t h;obtain⟨w,hw,rfl⟩:=Z0G.1 h;exact(((A0a.good_iff _).1 hx).2.2.2.2.2.2.1 w hw).1
 rw[x.row_eq]
 refine A0o (hQ [32,54,64,68,73]) func125 ?_
 simp -dsimp -implicitDefEqProofs
 refine D4F (.exit 0) (λT M1=>T 2=.list 5 (A4g s) .no/\T 3=.cptr [.list 5 (A1U l) .no,.mapr a,.mapr b,.mapr c]/\T 4=.cptr [I x.id.act,I x.id.item,I x.id.n,I x.kind,S x.label,.list 4 (A0g x.head) .no,.list 4 (A0g x.words) .no,.list 8 (A0q x.kids) .no]/\Grow M M1/\Arr 9 1 A6U M.length M1 (T 8) xs) ?_ ?_
 .refine A0y (hQ [32,54,64,68,73]) x.words.length 24 (λT M1=>∃i:Nat,i<=x.words.length/\T 2=.list 5 (A4g s) .no/\T 3=.cptr [.list 5 (A1U l) .no,.mapr a,.mapr b,.mapr c]/\T 4=.cptr [I x.id.act,I x.id.item,I x.id.n,I x.kind,S x.label,.list 4 (A0g x.head) .no,.list 4 (A0g x.words) .no,.list 8 (A0q x.kids) .no]/\T 22=.list 4 (A0g x.words) .no/\T 23=I x.words.length/\T 24=I i/\Grow M M1/\Arr 9 1 A6U M.length M1 (T 8) (A0N (x.words.take i))) ?_ ?_
  .refine⟨0,by omega,by simp,by simp,by simp,by simp,by simp,by simp,Grow.refl _,?_⟩;simpa[A0N]using Arr.nil
  rintro T M1 ⟨i,i1,t2,t3,t4,a9,ae,aa,hg,hv⟩;generalize av:T 8=ov at*;by_cases hi:i<x.words.length
  ·(have a0:(i:Int)<x.words.length:=by omega);have w1:=A1E (i:=i) (by omega)
   obtain⟨M2,al⟩:∃M2,M2=M1++[A0p.cells 152 [S x.words[i].text,I x.words[i].act,I x.words[i].item,I x.words[i].at_]]:=⟨_,rfl⟩;(have ah:Grow M1 M2:=by rw[al];exact A0d.app none _ _);(have be:M2[M1.length]?=some (A0p.cells 152 [S x.words[i].text,I x.words[i].act,I x.words[i].item,I x.words[i].at_]):=by rw[al];simp);(have ai:A0N (x.words.take (i+1))=A0N (x.words.take i)++[x.words[i].text]:=by rw[A0N,A0N,Z1j,Z0m hi,Z0Q];rfl);have af:=hv.keep ah;simp -dsimp -implicitDefEqProofs[t2,t3,t4,a9,ae,aa,hi,a0,A0H.row,A0l,A0m,A0e];rw[<-al];simp -dsimp -implicitDefEqProofs[t2,t3,t4,a9,ae,aa,av,A0b be,A0n,A0W];refine A3p (C:=WC gl) (enc:=A6U) (e:=9) (sz:=1) (news:=[x.words[i].text]) A8Q B1E B9w (λ_=>rfl) af.own (by simp[A0A]) (by simp[A0N];omega) rfl ?_;intro v' M3 q1 q2 q3 _;simp -dsimp -implicitDefEqProofs[t2,t3,t4,a9,ae,aa,w1];refine⟨⟨i+1,by clear w1;omega,rfl,af.grow (hg.trans ah) q2,?_⟩,by clear w1;omega⟩;rw[ai];exact⟨q1,af.later (hg.trans ah).1 q3⟩
  ·(have a0:¬(i:Int)<x.words.length:=by omega);rw[Z0k (by omega),<-ad]at hv
   simp -dsimp -implicitDefEqProofs[t2,t3,t4,a9,ae,aa,a0,av,hg];exact hv
 rintro T M1 ⟨t2,t3,t4,hg,hv⟩
 refine⟨M.length,T.put (some 8) (.list 1 (A1d xs) .no),A9R (B6e T) (Still.rows (λ_=>rfl) (λ_ _ _=>trivial) hv.own hv.lat .nil),?_⟩
 have a6:=B6Y hg
 generalize A4M M1 M.length=M2 at*
 clear hv hg M1
 obtain⟨cs,am⟩:∃cs,cs=A3o xs 0:=⟨_,rfl⟩
 have br:cs.length<=xs.length:=by rw[am];exact B0r xs _ _
 have ar:=λM=>A0c.still (enc:=A1F.row) (sz:=5) (λ_=>rfl) C5u (C8n gl xs .no (by omega) a7 M)
 rw[<-am]at ar
 simp -dsimp -implicitDefEqProofs[Env.put_some,t2,t3,t4]
 refine A0i func98 (ar M2) ?_
 obtain⟨nm,ab⟩:∃nm:Nat->List (List A0M),nm=λn:Nat=>A2F F l s x.id n:=⟨_,rfl⟩
 have a1:∀i,(nm i).length<=40:=λi=>by rw[ab];exact B2F ht
 have bf:∀i,∀p∈nm i,C9l p:=λi p hp=>by rw[ab]at hp;exact C1r hl ba p hp
 simp -dsimp -implicitDefEqProofs[Env.put_some,t2,t3,t4]
 refine D4F (.exit 2) (λT M1=>T 8=.list 1 (A1d xs) .no/\Tri M M1 (T 11) (T 12) (T 13) (A8e cs nm cs.length) (A6l cs nm cs.length) (A9S nm cs.length)) ?_ ?_
 .refine A0y (hQ [32,54,64,68,73]) cs.length 37 (λT M1=>∃i:Nat,i<=cs.length/\T 2=.list 5 (A4g s) .no/\T 3=.cptr [.list 5 (A1U l) .no,.mapr a,.mapr b,.mapr c]/\T 4=.cptr [I x.id.act,I x.id.item,I x.id.n,I x.kind,S x.label,.list 4 (A0g x.head) .no,.list 4 (A0g x.words) .no,.list 8 (A0q x.kids) .no]/\T 8=.list 1 (A1d xs) .no/\T 35=.list 5 (A5p cs) .no/\T 36=I cs.length/\T 37=I i/\Tri M M1 (T 11) (T 12) (T 13) (A8e cs nm i) (A6l cs nm i) (A9S nm i)) ?_ ?_
  .refine⟨0,by omega,?_⟩;simp -dsimp -implicitDefEqProofs[Env.put_some,t2,t3,t4,A5p];exact⟨a6,.nil,.nil,.nil,.nil,.nil,.nil⟩
  clear t2 t3 t4 a6;rintro T M1 ⟨i,i1,t2,t3,t4,t8,d,g,t37,h3⟩;generalize r:T 11=b9 at*;generalize o:T 12=bd at*;generalize u:T 13=b0 at*;by_cases hi:i<cs.length;case neg=>
   (have a0:¬(i:Int)<cs.length:=by omega);obtain rfl:i=cs.length:=by omega
   simp -dsimp -implicitDefEqProofs[t2,t3,t4,t8,d,g,t37,a0,r,o,u];exact h3
  have a0:(i:Int)<cs.length:=by omega
  have w1:=A1E (i:=i) (by omega);obtain⟨M3,ac⟩:∃M3,M3=M1++[A0p.cells 110 cs[i].row]:=⟨_,rfl⟩;have b7:Grow M1 M3:=by rw[ac];exact A0d.app none _ _
  have a2:M3[M1.length]?=some (A0p.cells 110 cs[i].row):=by rw[ac];simp
  replace h3:=h3.keep b7;have ag:=C8A gl F s l L hF a b c x.id (i:Int) M3 (hP.keep h3.grow) hl hs (λm hm=>by have:=ht m hm;omega) aq;have o1:=C3y cs nm i hi;have o2:=B8Q cs nm i hi;have o3:=C1O nm i;have b1:=B1Q cs nm a1 i;have b2:=B6j cs nm a1 i;have b3:=C5N nm a1 i;have aw:A2F F l s x.id i=nm i:=by rw[ab]
  rw[aw]at ag;have ax:=a1 i;obtain⟨q,hq⟩:∃q,q=M1.length:=⟨_,rfl⟩;simp only[A1F.row]at a2 ac;simp only[IdD.row]at ag;rw[<-hq]at a2;simp -dsimp -implicitDefEqProofs[t2,t3,t4,t8,d,g,t37,hi,a0,A1F.row,A0l,A0m,A0e];rw[<-ac,<-hq];refine A0i func176 ag ?_;simp -dsimp -implicitDefEqProofs[-A8n];rw[A8n];obtain⟨D,hD⟩:∃D,D=nm i:=⟨_,rfl⟩;rw[<-hD]at o1 o2 o3 ax;rw[<-hD];obtain⟨B,hB⟩:∃B,B=if D=[]then A6l cs nm i++[cs[i]]else A6l cs nm i:=⟨_,rfl⟩;have bm:B.length<=i*(40+1)+1:=by
   rw[hB];split
   .simp;omega
   .omega
  refine B5D (λT M4=>T 2=.list 5 (A4g s) .no/\T 3=.cptr [.list 5 (A1U l) .no,.mapr a,.mapr b,.mapr c]/\T 4=.cptr [I x.id.act,I x.id.item,I x.id.n,I x.kind,S x.label,.list 4 (A0g x.head) .no,.list 4 (A0g x.words) .no,.list 8 (A0q x.kids) .no]/\T 8=.list 1 (A1d xs) .no/\T 15=.ptr q 0/\T 16=.list 1 (A7s D) .no/\T 35=.list 5 (A5p cs) .no/\T 36=I cs.length/\T 37=I i/\M4[q]?=some (A0p.cells 110 [I cs[i].k,A9r cs[i].path,S cs[i].to,I cs[i].frm,I cs[i].at_])/\Tri M M4 (T 11) (T 12) (T 13) (A8e cs nm i) B (A9S nm i)) ?_ ?_
  .by_cases hn:D=[]
   ·(have aj:((D.length:Nat):Int)=0:=by rw[hn];rfl);rw[Z0d hn]at hB
    simp -dsimp -implicitDefEqProofs[t2,t3,t4,t8,d,g,t37,r,o,u,hn,aj,A0b a2,A0n,A0W];refine A3p (C:=WC gl) (enc:=A1F.row) (e:=110) (sz:=5) (news:=[cs[i]]) C3I D0N C4m (λ_=>rfl) h3.h2.own (by simp[A0A,A1F.row]) (by simp;omega) rfl ?_;intro v' M4 q1 q2 q3 _;simp -dsimp -implicitDefEqProofs[t2,t3,t4,t8,d,g,t37,r,o,u];refine⟨by rw[hn],h3.h2.cells q2 a2,?_⟩;rw[hB];exact h3.push2 q1 q2 q3
   .have aj:¬((D.length:Nat):Int)=0:=λe=>hn (Z0z (by omega));have bg:¬D.length=0:=λe=>hn (Z0z e);rw[Z0c hn]at hB;rw[hB];simp -dsimp -implicitDefEqProofs[t2,t3,t4,t8,d,g,t37,r,o,u,hn,aj,bg];exact⟨a2,h3⟩
  have au:=t37;clear t2 t3 t4 t8 d g t37 r o u h3 a2;rintro T M4 ⟨t2,t3,t4,t8,z,ap,d,g,t37,ay,h4⟩;simp -dsimp -implicitDefEqProofs[t2,t3,t4,t8,z,ap,d,g,t37];refine A1R (hQ [32,54,64,68,73]) (λT M5=>∃j:Nat,j<=D.length/\T 2=.list 5 (A4g s) .no/\T 3=.cptr [.list 5 (A1U l) .no,.mapr a,.mapr b,.mapr c]/\T 4=.cptr [I x.id.act,I x.id.item,I x.id.n,I x.kind,S x.label,.list 4 (A0g x.head) .no,.list 4 (A0g x.words) .no,.list 8 (A0q x.kids) .no]/\T 8=.list 1 (A1d xs) .no/\T 15=.ptr q 0/\T 35=.list 5 (A5p cs) .no/\T 36=I cs.length/\T 37=I i/\T 55=.list 1 (A7s D) .no/\T 56=I D.length/\T 57=I j/\
   M5[q]?=some (A0p.cells 110 [I cs[i].k,A9r cs[i].path,S cs[i].to,I cs[i].frm,I cs[i].at_])/\Tri M M5 (T 11) (T 12) (T 13) (A8e cs nm i++(D.take j).map λ_=>cs[i]) (B++(D.take j).map λp=>⟨0,p,⟨#[]⟩,0,0⟩) (A9S nm i++D.take j))
   (λT M1=>match T 57 with|.val (.int _ j)=>D.length-j.toNat|_=>0) (by kernel_rfl) ?_ ?_
  .refine⟨0,by omega,by simp[t2],by simp[t3],by simp[t4],by simp[t8],by simp[z],by simp[d],by simp[g],by simp[t37],by simp,by simp,by simp,ay,?_⟩;simpa using h4
  clear t2 t3 t4 t8 z ap d g t37 ay h4;rintro T M5 ⟨j,j1,t2,t3,t4,t8,z,d,g,t37,a8,a5,a4,an,h5⟩;generalize r:T 11=b9 at*;generalize o:T 12=bd at*;generalize u:T 13=b0 at*;by_cases hj:j<D.length;case neg=>
   (have ak:¬(j:Int)<D.length:=by omega);rw[Z0k (by omega)]at h5
   rw[<-o1,<-o3]at h5;have b6:B++D.map (λp=>(⟨0,p,⟨#[]⟩,0,0⟩:A1F))=A6l cs nm (i+1):=by
    rw[o2,hB];by_cases hn:D=[]
    .rw[Z0d hn,Z0d hn,hn];simp
    .rw[Z0c hn,Z0c hn]
   rw[b6]at h5;simp -dsimp -implicitDefEqProofs[t2,t3,t4,t8,z,d,g,t37,a8,a5,a4,ak,w1,r,o,u,au];exact⟨⟨i+1,by clear w1;omega,rfl,h5⟩,by clear w1;omega⟩
  have ak:(j:Int)<D.length:=by omega
  have w2:=A1E (i:=j) (by omega);simp -dsimp -implicitDefEqProofs[t2,t3,t4,t8,z,d,g,t37,a8,a5,a4,hj,ak,r,o,u,A0b an,A0n,A0W];refine A3p (C:=WC gl) (enc:=A1F.row) (e:=110) (sz:=5) (news:=[cs[i]]) C3I D0N C4m (λ_=>rfl) h5.h1.own (by simp[A0A,A1F.row]) (by simp;omega) rfl ?_;intro bk M6 q1 q2 q3 _;have b8:=h5.h1.cells q2 an;replace h5:=h5.push1 q1 q2 q3;simp -dsimp -implicitDefEqProofs[t2,t3,t4,t8,z,d,g,t37,a8,a5,a4,r,o,u,A0n,A0W];refine A3p (C:=WC gl) (enc:=C9p) (e:=40) (sz:=1) (news:=[D[j]]) D5Y D9D D9B (λ_=>rfl) h5.h3.own (by simp[A0A,A1T,C9p]) (by simp;omega) rfl ?_;intro bq M7 q4 q5 q6 _;have b5:=h5.h3.cells q5 b8;replace h5:=h5.push3 q4 q5 q6;simp -dsimp -implicitDefEqProofs[t2,t3,t4,t8,z,d,g,t37,a8,a5,a4,r,o,u,A0n,A0W];refine A3p (C:=WC gl) (enc:=A1F.row) (e:=110) (sz:=5) (news:=[⟨0,D[j],⟨#[]⟩,0,0⟩]) C3I D0N C4m (λ_=>rfl) h5.h2.own (by simp[A0A,A1F.row,A1T]) (by simp;omega) rfl ?_;intro bj M8 q7 q8 q9 _;have bb:=h5.h2.cells q8 b5;replace h5:=h5.push2 q7 q8 q9;have ai:D.take (j+1)=D.take j++[D[j]]:=by rw[Z0D hj]
  simp -dsimp -implicitDefEqProofs[t2,t3,t4,t8,z,d,g,t37,a8,a5,a4,w2];refine⟨⟨j+1,by clear w1 w2;omega,rfl,bb,?_⟩,by clear w1 w2;omega⟩;rw[<-Z1w,<-Z1w,ai,Z0Q,Z0Q,<-Z0T,<-Z0T,<-Z0T];exact h5
 clear t2 t3 t4 a6
 rintro T M1 ⟨t8,h3⟩
 refine⟨M.length,((T.put (some 11) (.list 5 (A5p (A8e cs nm cs.length)) .no)).put (some 12) (.list 5 (A5p (A6l cs nm cs.length)) .no)).put (some 13) (.list 1 (A7s (A9S nm cs.length)) .no),?_,?_⟩
 .refine A9R (A9R (A9R (B6e T) ?_) ?_) ?_
  .exact Still.rows (λ_=>rfl) (λ_ _ _=>trivial) h3.h1.own h3.h1.lat .nil
  .exact Still.rows (λ_=>rfl) (λ_ _ _=>trivial) h3.h2.own h3.h2.lat .nil
  .exact Still.rows (λ_=>rfl) (λ_ _ _=>trivial) h3.h3.own h3.h3.lat .nil
 have a6:=B6Y h3.grow
 generalize A4M M1 M.length=M2 at*
 clear h3
 have bn:=B1Q cs nm a1 cs.length
 have bo:=B6j cs nm a1 cs.length
 obtain⟨y,a3⟩:∃y,y=A5u xs (A8e cs nm cs.length) (A9S nm cs.length):=⟨_,rfl⟩
 obtain⟨s1,s2⟩:=A8D (old:=A8e cs nm cs.length) (names:=A9S nm cs.length) (B:=maxLen) (by simp[maxLen]) a7
 rw[<-a3]at s1 s2
 have bh:y.length<=1000000000:=by have:(A8e cs nm cs.length).length*(xs.length+19)<=12000*400:=Z4z (by omega) (by omega);omega
 have ao:=λM=>A0c.still (enc:=A6U) (sz:=1) (e:=9) (λ_=>rfl) C0T ((D0c gl M xs (A8e cs nm cs.length) (A9S nm cs.length) .no .no .no (by omega) a7 (by omega) (λp hp=>by obtain⟨j,hj⟩:=D5V nm hp;exact bf j p hj)).mono λv M' h=>h.toT)
 rw[<-a3]at ao
 have az:=λM=>A0c.still (enc:=A1F.row) (sz:=5) (λ_=>rfl) C5u (C8n gl y .no (by omega) s1 M)
 have hW:A7o F l s x=(y,B2h (A3o y 0) (A6l cs nm cs.length)):=by unfold A7o;simp only;rw[<-ad,<-am,<-ab,<-a3]
 rw[hW]
 have bp:(A3o y 0).length<=y.length:=by have:=B0r y (y.length-0) 0;simpa[A3o]using this
 have b4:∀c∈A3o y 0,c.path.length<=1000000:=λc hc=>by have h:=(B9c y _ _ c hc).1;simp only[A4q,Z0g,Z0l]at h;omega
 simp -dsimp -implicitDefEqProofs[Env.put_some,t8]
 refine A0i func18 (ao M2) ?_
 simp -dsimp -implicitDefEqProofs[Env.put_some,t8]
 refine A0i func98 (az M2) ?_
 simp -dsimp -implicitDefEqProofs[Env.put_some,t8]
 refine A0i func179 (D2J gl (A3o y 0) (A6l cs nm cs.length) .no .no M2 (by omega) b4) ?_
 simp -dsimp -implicitDefEqProofs[Env.put_some,t8]
 exact⟨a6,.tuple (.same (A8d (f:=A6U) (C0T _) y) (.same trivial .nil)) .nil⟩
end
structure Fm {α:Type} (sz:Nat) (enc:α->List AV) (n:Nat) (M:Mem) (v:AV) (l:List α):Prop where
 fam:B0k sz enc M v l
 lat:∀f,A7F v=some f->n<=f
def B1e(a b:AV):Prop:=∀f,A7F a=some f->A7F b≠some f
def B1e.symm{a b:AV}(h:B1e a b):B1e b a:=λf h1 h2=>h f h2 h1
def B1e.nil{b:AV}:B1e (.val (.slice none 0 0)) b:=λf h=>by simp at h
section
variable {α β:Type} {sz sz2 n q:Nat} {enc:α->List AV} {enc2:β->List AV} {M M':Mem} {v v' u:AV} {l l':List α} {r:List β}
def Fm.nil:Fm sz enc n M (.val (.slice none 0 0)) []:=⟨.nil,λf h=>by simp at h⟩
def Fm.full:Fm sz enc n M (.list sz (l.map enc) .full) l:=⟨.full,λf h=>by simp at h⟩
def Fm.keep(h:Fm sz enc n M v l)(hk:Grow M M'):Fm sz enc n M' v l:=⟨h.fam.keep hk (by simp),h.lat⟩
def Fm.beside(h:Fm sz2 enc2 n M u r)(ha:B1e v u)(hk:A0d (A7F v) M M'):Fm sz2 enc2 n M' u r:=⟨h.fam.keep hk (λf hf hv=>ha f hv hf),h.lat⟩
def Fm.setq(h:Fm sz enc n M v l){X:A0p}(hq:q<n):Fm sz enc n (M.set q X) v l:=⟨h.fam.keep (A0d.set _ _ _) (λf hf e=>by have:=h.lat f hf;simp at e;omega),h.lat⟩
def Fm.push(h:Fm sz enc n M v l)(hn:n<=M.length)(k1:B0k sz enc M' v' l')(k3:A7F v'=A7F v\/∀f,A7F v'=some f->M.length<=f):Fm sz enc n M' v' l':=⟨k1,λf hf=>by
 rcases k3 with e|e
 .exact h.lat f (e▸hf)
 .have:=e f hf;omega⟩
def Fm.low(h:Fm sz enc n M v l)(hn:n<=M.length)(hk:A0d (A7F v) M M'):A1c n M M':=hk.low hn h.lat
def Fm.apart(h:Fm sz2 enc2 n M u r)(ha:B1e v u)(k3:A7F v'=A7F v\/∀f,A7F v'=some f->M.length<=f):B1e v' u:=λf hf hu=>by
 rcases k3 with e|e
 .exact ha f (e▸hf) hu
 .have:=e f hf;have:=h.fam.lt hu;omega
def Fm.cells{t:Nat}{xs:List AV}(h:Fm sz enc n M v l)(hk:A0d (A7F v) M M')(hq:M[q]?=some (.cells t xs)):M'[q]?=some (.cells t xs):=hk.get hq λe=>by
 rcases h.fam with⟨rfl,_⟩|rfl|⟨f,rfl,hm⟩
 .simp at e
 .simp at e
 .simp only[C7e,Z0b]at e;subst e;rw[hm]at hq;simp at hq
def Fm.data{ok:AV->Prop}{m:Nat}{cs ds:List AV}(h:Fm sz enc n M v l)(hb:ok (.list sz (l.map enc) .no))(hr:Still M' m ok cs ds):Still M' m ok (v::cs) (.list sz (l.map enc) .no::ds):=by
 rcases h.fam with⟨rfl,rfl⟩|rfl|⟨f',rfl,hm⟩
 .exact .nilS hr
 .exact .dis hb hr
 .exact .dis hb hr
end
def A1c.le{n m:Nat}{A B:Mem}(h:A1c n A B)(hm:m<=n):A1c m A B:=⟨h.1,λi hi=>h.2 i (by omega)⟩
def A1c.setq{n q:Nat}{A B:Mem}(h:A1c n A B){X:A0p}(hq:n<=q):A1c n A (B.set q X):=⟨by simpa using h.1,λi hi=>by rw[Z0e (by omega)];exact h.2 i hi⟩
def A1c.grow{n:Nat}{M A B:Mem}(h:A1c n A B)(hg:Grow M A)(hn:M.length<=n):Grow M B:=⟨Z0X hg.1 h.1,λi hi _=>by rw[h.2 i (by omega)];exact hg.2 i hi (by simp)⟩
def D0O(t:A0a×List IdD×Int):AV:=.tuple [.agg t.1.row,.list 3 (A4C t.2.1) .no,I t.2.2]
abbrev ouC(k:Int)(lab:ByteArray)(hv wv kv:AV):A0p:=.cells 27 [I 0,I 0,I 0,I k,S lab,hv,wv,kv]
abbrev z8:A0p:=ouC 0 ⟨#[]⟩ A0x A0x A0x
@[simp] def E1x{k}{t}:A0w prog 27 [(1,I k),(2,S t)]=some (.agg [I 0,I 0,I 0,I k,S t,A0x,A0x,A0x]):=by
 simp[A0w,A1e,A1r,A0e,AV.cells,AV.storable]
@[simp] def E0R{t}:A0w prog 152 [(0,S t)]=some (.agg [S t,I 0,I 0,I 0]):=by
 simp[A0w,A1e,A1r,A0e,AV.cells,AV.storable]
def B5N{F:IdD->Option A0a}{l}{s}(a:∀j,j<l.length->B3j l j)(f n:Nat)(hn:n<l.length)(hf:l.length<=f+n):(A2M F l s f n).2.1.length<=l.length:=by rw[B6n,Z0K];obtain⟨h1,h2⟩:=B4d (par:=λk=>A2t l k) (N:=l.length) (λj hj=>by have:=(a j hj j hj (Z0n _)).2;simpa[A2t,hj]using this) f n hn hf;have:=C4r (l:=A7f (λk=>A2t l ↑k) l.length f n) (m:=List.range l.length) h1 (λx hx=>by have:=((h2 x).1 hx).1;simpa using this);simpa using this
def C9W{F:IdD->Option A0a}{s}{l}{x}(hl:l.length<=1000)(f:∀s∈l,s.good)(ht:∀m∈s,m.to.length<=40)(hx:x.good)(b:x.words.length<=300):(A7o F l s x).1.length<=1000000000:=by
 have c:(A0N x.words).length<=300:=by simpa[A0N]using b
 have a:∀t∈A0N x.words,t.size<=maxLen:=by intro t h;obtain⟨w,hw,rfl⟩:=Z0G.1 h;exact(((A0a.good_iff _).1 hx).2.2.2.2.2.2.1 w hw).1
 unfold A7o;simp only;generalize A0N x.words=xs at*;have e:(A3o xs 0).length<=xs.length:=B0r xs _ _;have d:=B1Q (A3o xs 0) (λn:Nat=>A2F F l s x.id n) (λi=>B2F ht) (A3o xs 0).length;obtain⟨s1,s2⟩:=A8D (old:=A8e (A3o xs 0) (λn:Nat=>A2F F l s x.id n) (A3o xs 0).length) (names:=A9S (λn:Nat=>A2F F l s x.id n) (A3o xs 0).length) (B:=maxLen) (by simp[maxLen]) a;have:(A8e (A3o xs 0) (λn:Nat=>A2F F l s x.id n) (A3o xs 0).length).length*(xs.length+19)<=12000*400:=Z4z (by omega) (by omega);omega
section
variable (gl:Nat->AV)
set_option maxHeartbeats 1000000 in
def D9d(F:IdD->Option A0a)(s:List A2m)(l:List A0C)(L:List (IdD×A0a))(hF:A1V L=F)(a b c:Nat)(hl:l.length<=1000)(c5:∀s∈l,s.good)(hs:s.length<=1000)(ht:∀m∈s,m.to.length<=40)(aj:∀j,j<l.length->B3j l j)
 (ce:∀n (h:n<l.length),∃u,F l[n].id=some u/\u.good/\u.words.length<=300/\u.head.length<=300):∀(f n:Nat) (M:Mem),n<l.length->l.length<=f+n->B3z l L a b c M->
 A0c (WC gl) 71 [B2d l a b c,.list 5 (A4g s) .no,I n] M (λv M'=>v=D0O (A2M F l s f n)/\M'=M):=by
 intro f
 induction f with
 |zero=>intro n M h1 h2 _;omega
 |succ f ih=>
 intro n M h1 h2 hP
 refine A0c.dataX ?_
 obtain⟨x,hx,bj,c6,d6⟩:=ce n h1
 have cg:A6k F l n=x:=by simp[A6k,h1,hx]
 have c3:A8V l n=l[n].label:=by simp[A8V,h1]
 obtain⟨K,hK⟩:∃K,K=A2T l n l.length:=⟨_,rfl⟩
 obtain⟨W,hW⟩:∃W,W=A7o F l s x:=⟨_,rfl⟩
 have hT:A2M F l s (f+1) n=(.mk idZ x.kind l[n].label (x.head.map λh=>A1O h.text) (W.1.map A1O) ((K.map (A2M F l s f)).map (·.1)),x.id::(K.map (A2M F l s f)).flatMap (·.2.1),(K.map (A2M F l s f)).foldl (λe k=>A5I e k.2.2) (B8P W)):=by rw[A2M,cg,c3,<-hK,<-hW]
 rw[hT]
 clear hT
 have b8:W.1.length<=1000000000:=by rw[hW];exact C9W hl c5 ht bj c6
 have n0:(0:Int)<=n:=by omega
 have n1:(n:Int)<l.length:=by omega
 refine A0o hB func71 ?_
 simp -dsimp -implicitDefEqProofs[A0l]
 obtain⟨Ma,ab⟩:∃Ma,Ma=M++[z8]:=⟨_,rfl⟩
 have bd:Grow M Ma:=by rw[ab];exact A0d.app none _ _
 have bi:Ma[M.length]?=some z8:=by rw[ab];simp
 have co:Ma.length=M.length+1:=by rw[ab];simp
 rw[<-ab]
 have aq:=hP.keep bd
 have b1:A1S prog 92 Ma (.mapr a) (.agg [I l[n].id.act,I l[n].id.item,I l[n].id.n]) false=some (.agg x.row):=by
  rw[show AV.agg [I l[n].id.act,I l[n].id.item,I l[n].id.n]=A2R l[n].id from rfl,aq.units.get (A9j 92 27 (by kernel_rfl)) l[n].id C4h false];have:A1V L l[n].id=some x:=by rw[hF];exact hx
  rw[this];rfl
 have cj:a<Ma.length:=aq.units.lt
 obtain⟨Mb,af⟩:∃Mb,Mb=Ma++[A0p.cells 27 x.row]:=⟨_,rfl⟩
 have ax:Grow Ma Mb:=by rw[af];exact A0d.app none _ _
 have b0:∀X,(Ma++[X])[a]?=Ma[a]?:=λX=>Z0h cj
 refine A5r hB (A0t gl) (λk=>if k=8 then 1 else if k=9\/k=10 then 2 else 0) (λ_=>a) (λ_=>false) [a] (by intros;simp) (by rfl) (by kernel_rfl) ?_
 simp -dsimp -implicitDefEqProofs[n0,n1,h1,A0C.row,IdD.row,A1a,b1,A0l,A0m,A0e,AV.storable,AV.cells,b0]
 obtain⟨xa,bu⟩:∃xa,xa=Ma.length:=⟨_,rfl⟩
 have hX:Mb[xa]?=some (A0p.cells 27 x.row):=by rw[af,bu];simp
 have c2:=aq.keep ax
 have c8:=ax.get bi (by simp)
 have ay:=bd.trans ax
 have d7:Mb.length=M.length+2:=by rw[af];simp[co]
 rw[<-af,<-bu]
 clear af ab b1 b0
 simp -dsimp -implicitDefEqProofs[A0b hX]
 refine A0i func125 (D3m gl F s l L hF a b c x Mb c2 hl c5 hs ht aj bj c6) ?_
 rw[<-hW]
 simp -dsimp -implicitDefEqProofs[-A8n]
 rw[A8n]
 simp -dsimp -implicitDefEqProofs[-A8n]
 rw[A8n]
 refine B5D (λT M1=>M1=Mb/\T 1=.list 5 (A4g s) .no/\T 2=I n/\T 3=.cptr [.list 5 (A1U l) .no,.mapr a,.mapr b,.mapr c]/\T 6=.ptr M.length 0/\T 9=.ptr xa 0/\T 10=.list 1 (A1d W.1) .no/\T 12=I (if W.2=true then 0 else 2)) ?_ ?_
 .cases hw2:W.2<;>simp -dsimp -implicitDefEqProofs[hw2]
 rintro T M1 ⟨rfl,t1,t2,t3,t6,t9,r,d⟩
 simp -dsimp -implicitDefEqProofs[-A8n]
 rw[A8n]
 refine B5D (λT M2=>M2=M1/\T 1=.list 5 (A4g s) .no/\T 2=I n/\T 3=.cptr [.list 5 (A1U l) .no,.mapr a,.mapr b,.mapr c]/\T 6=.ptr M.length 0/\T 9=.ptr xa 0/\T 10=.list 1 (A1d W.1) .no/\T 12=I (B8P W)) ?_ ?_
 .by_cases hw:256<W.1.length
  ·(have ba:(256:Int)<W.1.length:=by omega);simp -dsimp -implicitDefEqProofs[t1,t2,t3,t6,t9,r,d,ba,B8P,hw]
  ·(have ba:¬(256:Int)<W.1.length:=by omega);simp -dsimp -implicitDefEqProofs[t1,t2,t3,t6,t9,r,d,ba,B8P,hw]
 clear t1 t2 t3 t6 t9 r d
 rintro T Mb ⟨rfl,t1,t2,t3,t6,t9,r,d⟩
 obtain⟨q,hq⟩:∃q,q=Mb.length:=⟨_,rfl⟩
 obtain⟨Mc,ad⟩:∃Mc,Mc=Mb++[ouC x.kind l[n].label A0x A0x A0x]:=⟨_,rfl⟩
 have am:Grow Mb Mc:=by rw[ad];exact A0d.app none _ _
 have cq:Mc[q]?=some (ouC x.kind l[n].label A0x A0x A0x):=by rw[ad,hq];simp
 have ar:=hX
 rw[x.row_eq]at ar
 have cb:xa<Mb.length:=(Z0a.1 hX).1
 have b3:∀X,(Mb++[X])[xa]?=Mb[xa]?:=λX=>Z0h cb
 simp -dsimp -implicitDefEqProofs
 refine A5r hB (A0t gl) (λk=>if k=1 then 1 else if k=9\/k=10 then 2 else 0) (λ_=>xa) (λ_=>false) [xa] (by intros;simp) (by rfl) (by kernel_rfl) ?_
 simp -dsimp -implicitDefEqProofs[t1,t2,t3,t6,t9,r,d,n0,n1,h1,A0C.row,A1a,A5n,A0b ar,A0l,A0m,A0e,b3]
 rw[<-ad,<-hq]
 have ca:=am.get ar (by simp)
 have ck:=am.get c8 (by simp)
 have bo:=ay.trans am
 have d2:Mc.length=q+1:=by rw[ad,hq];simp
 have d0:M.length+2=q:=by omega
 have bw:xa<q:=by omega
 clear ad am b3 hX ar c8 ay c2 aq bd ax bi
 simp -dsimp -implicitDefEqProofs[t1,t2,t3,t6,t9,r,d,A0b ca]
 refine A7L (.exit 0) (λT M1=>T 1=.list 5 (A4g s) .no/\T 2=I n/\T 3=.cptr [.list 5 (A1U l) .no,.mapr a,.mapr b,.mapr c]/\T 6=.ptr M.length 0/\T 9=.ptr xa 0/\T 10=.list 1 (A1d W.1) .no/\T 12=I (B8P W)/\T 13=.ptr q 0/\A1c q Mc M1/\∃hv,M1[q]?=some (ouC x.kind l[n].label hv A0x A0x)/\Fm 4 A0H.row (q+1) M1 hv (x.head.map λh=>A1O h.text)) ?_ ?_
 .refine A0y hB x.head.length 57 (λT M1=>∃i:Nat,i<=x.head.length/\T 1=.list 5 (A4g s) .no/\T 2=I n/\T 3=.cptr [.list 5 (A1U l) .no,.mapr a,.mapr b,.mapr c]/\T 6=.ptr M.length 0/\T 9=.ptr xa 0/\T 10=.list 1 (A1d W.1) .no/\T 12=I (B8P W)/\T 13=.ptr q 0/\T 55=.list 4 (A0g x.head) .no/\T 56=I x.head.length/\T 57=I i/\A1c q Mc M1/\∃hv,M1[q]?=some (ouC x.kind l[n].label hv A0x A0x)/\Fm 4 A0H.row (q+1) M1 hv ((x.head.take i).map λh=>A1O h.text)) ?_ ?_
  .exact⟨0,by omega,by simp[t1],by simp[t2],by simp[t3],by simp[t6],by simp[t9],by simp[r],by simp[d],by simp,by simp,by simp,by simp,A1c.refl _ _,A0x,cq,.nil⟩
  clear t1 t2 t3 t6 t9 r d;rintro T M1 ⟨i,i1,t1,t2,t3,t6,t9,r,d,g,ao,au,an,hk,hv,ho,hf⟩;by_cases hi:i<x.head.length;case neg=>
   (have a4:¬(i:Int)<x.head.length:=by omega);rw[Z0k (by omega)]at hf
   simp -dsimp -implicitDefEqProofs[t1,t2,t3,t6,t9,r,d,g,ao,au,an,a4];exact⟨hk,hv,ho,hf⟩
  have a4:(i:Int)<x.head.length:=by omega
  have w1:=A1E (i:=i) (by omega);have bg:q+1<=M1.length:=by have:=hk.1;omega
  obtain⟨M2,aw⟩:∃M2,M2=M1++[A0p.cells 152 x.head[i].row]:=⟨_,rfl⟩;have z:Grow M1 M2:=by rw[aw];exact A0d.app none _ _
  have br:M2[M1.length]?=some (A0p.cells 152 x.head[i].row):=by rw[aw];simp
  have bv:=z.get ho (by simp);have ap:=hf.keep z;have a8:=hk.trans (z.low (n:=q) (by omega) (by simp));have az:q+1<=M2.length:=by have:=z.1;omega
  simp only[A0H.row]at aw br;simp -dsimp -implicitDefEqProofs[t1,t2,t3,t6,t9,r,d,g,ao,au,an,hi,a4,A0H.row,A0l,A0m,A0e];rw[<-aw];simp -dsimp -implicitDefEqProofs[t1,t2,t3,t6,t9,r,d,g,ao,au,an,A0b bv,A0b br,A0n,A0W];refine B9C (C:=WC gl) (enc:=A0H.row) (e:=152) (sz:=4) (news:=[A1O x.head[i].text]) (o:=.full) B3v C0S B4k ap.fam (by simp;omega) rfl rfl ?_;intro v' M3 k1 k2 k3;have a3:=ap.cells k2 bv;have bb:=ap.push az k1 k3;have a2:=a8.trans ((ap.low az k2).le (by omega));have ag:A0m (some 1) M3 (.ptr q 5) v'=some (M3.set q (ouC x.kind l[n].label v' A0x A0x)):=by rw[A0h a3,k1.cells,Z0d ⟨k1.store,by simp,rfl⟩];rfl
  have b9:q<M3.length:=(Z0a.1 a3).1;simp -dsimp -implicitDefEqProofs[t1,t2,t3,t6,t9,r,d,g,ao,au,an,ag,w1];refine⟨⟨i+1,by clear w1;omega,rfl,a2.setq (Z0n _),v',by simp[b9],?_⟩,by clear w1;omega⟩;rw[<-Z1w,Z0D hi,Z0Q];exact bb.setq (by omega)
 clear t1 t2 t3 t6 t9 r d
 rintro T M1 ⟨t1,t2,t3,t6,t9,r,d,g,hk,hv,ho,cf⟩
 simp -dsimp -implicitDefEqProofs[t1,t2,t3,t6,t9,r,d,g]
 refine A7L (.exit 2) (λT M1=>T 1=.list 5 (A4g s) .no/\T 2=I n/\T 3=.cptr [.list 5 (A1U l) .no,.mapr a,.mapr b,.mapr c]/\T 6=.ptr M.length 0/\T 9=.ptr xa 0/\T 12=I (B8P W)/\T 13=.ptr q 0/\A1c q Mc M1/\∃wv,M1[q]?=some (ouC x.kind l[n].label hv wv A0x)/\Fm 4 A0H.row (q+1) M1 wv (W.1.map A1O)) ?_ ?_
 .refine A0y hB W.1.length 72 (λT M1=>∃i:Nat,i<=W.1.length/\T 1=.list 5 (A4g s) .no/\T 2=I n/\T 3=.cptr [.list 5 (A1U l) .no,.mapr a,.mapr b,.mapr c]/\T 6=.ptr M.length 0/\T 9=.ptr xa 0/\T 12=I (B8P W)/\T 13=.ptr q 0/\T 70=.list 1 (A1d W.1) .no/\T 71=I W.1.length/\T 72=I i/\A1c q Mc M1/\∃wv,M1[q]?=some (ouC x.kind l[n].label hv wv A0x)/\Fm 4 A0H.row (q+1) M1 wv ((W.1.take i).map A1O)) ?_ ?_
  .exact⟨0,by omega,by simp[t1],by simp[t2],by simp[t3],by simp[t6],by simp[t9],by simp[d],by simp[g],by simp,by simp,by simp,hk,A0x,ho,.nil⟩
  clear t1 t2 t3 t6 t9 r d g hk ho;rintro T M1 ⟨i,i1,t1,t2,t3,t6,t9,d,g,t70,bf,t72,hk,wv,ho,hf⟩;by_cases hi:i<W.1.length;case neg=>
   (have a4:¬(i:Int)<W.1.length:=by omega);rw[Z0k (by omega)]at hf
   simp -dsimp -implicitDefEqProofs[t1,t2,t3,t6,t9,d,g,t70,bf,t72,a4];exact⟨hk,wv,ho,hf⟩
  have a4:(i:Int)<W.1.length:=by omega
  have d5:=b8;have w1:IntKind.i64.wrap ((i:Int)+1)=(i+1:Nat):=by rw[A0J (by omega) (by omega)];omega
  have bg:q+1<=M1.length:=by have:=hk.1;omega
  simp -dsimp -implicitDefEqProofs[t1,t2,t3,t6,t9,d,g,t70,bf,t72,hi,a4,A0b ho,A0n,A0W];refine B9C (C:=WC gl) (enc:=A0H.row) (e:=152) (sz:=4) (news:=[A1O W.1[i]]) (o:=.full) B3v C0S B4k hf.fam (by simp;omega) rfl rfl ?_;intro v' M3 k1 k2 k3;have a3:=hf.cells k2 ho;have bb:=hf.push bg k1 k3;have a2:=hk.trans ((hf.low bg k2).le (by omega));have ag:A0m (some 1) M3 (.ptr q 6) v'=some (M3.set q (ouC x.kind l[n].label hv v' A0x)):=by rw[A0h a3,k1.cells,Z0d ⟨k1.store,by simp,rfl⟩];rfl
  have b9:q<M3.length:=(Z0a.1 a3).1;simp -dsimp -implicitDefEqProofs[t1,t2,t3,t6,t9,d,g,t70,bf,t72,ag,w1];refine⟨⟨i+1,by clear w1;omega,rfl,a2.setq (Z0n _),v',by simp[b9],?_⟩,by clear w1;omega⟩;rw[<-Z1w,Z0D hi,Z0Q];exact bb.setq (by omega)
 clear t1 t2 t3 t6 t9 r d g hk ho
 rintro T M1 ⟨t1,t2,t3,t6,t9,d,g,hk,wv,ho,cp⟩
 have ac:∀M1,A1c q Mc M1->Grow M M1:=λM1 h=>h.grow bo (by omega)
 have cd:M1[xa]?=_:=(hk.2 xa bw).trans ca
 obtain⟨KL,bp,bq⟩:=hP.kd
 have cm:=bp.keep (ac M1 hk) (by simp)
 have ai:=bq (n:Int)
 rw[<-hK]at ai
 have ch:A1S prog 94 M1 (.mapr c) (I n) false=some (A8S KL n):=by rw[cm.get (C0I 94 130 (by kernel_rfl)) (n:Int) B5r false];unfold A8S;cases A1V KL (n:Int)<;>rfl
 have cx:=ai.keep (ac M1 hk) (by simp)
 generalize cy:A8S KL (n:Int)=bx at*
 have d4:K.length<=l.length:=by rw[hK];exact B1B l n l.length
 have bn:A2v prog 130 bx=some K.length:=cx.len (e':=3) (by simp)
 simp -dsimp -implicitDefEqProofs[t1,t2,t3,t6,t9,d,g,A0b cd,A0n,A0W,ch,bn]
 refine A0y hB K.length 92 (λT M2=>∃j:Nat,j<=K.length/\T 1=.list 5 (A4g s) .no/\T 3=.cptr [.list 5 (A1U l) .no,.mapr a,.mapr b,.mapr c]/\T 6=.ptr M.length 0/\T 13=.ptr q 0/\T 90=bx/\T 91=I K.length/\T 92=I j/\T 12=I (((K.take j).map (A2M F l s f)).foldl (λe k=>A5I e k.2.2) (B8P W))/\A1c q Mc M2/\∃kv,M2[q]?=some (ouC x.kind l[n].label hv wv kv)/\Fm 8 A0a.row (q+1) M2 kv (((K.take j).map (A2M F l s f)).map (·.1))/\Fm 3 IdD.row (q+1) M2 (T 18) (x.id::((K.take j).map (A2M F l s f)).flatMap (·.2.1))/\B1e kv (T 18)/\(((K.take j).map (A2M F l s f)).flatMap (·.2.1)).length<=j*1000) ?_ ?_
 .refine⟨0,by omega,by simp[t1],by simp[t3],by simp[t6],by simp[g],by simp,by simp,by simp,by simp[d],hk,A0x,ho,.nil,?_,.nil,by simp⟩;simp -dsimp -implicitDefEqProofs;exact Fm.full (l:=[x.id])
 clear t1 t2 t3 t6 t9 d g ho
 rintro T M2 ⟨j,j1,t1,t3,t6,g,a7,a5,a6,d,z,kv,ho,a0,aa,bz,be⟩
 generalize a1:T 18=iv at*
 by_cases hj:j<K.length
 case neg=>
  have bh:¬(j:Int)<K.length:=by omega
  rw[Z0k (by omega)]at a0 aa d;have b7:M2[M.length]?=some z8:=(z.2 _ (by omega)).trans ck;have bt:M.length<M2.length:=(Z0a.1 b7).1;have c9:=ac M2 z;have cv:∀X,Grow M (M2.set M.length X):=λX=>⟨by have:=c9.1;simpa using this,λj hj _=>by rw[Z0e (by omega)];exact c9.2 j hj (by simp)⟩;simp -dsimp -implicitDefEqProofs[t1,t3,t6,g,a7,a5,a6,d,bh,a1,A0b ho,A0h b7,A0z bt];refine⟨cv _,?_⟩;rw[D0O,A0a.row];refine .tuple (.agg (.same trivial (.same trivial (.same trivial (.same trivial (.same trivial (cf.data (A8d (f:=A0H.row) (λw=>by simp[A0H.row,A1Y,bdd]) _) (cp.data (A8d (f:=A0H.row) (λw=>by simp[A0H.row,A1Y,bdd]) _) ?_))))))) (aa.data (A8d (f:=IdD.row) (C9h _) _) (.same trivial .nil))) .nil;rw[A3T,<-Z1s];exact a0.data (A8d (f:=A0a.row) (A2U _) _) .nil
 have bh:(j:Int)<K.length:=by omega
 have w1:=A1E (i:=j) (by omega)
 have cu:=hP.keep (ac M2 z)
 have c0:=ai.keep (ac M2 z) (by simp)
 obtain⟨p,cr,cn⟩:=c0.at1 (P:=prog) (t:=3) (f:=λk:Nat=>I k) (λ_=>rfl) E4z sz3 hj
 have ah:K[j]∈A2T l n l.length:=by rw[<-hK];exact Z0q hj
 have a8:K[j]<l.length:=A7A ah
 have cz:n<K[j]:=by
  have hp:A2t l K[j]=n:=by simp[A2T]at ah;exact ah.2
  have:=(aj K[j] a8 K[j] a8 (Z0n _)).2;simp only[A2t,Z0m a8,Int.toNat_natCast]at hp;omega
 have ae:=ih K[j] M2 a8 (by omega) cu
 have ci:=B5N (F:=F) (s:=s) aj f K[j] a8 (by omega)
 have cs:K.take (j+1)=K.take j++[K[j]]:=by rw[Z0D hj]
 obtain⟨k,bs⟩:∃k,k=A2M F l s f K[j]:=⟨_,rfl⟩
 have av:(K.take (j+1)).map (A2M F l s f)=(K.take j).map (A2M F l s f)++[k]:=by rw[cs,Z0Q,bs];rfl
 rw[<-bs]at ae ci
 obtain⟨M3,bc⟩:∃M3,M3=M2++[A0p.cells 27 k.1.row]:=⟨_,rfl⟩
 have ak:Grow M2 M3:=by rw[bc];exact A0d.app none _ _
 have cc:M3[M2.length]?=some (A0p.cells 27 k.1.row):=by rw[bc];simp
 have a3:=ak.get ho (by simp)
 have d3:q<M2.length:=(Z0a.1 ho).1
 have a2:=z.trans (ak.low (n:=q) (by omega) (by simp))
 have b2:q+1<=M3.length:=by have:=ak.1;omega
 replace a0:=a0.keep ak
 replace aa:=aa.keep ak
 generalize hA:(K.take j).map (A2M F l s f)=A at*
 have hAl:A.length<=1000:=by rw[<-hA,Z0K,Z0E];omega
 simp -dsimp -implicitDefEqProofs[t1,t3,t6,g,a7,a5,a6,d,bh,cr,cn]
 refine A0i func71 ae ?_
 simp -dsimp -implicitDefEqProofs[t1,t3,t6,g,a7,a5,a6,d,D0O,A0l,A0m,A0e,AV.storable,AV.cells]
 rw[<-bc]
 simp -dsimp -implicitDefEqProofs[t1,t3,t6,g,a7,a5,a6,d,a1,A0b a3,A0b cc,A0n,A0W]
 refine B9C (C:=WC gl) (enc:=A0a.row) (e:=27) (sz:=8) (news:=[k.1]) (o:=.full) A7P B2g B1T a0.fam (by simp;omega) rfl rfl ?_
 intro v1 M4 k1 k2 k3
 have ct:=a0.cells k2 a3
 have d1:=a0.cells k2 cc
 have a9:=aa.beside bz k2
 have b6:=a0.push b2 k1 k3
 have b5:=aa.apart bz k3
 have bm:=a2.trans ((a0.low b2 k2).le (by omega))
 have b4:q+1<=M4.length:=by have:=k2.1;omega
 simp -dsimp -implicitDefEqProofs[t1,t3,t6,g,a7,a5,a6,d,a1]
 refine B9C (C:=WC gl) (enc:=IdD.row) (e:=23) (sz:=3) (news:=k.2.1) (o:=.no) C4W D0x D1k a9.fam (by simp only[Z0x];omega) rfl rfl ?_
 intro v2 M5 k4 k5 k6
 have bk:=a9.cells k5 ct
 have al:=b6.beside b5.symm k5
 have c7:=a9.push b4 k4 k6
 have c4:=(b6.apart b5.symm k6).symm
 have c1:=bm.trans ((a9.low b4 k5).le (by omega))
 have ag:A0m (some 1) M5 (.ptr q 7) v1=some (M5.set q (ouC x.kind l[n].label hv wv v1)):=by rw[A0h bk,al.fam.cells,Z0d ⟨al.fam.store,by simp,rfl⟩];rfl
 have cw:q<M5.length:=(Z0a.1 bk).1
 simp -dsimp -implicitDefEqProofs[t1,t3,t6,g,a7,a5,a6,d,a1]
 refine A0i func73 (C7E gl _ k.2.2 M5) ?_
 simp -dsimp -implicitDefEqProofs[t1,t3,t6,g,a7,a5,a6,d,a1,ag,w1]
 refine⟨⟨j+1,by clear w1;omega,rfl,?_,c1.setq (Z0n _),v1,by simp[cw],?_,?_,c4,?_⟩,by clear w1;omega⟩
 .rw[<-Z1w,av,Z3Y];rfl
 .rw[<-Z1s,<-Z1w,<-Z1w,av,Z0Q];exact al.setq (by omega)
 .rw[<-Z1w,av,Z1r];have e:x.id::(A.flatMap (λy=>y.2.1)++[k].flatMap (λy=>y.2.1))=(x.id::A.flatMap (λy=>y.2.1))++k.2.1:=by simp
  rw[e];exact c7.setq (by omega)
 .rw[List.length_flatMap]at be;rw[<-Z1s,<-Z1w,<-Z1w,av,Z0Q,List.sum_append];simp only[Z0s,Z2c,List.sum_cons,List.sum_nil];clear w1;omega
end

section
variable (gl:Nat->AV)
end
section
variable (gl:Nat->AV)
end
section
variable (gl:Nat->AV)
end
section
variable (gl:Nat->AV)
end
def A5v(n:Nat)(w:A0H):A1Y n w.row:=by simp[A0H.row,A1Y,bdd]
@[simp] def D7y{k}{t}{r1 r2}{o1 o2}:A0w prog 27 [(1,I k),(2,S t),(3,.list 4 r1 o1),(4,.list 4 r2 o2)]=some (.agg [I 0,I 0,I 0,I k,S t,.list 4 r1 o1,.list 4 r2 o2,A0x]):=by
 simp[A0w,A1e,A1r,A0e,AV.cells,AV.storable]
section
variable (gl:Nat->AV)
def E4Y(w:List ByteArray)(o:Own)(M:Mem)(hw:w.length<=1000000000):A0c (WC gl) 129 [.list 1 (A1d w) o] M (λv M'=>v=.list 4 (A0g (w.map A1O)) .no/\M'=M):=by
 refine A0c.dataX ?_;refine A0o (hQ [5,19]) func129 ?_;simp -dsimp -implicitDefEqProofs[A1J,A0W];refine A0y (hQ [5,19]) w.length 4 (λT M1=>∃i:Nat,i<=w.length/\T 0=.list 1 (A1d w) o/\T 4=I i/\Arr 152 4 A0H.row M.length M1 (T 3) ((w.take i).map A1O)/\Grow M M1) ?_ ?_
 .refine⟨0,by omega,by simp,by simp,?_,A0d.app none M _⟩;simp -dsimp -implicitDefEqProofs;exact⟨.inr ⟨M.length,0,[(0,0)],rfl,by simp,by simp[List.lookup]⟩,λf hf=>by simp at hf;omega⟩
 rintro T M1 ⟨i,i1,t0,t4,hv,hg⟩;generalize b:T 3=ov at*;by_cases hi:i<w.length;case neg=>
  have a:¬(i:Int)<w.length:=by omega
  rw[Z0k (by omega)]at hv;simp -dsimp -implicitDefEqProofs[t0,t4,a,b];exact⟨hg,A3i (enc:=A0H.row) (λ_=>rfl) A5v hv.own hv.lat⟩
 have a:(i:Int)<w.length:=by omega
 have w1:IntKind.i64.wrap ((i:Int)+1)=(i+1:Nat):=by rw[A0J (by omega) (by omega)];omega
 simp -dsimp -implicitDefEqProofs[t0,t4,hi,a,b,A0n,A0W];refine A3p (C:=WC gl) (enc:=A0H.row) (e:=152) (sz:=4) (news:=[A1O w[i]]) B3v C0S B4k (λ_=>rfl) hv.own (by simp[A0A,A0H.row,A1O]) (by simp;omega) rfl ?_;intro v' M' q1 q2 q3 _;simp -dsimp -implicitDefEqProofs[t0,t4,w1];refine⟨⟨i+1,by clear w1;omega,rfl,?_,hv.grow hg q2⟩,by clear w1;omega⟩;rw[<-Z1w,Z0D hi,Z0Q];exact⟨q1,hv.later hg.1 q3⟩
def C8a(ws:List A0H)(o:Own)(M:Mem)(hw:ws.length<=1000000000):A0c (WC gl) 96 [.list 4 (A0g ws) o] M (λv M'=>v=.list 4 (A0g (ws.map λh=>A1O h.text)) .no/\M'=M):=by
 refine A0c.dataX ?_;refine A0o (hQ [5,20]) func96 ?_;simp -dsimp -implicitDefEqProofs[A1J,A0W];refine A0y (hQ [5,20]) ws.length 4 (λT M1=>∃i:Nat,i<=ws.length/\T 0=.list 4 (A0g ws) o/\T 4=I i/\Arr 152 4 A0H.row M.length M1 (T 3) ((ws.take i).map λh=>A1O h.text)/\Grow M M1) ?_ ?_
 .refine⟨0,by omega,by simp,by simp,?_,A0d.app none M _⟩;simp -dsimp -implicitDefEqProofs;exact⟨.inr ⟨M.length,0,[(0,0)],rfl,by simp,by simp[List.lookup]⟩,λf hf=>by simp at hf;omega⟩
 rintro T M1 ⟨i,i1,t0,t4,hv,hg⟩;generalize b:T 3=ov at*;by_cases hi:i<ws.length;case neg=>
  have a:¬(i:Int)<ws.length:=by omega
  rw[Z0k (by omega)]at hv;simp -dsimp -implicitDefEqProofs[t0,t4,a,b];exact⟨hg,A3i (enc:=A0H.row) (λ_=>rfl) A5v hv.own hv.lat⟩
 have a:(i:Int)<ws.length:=by omega
 have w1:IntKind.i64.wrap ((i:Int)+1)=(i+1:Nat):=by rw[A0J (by omega) (by omega)];omega
 simp -dsimp -implicitDefEqProofs[t0,t4,hi,a,b,A0H.row,A0n,A0W];refine A3p (C:=WC gl) (enc:=A0H.row) (e:=152) (sz:=4) (news:=[A1O ws[i].text]) B3v C0S B4k (λ_=>rfl) hv.own (by simp[A0A,A0H.row,A1O]) (by simp;omega) rfl ?_;intro v' M' q1 q2 q3 _;simp -dsimp -implicitDefEqProofs[t0,t4,w1];refine⟨⟨i+1,by clear w1;omega,rfl,?_,hv.grow hg q2⟩,by clear w1;omega⟩;rw[<-Z1w,Z0D hi,Z0Q];exact⟨q1,hv.later hg.1 q3⟩
end
def B1z(w:A0H):Prop:=w.act=0/\w.item=0/\w.at_=0
mutual
def A3n:A0a->Prop
 |.mk id _ _ h w ks=>id=idZ/\(∀x∈h,B1z x)/\(∀x∈w,B1z x)/\B3o ks
def B3o:List A0a->Prop
 |[]=>True
 |k::ks=>A3n k/\B3o ks
end
def B6l:∀{ks:List A0a},B3o ks<->∀k∈ks,A3n k
 |[]=>by simp[B3o]
 |k::ks=>by simp[B3o,B6l (ks:=ks)]
def A7u(u:A0a):A3n u<->u.id=idZ/\(∀x∈u.head,B1z x)/\(∀x∈u.words,B1z x)/\∀k∈u.kids,A3n k:=by obtain⟨a,b,c,d,e,f⟩:=u;rw[A3n,B6l];rfl
def C2t{w}(h:B1z w):w.row=[S w.text,I 0,I 0,I 0]:=by obtain⟨h1,h2,h3⟩:=h;simp[A0H.row,h1,h2,h3]
def B3E(F:IdD->Option A0a)(l:List A0C)(s:List A2m):∀f n,A3n (A2M F l s f n).1
 |0,n=>by rw[A2M,D1f,A3n];exact⟨rfl,by simp,by simp,trivial⟩
 |f+1,n=>by
  rw[A2M,A3n,B6l];refine⟨rfl,λx hx=>?_,λx hx=>?_,λk hk=>?_⟩
  .obtain⟨y,_,rfl⟩:=Z0G.1 hx;exact⟨rfl,rfl,rfl⟩
  .obtain⟨y,_,rfl⟩:=Z0G.1 hx;exact⟨rfl,rfl,rfl⟩
  .rw[Z1s]at hk;obtain⟨y,_,rfl⟩:=Z0G.1 hk;exact B3E F l s f y
mutual
def C6F:∀u:A0a,A3n u->∀x∈A0T u,x=idZ
 |.mk id _ _ _ _ ks,h,x,hx=>by
  rw[A3n]at h;rw[A0T]at hx;rcases Z0t.1 hx with rfl|hx
  .exact h.1
  .exact C3m ks h.2.2.2 x hx
def C3m:∀ks:List A0a,B3o ks->∀x∈A2a ks,x=idZ
 |[],_,x,hx=>by rw[A2a]at hx;simp at hx
 |k::ks,h,x,hx=>by
  rw[B3o]at h;rw[A2a]at hx;rcases Z0P.1 hx with hx|hx
  .exact C6F k h.1 x hx
  .exact C3m ks h.2 x hx
end
def D3h{u}(h:A3n u):C3T u=true:=by rw[C5l];unfold C4T;rw[show(A0T u).all (λx=>decide (x=idZ))=true from Z0u.2 λx hx=>Z0v (C6F u h x hx)];rfl
def B1s(u:A0a):Bool:=A2c u&&decide (A1D u<=8)&&decide (A0j u<=1024)
def B4e{u}(h:A3n u):B0Z u=B1s u:=by rw[B0Z,D3h h,Z3B,B2C];rfl
def A6S:A0a->A0a
 |.mk _ k l h w _=>.mk idZ k l h w []
def D1v{u}(h:A3W u=true):B1s (A6S u)=true:=by
 obtain⟨a,b,c,d,e,f⟩:=u;have h2:A3W (.mk idZ b c d e [])=true:=by unfold A3W at h|-;simp only[Z0g,Z0l]at h|-;exact⟨⟨⟨⟨h.1.1.1.1,by simp[A0a.kids]⟩,h.1.1.2⟩,h.1.2⟩,h.2⟩
 simp only[A6S,B1s,A2c,A4x,h2,A1D,A2I,A0j,A0f];rfl
def B0R(u:A0a):Int:=if B1s u=true then if 16384<A6M (A6d 0 u)then 6 else 0 else 1
end Go.Abs
