/- The texts CbT, CbD, CbE, CbF, CbG0, CbG, CbA0, CbA, CbB, CbC, CbH, CbI, CbK0, CbL. -/
import Derived.Test.YtmpdkagfplajjaaGreatDoorEG31
import Derived.Test.YtmpdkagfplajjaaGreatDoorEG23
import Derived.Test.YtmpdkagfplajjaaGreatDoorEG28
import Derived.Test.YtmpdkagfplajjaaGreatDoorEG30
set_option linter.all false
set_option maxRecDepth 100000
namespace Go.Abs
open Go.Proofs TryTypes
def A8b(a b:AV):Prop:=∀f,obj a=some f->obj b≠some f
def A8b.symm{a b}(h:A8b a b):A8b b a:=λf h1 h2=>h f h2 h1
def A8b.nil{b}:A8b (.val (.slice none 0 0)) b:=λf h=>by simp at h
structure Arr {α:Type} (e sz:Nat) (enc:α->List AV) (n:Nat) (M:Mem) (v:AV) (l:List α):Prop where
 own:A1l e sz enc M v l
 lat:A1m n v
section
variable {α β:Type} {e e2 sz sz2 n:Nat} {enc:α->List AV} {enc2:β->List AV} {M M':Mem} {v v' u:AV} {l news:List α} {r:List β}
def Arr.nil:Arr e sz enc n M (.val (.slice none 0 0)) []:=⟨.nil,λf h=>by simp at h⟩
def Arr.keep(h:Arr e sz enc n M v l)(hk:Grow M M'):Arr e sz enc n M' v l:=⟨h.own.keep hk (by simp),h.lat⟩
def Arr.beside(h:Arr e2 sz2 enc2 n M u r)(ha:A8b v u)(hk:A0c (obj v) M M'):Arr e2 sz2 enc2 n M' u r:=⟨h.own.keep hk (λf hf hv=>ha f hv hf),h.lat⟩
def Arr.later(h:Arr e sz enc n M v l)(hn:n<=M.length)(h3:obj v'=obj v\/A1m M.length v'):A1m n v':=λf hf=>by
 rcases h3 with h3|h3
 .exact h.lat f (h3▸hf)
 .have:=h3 f hf;omega
def Arr.apart(h:Arr e2 sz2 enc2 n M u r)(ha:A8b v u)(h3:obj v'=obj v\/A1m M.length v'):A8b v' u:=λf hf hu=>by
 rcases h3 with h3|h3
 .exact ha f (h3▸hf) hu
 .have:=h3 f hf;have:=h.own.lt hu;omega
def Arr.grow{M0}(h:Arr e sz enc M0.length M v l)(hg:Grow M0 M)(hk:A0c (obj v) M M'):Grow M0 M':=⟨Z0Q hg.1 hk.1,λi hi _=>by rw[hk.2 i (by have:=hg.1;omega) (λe=>by have:=h.lat _ e;omega)];exact hg.2 i hi (by simp)⟩
end
def Arr.cells{α:Type}{e sz n q t:Nat}{enc:α->List AV}{M M':Mem}{v:AV}{l:List α}{xs:List AV}(h:Arr e sz enc n M v l)(hk:A0c (obj v) M M')(hq:M[q]?=some (.cells t xs)):M'[q]?=some (.cells t xs):=hk.get hq λe=>by
 rcases h.own with⟨rfl,_⟩|⟨f,g,a,rfl,hm,_⟩
 .simp at e
 .simp only[D4Y,Z0a]at e;subst e;rw[hm]at hq;simp at hq
abbrev C7X(p:List A0G):List AV:=[A8K p]
structure Tri (M M1:Mem) (v1 v2 v3:AV) (A B:List A1w) (C:List (List A0G)):Prop where
 grow:Grow M M1
 h1:Arr 110 5 A1w.row M.length M1 v1 A
 h2:Arr 110 5 A1w.row M.length M1 v2 B
 h3:Arr 40 1 C7X M.length M1 v3 C
 a12:A8b v1 v2
 a13:A8b v1 v3
 a23:A8b v2 v3
section
variable {M M1 M2:Mem} {v1 v2 v3 v':AV} {A B A' B':List A1w} {C C':List (List A0G)}
def Tri.keep(h:Tri M M1 v1 v2 v3 A B C)(hk:Grow M1 M2):Tri M M2 v1 v2 v3 A B C:=⟨h.grow.trans hk,h.h1.keep hk,h.h2.keep hk,h.h3.keep hk,h.a12,h.a13,h.a23⟩
def Tri.push1(h:Tri M M1 v1 v2 v3 A B C)(q1:A1l 110 5 A1w.row M2 v' A')(q2:A0c (obj v1) M1 M2)(q3:obj v'=obj v1\/A1m M1.length v'):Tri M M2 v' v2 v3 A' B C:=⟨h.h1.grow h.grow q2,⟨q1,h.h1.later h.grow.1 q3⟩,h.h2.beside h.a12 q2,h.h3.beside h.a13 q2,h.h2.apart h.a12 q3,h.h3.apart h.a13 q3,h.a23⟩
def Tri.push2(h:Tri M M1 v1 v2 v3 A B C)(q1:A1l 110 5 A1w.row M2 v' B')(q2:A0c (obj v2) M1 M2)(q3:obj v'=obj v2\/A1m M1.length v'):Tri M M2 v1 v' v3 A B' C:=⟨h.h2.grow h.grow q2,h.h1.beside h.a12.symm q2,⟨q1,h.h2.later h.grow.1 q3⟩,h.h3.beside h.a23 q2,(h.h1.apart h.a12.symm q3).symm,h.a13,h.h3.apart h.a23 q3⟩
def Tri.push3(h:Tri M M1 v1 v2 v3 A B C)(q1:A1l 40 1 C7X M2 v' C')(q2:A0c (obj v3) M1 M2)(q3:obj v'=obj v3\/A1m M1.length v'):Tri M M2 v1 v2 v' A B C':=⟨h.h3.grow h.grow q2,h.h1.beside h.a13.symm q2,h.h2.beside h.a23.symm q2,⟨q1,h.h3.later h.grow.1 q3⟩,h.a12,(h.h1.apart h.a13.symm q3).symm,(h.h2.apart h.a23.symm q3).symm⟩
end
def B2Q.keep{l}{L}{a b c}{M M1}(h:B2Q l L a b c M)(hk:Grow M M1):B2Q l L a b c M1:=by obtain⟨p1,⟨IL,p2,p3⟩,KL,p4,p5⟩:=h;exact⟨p1.keep hk (by simp),⟨IL,p2.keep hk (by simp),p3⟩,KL,p4.keep hk (by simp),λq=>(p5 q).keep hk (by simp)⟩
def B9G(n:Nat)(s:ByteArray):A1K n (A6I s):=by simp[A6I,A1K,bdd]
def D0q(l:List ByteArray):l.map S=l.flatMap A6I:=by
 induction l with
 |nil=>rfl
 |cons a l ih=>rw[Z0t,Z1a,ih];rfl
def A4l.toT{M M'}{l}{v}(h:A4l M l v M'):A1l 9 1 A6I M' v l/\Grow M M'/\A1m M.length v:=by
 have e:=D0q;obtain⟨h1,h2,h3⟩:=h;refine⟨?_,h2,h3⟩;rcases h1 with⟨rfl,hn⟩|⟨f,g,a,rfl,hm,hl⟩
 .exact .inl ⟨rfl,by simpa using hn⟩
 .rw[Z0R]at*;exact .inr ⟨f,g,a,rfl,by rw[<-e];exact hm,hl⟩
section
variable {l:List ByteArray} {old:List A1w} {names:List (List A0G)} {B:Nat}
def C4Z(a:List ByteArray)(s:ByteArray):(A6W a s).length=a.length:=by simp[A6W]
def B9U{xs ys}{s}(hB:17<=B)(hx:∀t∈xs,t.size<=B)(hy:∀t∈ys,t.size<=16)(hn:ys≠[])(hs:s.size<=1):∀t∈A6W (xs++ys) s,t.size<=B:=by
 intro t ht;have hm:=hy _ (C6q (xs:=xs) hn);rcases Z3R ht with h|h
 .rcases Z0V.1 h with h|h
  .exact hx t h
  .have:=hy t h;omega
 .rw[h,Z0E];omega
def C5K(hB:17<=B)(hl:∀t∈l,t.size<=B){i}{out}{e}{r}(ho:∀t∈out,t.size<=B)(h:B4v l old names i out e=some r):(∀t∈r.1,t.size<=B)/\r.1.length<=out.length+l.length+19:=by
 unfold B4v at h;split at h;case h_2=>exact absurd h (by simp)
 rename_i c p hc hp;split at h
 .exact absurd h (by simp)
 rename_i hne;simp only[Z2L]at hne;have hw:∀t∈A4c p,t.size<=16:=B6o;have b:=C1N p;have a:C2a.size=3:=rfl;simp only[Z0a]at h;have h1:∀t∈(if A4S old i=true then out++[C2a]else out++(l.take c.frm.toNat).drop e.toNat),t.size<=B:=by
  intro t ht;split at ht
  .rcases Z0V.1 ht with q|q
   .exact ho t q
   .simp only[Z1k]at q;rw[q,a];omega
  .rcases Z0V.1 ht with q|q
   .exact ho t q
   .exact hl t (Z1p (Z1o q))
 have h2:(if A4S old i=true then out++[C2a]else out++(l.take c.frm.toNat).drop e.toNat).length<=out.length+l.length+1:=by
  split
  .rw[Z0q,List.length_singleton];omega
  .simp only[Z0q,Z1q,Z0B];omega
 generalize(if A4S old i=true then out++[C2a]else out++(l.take c.frm.toNat).drop e.toNat)=X at*;rw[<-h];refine⟨?_,?_⟩
 .simp only;split
  .exact B9U hB h1 hw hne.1 (B3U _)
  .intro t ht;rcases Z0V.1 ht with q|q
   .exact h1 t q
   .have:=hw t q;omega
 .simp only;split
  .rw[C4Z,Z0q];omega
  .rw[Z0q];omega
def B7U(hB:17<=B)(hl:∀t∈l,t.size<=B):∀(n i:Nat) (a:List ByteArray) (e:Int),(∀t∈a,t.size<=B)->(∀t∈B5A l old names n i a e,t.size<=B)/\(B5A l old names n i a e).length<=a.length+n*(l.length+19)+l.length
 |0,i,a,e,ho=>by
  rw[B5A];refine⟨λt ht=>?_,by simp only[Z0q,Z1q];omega⟩;rcases Z0V.1 ht with q|q
  .exact ho t q
  .exact hl t (Z1o q)
 |n+1,i,a,e,ho=>by
  rw[B5A];cases hs:B4v l old names i a e with
  |none=>exact⟨hl,by simp only;omega⟩
  |some r=>obtain⟨k1,k2⟩:=C5K hB hl ho hs;obtain⟨q1,q2⟩:=B7U hB hl n (i+1) r.1 r.2 k1;refine⟨q1,?_⟩;simp only;rw[Z0K];omega
def A7Y(hB:17<=B)(hl:∀t∈l,t.size<=B):(∀t∈A6w l old names,t.size<=B)/\(A6w l old names).length<=old.length*(l.length+19)+l.length:=by
 unfold A6w;split
 .obtain⟨a,b⟩:=B7U (old:=old) (names:=names) hB hl old.length 0 [] 0 (by simp);exact⟨a,by simpa using b⟩
 .exact⟨hl,by omega⟩
end
section
variable (cs:List A1w) (nm:Nat->List (List A0G))
def C1U(i:Nat)(h:i<cs.length):A8n cs nm (i+1)=A8n cs nm i++(nm i).map λ_=>cs[i]:=by simp[A8n,Z2S,Z1s,h]
def C0C(i:Nat):B0P nm (i+1)=B0P nm i++nm i:=by simp[B0P,Z2S,Z1s]
def B7J(i:Nat)(h:i<cs.length):A7d cs nm (i+1)=A7d cs nm i++if nm i=[]then[cs[i]]else(nm i).map λp=>⟨0,p,⟨#[]⟩,0,0⟩:=by simp[A7d,Z2S,Z1s,h]
def B1c{K}(hk:∀i,(nm i).length<=K):∀i,(A8n cs nm i).length<=i*K
 |0=>by simp[A8n]
 |i+1=>by
  have:=B1c hk i;have:=hk i;by_cases h:i<cs.length
  .rw[C1U cs nm i h,Z0q,Z0R,Z0K];omega
  ·(have e:A8n cs nm (i+1)=A8n cs nm i:=by simp[A8n,Z2S,Z1s,h]);rw[e,Z0K];omega
def C4o{K}(hk:∀i,(nm i).length<=K):∀i,(B0P nm i).length<=i*K
 |0=>by simp[B0P]
 |i+1=>by have:=C4o hk i;have:=hk i;rw[C0C,Z0q,Z0K];omega
def B5B{K}(hk:∀i,(nm i).length<=K):∀i,(A7d cs nm i).length<=i*(K+1)
 |0=>by simp[A7d]
 |i+1=>by
  have:=B5B hk i;have:=hk i;by_cases h:i<cs.length
  .rw[B7J cs nm i h,Z0q,Z0K];split
   .simp;omega
   .rw[Z0R];omega
  ·(have e:A7d cs nm (i+1)=A7d cs nm i:=by simp[A7d,Z2S,Z1s,h]);rw[e,Z0K];omega
def D4j{i}{p}(h:p∈B0P nm i):∃j,p∈nm j:=by simp only[B0P,Z2z]at h;obtain⟨j,_,h⟩:=h;exact⟨j,h⟩
end
def B1O{F:IdD->Option A0a}{l}{s}{id}{n}{K}(h:∀m∈s,m.to.length<=K):(A2K F l s id n).length<=K:=by
 have ht:(D2S s id n).length<=K:=by
  unfold D2S;split
  .rename_i m hm;exact h m (Z3c hm)
  .simp
 unfold A2K;split
 .rw[Z0R];exact ht
 .simp
def B7S{F:IdD->Option A0a}{l}(hs:∀s∈l,s.good):∀f n,∀x∈A5w F l f n,x.lab.size<=maxLen
 |0,n,x,hx=>by simp only[A5w,Z1k]at hx;subst hx;simp[A3o,maxLen,ByteArray.size]
 |f+1,n,x,hx=>by
  rw[A5w]at hx;split at hx
  .simp only[Z1k]at hx;subst hx;simp[A3o,maxLen,ByteArray.size]
  .rcases Z0V.1 hx with h|h
   .exact B7S hs f _ x h
   .simp only[Z1k]at h;subst h;simp only[A9I];split
    .rename_i s hs';exact(hs _ (Z2X hs')).2.2
    .simp[maxLen,ByteArray.size]
def C0f{F:IdD->Option A0a}{l}{s}{id}{n}(hl:l.length<=1000)(hs:∀s∈l,s.good):∀p∈A2K F l s id n,C7S p:=by
 intro p hp;unfold A2K at hp;split at hp
 .obtain⟨y,_,rfl⟩:=Z0H.1 hp;refine⟨?_,B7S hs _ _⟩;have:=B5h F l ((A2U l y).getD 0+1) (((A2U l y).getD 0:Nat):Int);have:(A2U l y).getD 0<=l.length:=by
   cases h:A2U l y with
   |none=>simp
   |some k=>have:=(Z3h.1 h).1;simp only[Z1B];omega
  omega
 .simp at hp
open Go.Proofs TryTypes Tryz
def isM(id:IdD)(n:Int)(m:A1P):Bool:=decide (m.at_=id)&&decide (m.n=n)
def D6B(s:List A1P)(id:IdD)(n:Int):D2S s id n=match s.find? (isM id n)with|some m=>m.to|none=>[]:=rfl
def C0L{α:Type}(p:α->Bool):∀(l:List α) (j:Nat),(A3t p l j=-1/\l.find? p=none)\/∃k:Nat,A3t p l j=((j+k:Nat):Int)/\∃h:k<l.length,l.find? p=some l[k]
 |[],j=>.inl ⟨rfl,rfl⟩
 |x::l,j=>by
  rw[A3t,Z2R];cases c:p x with
  |true=>exact .inr ⟨0,by simp,by simp,by simp⟩
  |false=>
   simp only[Z0I,Z1j];rcases C0L p l (j+1)with h|⟨k,h1,h2,h3⟩
   .exact .inl h
   .exact .inr ⟨k+1,by rw[h1];congr 1;omega,by simpa using h2,by rw[h3];simp⟩
def C1T{α:Type}{p:α->Bool}{l}{i}(hi:i<l.length)(h:A3t p l 0=A3t p (l.drop i) i):A3t p l 0=if p l[i]=true then(i:Int)else A3t p (l.drop (i+1)) (i+1):=by rw[h,Z0l hi,A3t]
section
variable (gl:Nat->AV)
def D9E(m:A1P)(id:IdD)(n:Int)(M:Mem):A0e (WC gl) 223 [.agg m.row,.cptr [I id.act,I id.item,I id.n],.cptr [I n]] M (λv M'=>v=B (isM id n m)/\M'=M):=by
 refine A0m hB func223 ?_;have he:=B4h m.at_ id;by_cases c:m.at_=id
 .rw[Z0w c]at he;simp -dsimp -implicitDefEqProofs[A1P.row,he,isM,Z0w c];rfl
 .rw[Z0z c]at he;simp -dsimp -implicitDefEqProofs[A1P.row,he,isM,c]
def D6r(s:List A1P)(id:IdD)(n:Int)(M:Mem)(hl:s.length<=1000):A0e (WC gl) 222 [.list 5 (A3C s) .no,.func (.func 223) [] [.cptr [I id.act,I id.item,I id.n],.cptr [I n]]] M (λv M'=>v=I (A3t (isM id n) s 0)/\M'=M):=by
 refine A0m hB func222 ?_;simp -dsimp -implicitDefEqProofs;refine A0F hB s.length 8 (λT M1=>∃i:Nat,M1=M/\i<=s.length/\T 0=.list 5 (A3C s) .no/\T 1=.func (.func 223) [] [.cptr [I id.act,I id.item,I id.n],.cptr [I n]]/\T 7=I s.length/\T 8=I i/\A3t (isM id n) s 0=A3t (isM id n) (s.drop i) i) ?_ ?_
 .exact⟨0,rfl,by omega,by simp,by simp,by simp,by simp,by simp⟩
 rintro T M1 ⟨i,rfl,h1,t0,t1,t7,t8,h2⟩;by_cases hi:i<s.length
 .have a:(i:Int)<s.length:=by omega
  have w1:=A2s (i:=i) (by omega);have h3:=C1T hi h2;have hm:=D9E gl s[i] id n M1;simp only[A1P.row]at hm;simp -dsimp -implicitDefEqProofs[t0,t1,t7,t8,hi,a,A1P.row];refine A0g func223 hm ?_;cases c:isM id n s[i]with
  |true=>rw[c,Z0d rfl]at h3;simp -dsimp -implicitDefEqProofs[t0,t1,t7,t8,h3]
  |false=>rw[c,Z0e (by simp)]at h3;simp -dsimp -implicitDefEqProofs[t0,t1,t7,t8,w1];exact⟨⟨i+1,by clear w1;omega,rfl,h3⟩,by clear w1;omega⟩
 .have a:¬(i:Int)<s.length:=by omega
  rw[Z0x (by omega)]at h2;simp -dsimp -implicitDefEqProofs[t0,t1,t7,t8,a,h2,A3t]
def D9c:A7q prog 3=some (I 0):=D5a
def C7d(F:IdD->Option A0a)(s:List A1P)(l:List A0Q)(L:List (IdD×A0a))(hF:A1C L=F)(a b c:Nat)(id:IdD)(n:Int)(M:Mem)(hP:B2Q l L a b c M)(hl:l.length<=1000)(hs:s.length<=1000)(ht:∀m∈s,m.to.length<=1000)(a6:∀j,j<l.length->B0C l j):A0e (WC gl) 176 [B1j l a b c,.list 5 (A3C s) .no,.agg id.row,I n] M (λv M'=>v=.list 1 (A6T (A2K F l s id n)) .no/\M'=M):=by
 subst hF
 refine A0e.dataX ?_
 refine A0m (hQ [44]) func176 ?_
 simp -dsimp -implicitDefEqProofs[IdD.row]
 refine A0g func222 (D6r gl s id n M hs) ?_
 have f:=D6B s id n
 rcases C0L (isM id n) s 0 with⟨h1,h2⟩|⟨k,h1,h2,h3⟩
 .rw[h2]at f;have hn:A2K (A1C L) l s id n=[]:=by simp[A2K,f]
  simp -dsimp -implicitDefEqProofs[h1];rw[hn];exact⟨Grow.refl _,C1k⟩
 rw[h3]at f
 simp only at f
 obtain⟨T0,a2⟩:∃t,t=s[k].to:=⟨_,rfl⟩
 rw[<-a2]at f
 have ad:T0.length<=1000:=by rw[a2];exact ht _ (Z0y h2)
 rw[Z0G]at h1
 have k1:¬(k:Int)<0:=by omega
 have k2:(k:Int)<s.length:=by omega
 simp -dsimp -implicitDefEqProofs[h1,k1,k2,h2,A1P.row]
 rw[<-a2]
 obtain⟨IL,ab,a9⟩:=hP.ix
 refine A0F (hQ [44]) T0.length 26 (λT M1=>∃i:Nat,Grow M M1/\i<=T0.length/\T 4=.cptr [.list 5 (A2h l) .no,.mapr a,.mapr b,.mapr c]/\T 24=.list 3 (A4m T0) .no/\T 25=I T0.length/\T 26=I i/\(∀y∈T0.take i,(A2U l y).isSome=true)/\A1l 40 1 C7X M1 (T 10) ((T0.take i).map λy=>A5w (A1C L) l ((A2U l y).getD 0+1) ((A2U l y).getD 0:Nat))/\A1m M.length (T 10)) ?_ ?_
 .refine⟨0,Grow.refl _,by omega,by simp,by simp,by simp,by simp,by simp,?_,?_⟩
  .simp only[Z2r,Z2a];exact .inl ⟨by simp,rfl⟩
  .simp[A1m]
 rintro T M1 ⟨i,hg,i1,t4,w,r,u,z,hv,hL⟩
 generalize g:T 10=ov at*
 by_cases hi:i<T0.length
 .have a0:(i:Int)<T0.length:=by omega
  have w1:=A2s (i:=i) (by omega);obtain⟨M2,a1⟩:∃M2,M2=M1++[A0j.cells 23 [I T0[i].act,I T0[i].item,I T0[i].n]]:=⟨_,rfl⟩;have o:Grow M1 M2:=by rw[a1];exact A0c.app none _ _
  have a3:M2[M1.length]?=some (A0j.cells 23 [I T0[i].act,I T0[i].item,I T0[i].n]):=by rw[a1];simp
  have a8:=(ab.keep hg (by simp)).keep o (by simp);have aa:=(hP.units.keep hg (by simp)).keep o (by simp);have a7:=hv.keep o (by simp);have d:=a8.get (A8D 93 3 (by kernel_rfl)) T0[i] D9c true;simp only[A2C,IdD.row,a9]at d;have ac:A2K (A1C L) l s id n=if(T0.all λy=>(A2U l y).isSome)=true then T0.map λy=>A5w (A1C L) l ((A2U l y).getD 0+1) ((A2U l y).getD 0:Nat)else[]:=by simp only[A2K,f]
  simp -dsimp -implicitDefEqProofs[t4,w,r,u,hi,a0,IdD.row,A0k,A0l,A0d];rw[<-a1];cases hsl:A2U l T0[i]with
  |none=>rw[hsl]at d;(have hn:A2K (A1C L) l s id n=[]:=by rw[ac,Z0e];rw[Z0p];intro h;have:=h T0[i] (Z0y hi);rw[hsl]at this;exact absurd this (by simp));simp -dsimp -implicitDefEqProofs[t4,w,r,u,A0b a3,d];rw[hn];exact⟨hg.trans o,C1k⟩
  |some q=>
   rw[hsl]at d;(have hq:q<l.length:=by have:=Z3h.1 hsl;exact this.1);have a5:=A0e.still (enc:=A0G.row) (sz:=2) (λ_=>rfl) B9x (D2s gl l L a b c hl a6 (q+1) q M2 (by omega) (by omega) (by omega) aa);simp -dsimp -implicitDefEqProofs[t4,w,r,u,A0b a3,d,g];refine A0g func224 a5 ?_;simp -dsimp -implicitDefEqProofs[g,A0q,A1f];refine A4C (C:=WC gl) (enc:=C7X) (e:=40) (sz:=1) (news:=[A5w (A1C L) l (q+1) (q:Nat)]) D4n D7P D7M (λ_=>rfl) a7 (by simp[A0A]) (by simp;omega) rfl ?_;intro v' M3 q1 q2 q3 _;obtain⟨r1,r2⟩:=A2V (X:=[]) (hg.trans o) hL (by simpa using q2) (by simpa using q3);(have a4:T0.take (i+1)=T0.take i++[T0[i]]:=by rw[Z0D hi]);simp -dsimp -implicitDefEqProofs[t4,w,r,u,w1];refine⟨⟨r1,i+1,by clear w1;omega,rfl,λy hy=>?_,?_,r2⟩,by clear w1;omega⟩
   .rw[a4]at hy;rcases Z0V.1 hy with h|h
    .exact z y h
    .simp only[Z1k]at h;rw[h,hsl];rfl
   .rw[<-Z1w,a4,Z0S];simp only[Z0t,Z2a,hsl,Z1B];exact q1
 .have a0:¬(i:Int)<T0.length:=by omega
  rw[Z0j (by omega)]at hv z;have hn:A2K (A1C L) l s id n=T0.map λy=>A5w (A1C L) l ((A2U l y).getD 0+1) ((A2U l y).getD 0:Nat):=by simp only[A2K,f];rw[Z0d (Z0p.2 z)]
  rw[<-hn]at hv;simp -dsimp -implicitDefEqProofs[t4,w,r,u,a0,g];exact⟨hg,A3P (λ_=>rfl) (λn p=>by simp only[C7X,A1K,Z1O];exact B7m n p) hv hL⟩
end
@[simp] def E6u{k j}{a b}:A1B prog .neq 159 (.agg [I k,S a]) (.agg [I j,S b])=some (B (!(decide (k=j)&&decide (a=b)))):=by
 have h1:prog.eqGuardType prog.depth 159=false:=by kernel_rfl
 have h2:prog.stoodInHeld 159=false:=by kernel_rfl
 simp[A1B,A3I,A5h,A4J,A3q,h1,B2q,h2,A3H];by_cases c1:k=j
 .by_cases c2:a=b
  .simp[c1,c2]
  .have:¬a.data=b.data:=λe=>c2 (by cases a;cases b;simpa using e);(have e:(a.data==b.data)=false:=by simpa using this);rw[e];simp[c1,c2]
 .have e:(k==j)=false:=by simpa using c1
  rw[e];simp[c1]
def pk(p:List A0G):List (Int×ByteArray):=p.map λs=>(s.k,s.lab)
def D3V(p:List A0G):(pk p).length=p.length:=by simp[pk]
def D6G{p q}{i}(hp:i<p.length)(hq:i<q.length)(h:pk p=pk q<->pk (p.drop i)=pk (q.drop i)):pk p=pk q<->(p[i].k=q[i].k/\p[i].lab=q[i].lab)/\pk (p.drop (i+1))=pk (q.drop (i+1)):=by
 rw[h,Z0l hp,Z0l hq]
 simp only[pk,Z0t,Z1d,Z0c]
section
variable (gl:Nat->AV)
def C1a(p q:List A0G)(o1 o2:Own)(M:Mem)(hp:p.length<=1000000):A0e (WC gl) 178 [.list 2 (A1L p) o1,.list 2 (A1L q) o2] M (λv M'=>v=B (decide (pk p=pk q))/\M'=M):=by
 refine A0m hB func178 ?_;by_cases hl:p.length=q.length;case neg=>
  have b:¬(p.length:Int)=q.length:=by omega
  have hr:¬pk p=pk q:=λe=>hl (by rw[<-D3V p,e,D3V]);simp -dsimp -implicitDefEqProofs[b,hr]
 have b:(p.length:Int)=q.length:=by omega
 simp -dsimp -implicitDefEqProofs[b];refine A0F hB p.length 13 (λT M1=>∃i:Nat,M1=M/\i<=p.length/\T 0=.list 2 (A1L p) o1/\T 1=.list 2 (A1L q) o2/\T 12=I q.length/\T 13=I i/\(pk p=pk q<->pk (p.drop i)=pk (q.drop i))) ?_ ?_
 .exact⟨0,rfl,by omega,by simp,by simp,by simp[b],by simp,by simp⟩
 rintro T M1 ⟨i,rfl,h1,t0,t1,d,f,h2⟩;by_cases hi:i<p.length
 .have a:(i:Int)<q.length:=by omega
  have g:(i:Int)<p.length:=by omega
  have hq:i<q.length:=by omega
  have w1:=A2s (i:=i) (by omega);have h3:=D6G hi hq h2;simp -dsimp -implicitDefEqProofs[t0,t1,d,f,a];refine A1v hB (A0I gl) (λ_=>0) (λ_=>0) (by rfl) (by kernel_rfl) ?_;by_cases c:p[i].k=q[i].k/\p[i].lab=q[i].lab
  .simp -dsimp -implicitDefEqProofs[t0,t1,d,f,hi,a,hq,g,c.1,c.2,w1];exact⟨⟨i+1,by clear w1;omega,rfl,by rw[h3];exact⟨λh=>h.2,λh=>⟨c,h⟩⟩⟩,by clear w1;omega⟩
  .have hr:¬pk p=pk q:=λe=>c (h3.1 e).1;have hd:(decide (p[i].k=q[i].k)&&decide (p[i].lab=q[i].lab))=false:=by
    rw[Bool.and_eq_false_iff,Z2i,Z2i];by_cases c1:p[i].k=q[i].k
    .exact .inr λe=>c ⟨c1,e⟩
    .exact .inl c1
   simp -dsimp -implicitDefEqProofs[t0,t1,d,f,hi,a,hq,g,hd,hr]
 .have a:¬(i:Int)<q.length:=by omega
  rw[Z0x (by omega),Z0x (by omega)]at h2;have hr:pk p=pk q:=h2.2 rfl;simp -dsimp -implicitDefEqProofs[t0,t1,d,f,a,hr]
def D3s(a b:A1w)(M:Mem)(ha:a.path.length<=1000000):A0e (WC gl) 177 [.agg a.row,.agg b.row] M (λv M'=>v=B (B2y a b)/\M'=M):=by
 refine A0m hB func177 ?_;by_cases c1:a.k=b.k;case neg=>simp -dsimp -implicitDefEqProofs[A1w.row,c1,B2y]
 by_cases c2:a.to=b.to;case neg=>simp -dsimp -implicitDefEqProofs[A1w.row,c1,c2,B2y]
 simp -dsimp -implicitDefEqProofs[A1w.row,c1,c2];refine A0g func178 (C1a gl a.path b.path .no .no M ha) ?_;simp -dsimp -implicitDefEqProofs[B2y,c1,c2,pk];exact decide_eq_decide.2 Iff.rfl
def D3N{a b:List A1w}{f:A1w×A1w->Bool}{i:Nat}(ha:i<a.length)(hb:i<b.length)(h:(a.zip b).all f=((a.drop i).zip (b.drop i)).all f):(a.zip b).all f=(f (a[i],b[i])&&((a.drop (i+1)).zip (b.drop (i+1))).all f):=by rw[h,Z0l ha,Z0l hb];rfl
def D1u(a b:List A1w)(o1 o2:Own)(M:Mem)(hl:a.length<=1000000000)(ha:∀c∈a,c.path.length<=1000000):A0e (WC gl) 179 [.list 5 (A5b a) o1,.list 5 (A5b b) o2,.func (.func 177) [] []] M (λv M'=>v=B (B5s a b)/\M'=M):=by
 refine A3Z (λ_=>trivial) ?_;refine A0m hB func179 ?_;by_cases hlen:a.length=b.length;case neg=>
  have d:¬(a.length:Int)=b.length:=by omega
  simp -dsimp -implicitDefEqProofs[d,B5s,hlen,A0c.refl]
 have d:(a.length:Int)=b.length:=by omega
 have hm:B5s a b=(a.zip b).all (λx=>B2y x.1 x.2):=by simp[B5s,hlen]
 rw[hm];simp -dsimp -implicitDefEqProofs[d];refine A0F hB a.length 17 (λT M1=>∃i:Nat,Grow M M1/\i<=a.length/\T 0=.list 5 (A5b a) o1/\T 1=.list 5 (A5b b) o2/\T 2=.func (.func 177) [] []/\T 15=.list 5 (A5b a) o1/\T 16=I b.length/\T 17=I i/\(a.zip b).all (λx=>B2y x.1 x.2)=((a.drop i).zip (b.drop i)).all (λx=>B2y x.1 x.2)) ?_ ?_
 .exact⟨0,Grow.refl _,by omega,by simp,by simp,by simp,by simp,by simp[d],by simp,by simp⟩
 rintro T M1 ⟨i,hg,h1,t0,t1,t2,j,f,g,h2⟩;by_cases hi:i<a.length
 .have h:(i:Int)<b.length:=by omega
  have k:(i:Int)<a.length:=by omega
  have hq:i<b.length:=by omega
  have w1:IntKind.i64.wrap ((i:Int)+1)=(i+1:Nat):=by rw[A0Z (by omega) (by omega)];omega
  have h3:=D3N hi hq h2;have hX:(M1++[A0j.cells 110 a[i].row,A0j.cells 110 b[i].row])[M1.length]?=some (A0j.cells 110 a[i].row):=by simp
  have hY:(M1++[A0j.cells 110 a[i].row,A0j.cells 110 b[i].row])[M1.length+1]?=some (A0j.cells 110 b[i].row):=by simp[Z1h]
  have e:Grow M (M1++[A0j.cells 110 a[i].row,A0j.cells 110 b[i].row]):=hg.trans (A0c.app none _ _);have hs:=D3s gl a[i] b[i] (M1++[A0j.cells 110 a[i].row,A0j.cells 110 b[i].row]) (ha _ (Z0y hi));simp only[A1w.row]at hX hY e hs;simp -dsimp -implicitDefEqProofs[t0,t1,t2,j,f,g,hi,h,k,hq,A1w.row,A0k,A0l,A0d,A0b hX,A0b hY];refine A0g func177 hs ?_;cases c:B2y a[i] b[i]with
  |false=>rw[c,Z0L]at h3;simp -dsimp -implicitDefEqProofs[h3,e]
  |true=>rw[c,Z0J]at h3;simp -dsimp -implicitDefEqProofs[t0,t1,t2,j,f,g,w1];exact⟨⟨e,i+1,by clear w1;omega,rfl,h3⟩,by clear w1;omega⟩
 .have h:¬(i:Int)<b.length:=by omega
  rw[Z0x (by omega)]at h2;have hr:(a.zip b).all (λx=>B2y x.1 x.2)=true:=by rw[h2];rfl
  simp -dsimp -implicitDefEqProofs[t0,t1,t2,j,f,g,h,hr,hg]
end
@[simp] def D7E{k}{rows}{o}:A0D prog 110 [(0,I k),(1,.list 2 rows o)]=some (.agg [I k,.list 2 rows o,S ⟨#[]⟩,I 0,I 0]):=by
 simp[A0D,A1k,A1E,A0d,AV.cells,AV.storable]
section
variable (gl:Nat->AV)
def D1X(F:IdD->Option A0a)(s:List A1P)(l:List A0Q)(L:List (IdD×A0a))(hF:A1C L=F)(a b c:Nat)(x:A0a)(M:Mem)(hP:B2Q l L a b c M)(hl:l.length<=1000)(ba:∀s∈l,s.good)(hs:s.length<=1000)(ht:∀m∈s,m.to.length<=40)(aq:∀j,j<l.length->B0C l j)
 (hx:x.good)(bc:x.words.length<=300):
 A0e (WC gl) 125 [B1j l a b c,.agg x.row,.list 5 (A3C s) .no] M (λv M'=>v=.tuple [.list 1 (A1c (A7o F l s x).1) .no,B (A7o F l s x).2]/\M'=M):=by
 refine A0e.dataX ?_
 obtain⟨xs,ad⟩:∃xs,xs=A0H x.words:=⟨_,rfl⟩
 have bi:xs.length<=300:=by rw[ad];simpa[A0H]using bc
 have a7:∀t∈xs,t.size<=maxLen:=by rw[ad];intro t h;obtain⟨w,hw,rfl⟩:=Z0H.1 h;exact(((A0a.good_iff _).1 hx).2.2.2.2.2.2.1 w hw).1
 rw[x.row_eq]
 refine A0m (hQ [32,54,64,68,73]) func125 ?_
 simp -dsimp -implicitDefEqProofs
 refine D3e (.exit 0) (λT M1=>T 2=.list 5 (A3C s) .no/\T 3=.cptr [.list 5 (A2h l) .no,.mapr a,.mapr b,.mapr c]/\T 4=.cptr [I x.id.act,I x.id.item,I x.id.n,I x.kind,S x.label,.list 4 (A0i x.head) .no,.list 4 (A0i x.words) .no,.list 8 (A0u x.kids) .no]/\Grow M M1/\Arr 9 1 A6I M.length M1 (T 8) xs) ?_ ?_
 .refine A0F (hQ [32,54,64,68,73]) x.words.length 24 (λT M1=>∃i:Nat,i<=x.words.length/\T 2=.list 5 (A3C s) .no/\T 3=.cptr [.list 5 (A2h l) .no,.mapr a,.mapr b,.mapr c]/\T 4=.cptr [I x.id.act,I x.id.item,I x.id.n,I x.kind,S x.label,.list 4 (A0i x.head) .no,.list 4 (A0i x.words) .no,.list 8 (A0u x.kids) .no]/\T 22=.list 4 (A0i x.words) .no/\T 23=I x.words.length/\T 24=I i/\Grow M M1/\Arr 9 1 A6I M.length M1 (T 8) (A0H (x.words.take i))) ?_ ?_
  .refine⟨0,by omega,by simp,by simp,by simp,by simp,by simp,by simp,Grow.refl _,?_⟩;simpa[A0H]using Arr.nil
  rintro T M1 ⟨i,i1,t2,t3,t4,a9,ae,aa,hg,hv⟩;generalize av:T 8=ov at*;by_cases hi:i<x.words.length
  ·(have a0:(i:Int)<x.words.length:=by omega);have w1:=A2s (i:=i) (by omega)
   obtain⟨M2,al⟩:∃M2,M2=M1++[A0j.cells 152 [S x.words[i].text,I x.words[i].act,I x.words[i].item,I x.words[i].at_]]:=⟨_,rfl⟩;(have ah:Grow M1 M2:=by rw[al];exact A0c.app none _ _);(have be:M2[M1.length]?=some (A0j.cells 152 [S x.words[i].text,I x.words[i].act,I x.words[i].item,I x.words[i].at_]):=by rw[al];simp);(have ai:A0H (x.words.take (i+1))=A0H (x.words.take i)++[x.words[i].text]:=by rw[A0H,A0H,Z1H,Z0k hi,Z0S];rfl);have af:=hv.keep ah;simp -dsimp -implicitDefEqProofs[t2,t3,t4,a9,ae,aa,hi,a0,A0M.row,A0k,A0l,A0d];rw[<-al];simp -dsimp -implicitDefEqProofs[t2,t3,t4,a9,ae,aa,av,A0b be,A0q,A1f];refine A4C (C:=WC gl) (enc:=A6I) (e:=9) (sz:=1) (news:=[x.words[i].text]) A8j B0S B8l (λ_=>rfl) af.own (by simp[A0A]) (by simp[A0H];omega) rfl ?_;intro v' M3 q1 q2 q3 _;simp -dsimp -implicitDefEqProofs[t2,t3,t4,a9,ae,aa,w1];refine⟨⟨i+1,by clear w1;omega,rfl,af.grow (hg.trans ah) q2,?_⟩,by clear w1;omega⟩;rw[ai];exact⟨q1,af.later (hg.trans ah).1 q3⟩
  ·(have a0:¬(i:Int)<x.words.length:=by omega);rw[Z0j (by omega),<-ad]at hv
   simp -dsimp -implicitDefEqProofs[t2,t3,t4,a9,ae,aa,a0,av,hg];exact hv
 rintro T M1 ⟨t2,t3,t4,hg,hv⟩
 refine⟨M.length,T.put (some 8) (.list 1 (A1c xs) .no),B1Y (C1u T) (Still.rows (λ_=>rfl) (λ_ _ _=>trivial) hv.own hv.lat .nil),?_⟩
 have a6:=B6j hg
 generalize A5p M1 M.length=M2 at*
 clear hv hg M1
 obtain⟨cs,am⟩:∃cs,cs=A3c xs 0:=⟨_,rfl⟩
 have bq:cs.length<=xs.length:=by rw[am];exact A9G xs _ _
 have ar:=λM=>A0e.still (enc:=A1w.row) (sz:=5) (λ_=>rfl) C3Q (C6M gl xs .no (by omega) a7 M)
 rw[<-am]at ar
 simp -dsimp -implicitDefEqProofs[Env.put_some,t2,t3,t4]
 refine A0g func98 (ar M2) ?_
 obtain⟨nm,ab⟩:∃nm:Nat->List (List A0G),nm=λn:Nat=>A2K F l s x.id n:=⟨_,rfl⟩
 have a1:∀i,(nm i).length<=40:=λi=>by rw[ab];exact B1O ht
 have bf:∀i,∀p∈nm i,C7S p:=λi p hp=>by rw[ab]at hp;exact C0f hl ba p hp
 simp -dsimp -implicitDefEqProofs[Env.put_some,t2,t3,t4]
 refine D3e (.exit 2) (λT M1=>T 8=.list 1 (A1c xs) .no/\Tri M M1 (T 11) (T 12) (T 13) (A8n cs nm cs.length) (A7d cs nm cs.length) (B0P nm cs.length)) ?_ ?_
 .refine A0F (hQ [32,54,64,68,73]) cs.length 37 (λT M1=>∃i:Nat,i<=cs.length/\T 2=.list 5 (A3C s) .no/\T 3=.cptr [.list 5 (A2h l) .no,.mapr a,.mapr b,.mapr c]/\T 4=.cptr [I x.id.act,I x.id.item,I x.id.n,I x.kind,S x.label,.list 4 (A0i x.head) .no,.list 4 (A0i x.words) .no,.list 8 (A0u x.kids) .no]/\T 8=.list 1 (A1c xs) .no/\T 35=.list 5 (A5b cs) .no/\T 36=I cs.length/\T 37=I i/\Tri M M1 (T 11) (T 12) (T 13) (A8n cs nm i) (A7d cs nm i) (B0P nm i)) ?_ ?_
  .refine⟨0,by omega,?_⟩;simp -dsimp -implicitDefEqProofs[Env.put_some,t2,t3,t4,A5b];exact⟨a6,.nil,.nil,.nil,.nil,.nil,.nil⟩
  clear t2 t3 t4 a6;rintro T M1 ⟨i,i1,t2,t3,t4,t8,d,g,t37,h3⟩;generalize r:T 11=b9 at*;generalize o:T 12=bd at*;generalize u:T 13=b0 at*;by_cases hi:i<cs.length;case neg=>
   (have a0:¬(i:Int)<cs.length:=by omega);obtain rfl:i=cs.length:=by omega
   simp -dsimp -implicitDefEqProofs[t2,t3,t4,t8,d,g,t37,a0,r,o,u];exact h3
  have a0:(i:Int)<cs.length:=by omega
  have w1:=A2s (i:=i) (by omega);obtain⟨M3,ac⟩:∃M3,M3=M1++[A0j.cells 110 cs[i].row]:=⟨_,rfl⟩;have b7:Grow M1 M3:=by rw[ac];exact A0c.app none _ _
  have a2:M3[M1.length]?=some (A0j.cells 110 cs[i].row):=by rw[ac];simp
  replace h3:=h3.keep b7;have ag:=C7d gl F s l L hF a b c x.id (i:Int) M3 (hP.keep h3.grow) hl hs (λm hm=>by have:=ht m hm;omega) aq;have o1:=C1U cs nm i hi;have o2:=B7J cs nm i hi;have o3:=C0C nm i;have b1:=B1c cs nm a1 i;have b2:=B5B cs nm a1 i;have b3:=C4o nm a1 i;have aw:A2K F l s x.id i=nm i:=by rw[ab]
  rw[aw]at ag;have ax:=a1 i;obtain⟨q,hq⟩:∃q,q=M1.length:=⟨_,rfl⟩;simp only[A1w.row]at a2 ac;simp only[IdD.row]at ag;rw[<-hq]at a2;simp -dsimp -implicitDefEqProofs[t2,t3,t4,t8,d,g,t37,hi,a0,A1w.row,A0k,A0l,A0d];rw[<-ac,<-hq];refine A0g func176 ag ?_;simp -dsimp -implicitDefEqProofs[-B3J];rw[B3J];obtain⟨D,hD⟩:∃D,D=nm i:=⟨_,rfl⟩;rw[<-hD]at o1 o2 o3 ax;rw[<-hD];obtain⟨B,hB⟩:∃B,B=if D=[]then A7d cs nm i++[cs[i]]else A7d cs nm i:=⟨_,rfl⟩;have bl:B.length<=i*(40+1)+1:=by
   rw[hB];split
   .simp;omega
   .omega
  refine C2e (λT M4=>T 2=.list 5 (A3C s) .no/\T 3=.cptr [.list 5 (A2h l) .no,.mapr a,.mapr b,.mapr c]/\T 4=.cptr [I x.id.act,I x.id.item,I x.id.n,I x.kind,S x.label,.list 4 (A0i x.head) .no,.list 4 (A0i x.words) .no,.list 8 (A0u x.kids) .no]/\T 8=.list 1 (A1c xs) .no/\T 15=.ptr q 0/\T 16=.list 1 (A6T D) .no/\T 35=.list 5 (A5b cs) .no/\T 36=I cs.length/\T 37=I i/\M4[q]?=some (A0j.cells 110 [I cs[i].k,A8K cs[i].path,S cs[i].to,I cs[i].frm,I cs[i].at_])/\Tri M M4 (T 11) (T 12) (T 13) (A8n cs nm i) B (B0P nm i)) ?_ ?_
  .by_cases hn:D=[]
   ·(have aj:((D.length:Nat):Int)=0:=by rw[hn];rfl);rw[Z0d hn]at hB
    simp -dsimp -implicitDefEqProofs[t2,t3,t4,t8,d,g,t37,r,o,u,hn,aj,A0b a2,A0q,A1f];refine A4C (C:=WC gl) (enc:=A1w.row) (e:=110) (sz:=5) (news:=[cs[i]]) C2c C9z C2L (λ_=>rfl) h3.h2.own (by simp[A0A,A1w.row]) (by simp;omega) rfl ?_;intro v' M4 q1 q2 q3 _;simp -dsimp -implicitDefEqProofs[t2,t3,t4,t8,d,g,t37,r,o,u];refine⟨by rw[hn],h3.h2.cells q2 a2,?_⟩;rw[hB];exact h3.push2 q1 q2 q3
   .have aj:¬((D.length:Nat):Int)=0:=λe=>hn (Z0s (by omega));have bg:¬D.length=0:=λe=>hn (Z0s e);rw[Z0e hn]at hB;rw[hB];simp -dsimp -implicitDefEqProofs[t2,t3,t4,t8,d,g,t37,r,o,u,hn,aj,bg];exact⟨a2,h3⟩
  have au:=t37;clear t2 t3 t4 t8 d g t37 r o u h3 a2;rintro T M4 ⟨t2,t3,t4,t8,z,ap,d,g,t37,ay,h4⟩;simp -dsimp -implicitDefEqProofs[t2,t3,t4,t8,z,ap,d,g,t37];refine A7V (hQ [32,54,64,68,73]) (λT M5=>∃j:Nat,j<=D.length/\T 2=.list 5 (A3C s) .no/\T 3=.cptr [.list 5 (A2h l) .no,.mapr a,.mapr b,.mapr c]/\T 4=.cptr [I x.id.act,I x.id.item,I x.id.n,I x.kind,S x.label,.list 4 (A0i x.head) .no,.list 4 (A0i x.words) .no,.list 8 (A0u x.kids) .no]/\T 8=.list 1 (A1c xs) .no/\T 15=.ptr q 0/\T 35=.list 5 (A5b cs) .no/\T 36=I cs.length/\T 37=I i/\T 55=.list 1 (A6T D) .no/\T 56=I D.length/\T 57=I j/\
   M5[q]?=some (A0j.cells 110 [I cs[i].k,A8K cs[i].path,S cs[i].to,I cs[i].frm,I cs[i].at_])/\Tri M M5 (T 11) (T 12) (T 13) (A8n cs nm i++(D.take j).map λ_=>cs[i]) (B++(D.take j).map λp=>⟨0,p,⟨#[]⟩,0,0⟩) (B0P nm i++D.take j))
   (λT M1=>match T 57 with|.val (.int _ j)=>D.length-j.toNat|_=>0) (by kernel_rfl) ?_ ?_
  .refine⟨0,by omega,by simp[t2],by simp[t3],by simp[t4],by simp[t8],by simp[z],by simp[d],by simp[g],by simp[t37],by simp,by simp,by simp,ay,?_⟩;simpa using h4
  clear t2 t3 t4 t8 z ap d g t37 ay h4;rintro T M5 ⟨j,j1,t2,t3,t4,t8,z,d,g,t37,a8,a5,a4,an,h5⟩;generalize r:T 11=b9 at*;generalize o:T 12=bd at*;generalize u:T 13=b0 at*;by_cases hj:j<D.length;case neg=>
   (have ak:¬(j:Int)<D.length:=by omega);rw[Z0j (by omega)]at h5
   rw[<-o1,<-o3]at h5;have b6:B++D.map (λp=>(⟨0,p,⟨#[]⟩,0,0⟩:A1w))=A7d cs nm (i+1):=by
    rw[o2,hB];by_cases hn:D=[]
    .rw[Z0d hn,Z0d hn,hn];simp
    .rw[Z0e hn,Z0e hn]
   rw[b6]at h5;simp -dsimp -implicitDefEqProofs[t2,t3,t4,t8,z,d,g,t37,a8,a5,a4,ak,w1,r,o,u,au];exact⟨⟨i+1,by clear w1;omega,rfl,h5⟩,by clear w1;omega⟩
  have ak:(j:Int)<D.length:=by omega
  have w2:=A2s (i:=j) (by omega);simp -dsimp -implicitDefEqProofs[t2,t3,t4,t8,z,d,g,t37,a8,a5,a4,hj,ak,r,o,u,A0b an,A0q,A1f];refine A4C (C:=WC gl) (enc:=A1w.row) (e:=110) (sz:=5) (news:=[cs[i]]) C2c C9z C2L (λ_=>rfl) h5.h1.own (by simp[A0A,A1w.row]) (by simp;omega) rfl ?_;intro bk M6 q1 q2 q3 _;have b8:=h5.h1.cells q2 an;replace h5:=h5.push1 q1 q2 q3;simp -dsimp -implicitDefEqProofs[t2,t3,t4,t8,z,d,g,t37,a8,a5,a4,r,o,u,A0q,A1f];refine A4C (C:=WC gl) (enc:=C7X) (e:=40) (sz:=1) (news:=[D[j]]) D4n D7P D7M (λ_=>rfl) h5.h3.own (by simp[A0A,A1L,C7X]) (by simp;omega) rfl ?_;intro bp M7 q4 q5 q6 _;have b5:=h5.h3.cells q5 b8;replace h5:=h5.push3 q4 q5 q6;simp -dsimp -implicitDefEqProofs[t2,t3,t4,t8,z,d,g,t37,a8,a5,a4,r,o,u,A0q,A1f];refine A4C (C:=WC gl) (enc:=A1w.row) (e:=110) (sz:=5) (news:=[⟨0,D[j],⟨#[]⟩,0,0⟩]) C2c C9z C2L (λ_=>rfl) h5.h2.own (by simp[A0A,A1w.row,A1L]) (by simp;omega) rfl ?_;intro bj M8 q7 q8 q9 _;have bb:=h5.h2.cells q8 b5;replace h5:=h5.push2 q7 q8 q9;have ai:D.take (j+1)=D.take j++[D[j]]:=by rw[Z0D hj]
  simp -dsimp -implicitDefEqProofs[t2,t3,t4,t8,z,d,g,t37,a8,a5,a4,w2];refine⟨⟨j+1,by clear w1 w2;omega,rfl,bb,?_⟩,by clear w1 w2;omega⟩;rw[<-Z1w,<-Z1w,ai,Z0S,Z0S,<-Z0W,<-Z0W,<-Z0W];exact h5
 clear t2 t3 t4 a6
 rintro T M1 ⟨t8,h3⟩
 refine⟨M.length,((T.put (some 11) (.list 5 (A5b (A8n cs nm cs.length)) .no)).put (some 12) (.list 5 (A5b (A7d cs nm cs.length)) .no)).put (some 13) (.list 1 (A6T (B0P nm cs.length)) .no),?_,?_⟩
 .refine B1Y (B1Y (B1Y (C1u T) ?_) ?_) ?_
  .exact Still.rows (λ_=>rfl) (λ_ _ _=>trivial) h3.h1.own h3.h1.lat .nil
  .exact Still.rows (λ_=>rfl) (λ_ _ _=>trivial) h3.h2.own h3.h2.lat .nil
  .exact Still.rows (λ_=>rfl) (λ_ _ _=>trivial) h3.h3.own h3.h3.lat .nil
 have a6:=B6j h3.grow
 generalize A5p M1 M.length=M2 at*
 clear h3
 have bm:=B1c cs nm a1 cs.length
 have bn:=B5B cs nm a1 cs.length
 obtain⟨y,a3⟩:∃y,y=A6w xs (A8n cs nm cs.length) (B0P nm cs.length):=⟨_,rfl⟩
 obtain⟨s1,s2⟩:=A7Y (old:=A8n cs nm cs.length) (names:=B0P nm cs.length) (B:=maxLen) (by simp[maxLen]) a7
 rw[<-a3]at s1 s2
 have bh:y.length<=1000000000:=by have:(A8n cs nm cs.length).length*(xs.length+19)<=12000*400:=Z4j (by omega) (by omega);omega
 have ao:=λM=>A0e.still (enc:=A6I) (sz:=1) (e:=9) (λ_=>rfl) B9G ((C8N gl M xs (A8n cs nm cs.length) (B0P nm cs.length) .no .no .no (by omega) a7 (by omega) (λp hp=>by obtain⟨j,hj⟩:=D4j nm hp;exact bf j p hj)).mono λv M' h=>h.toT)
 rw[<-a3]at ao
 have az:=λM=>A0e.still (enc:=A1w.row) (sz:=5) (λ_=>rfl) C3Q (C6M gl y .no (by omega) s1 M)
 have hW:A7o F l s x=(y,B5s (A3c y 0) (A7d cs nm cs.length)):=by unfold A7o;simp only;rw[<-ad,<-am,<-ab,<-a3]
 rw[hW]
 have bo:(A3c y 0).length<=y.length:=by have:=A9G y (y.length-0) 0;simpa[A3c]using this
 have b4:∀c∈A3c y 0,c.path.length<=1000000:=λc hc=>by have h:=(B7R y _ _ c hc).1;simp only[A4g,Z0g,Z0m]at h;omega
 simp -dsimp -implicitDefEqProofs[Env.put_some,t8]
 refine A0g func18 (ao M2) ?_
 simp -dsimp -implicitDefEqProofs[Env.put_some,t8]
 refine A0g func98 (az M2) ?_
 simp -dsimp -implicitDefEqProofs[Env.put_some,t8]
 refine A0g func179 (D1u gl (A3c y 0) (A7d cs nm cs.length) .no .no M2 (by omega) b4) ?_
 simp -dsimp -implicitDefEqProofs[Env.put_some,t8]
 exact⟨a6,.tuple (.same (A7x (f:=A6I) (B9G _) y) (.same trivial .nil)) .nil⟩
end
structure Fm {α:Type} (sz:Nat) (enc:α->List AV) (n:Nat) (M:Mem) (v:AV) (l:List α):Prop where
 fam:A9C sz enc M v l
 lat:∀f,A7h v=some f->n<=f
def B0p(a b:AV):Prop:=∀f,A7h a=some f->A7h b≠some f
def B0p.symm{a b:AV}(h:B0p a b):B0p b a:=λf h1 h2=>h f h2 h1
def B0p.nil{b:AV}:B0p (.val (.slice none 0 0)) b:=λf h=>by simp at h
section
variable {α β:Type} {sz sz2 n q:Nat} {enc:α->List AV} {enc2:β->List AV} {M M':Mem} {v v' u:AV} {l l':List α} {r:List β}
def Fm.nil:Fm sz enc n M (.val (.slice none 0 0)) []:=⟨.nil,λf h=>by simp at h⟩
def Fm.full:Fm sz enc n M (.list sz (l.map enc) .full) l:=⟨.full,λf h=>by simp at h⟩
def Fm.keep(h:Fm sz enc n M v l)(hk:Grow M M'):Fm sz enc n M' v l:=⟨h.fam.keep hk (by simp),h.lat⟩
def Fm.beside(h:Fm sz2 enc2 n M u r)(ha:B0p v u)(hk:A0c (A7h v) M M'):Fm sz2 enc2 n M' u r:=⟨h.fam.keep hk (λf hf hv=>ha f hv hf),h.lat⟩
def Fm.setq(h:Fm sz enc n M v l){X:A0j}(hq:q<n):Fm sz enc n (M.set q X) v l:=⟨h.fam.keep (A0c.set _ _ _) (λf hf e=>by have:=h.lat f hf;simp at e;omega),h.lat⟩
def Fm.push(h:Fm sz enc n M v l)(hn:n<=M.length)(k1:A9C sz enc M' v' l')(k3:A7h v'=A7h v\/∀f,A7h v'=some f->M.length<=f):Fm sz enc n M' v' l':=⟨k1,λf hf=>by
 rcases k3 with e|e
 .exact h.lat f (e▸hf)
 .have:=e f hf;omega⟩
def Fm.low(h:Fm sz enc n M v l)(hn:n<=M.length)(hk:A0c (A7h v) M M'):A0W n M M':=hk.low hn h.lat
def Fm.apart(h:Fm sz2 enc2 n M u r)(ha:B0p v u)(k3:A7h v'=A7h v\/∀f,A7h v'=some f->M.length<=f):B0p v' u:=λf hf hu=>by
 rcases k3 with e|e
 .exact ha f (e▸hf) hu
 .have:=e f hf;have:=h.fam.lt hu;omega
def Fm.cells{t:Nat}{xs:List AV}(h:Fm sz enc n M v l)(hk:A0c (A7h v) M M')(hq:M[q]?=some (.cells t xs)):M'[q]?=some (.cells t xs):=hk.get hq λe=>by
 rcases h.fam with⟨rfl,_⟩|rfl|⟨f,rfl,hm⟩
 .simp at e
 .simp at e
 .simp only[C5F,Z0a]at e;subst e;rw[hm]at hq;simp at hq
def Fm.data{ok:AV->Prop}{m:Nat}{cs ds:List AV}(h:Fm sz enc n M v l)(hb:ok (.list sz (l.map enc) .no))(hr:Still M' m ok cs ds):Still M' m ok (v::cs) (.list sz (l.map enc) .no::ds):=by
 rcases h.fam with⟨rfl,rfl⟩|rfl|⟨f',rfl,hm⟩
 .exact .nilS hr
 .exact .dis hb hr
 .exact .dis hb hr
end
def A0W.le{n m:Nat}{A B:Mem}(h:A0W n A B)(hm:m<=n):A0W m A B:=⟨h.1,λi hi=>h.2 i (by omega)⟩
def A0W.setq{n q:Nat}{A B:Mem}(h:A0W n A B){X:A0j}(hq:n<=q):A0W n A (B.set q X):=⟨by simpa using h.1,λi hi=>by rw[Z0f (by omega)];exact h.2 i hi⟩
def A0W.grow{n:Nat}{M A B:Mem}(h:A0W n A B)(hg:Grow M A)(hn:M.length<=n):Grow M B:=⟨Z0Q hg.1 h.1,λi hi _=>by rw[h.2 i (by omega)];exact hg.2 i hi (by simp)⟩
def C9A(t:A0a×List IdD×Int):AV:=.tuple [.agg t.1.row,.list 3 (A4m t.2.1) .no,I t.2.2]
abbrev ouC(k:Int)(lab:ByteArray)(hv wv kv:AV):A0j:=.cells 27 [I 0,I 0,I 0,I k,S lab,hv,wv,kv]
abbrev z8:A0j:=ouC 0 ⟨#[]⟩ A0E A0E A0E
@[simp] def D9O{k}{t}:A0D prog 27 [(1,I k),(2,S t)]=some (.agg [I 0,I 0,I 0,I k,S t,A0E,A0E,A0E]):=by
 simp[A0D,A1k,A1E,A0d,AV.cells,AV.storable]
@[simp] def D9e{t}:A0D prog 152 [(0,S t)]=some (.agg [S t,I 0,I 0,I 0]):=by
 simp[A0D,A1k,A1E,A0d,AV.cells,AV.storable]
def B5j{F:IdD->Option A0a}{l}{s}(a:∀j,j<l.length->B0C l j)(f n:Nat)(hn:n<l.length)(hf:l.length<=f+n):(A2l F l s f n).2.1.length<=l.length:=by rw[A9J,Z0R];obtain⟨h1,h2⟩:=B3v (par:=λk=>A2w l k) (N:=l.length) (λj hj=>by have:=(a j hj j hj (Z0n _)).2;simpa[A2w,hj]using this) f n hn hf;have:=C2P (l:=A4s (λk=>A2w l ↑k) l.length f n) (m:=List.range l.length) h1 (λx hx=>by have:=((h2 x).1 hx).1;simpa using this);simpa using this
def C8J{F:IdD->Option A0a}{s}{l}{x}(hl:l.length<=1000)(f:∀s∈l,s.good)(ht:∀m∈s,m.to.length<=40)(hx:x.good)(b:x.words.length<=300):(A7o F l s x).1.length<=1000000000:=by
 have c:(A0H x.words).length<=300:=by simpa[A0H]using b
 have a:∀t∈A0H x.words,t.size<=maxLen:=by intro t h;obtain⟨w,hw,rfl⟩:=Z0H.1 h;exact(((A0a.good_iff _).1 hx).2.2.2.2.2.2.1 w hw).1
 unfold A7o;simp only;generalize A0H x.words=xs at*;have e:(A3c xs 0).length<=xs.length:=A9G xs _ _;have d:=B1c (A3c xs 0) (λn:Nat=>A2K F l s x.id n) (λi=>B1O ht) (A3c xs 0).length;obtain⟨s1,s2⟩:=A7Y (old:=A8n (A3c xs 0) (λn:Nat=>A2K F l s x.id n) (A3c xs 0).length) (names:=B0P (λn:Nat=>A2K F l s x.id n) (A3c xs 0).length) (B:=maxLen) (by simp[maxLen]) a;have:(A8n (A3c xs 0) (λn:Nat=>A2K F l s x.id n) (A3c xs 0).length).length*(xs.length+19)<=12000*400:=Z4j (by omega) (by omega);omega
section
variable (gl:Nat->AV)
set_option maxHeartbeats 1000000 in
def D7m(F:IdD->Option A0a)(s:List A1P)(l:List A0Q)(L:List (IdD×A0a))(hF:A1C L=F)(a b c:Nat)(hl:l.length<=1000)(c4:∀s∈l,s.good)(hs:s.length<=1000)(ht:∀m∈s,m.to.length<=40)(aj:∀j,j<l.length->B0C l j)
 (cd:∀n (h:n<l.length),∃u,F l[n].id=some u/\u.good/\u.words.length<=300/\u.head.length<=300):∀(f n:Nat) (M:Mem),n<l.length->l.length<=f+n->B2Q l L a b c M->
 A0e (WC gl) 71 [B1j l a b c,.list 5 (A3C s) .no,I n] M (λv M'=>v=C9A (A2l F l s f n)/\M'=M):=by
 intro f
 induction f with
 |zero=>intro n M h1 h2 _;omega
 |succ f ih=>
 intro n M h1 h2 hP
 refine A0e.dataX ?_
 obtain⟨x,hx,bj,c5,d5⟩:=cd n h1
 have cf:A3J F l n=x:=by simp[A3J,h1,hx]
 have c2:A9I l n=l[n].label:=by simp[A9I,h1]
 obtain⟨K,hK⟩:∃K,K=A3T l n l.length:=⟨_,rfl⟩
 obtain⟨W,hW⟩:∃W,W=A7o F l s x:=⟨_,rfl⟩
 have hT:A2l F l s (f+1) n=(.mk idZ x.kind l[n].label (x.head.map λh=>A7L h.text) (W.1.map A7L) ((K.map (A2l F l s f)).map (·.1)),x.id::(K.map (A2l F l s f)).flatMap (·.2.1),(K.map (A2l F l s f)).foldl (λe k=>A9f e k.2.2) (C0a W)):=by rw[A2l,cf,c2,<-hK,<-hW]
 rw[hT]
 clear hT
 have b8:W.1.length<=1000000000:=by rw[hW];exact C8J hl c4 ht bj c5
 have n0:(0:Int)<=n:=by omega
 have n1:(n:Int)<l.length:=by omega
 refine A0m hB func71 ?_
 simp -dsimp -implicitDefEqProofs[A0k]
 obtain⟨Ma,ab⟩:∃Ma,Ma=M++[z8]:=⟨_,rfl⟩
 have bd:Grow M Ma:=by rw[ab];exact A0c.app none _ _
 have bi:Ma[M.length]?=some z8:=by rw[ab];simp
 have cn:Ma.length=M.length+1:=by rw[ab];simp
 rw[<-ab]
 have aq:=hP.keep bd
 have b1:A1z prog 92 Ma (.mapr a) (.agg [I l[n].id.act,I l[n].id.item,I l[n].id.n]) false=some (.agg x.row):=by
  rw[show AV.agg [I l[n].id.act,I l[n].id.item,I l[n].id.n]=A2C l[n].id from rfl,aq.units.get (A8D 92 27 (by kernel_rfl)) l[n].id C2G false];have:A1C L l[n].id=some x:=by rw[hF];exact hx
  rw[this];rfl
 have ci:a<Ma.length:=aq.units.lt
 obtain⟨Mb,af⟩:∃Mb,Mb=Ma++[A0j.cells 27 x.row]:=⟨_,rfl⟩
 have ax:Grow Ma Mb:=by rw[af];exact A0c.app none _ _
 have b0:∀X,(Ma++[X])[a]?=Ma[a]?:=λX=>Z0h ci
 refine A6r hB (A0I gl) (λk=>if k=8 then 1 else if k=9\/k=10 then 2 else 0) (λ_=>a) (λ_=>false) [a] (by intros;simp) (by rfl) (by kernel_rfl) ?_
 simp -dsimp -implicitDefEqProofs[n0,n1,h1,A0Q.row,IdD.row,A0R,b1,A0k,A0l,A0d,AV.storable,AV.cells,b0]
 obtain⟨xa,bt⟩:∃xa,xa=Ma.length:=⟨_,rfl⟩
 have hX:Mb[xa]?=some (A0j.cells 27 x.row):=by rw[af,bt];simp
 have c1:=aq.keep ax
 have c7:=ax.get bi (by simp)
 have ay:=bd.trans ax
 have d6:Mb.length=M.length+2:=by rw[af];simp[cn]
 rw[<-af,<-bt]
 clear af ab b1 b0
 simp -dsimp -implicitDefEqProofs[A0b hX]
 refine A0g func125 (D1X gl F s l L hF a b c x Mb c1 hl c4 hs ht aj bj c5) ?_
 rw[<-hW]
 simp -dsimp -implicitDefEqProofs[-B3J]
 rw[B3J]
 simp -dsimp -implicitDefEqProofs[-B3J]
 rw[B3J]
 refine C2e (λT M1=>M1=Mb/\T 1=.list 5 (A3C s) .no/\T 2=I n/\T 3=.cptr [.list 5 (A2h l) .no,.mapr a,.mapr b,.mapr c]/\T 6=.ptr M.length 0/\T 9=.ptr xa 0/\T 10=.list 1 (A1c W.1) .no/\T 12=I (if W.2=true then 0 else 2)) ?_ ?_
 .cases hw2:W.2<;>simp -dsimp -implicitDefEqProofs[hw2]
 rintro T M1 ⟨rfl,t1,t2,t3,t6,t9,r,d⟩
 simp -dsimp -implicitDefEqProofs[-B3J]
 rw[B3J]
 refine C2e (λT M2=>M2=M1/\T 1=.list 5 (A3C s) .no/\T 2=I n/\T 3=.cptr [.list 5 (A2h l) .no,.mapr a,.mapr b,.mapr c]/\T 6=.ptr M.length 0/\T 9=.ptr xa 0/\T 10=.list 1 (A1c W.1) .no/\T 12=I (C0a W)) ?_ ?_
 .by_cases hw:256<W.1.length
  ·(have ba:(256:Int)<W.1.length:=by omega);simp -dsimp -implicitDefEqProofs[t1,t2,t3,t6,t9,r,d,ba,C0a,hw]
  ·(have ba:¬(256:Int)<W.1.length:=by omega);simp -dsimp -implicitDefEqProofs[t1,t2,t3,t6,t9,r,d,ba,C0a,hw]
 clear t1 t2 t3 t6 t9 r d
 rintro T Mb ⟨rfl,t1,t2,t3,t6,t9,r,d⟩
 obtain⟨q,hq⟩:∃q,q=Mb.length:=⟨_,rfl⟩
 obtain⟨Mc,ad⟩:∃Mc,Mc=Mb++[ouC x.kind l[n].label A0E A0E A0E]:=⟨_,rfl⟩
 have am:Grow Mb Mc:=by rw[ad];exact A0c.app none _ _
 have cp:Mc[q]?=some (ouC x.kind l[n].label A0E A0E A0E):=by rw[ad,hq];simp
 have ar:=hX
 rw[x.row_eq]at ar
 have ca:xa<Mb.length:=(Z0b.1 hX).1
 have b3:∀X,(Mb++[X])[xa]?=Mb[xa]?:=λX=>Z0h ca
 simp -dsimp -implicitDefEqProofs
 refine A6r hB (A0I gl) (λk=>if k=1 then 1 else if k=9\/k=10 then 2 else 0) (λ_=>xa) (λ_=>false) [xa] (by intros;simp) (by rfl) (by kernel_rfl) ?_
 simp -dsimp -implicitDefEqProofs[t1,t2,t3,t6,t9,r,d,n0,n1,h1,A0Q.row,A0R,A7f,A0b ar,A0k,A0l,A0d,b3]
 rw[<-ad,<-hq]
 have c9:=am.get ar (by simp)
 have cj:=am.get c7 (by simp)
 have bn:=ay.trans am
 have d1:Mc.length=q+1:=by rw[ad,hq];simp
 have cz:M.length+2=q:=by omega
 have bv:xa<q:=by omega
 clear ad am b3 hX ar c7 ay c1 aq bd ax bi
 simp -dsimp -implicitDefEqProofs[t1,t2,t3,t6,t9,r,d,A0b c9]
 refine A6F (.exit 0) (λT M1=>T 1=.list 5 (A3C s) .no/\T 2=I n/\T 3=.cptr [.list 5 (A2h l) .no,.mapr a,.mapr b,.mapr c]/\T 6=.ptr M.length 0/\T 9=.ptr xa 0/\T 10=.list 1 (A1c W.1) .no/\T 12=I (C0a W)/\T 13=.ptr q 0/\A0W q Mc M1/\∃hv,M1[q]?=some (ouC x.kind l[n].label hv A0E A0E)/\Fm 4 A0M.row (q+1) M1 hv (x.head.map λh=>A7L h.text)) ?_ ?_
 .refine A0F hB x.head.length 57 (λT M1=>∃i:Nat,i<=x.head.length/\T 1=.list 5 (A3C s) .no/\T 2=I n/\T 3=.cptr [.list 5 (A2h l) .no,.mapr a,.mapr b,.mapr c]/\T 6=.ptr M.length 0/\T 9=.ptr xa 0/\T 10=.list 1 (A1c W.1) .no/\T 12=I (C0a W)/\T 13=.ptr q 0/\T 55=.list 4 (A0i x.head) .no/\T 56=I x.head.length/\T 57=I i/\A0W q Mc M1/\∃hv,M1[q]?=some (ouC x.kind l[n].label hv A0E A0E)/\Fm 4 A0M.row (q+1) M1 hv ((x.head.take i).map λh=>A7L h.text)) ?_ ?_
  .exact⟨0,by omega,by simp[t1],by simp[t2],by simp[t3],by simp[t6],by simp[t9],by simp[r],by simp[d],by simp,by simp,by simp,by simp,A0W.refl _ _,A0E,cp,.nil⟩
  clear t1 t2 t3 t6 t9 r d;rintro T M1 ⟨i,i1,t1,t2,t3,t6,t9,r,d,g,ao,au,an,hk,hv,ho,hf⟩;by_cases hi:i<x.head.length;case neg=>
   (have a4:¬(i:Int)<x.head.length:=by omega);rw[Z0j (by omega)]at hf
   simp -dsimp -implicitDefEqProofs[t1,t2,t3,t6,t9,r,d,g,ao,au,an,a4];exact⟨hk,hv,ho,hf⟩
  have a4:(i:Int)<x.head.length:=by omega
  have w1:=A2s (i:=i) (by omega);have bg:q+1<=M1.length:=by have:=hk.1;omega
  obtain⟨M2,aw⟩:∃M2,M2=M1++[A0j.cells 152 x.head[i].row]:=⟨_,rfl⟩;have z:Grow M1 M2:=by rw[aw];exact A0c.app none _ _
  have bq:M2[M1.length]?=some (A0j.cells 152 x.head[i].row):=by rw[aw];simp
  have bu:=z.get ho (by simp);have ap:=hf.keep z;have a8:=hk.trans (z.low (n:=q) (by omega) (by simp));have az:q+1<=M2.length:=by have:=z.1;omega
  simp only[A0M.row]at aw bq;simp -dsimp -implicitDefEqProofs[t1,t2,t3,t6,t9,r,d,g,ao,au,an,hi,a4,A0M.row,A0k,A0l,A0d];rw[<-aw];simp -dsimp -implicitDefEqProofs[t1,t2,t3,t6,t9,r,d,g,ao,au,an,A0b bu,A0b bq,A0q,A1f];refine B8r (C:=WC gl) (enc:=A0M.row) (e:=152) (sz:=4) (news:=[A7L x.head[i].text]) (o:=.full) C1Z C9U C3G ap.fam (by simp;omega) rfl rfl ?_;intro v' M3 k1 k2 k3;have a3:=ap.cells k2 bu;have bb:=ap.push az k1 k3;have a2:=a8.trans ((ap.low az k2).le (by omega));have ag:A0l (some 1) M3 (.ptr q 5) v'=some (M3.set q (ouC x.kind l[n].label v' A0E A0E)):=by rw[A0f a3,k1.cells,Z0d ⟨k1.store,by simp,rfl⟩];rfl
  have b9:q<M3.length:=(Z0b.1 a3).1;simp -dsimp -implicitDefEqProofs[t1,t2,t3,t6,t9,r,d,g,ao,au,an,ag,w1];refine⟨⟨i+1,by clear w1;omega,rfl,a2.setq (Z0n _),v',by simp[b9],?_⟩,by clear w1;omega⟩;rw[<-Z1w,Z0D hi,Z0S];exact bb.setq (by omega)
 clear t1 t2 t3 t6 t9 r d
 rintro T M1 ⟨t1,t2,t3,t6,t9,r,d,g,hk,hv,ho,ce⟩
 simp -dsimp -implicitDefEqProofs[t1,t2,t3,t6,t9,r,d,g]
 refine A6F (.exit 2) (λT M1=>T 1=.list 5 (A3C s) .no/\T 2=I n/\T 3=.cptr [.list 5 (A2h l) .no,.mapr a,.mapr b,.mapr c]/\T 6=.ptr M.length 0/\T 9=.ptr xa 0/\T 12=I (C0a W)/\T 13=.ptr q 0/\A0W q Mc M1/\∃wv,M1[q]?=some (ouC x.kind l[n].label hv wv A0E)/\Fm 4 A0M.row (q+1) M1 wv (W.1.map A7L)) ?_ ?_
 .refine A0F hB W.1.length 72 (λT M1=>∃i:Nat,i<=W.1.length/\T 1=.list 5 (A3C s) .no/\T 2=I n/\T 3=.cptr [.list 5 (A2h l) .no,.mapr a,.mapr b,.mapr c]/\T 6=.ptr M.length 0/\T 9=.ptr xa 0/\T 12=I (C0a W)/\T 13=.ptr q 0/\T 70=.list 1 (A1c W.1) .no/\T 71=I W.1.length/\T 72=I i/\A0W q Mc M1/\∃wv,M1[q]?=some (ouC x.kind l[n].label hv wv A0E)/\Fm 4 A0M.row (q+1) M1 wv ((W.1.take i).map A7L)) ?_ ?_
  .exact⟨0,by omega,by simp[t1],by simp[t2],by simp[t3],by simp[t6],by simp[t9],by simp[d],by simp[g],by simp,by simp,by simp,hk,A0E,ho,.nil⟩
  clear t1 t2 t3 t6 t9 r d g hk ho;rintro T M1 ⟨i,i1,t1,t2,t3,t6,t9,d,g,t70,bf,t72,hk,wv,ho,hf⟩;by_cases hi:i<W.1.length;case neg=>
   (have a4:¬(i:Int)<W.1.length:=by omega);rw[Z0j (by omega)]at hf
   simp -dsimp -implicitDefEqProofs[t1,t2,t3,t6,t9,d,g,t70,bf,t72,a4];exact⟨hk,wv,ho,hf⟩
  have a4:(i:Int)<W.1.length:=by omega
  have d4:=b8;have w1:IntKind.i64.wrap ((i:Int)+1)=(i+1:Nat):=by rw[A0Z (by omega) (by omega)];omega
  have bg:q+1<=M1.length:=by have:=hk.1;omega
  simp -dsimp -implicitDefEqProofs[t1,t2,t3,t6,t9,d,g,t70,bf,t72,hi,a4,A0b ho,A0q,A1f];refine B8r (C:=WC gl) (enc:=A0M.row) (e:=152) (sz:=4) (news:=[A7L W.1[i]]) (o:=.full) C1Z C9U C3G hf.fam (by simp;omega) rfl rfl ?_;intro v' M3 k1 k2 k3;have a3:=hf.cells k2 ho;have bb:=hf.push bg k1 k3;have a2:=hk.trans ((hf.low bg k2).le (by omega));have ag:A0l (some 1) M3 (.ptr q 6) v'=some (M3.set q (ouC x.kind l[n].label hv v' A0E)):=by rw[A0f a3,k1.cells,Z0d ⟨k1.store,by simp,rfl⟩];rfl
  have b9:q<M3.length:=(Z0b.1 a3).1;simp -dsimp -implicitDefEqProofs[t1,t2,t3,t6,t9,d,g,t70,bf,t72,ag,w1];refine⟨⟨i+1,by clear w1;omega,rfl,a2.setq (Z0n _),v',by simp[b9],?_⟩,by clear w1;omega⟩;rw[<-Z1w,Z0D hi,Z0S];exact bb.setq (by omega)
 clear t1 t2 t3 t6 t9 r d g hk ho
 rintro T M1 ⟨t1,t2,t3,t6,t9,d,g,hk,wv,ho,co⟩
 have ac:∀M1,A0W q Mc M1->Grow M M1:=λM1 h=>h.grow bn (by omega)
 have cc:M1[xa]?=_:=(hk.2 xa bv).trans c9
 obtain⟨KL,bo,bp⟩:=hP.kd
 have ck:=bo.keep (ac M1 hk) (by simp)
 have ai:=bp (n:Int)
 rw[<-hK]at ai
 have cg:A1z prog 94 M1 (.mapr c) (I n) false=some (A8l KL n):=by rw[ck.get (B9v 94 130 (by kernel_rfl)) (n:Int) B4L false];unfold A8l;cases A1C KL (n:Int)<;>rfl
 have cw:=ai.keep (ac M1 hk) (by simp)
 generalize cx:A8l KL (n:Int)=bw at*
 have d3:K.length<=l.length:=by rw[hK];exact B0Q l n l.length
 have bm:A1V prog 130 bw=some K.length:=cw.len (e':=3) (by simp)
 simp -dsimp -implicitDefEqProofs[t1,t2,t3,t6,t9,d,g,A0b cc,A0q,A1f,cg,bm]
 refine A0F hB K.length 92 (λT M2=>∃j:Nat,j<=K.length/\T 1=.list 5 (A3C s) .no/\T 3=.cptr [.list 5 (A2h l) .no,.mapr a,.mapr b,.mapr c]/\T 6=.ptr M.length 0/\T 13=.ptr q 0/\T 90=bw/\T 91=I K.length/\T 92=I j/\T 12=I (((K.take j).map (A2l F l s f)).foldl (λe k=>A9f e k.2.2) (C0a W))/\A0W q Mc M2/\∃kv,M2[q]?=some (ouC x.kind l[n].label hv wv kv)/\Fm 8 A0a.row (q+1) M2 kv (((K.take j).map (A2l F l s f)).map (·.1))/\Fm 3 IdD.row (q+1) M2 (T 18) (x.id::((K.take j).map (A2l F l s f)).flatMap (·.2.1))/\B0p kv (T 18)/\(((K.take j).map (A2l F l s f)).flatMap (·.2.1)).length<=j*1000) ?_ ?_
 .refine⟨0,by omega,by simp[t1],by simp[t3],by simp[t6],by simp[g],by simp,by simp,by simp,by simp[d],hk,A0E,ho,.nil,?_,.nil,by simp⟩;simp -dsimp -implicitDefEqProofs;exact Fm.full (l:=[x.id])
 clear t1 t2 t3 t6 t9 d g ho
 rintro T M2 ⟨j,j1,t1,t3,t6,g,a7,a5,a6,d,z,kv,ho,a0,aa,bx,be⟩
 generalize a1:T 18=iv at*
 by_cases hj:j<K.length
 case neg=>
  have bh:¬(j:Int)<K.length:=by omega
  rw[Z0j (by omega)]at a0 aa d;have b7:M2[M.length]?=some z8:=(z.2 _ (by omega)).trans cj;have bs:M.length<M2.length:=(Z0b.1 b7).1;have c8:=ac M2 z;have cu:∀X,Grow M (M2.set M.length X):=λX=>⟨by have:=c8.1;simpa using this,λj hj _=>by rw[Z0f (by omega)];exact c8.2 j hj (by simp)⟩;simp -dsimp -implicitDefEqProofs[t1,t3,t6,g,a7,a5,a6,d,bh,a1,A0b ho,A0f b7,A0v bs];refine⟨cu _,?_⟩;rw[C9A,A0a.row];refine .tuple (.agg (.same trivial (.same trivial (.same trivial (.same trivial (.same trivial (ce.data (A7x (f:=A0M.row) (λw=>by simp[A0M.row,A1K,bdd]) _) (co.data (A7x (f:=A0M.row) (λw=>by simp[A0M.row,A1K,bdd]) _) ?_))))))) (aa.data (A7x (f:=IdD.row) (C7M _) _) (.same trivial .nil))) .nil;rw[A4a,<-Z1G];exact a0.data (A7x (f:=A0a.row) (A2D _) _) .nil
 have bh:(j:Int)<K.length:=by omega
 have w1:=A2s (i:=j) (by omega)
 have ct:=hP.keep (ac M2 z)
 have bz:=ai.keep (ac M2 z) (by simp)
 obtain⟨p,cq,cm⟩:=bz.at1 (P:=prog) (t:=3) (f:=λk:Nat=>I k) (λ_=>rfl) E2S sz3 hj
 have ah:K[j]∈A3T l n l.length:=by rw[<-hK];exact Z0y hj
 have a8:K[j]<l.length:=A7z ah
 have cy:n<K[j]:=by
  have hp:A2w l K[j]=n:=by simp[A3T]at ah;exact ah.2
  have:=(aj K[j] a8 K[j] a8 (Z0n _)).2;simp only[A2w,Z0k a8,Int.toNat_natCast]at hp;omega
 have ae:=ih K[j] M2 a8 (by omega) ct
 have ch:=B5j (F:=F) (s:=s) aj f K[j] a8 (by omega)
 have cr:K.take (j+1)=K.take j++[K[j]]:=by rw[Z0D hj]
 obtain⟨k,br⟩:∃k,k=A2l F l s f K[j]:=⟨_,rfl⟩
 have av:(K.take (j+1)).map (A2l F l s f)=(K.take j).map (A2l F l s f)++[k]:=by rw[cr,Z0S,br];rfl
 rw[<-br]at ae ch
 obtain⟨M3,bc⟩:∃M3,M3=M2++[A0j.cells 27 k.1.row]:=⟨_,rfl⟩
 have ak:Grow M2 M3:=by rw[bc];exact A0c.app none _ _
 have cb:M3[M2.length]?=some (A0j.cells 27 k.1.row):=by rw[bc];simp
 have a3:=ak.get ho (by simp)
 have d2:q<M2.length:=(Z0b.1 ho).1
 have a2:=z.trans (ak.low (n:=q) (by omega) (by simp))
 have b2:q+1<=M3.length:=by have:=ak.1;omega
 replace a0:=a0.keep ak
 replace aa:=aa.keep ak
 generalize hA:(K.take j).map (A2l F l s f)=A at*
 have hAl:A.length<=1000:=by rw[<-hA,Z0R,Z0B];omega
 simp -dsimp -implicitDefEqProofs[t1,t3,t6,g,a7,a5,a6,d,bh,cq,cm]
 refine A0g func71 ae ?_
 simp -dsimp -implicitDefEqProofs[t1,t3,t6,g,a7,a5,a6,d,C9A,A0k,A0l,A0d,AV.storable,AV.cells]
 rw[<-bc]
 simp -dsimp -implicitDefEqProofs[t1,t3,t6,g,a7,a5,a6,d,a1,A0b a3,A0b cb,A0q,A1f]
 refine B8r (C:=WC gl) (enc:=A0a.row) (e:=27) (sz:=8) (news:=[k.1]) (o:=.full) A8T B4o B3R a0.fam (by simp;omega) rfl rfl ?_
 intro v1 M4 k1 k2 k3
 have cs:=a0.cells k2 a3
 have d0:=a0.cells k2 cb
 have a9:=aa.beside bx k2
 have b6:=a0.push b2 k1 k3
 have b5:=aa.apart bx k3
 have bl:=a2.trans ((a0.low b2 k2).le (by omega))
 have b4:q+1<=M4.length:=by have:=k2.1;omega
 simp -dsimp -implicitDefEqProofs[t1,t3,t6,g,a7,a5,a6,d,a1]
 refine B8r (C:=WC gl) (enc:=IdD.row) (e:=23) (sz:=3) (news:=k.2.1) (o:=.no) C8Q D2M D4I a9.fam (by simp only[Z0v];omega) rfl rfl ?_
 intro v2 M5 k4 k5 k6
 have bk:=a9.cells k5 cs
 have al:=b6.beside b5.symm k5
 have c6:=a9.push b4 k4 k6
 have c3:=(b6.apart b5.symm k6).symm
 have c0:=bl.trans ((a9.low b4 k5).le (by omega))
 have ag:A0l (some 1) M5 (.ptr q 7) v1=some (M5.set q (ouC x.kind l[n].label hv wv v1)):=by rw[A0f bk,al.fam.cells,Z0d ⟨al.fam.store,by simp,rfl⟩];rfl
 have cv:q<M5.length:=(Z0b.1 bk).1
 simp -dsimp -implicitDefEqProofs[t1,t3,t6,g,a7,a5,a6,d,a1]
 refine A0g func73 (C6f gl _ k.2.2 M5) ?_
 simp -dsimp -implicitDefEqProofs[t1,t3,t6,g,a7,a5,a6,d,a1,ag,w1]
 refine⟨⟨j+1,by clear w1;omega,rfl,?_,c0.setq (Z0n _),v1,by simp[cv],?_,?_,c3,?_⟩,by clear w1;omega⟩
 .rw[<-Z1w,av,Z3O];rfl
 .rw[<-Z1G,<-Z1w,<-Z1w,av,Z0S];exact al.setq (by omega)
 .rw[<-Z1w,av,Z1s];have e:x.id::(A.flatMap (λy=>y.2.1)++[k].flatMap (λy=>y.2.1))=(x.id::A.flatMap (λy=>y.2.1))++k.2.1:=by simp
  rw[e];exact c6.setq (by omega)
 .rw[List.length_flatMap]at be;rw[<-Z1G,<-Z1w,<-Z1w,av,Z0S,List.sum_append];simp only[Z0t,Z2a,List.sum_cons,List.sum_nil];clear w1;omega
end

section
variable (gl:Nat->AV)
end
section
variable (gl:Nat->AV)
end
section
variable (gl:Nat->AV)
end
section
variable (gl:Nat->AV)
end
def A6z(n:Nat)(w:A0M):A1K n w.row:=by simp[A0M.row,A1K,bdd]
@[simp] def D5R{k}{t}{r1 r2}{o1 o2}:A0D prog 27 [(1,I k),(2,S t),(3,.list 4 r1 o1),(4,.list 4 r2 o2)]=some (.agg [I 0,I 0,I 0,I k,S t,.list 4 r1 o1,.list 4 r2 o2,A0E]):=by
 simp[A0D,A1k,A1E,A0d,AV.cells,AV.storable]
section
variable (gl:Nat->AV)
end
def B0N(w:A0M):Prop:=w.act=0/\w.item=0/\w.at_=0
mutual
def A2Z:A0a->Prop
 |.mk id _ _ h w ks=>id=idZ/\(∀x∈h,B0N x)/\(∀x∈w,B0N x)/\B2x ks
def B2x:List A0a->Prop
 |[]=>True
 |k::ks=>A2Z k/\B2x ks
end
def B5E:∀{ks:List A0a},B2x ks<->∀k∈ks,A2Z k
 |[]=>by simp[B2x]
 |k::ks=>by simp[B2x,B5E (ks:=ks)]
def A6V(u:A0a):A2Z u<->u.id=idZ/\(∀x∈u.head,B0N x)/\(∀x∈u.words,B0N x)/\∀k∈u.kids,A2Z k:=by obtain⟨a,b,c,d,e,f⟩:=u;rw[A2Z,B5E];rfl
def C1c{w}(h:B0N w):w.row=[S w.text,I 0,I 0,I 0]:=by obtain⟨h1,h2,h3⟩:=h;simp[A0M.row,h1,h2,h3]
def B2V(F:IdD->Option A0a)(l:List A0Q)(s:List A1P):∀f n,A2Z (A2l F l s f n).1
 |0,n=>by rw[A2l,C9P,A2Z];exact⟨rfl,by simp,by simp,trivial⟩
 |f+1,n=>by
  rw[A2l,A2Z,B5E];refine⟨rfl,λx hx=>?_,λx hx=>?_,λk hk=>?_⟩
  .obtain⟨y,_,rfl⟩:=Z0H.1 hx;exact⟨rfl,rfl,rfl⟩
  .obtain⟨y,_,rfl⟩:=Z0H.1 hx;exact⟨rfl,rfl,rfl⟩
  .rw[Z1G]at hk;obtain⟨y,_,rfl⟩:=Z0H.1 hk;exact B2V F l s f y
mutual
def C5m:∀u:A0a,A2Z u->∀x∈A0V u,x=idZ
 |.mk id _ _ _ _ ks,h,x,hx=>by
  rw[A2Z]at h;rw[A0V]at hx;rcases Z0u.1 hx with rfl|hx
  .exact h.1
  .exact C1L ks h.2.2.2 x hx
def C1L:∀ks:List A0a,B2x ks->∀x∈A3N ks,x=idZ
 |[],_,x,hx=>by rw[A3N]at hx;simp at hx
 |k::ks,h,x,hx=>by
  rw[B2x]at h;rw[A3N]at hx;rcases Z0V.1 hx with hx|hx
  .exact C5m k h.1 x hx
  .exact C1L ks h.2 x hx
end
def D1Q{u}(h:A2Z u):C2n u=true:=by rw[C3K];unfold D4z;rw[show(A0V u).all (λx=>decide (x=idZ))=true from Z0p.2 λx hx=>Z0w (C5m u h x hx)];rfl
def B0E(u:A0a):Bool:=A2W u&&decide (A1R u<=8)&&decide (A0o u<=1024)
def B3w{u}(h:A2Z u):B0l u=B0E u:=by rw[B0l,D1Q h,Z3J,B1K];rfl
def A6x:A0a->A0a
 |.mk _ k l h w _=>.mk idZ k l h w []
def D0g{u}(h:A5Q u=true):B0E (A6x u)=true:=by
 obtain⟨a,b,c,d,e,f⟩:=u;have h2:A5Q (.mk idZ b c d e [])=true:=by unfold A5Q at h|-;simp only[Z0g,Z0m]at h|-;exact⟨⟨⟨⟨h.1.1.1.1,by simp[A0a.kids]⟩,h.1.1.2⟩,h.1.2⟩,h.2⟩
 simp only[A6x,B0E,A2W,A6o,h2,A1R,A3i,A0o,A0x];rfl
def B0h(u:A0a):Int:=if B0E u=true then if 16384<A6u (A5T 0 u)then 6 else 0 else 1
def A3U{α:Type}(e sz:Nat)(enc:α->List AV)(n:Nat)(M:Mem)(v:AV)(l:List α):Prop:=(v=.list sz [] .no/\l=[])\/Arr e sz enc n M v l
section
variable {α:Type} {e sz n:Nat} {enc:α->List AV} {M M':Mem} {v:AV} {l:List α}
def A3U.store(h:A3U e sz enc n M v l):v.storable=true:=by
 rcases h with⟨rfl,rfl⟩|h
 .rfl
 .exact h.own.store
def A3U.cells(h:A3U e sz enc n M v l):v.cells=[v]:=by
 rcases h with⟨rfl,rfl⟩|h
 .rfl
 .exact h.own.cells
def A3U.len(h:A3U e sz enc n M v l){P}{t e':TypeId}(ht:P.underlying t=some (.slice e')):A1V P t v=some l.length:=by
 rcases h with⟨rfl,rfl⟩|h
 .simp[A1V,ht]
 .exact h.own.len ht
def A3U.keep(h:A3U e sz enc n M v l)(hk:Grow M M'):A3U e sz enc n M' v l:=by
 rcases h with h|h
 .exact .inl h
 .exact .inr (h.keep hk)
def A3U.stay(h:A3U e sz enc n M v l)(hk:∀f,obj v=some f->M'[f]?=M[f]?):A3U e sz enc n M' v l:=by
 rcases h with h|⟨h1,h2⟩
 .exact .inl h
 .refine .inr ⟨?_,h2⟩;rcases h1 with h1|⟨f,g,a,rfl,hm,hl⟩
  .exact .inl h1
  .exact .inr ⟨f,g,a,rfl,by rw[hk f rfl];exact hm,hl⟩
def A3U.still(h:A3U e sz enc n M v l)(he:∀x,(enc x).length=sz)(hb:∀n x,A1K n (enc x)){cs ds}(hr:Still M n (bdd n) cs ds):Still M n (bdd n) (v::cs) (.list sz (l.map enc) .no::ds):=by
 rcases h with⟨rfl,rfl⟩|h
 .exact .same (by simp[bdd,A9y]) hr
 .exact Still.append (a:=[v]) (b:=[.list sz (l.map enc) .no]) (A3P he hb h.own h.lat) hr
end
def A3U.lat{α:Type}{e sz n}{enc:α->List AV}{M}{v}{l}(h:A3U e sz enc n M v l):A1m n v:=by
 rcases h with⟨rfl,rfl⟩|h
 .intro f hf;simp[obj]at hf
 .exact h.lat
def A3U.lt{α:Type}{e sz n}{enc:α->List AV}{M}{v}{l}(h:A3U e sz enc n M v l){f}(hf:obj v=some f):f<M.length:=by
 rcases h with⟨rfl,rfl⟩|h
 .simp[obj]at hf
 .exact h.own.lt hf
def A3U.weak{α:Type}{e sz n m}{enc:α->List AV}{M}{v}{l}(h:A3U e sz enc n M v l)(hm:m<=n):A3U e sz enc m M v l:=by
 rcases h with h|⟨h1,h2⟩
 .exact .inl h
 .exact .inr ⟨h1,λf hf=>by have:=h2 f hf;omega⟩
def Arr.stay{α:Type}{e sz n}{enc:α->List AV}{M M'}{v}{l}(h:Arr e sz enc n M v l)(hk:∀f,obj v=some f->M'[f]?=M[f]?):Arr e sz enc n M' v l:=by
 obtain⟨h1,h2⟩:=h;refine⟨?_,h2⟩;rcases h1 with h1|⟨f,g,a,rfl,hm,hl⟩
 .exact .inl h1
 .exact .inr ⟨f,g,a,rfl,by rw[hk f rfl];exact hm,hl⟩
def C9g{cs part}{off}(h:(cs.drop off).take part.length=part):A0d cs off part=cs:=by
 unfold A0d;rw[<-h,Z0B,Z0W];have e:(cs.drop off).take part.length++cs.drop (off+min part.length (cs.drop off).length)=cs.drop off:=by
  rcases Nat.le_total part.length (cs.drop off).length with hl|hl
  .rw[Z1y hl,<-Z1R,Z0X]
  .rw[Nat.min_eq_right hl,<-Z1R,List.drop_length,Z1D,Z0j hl]
 rw[e,Z0X]
abbrev A6A(u:A0a)(kv:AV):List AV:=[I u.id.act,I u.id.item,I u.id.n,I u.kind,S u.label,.list 4 (A0i u.head) .no,.list 4 (A0i u.words) .no,kv]
def B9T(ks:List A0a)(kv:AV):Prop:=kv=.list 8 (A0u ks) .no\/(ks=[]/\kv=A0E)
def B9T.len{ks}{kv}(h:B9T ks kv):A1V prog 25 kv=some ks.length:=by rcases h with rfl|⟨rfl,rfl⟩<;>simp
def B9T.store{ks}{kv}(h:B9T ks kv):kv.storable=true:=by rcases h with rfl|⟨rfl,rfl⟩<;>rfl
def B9T.cells{ks}{kv}(h:B9T ks kv):kv.cells=[kv]:=by rcases h with rfl|⟨rfl,rfl⟩<;>rfl
structure D2X (M:Mem) (u:A0a) (hv wv kv:AV) (M':Mem):Prop where
 grow:Grow M M'
 h:A3U 152 4 A0M.row M.length M' hv u.head
 w:A3U 152 4 A0M.row M.length M' wv u.words
 k:Arr 27 8 A0a.row M.length M' kv u.kids
 a12:A8b hv wv
 a13:A8b hv kv
 a23:A8b wv kv
abbrev D3F(u:A0a)(hv wv kv:AV):List AV:=[I u.id.act,I u.id.item,I u.id.n,I u.kind,S u.label,hv,wv,kv]
def D2X.still{M M'}{u}{hv wv kv}(h:D2X M u hv wv kv M'):Grow M M'/\Still M' M.length (bdd M.length) [.agg (D3F u hv wv kv)] [.agg u.row]:=by refine⟨h.grow,?_⟩;rw[u.row_eq,A4a];exact .agg (.same trivial (.same trivial (.same trivial (.same trivial (.same trivial (h.h.still (λ_=>rfl) A6z (h.w.still (λ_=>rfl) A6z (A3P A0a.row_len A2D h.k.own h.k.lat)))))))) .nil
def hCp:A2r:=⟨λd=>d !=1,λ_=>false,λd=>d==25⟩
@[simp] def E4U:hCp.imm=λd=>d !=1:=rfl
@[simp] def E3J:hCp.own=λ_=>false:=rfl
@[simp] def E4w:hCp.vec=λd=>d==25:=rfl
section
variable (gl:Nat->AV)
def C1G(l:List A0M)(M:Mem)(hl:l.length<=1000000000):A0e (WC gl) 141 [.list 4 (A0i l) .no] M (λv M'=>A1l 152 4 A0M.row M' v l/\Grow M M'/\A1m M.length v):=by
 refine A0m hW func141 ?_;have tail:∀(K:AV->Mem->Prop) (tg:Tag K),(∀v M',(A1l 152 4 A0M.row M' v l/\Grow M M'/\A1m M.length v)->K v M')->A5H (WC gl) (A1O hW.own (some 7)) (A1O hW.vec (some 7)) 24 24 (.vref M.length 0 4 0 0) (.list 4 (A0i l) .no) (M++[.vec 152 4 [] 0 [(0,0)]]) K tg:=by intro K tg hk;have ho:A1l 152 4 A0M.row (M++[.vec 152 4 [] 0 [(0,0)]]) (.vref M.length 0 4 0 0) []:=.inr ⟨M.length,0,[(0,0)],rfl,by simp,by simp[List.lookup]⟩;refine A4C (C:=WC gl) (enc:=A0M.row) (e:=152) (sz:=4) (news:=l) C1Z C9U C3G (λ_=>rfl) ho (by simp[A0A,A0i,List.flatMap]) (by simp;omega) rfl ?_;intro v' M' h1 h2 h3 _;obtain⟨r1,r2⟩:=A2V (X:=[]) (A0c.app none M [.vec 152 4 [] 0 [(0,0)]]) (v:=.vref M.length 0 4 0 0) (λf hf=>by simp at hf;omega) (by simpa using h2) (by simpa using h3);exact hk _ _ ⟨h1,r1,r2⟩
 cases l with
 |nil=>
  simp -dsimp -implicitDefEqProofs[A0i];rw[A8M (.inl rfl) underlying24];intro b;cases b
  .simp -dsimp -implicitDefEqProofs[A1H,A1f];refine tail _ _ λv M' h=>?_;simp -dsimp -implicitDefEqProofs;exact h
  .simp -dsimp -implicitDefEqProofs;exact⟨.nil,A0c.refl _ _,λf h=>by simp at h⟩
 |cons a l=>simp -dsimp -implicitDefEqProofs[A0i,A1H,A1f];refine tail _ _ λv M' h=>?_;simp -dsimp -implicitDefEqProofs;exact h
def B7O(l:List A0M)(M:Mem)(hl:l.length<=1000000000):∃r M1,A0e (WC gl) 141 [.list 4 (A0i l) .no] M (λv M'=>v=r/\M'=M1)/\Grow M M1/\A3U 152 4 A0M.row M.length M1 r l/\M1.length<=M.length+1:=by
 by_cases h:l=[]
 .exact⟨_,_,A0e.still (enc:=A0M.row) (λ_=>rfl) A6z (C1G gl l M hl),Grow.refl _,.inl ⟨by rw[h];rfl,h⟩,by omega⟩
 .exact⟨_,_,A0e.repack (enc:=A0M.row) (λ_=>rfl) A6z h (C1G gl l M hl),A0c.app none _ _,.inr ⟨.inr ⟨M.length,0,[(0,l.length)],rfl,by simp,by simp[List.lookup]⟩,λf hf=>by simp at hf;omega⟩,by simp⟩
set_option maxHeartbeats 1000000 in
def B5C:∀(u:A0a) (kv:AV) (M:Mem),B9T u.kids kv->u.good->u.lims->A0o u<=1000->
 A0e (WC gl) 89 [.agg (A6A u kv)] M (λv M'=>∃hv wv kw,v=.agg (D3F u hv wv kw)/\D2X M u hv wv kw M')
 |.mk id kind lab hd ws ks,kv,M,t,hg,hlm,hc=>by
  obtain⟨_,_,bm,_,bf,_,bh,bd,af⟩:=(A0a.good_iff _).1 hg;have af:∀k∈ks,k.good:=af;obtain⟨⟨ar,am,bn,-⟩,ah⟩:=A3r _ hlm;have ar:hd.length<=100000000:=ar;have am:ws.length<=100000000:=am;have ah:=A3E.1 ah;have bl:1+A0x ks<=1000:=by rwa[A0o]at hc
  have av:=A2q ks;have t:B9T ks kv:=t;have b2:A6A (.mk id kind lab hd ws ks) kv=[I id.act,I id.item,I id.n,I kind,S lab,.list 4 (A0i hd) .no,.list 4 (A0i ws) .no,kv]:=rfl;have b3:∀a b c,D3F (.mk id kind lab hd ws ks) a b c=[I id.act,I id.item,I id.n,I kind,S lab,a,b,c]:=λ_ _ _=>rfl;rw[b2];simp only[b3];refine A0m hCp func89 ?_;obtain⟨b,hb⟩:∃b,b=M.length:=⟨_,rfl⟩;obtain⟨M1,r⟩:∃M1,M1=M++[A0j.cells 27 [I id.act,I id.item,I id.n,I kind,S lab,.list 4 (A0i hd) .no,.list 4 (A0i ws) .no,kv],z8]:=⟨_,rfl⟩;have a5:M1[b]?=some (A0j.cells 27 [I id.act,I id.item,I id.n,I kind,S lab,.list 4 (A0i hd) .no,.list 4 (A0i ws) .no,kv]):=by rw[r,hb];simp
  have ao:M1[b+1]?=some z8:=by rw[r,hb];simp[Z1h]
  have a4:Grow M M1:=by rw[r];exact A0c.app none _ _
  have b8:M1.length=b+2:=by rw[r,hb];simp
  have bj:=t.store;have bk:=t.cells;simp -dsimp -implicitDefEqProofs[A0k];rw[<-r,<-hb];clear r;obtain⟨hv,M2,b1,l,d,b9⟩:=B7O gl hd M1 (by omega);obtain⟨wv,M3,ay,s,o,bb⟩:=B7O gl ws M2 (by omega);have a3:=l.get a5 (by simp);have a6:=s.get a3 (by simp);have ab:M2[b]?=M1[b]?:=by rw[a5,a3]
  have aa:M3[b]?=M2[b]?:=by rw[a3,a6]
  have a9:b<M3.length:=(Z0b.1 a6).1;have ac:A0l (some 1) M3 (.ptr b 5) hv=some (M3.set b (.cells 27 [I id.act,I id.item,I id.n,I kind,S lab,hv,.list 4 (A0i ws) .no,kv])):=by rw[A0f a6,d.cells,Z0d ⟨d.store,by simp,rfl⟩];rfl
  have ad:(M3.set b (.cells 27 [I id.act,I id.item,I id.n,I kind,S lab,hv,.list 4 (A0i ws) .no,kv]))[b]?=some (.cells 27 [I id.act,I id.item,I id.n,I kind,S lab,hv,.list 4 (A0i ws) .no,kv]):=by simp[a9]
  have ae:A0l (some 1) (M3.set b (.cells 27 [I id.act,I id.item,I id.n,I kind,S lab,hv,.list 4 (A0i ws) .no,kv])) (.ptr b 6) wv=some (M3.set b (.cells 27 [I id.act,I id.item,I id.n,I kind,S lab,hv,wv,kv])):=by rw[A0f ad,o.cells,Z0d ⟨o.store,by simp,rfl⟩,Z2C];rfl
  refine B7y hCp (A0I gl) (λk=>if k=1\/k=4 then 1 else if k=2\/k=5\/k=7\/k=9 then 2 else 0) (λ_=>b) (λ_ k=>k==7||k==9) (λk=>if k=7\/k=9 then[]else[b]) (by intro i k _ h;simp at h;simp[h]) (by rfl) (by kernel_rfl) ?_;simp -dsimp -implicitDefEqProofs[A0b a5,A0R,A7f];refine A4T (A1T func141 rfl rfl b1) ?_;refine⟨by simpa using ab,?_⟩;simp -dsimp -implicitDefEqProofs[A0b a3,A0R,A7f];refine A4T (A1T func141 rfl rfl ay) ?_;refine⟨by simpa using aa,?_⟩;simp -dsimp -implicitDefEqProofs[ac,ae];obtain⟨M4,w⟩:∃M4,M4=M3.set b (.cells 27 [I id.act,I id.item,I id.n,I kind,S lab,hv,wv,kv]):=⟨_,rfl⟩;have p:∀f,f≠b->M4[f]?=M3[f]?:=λf hf=>by rw[w,Z0f (λe=>hf e.symm)]
  have az:M4[b]?=some (.cells 27 [I id.act,I id.item,I id.n,I kind,S lab,hv,wv,kv]):=by rw[w];simp[a9]
  have b6:M4[b+1]?=some z8:=by rw[p _ (by omega)];exact s.get (l.get ao (by simp)) (by simp)
  have bg:M4.length=M3.length:=by rw[w];simp
  have e1:=((d.keep s).stay (M':=M4) (λf hf=>p f (by have:=d.lat f hf;omega))).weak (m:=M.length) (by have:=a4.1;omega);have e2:=(o.stay (M':=M4) (λf hf=>p f (by have:=o.lat f hf;have:=l.1;omega))).weak (m:=M.length) (by have:=a4.1;have:=l.1;omega);have ap:A8b hv wv:=λf h1 h2=>by have:=d.lt h1;have:=o.lat f h2;omega
  have a2:Grow M M4:=⟨by have:=a4.1;have:=l.1;have:=s.1;omega,λj hj _=>by rw[p j (by omega)];exact((a4.trans l).trans s).2 j hj (by simp)⟩;have a7:=d.lat;have a8:=o.lat;have be:=d.store;have bc:=l.1;have ba:b+2<=M4.length:=by have:=s.1;omega
  rw[<-w];clear w ac ae ad a6 a3 ab aa a5 ao b1 ay d o;have av:=t.len;simp -dsimp -implicitDefEqProofs[A0b az,av];refine A0F hCp ks.length 17 (λT M5=>∃i:Nat,i<=ks.length/\T 1=.ptr b 0/\T 2=.ptr (b+1) 0/\T 15=kv/\T 16=I ks.length/\T 17=I i/\Grow M4 M5/\Arr 27 8 A0a.row M4.length M5 (T 3) (ks.take i)) ?_ ?_
  .refine⟨0,by omega,by simp,by simp,by simp,by simp,by simp,A0c.refl _ _,?_⟩;simp -dsimp -implicitDefEqProofs;exact .nil
  rintro T M5 ⟨i,i1,t1,t2,z,y,a1,g,hf⟩;generalize an:T 3=ov at*;by_cases hi:i<ks.length;case neg=>
   (have ag:¬(i:Int)<ks.length:=by omega);rw[Z0j (by omega)]at hf
   have aw:=g.get az (by simp);have al:=g.get b6 (by simp);have aq:b<M5.length:=(Z0b.1 aw).1;have ax:b+1<M5.length:=(Z0b.1 al).1;(have b0:A0l (some 1) M5 (.ptr b 7) ov=some (M5.set b (.cells 27 [I id.act,I id.item,I id.n,I kind,S lab,hv,wv,ov])):=by rw[A0f aw,hf.own.cells,Z0d ⟨hf.own.store,by simp,rfl⟩];rfl);(have b4:(M5.set b (.cells 27 [I id.act,I id.item,I id.n,I kind,S lab,hv,wv,ov]))[b]?=some (.cells 27 [I id.act,I id.item,I id.n,I kind,S lab,hv,wv,ov]):=by simp[aq]);(have b7:(M5.set b (.cells 27 [I id.act,I id.item,I id.n,I kind,S lab,hv,wv,ov]))[b+1]?=some z8:=by rw[Z0f (by omega)];exact al);simp -dsimp -implicitDefEqProofs[t1,t2,z,y,a1,ag,an,b0,A0b b4,A0f b7,A0v,ax];refine⟨hv,wv,ov,⟨rfl,rfl,rfl⟩,?_⟩;(have hs:∀X Y f,f≠b->f≠b+1->((M5.set b X).set (b+1) Y)[f]?=M5[f]?:=λX Y f h1 h2=>by rw[Z0f (by omega),Z0f (by omega)]);refine⟨⟨by have:=a2.1;have:=g.1;simp;omega,λj hj _=>by rw[hs _ _ j (by omega) (by omega)];exact(a2.trans g).2 j hj (by simp)⟩,?_,?_,?_,ap,?_,?_⟩
   .exact(e1.keep g).stay λf h=>hs _ _ f (by have:=a7 f h;omega) (by have:=a7 f h;omega)
   .exact(e2.keep g).stay λf h=>hs _ _ f (by have:=a8 f h;omega) (by have:=a8 f h;omega)
   .have au:=hf.stay (M':=(M5.set b (.cells 27 [I id.act,I id.item,I id.n,I kind,S lab,hv,wv,ov])).set (b+1) (.cells 27 [I id.act,I id.item,I id.n,I kind,S lab,hv,wv,ov])) (λf h=>hs _ _ f (by have:=hf.lat f h;omega) (by have:=hf.lat f h;omega));exact⟨au.own,λf h=>by have:=au.lat f h;have:=a2.1;omega⟩
   .intro f h1 h2;have:=e1.lt h1;have:=hf.lat f h2;omega
   .intro f h1 h2;have:=e2.lt h1;have:=hf.lat f h2;omega
  have ag:(i:Int)<ks.length:=by omega
  have w1:=A2s (i:=i) (by omega);have q:ks[i]∈ks:=Z0y hi;have bi:=A4j q;rcases t with rfl|⟨rfl,_⟩;case inr=>simp at hi
  obtain⟨M6,ak⟩:∃M6,M6=M5++[A0j.cells 27 ks[i].row]:=⟨_,rfl⟩;have aj:Grow M5 M6:=by rw[ak];exact A0c.app none _ _
  have b5:M6[M5.length]?=some (A0j.cells 27 ks[i].row):=by rw[ak];simp
  have:=A0a.kid_lt (u:=.mk id kind lab hd ws ks) q;have a0:=A0e.dataX ((B5C ks[i] (.list 8 (A0u ks[i].kids) .no) M6 (.inl rfl) (af _ q) (ah _ q) (by omega)).mono λv M' ⟨hv,wv,kw,e,h⟩=>by subst e;exact h.still);rw[show A6A ks[i] (.list 8 (A0u ks[i].kids) .no)=ks[i].row from(ks[i].row_eq).symm]at a0;have ai:=hf.keep aj;simp -dsimp -implicitDefEqProofs[t1,t2,z,y,a1,hi,ag,A0k,A0l,A0d,AV.storable,AV.cells];rw[<-ak];simp -dsimp -implicitDefEqProofs[t1,t2,z,y,a1,A0b b5];refine A0g func89 a0 ?_;simp -dsimp -implicitDefEqProofs[t1,t2,z,y,a1,an,A0q,A1f,AV.storable,AV.cells];refine A4C (C:=WC gl) (enc:=A0a.row) (e:=27) (sz:=8) (news:=[ks[i]]) A8T B4o B3R A0a.row_len ai.own (by simp[A0A]) (by simp;omega) rfl ?_;intro v' M7 q1 q2 q3 _;simp -dsimp -implicitDefEqProofs[t1,t2,z,y,a1,w1];refine⟨⟨i+1,by clear w1;omega,rfl,ai.grow (g.trans aj) q2,?_⟩,by clear w1;omega⟩;rw[Z0D hi];exact⟨q1,ai.later (g.trans aj).1 q3⟩
termination_by u=>SizeOf.sizeOf u
end
end Go.Abs
