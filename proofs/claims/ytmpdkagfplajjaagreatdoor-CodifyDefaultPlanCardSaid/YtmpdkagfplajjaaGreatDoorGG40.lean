/- The texts CfO, CfP, CfQ, CfS, CfT, CbX4, CbX5, CbX6, CfI, CfJ, CfK, CfR, CfU. -/
import Derived.Test.YtmpdkagfplajjaaGreatDoorGG39
import Derived.Test.YtmpdkagfplajjaaGreatDoorGG36
import Derived.Test.YtmpdkagfplajjaaGreatDoorGG38
import Derived.Test.YtmpdkagfplajjaaGreatDoorGG25
import Derived.Test.YtmpdkagfplajjaaGreatDoorGG21
set_option linter.all false
set_option maxRecDepth 100000
namespace Go.Abs
def A7b(ks:List A0a)(o:Nat)(p:Int):List A0C:=match ks with
 |[]=>[]
 |k::ks=>⟨k.id,p,k.label⟩::(A7b (A1n k.kids) (o+1) o++A7b ks (o+A0j k) p)
termination_by A0f ks
decreasing_by
 .rw[A0R (A0v k.kids),A0f,A0G k];omega
 .rw[A0f,A0G k];omega
def A4t(ks:List A0a)(o:Nat)(p:Int):(A7b ks o p).length=A0f ks:=match ks with
 |[]=>by rw[A7b,A0f];rfl
 |k::ks=>by rw[A7b,Z0x,Z0r,A4t (A1n k.kids),A4t ks,A0f,A0R (A0v k.kids),A0G k];omega
termination_by A0f ks
decreasing_by
 .rw[A0R (A0v k.kids),A0f,A0G k];omega
 .rw[A0f,A0G k];omega
def A8g(ks:List A0a)(l:List A0C)(p:Int):A4i ks l p=l++A7b ks l.length p:=match ks with
 |[]=>by rw[A4i,A7b,Z1b]
 |k::ks=>by
  rw[A4i,A8g ks,A8g (A1n k.kids),A7b];have e:(l++[(⟨k.id,p,k.label⟩:A0C)]++A7b (A1n k.kids) (l++[(⟨k.id,p,k.label⟩:A0C)]).length (l.length:Int)).length=l.length+A0j k:=by rw[Z0r,A4t,A0R (A0v k.kids),A0G k];simp;omega
  rw[e];simp
termination_by A0f ks
decreasing_by
 .rw[A0f,A0G k];omega
 .rw[A0R (A0v k.kids),A0f,A0G k];omega
def B2s:List A0a->Nat->List Nat
 |[],_=>[]
 |k::ks,o=>o::B2s ks (o+A0j k)
structure Blk (L:List A0C) (ks:List A0a) (o:Nat) (p:Int):Prop where
 fit:o+A0f ks<=L.length
 at_:∀j,j<A0f ks->L[o+j]?=(A7b ks o p)[j]?
 out:∀j:Nat,j<L.length->(j<o\/o+A0f ks<=j)->A2t L j<o\/(o:Int)+A0f ks<=A2t L j
def C0r(ks:List A0a)(o:Nat)(p:Int)(j:Nat)(hp:p<o)(hj:j<A0f ks):∃s,(A7b ks o p)[j]?=some s/\(s.parent=p\/(o:Int)<=s.parent/\s.parent<o+j):=match ks with
 |[]=>by rw[A0f]at hj;omega
 |k::ks=>by
  rw[A7b];have hk:=A0G k;have hs:=A0R (A0v k.kids);rw[A0f]at hj
  match j with
  |0=>exact⟨_,rfl,.inl rfl⟩
  |j+1=>
   rw[Z2Y];by_cases c:j<A0f (A1n k.kids)
   .obtain⟨s,h1,h2⟩:=C0r (A1n k.kids) (o+1) o j (by omega) c;rw[Z0h (by rw[A4t];exact c)];exact⟨s,h1,.inr (by omega)⟩
   .obtain⟨s,h1,h2⟩:=C0r ks (o+A0j k) p (j-A0f (A1n k.kids)) (by omega) (by omega);rw[Z1t (by rw[A4t];omega),A4t];exact⟨s,h1,by omega⟩
termination_by A0f ks
decreasing_by
 .rw[A0R (A0v k.kids),A0f,A0G k];omega
 .rw[A0f,A0G k];omega
def B3P{L:List A0C}{j:Nat}{s:A0C}(h:L[j]?=some s):A2t L j=s.parent:=by simp[A2t,h]
def Blk.par{L:List A0C}{ks:List A0a}{o:Nat}{p:Int}(h:Blk L ks o p)(hp:p<o){j:Nat}(h1:o<=j)(h2:j<o+A0f ks):A2t L j=p\/(o:Int)<=A2t L j/\A2t L j<j:=by obtain⟨s,e1,e2⟩:=C0r ks o p (j-o) hp (by omega);have:=h.at_ (j-o) (by omega);rw[e1,show o+(j-o)=j by omega]at this;rw[B3P this];omega
def C0t{L:List A0C}{k:A0a}{ks:List A0a}{o:Nat}{p:Int}(h:Blk L (k::ks) o p)(hp:p<o):L[o]?=some ⟨k.id,p,k.label⟩/\Blk L (A1n k.kids) (o+1) o/\Blk L ks (o+A0j k) p/\∀j:Nat,j<L.length->A2t L j=o->o+1<=j/\j<o+A0j k:=by
 have hk:=A0G k
 have hs:=A0R (A0v k.kids)
 have hc:A0f (k::ks)=A0j k+A0f ks:=by rw[A0f]
 have h0:=h.at_ 0 (by omega)
 rw[A7b]at h0
 have a0:L[o]?=some ⟨k.id,p,k.label⟩:=by simpa using h0
 have hf:=h.fit
 have key:∀j:Nat,j<L.length->j<o\/o+A0f (k::ks)<=j\/j=o/\A2t L j=p\/(o+1<=j/\j<o+A0j k)/\((o:Int)<=A2t L j/\A2t L j<o+A0j k)\/(o+A0j k<=j/\j<o+A0j k+A0f ks)/\(A2t L j=p\/(o:Int)+A0j k<=A2t L j/\A2t L j<o+A0j k+A0f ks):=by
  intro j hj;by_cases c1:j<o
  .exact .inl c1
  by_cases c2:o+A0f (k::ks)<=j
  .exact .inr (.inl c2)
  right;right;by_cases c3:j=o
  .left;exact⟨c3,by rw[c3,B3P a0]⟩
  right;have h1:=h.at_ (j-o) (by omega);rw[A7b,show o+(j-o)=j by omega,show j-o=(j-o-1)+1 by omega,Z2Y]at h1;by_cases c4:j<o+A0j k
  .left;obtain⟨s,e1,e2⟩:=C0r (A1n k.kids) (o+1) o (j-o-1) (by omega) (by omega);rw[Z0h (by rw[A4t];omega),e1]at h1;rw[B3P h1];omega
  .right;obtain⟨s,e1,e2⟩:=C0r ks (o+A0j k) p (j-o-A0j k) (by omega) (by omega);rw[Z1t (by rw[A4t];omega),A4t,show j-o-1-A0f (A1n k.kids)=j-o-A0j k by omega,e1]at h1;rw[B3P h1];omega
 refine⟨a0,⟨by omega,λj hj=>?_,λj hj ho=>?_⟩,⟨by omega,λj hj=>?_,λj hj ho=>?_⟩,λj hj he=>?_⟩
 .have h1:=h.at_ (j+1) (by omega);rw[A7b,Z2Y,Z0h (by rw[A4t];omega)]at h1;rw[show o+1+j=o+(j+1)by omega];exact h1
 .rcases key j hj with c|c|c|c|c
  .have:=h.out j hj (.inl c);omega
  .have:=h.out j hj (.inr c);omega
  .omega
  .omega
  .omega
 .have h1:=h.at_ (j+A0j k) (by omega);rw[A7b,show j+A0j k=(j+A0f (A1n k.kids))+1 by omega,Z2Y,Z1t (by rw[A4t];omega),A4t,Z3R]at h1;rw[show o+A0j k+j=o+(j+A0f (A1n k.kids)+1)by omega];exact h1
 .rcases key j hj with c|c|c|c|c
  .have:=h.out j hj (.inl c);omega
  .have:=h.out j hj (.inr c);omega
  .omega
  .omega
  .omega
 .rcases key j hj with c|c|c|c|c
  .have:=h.out j hj (.inl c);omega
  .have:=h.out j hj (.inr c);omega
  .omega
  .omega
  .omega
def C2H{L:List A0C}:∀(ks:List A0a) (o:Nat) (p:Int),Blk L ks o p->p<o->(List.range' o (A0f ks)).filter (λk:Nat=>decide (A2t L k=p))=B2s ks o
 |[],o,p,_,_=>by rw[A0f];rfl
 |k::ks,o,p,h,hp=>by
  obtain⟨h1,h2,h3,h4⟩:=C0t h hp;have hk:=A0G k;have hs:=A0R (A0v k.kids);have e:A0f (k::ks)=(A0f (A1n k.kids)+A0f ks)+1:=by rw[A0f];omega
  rw[e,List.range'_succ,Z2a,Z0d (by simp[B3P h1]),B2s];congr 1;have e2:=Z2Q (s:=o+1) (m:=A0f (A1n k.kids)) (n:=A0f ks);rw[<-e2,Z2K,show o+1+A0f (A1n k.kids)=o+A0j k by omega,C2H ks _ p h3 (by omega)];rw[Z1P.2,Z1g];intro j hj;rw[Z3d]at hj;have:=h2.par (by omega) hj.1 hj.2;simp only[Z0l];omega
def C6p{L:List A0C}{ks:List A0a}{o:Nat}{p:Int}(h:Blk L ks o p)(hp:p<o)(hi:∀j:Nat,j<L.length->A2t L j=p->o<=j/\j<o+A0f ks):A2T L p L.length=B2s ks o:=by
 have hf:=h.fit;rw[<-C2H ks o p h hp];unfold A2T;have e1:List.range L.length=List.range' 0 o++(List.range' o (A0f ks)++List.range' (o+A0f ks) (L.length-o-A0f ks)):=by have a:=Z2Q (s:=o) (m:=A0f ks) (n:=L.length-o-A0f ks);have b:=Z2Q (s:=0) (m:=o) (n:=A0f ks+(L.length-o-A0f ks));rw[Z0I]at b;rw[a,b,Z3N,show o+(A0f ks+(L.length-o-A0f ks))=L.length by omega]
 have n1:(List.range' 0 o).filter (λk:Nat=>decide (A2t L k=p))=[]:=by rw[Z1P];intro j hj;rw[Z3d]at hj;simp only[Z0l];intro e;have:=hi j (by omega) e;omega
 have n2:(List.range' (o+A0f ks) (L.length-o-A0f ks)).filter (λk:Nat=>decide (A2t L k=p))=[]:=by rw[Z1P];intro j hj;rw[Z3d]at hj;simp only[Z0l];intro e;have:=hi j (by omega) e;omega
 rw[e1,Z2K,Z2K,n1,n2,Z1g,Z1b]
def C3L(ks:List A0a):Blk (A4i ks [] (-1)) ks 0 (-1):=by rw[A8g,Z1g];have hl:=A4t ks 0 (-1);refine⟨by simp[hl],λj hj=>by simp,λj hj ho=>?_⟩;simp[hl]at hj;omega
def D2T(ks:List A0a):A2Y (A4i ks [] (-1))=B2s ks 0:=by unfold A2Y;refine C6p (C3L ks) (by omega) λj hj _=>⟨by omega,?_⟩;rw[A8B]at hj;simpa using hj
def A2J(ks:List A0a):List A0a:=match ks with
 |[]=>[]
 |k::ks=>.mk idZ k.kind k.label (k.head.map λh=>A1O h.text) ((A0N k.words).map A1O) (A2J (A1n k.kids))::A2J ks
termination_by A0f ks
decreasing_by
 .rw[A0R (A0v k.kids),A0f,A0G k];omega
 .rw[A0f,A0G k];omega
def A5g(k:A0a):A0a:=.mk idZ k.kind k.label (k.head.map λh=>A1O h.text) ((A0N k.words).map A1O) (A2J (A1n k.kids))
def A3z(k:A0a)(ks:List A0a):A2J (k::ks)=A5g k::A2J ks:=by rw[A2J];rfl
def B2H:∀ks:List A0a,A2J ks=ks.map A5g
 |[]=>by rw[A2J];rfl
 |k::ks=>by rw[A3z,B2H ks];rfl
def A4n(ks:List A0a):List IdD:=match ks with
 |[]=>[]
 |k::ks=>(k.id::A4n (A1n k.kids))++A4n ks
termination_by A0f ks
decreasing_by
 .rw[A0R (A0v k.kids),A0f,A0G k];omega
 .rw[A0f,A0G k];omega
def A9C(k:A0a):List IdD:=k.id::A4n (A1n k.kids)
def A7q(k:A0a)(ks:List A0a):A4n (k::ks)=A9C k++A4n ks:=by rw[A4n];rfl
def B2X:∀ks:List A0a,A4n ks=ks.flatMap A9C
 |[]=>by rw[A4n];rfl
 |k::ks=>by rw[A7q,B2X ks];rfl
def B1t(ks:List A0a)(e:Int):Int:=match ks with
 |[]=>e
 |k::ks=>B1t ks (A5I e (B1t (A1n k.kids) (if 256<k.words.length then 6 else 0)))
termination_by A0f ks
decreasing_by
 .rw[A0R (A0v k.kids),A0f,A0G k];omega
 .rw[A0f,A0G k];omega
def C2x(k:A0a):Int:=B1t (A1n k.kids) (if 256<k.words.length then 6 else 0)
def C9u(k:A0a)(ks:List A0a)(e:Int):B1t (k::ks) e=B1t ks (A5I e (C2x k)):=by rw[B1t];rfl
def C0Z:∀(ks:List A0a) (e:Int),B1t ks e=ks.foldl (λe k=>A5I e (C2x k)) e
 |[],e=>by rw[B1t];rfl
 |k::ks,e=>by rw[C9u,C0Z ks];rfl
def C7L{a b:Int}(ha:a=0\/a=6)(hb:b=0\/b=6):A5I a b=0\/A5I a b=6:=by unfold A5I;split<;>assumption
def C0M(ks:List A0a)(e:Int)(he:e=0\/e=6):B1t ks e=0\/B1t ks e=6:=match ks with
 |[]=>by rw[B1t];exact he
 |k::ks=>by rw[B1t];exact C0M ks _ (C7L he (C0M (A1n k.kids) _ (by split<;>simp)))
termination_by A0f ks
decreasing_by
 .rw[A0R (A0v k.kids),A0f,A0G k];omega
 .rw[A0f,A0G k];omega
def D4y(k:A0a):C2x k=0\/C2x k=6:=C0M _ _ (by split<;>simp)
def B6g{k x:A0a}(h:x∈A4Q k.kids):x∈A5m k:=by obtain⟨a,b,c,d,e,f⟩:=k;rw[A5m];exact Z1Y _ h
def A6R(k:A0a):A4Z:=(A5g k,A9C k,C2x k)
section
variable {F:IdD->Option A0a} {L:List A0C}
def C7k(cs:List A1F)(nm:Nat->List (List A0M))(h:∀n,nm n=[]):∀i,i<=cs.length->A6l cs nm i=cs.take i
 |0,_=>by simp[A6l]
 |i+1,hi=>by have ih:=C7k cs nm h i (by omega);unfold A6l at ih|-;rw[Z2N,Z1r,ih,Z1j];simp[h,Z0m (show i<cs.length by omega)]
def C9Y(a:List A1F):B2h a a=true:=by
 simp only[B2h,Z4u,Z0A,Z0u];intro x hx;have:x.1=x.2:=by have:=Z2w.1 hx;obtain⟨i,hi,rfl⟩:=this;simp
 rw[this];simp[B1J]
def C9I(x:A0a):A7o F L [] x=(A0N x.words,true):=by
 have hn:∀n:Nat,A2F F L [] x.id n=[]:=λn=>by simp[A2F,D1P]
 obtain⟨nm,b⟩:∃nm:Nat->List (List A0M),nm=λn:Nat=>A2F F L [] x.id n:=⟨_,rfl⟩;have a:∀n,nm n=[]:=λn=>by rw[b];exact hn n
 have h1:∀(cs:List A1F) i,A8e cs nm i=[]:=λcs i=>by unfold A8e;rw[Z4o];intro n _;split<;>simp[a]
 have h2:∀i,A9S nm i=[]:=λi=>by
  unfold A9S;rw[Z4o]
  exactλn _=>a n
 unfold A7o;simp only;rw[<-b,h1,h2,show A5u (A0N x.words) [] []=A0N x.words by simp[A5u,B5c],C7k _ nm a _ (Z0n _),Z4i,C9Y]
def B8v:∀(f:Nat) (ks:List A0a) (o:Nat) (p:Int),Blk L ks o p->p<o->(∀x∈A4Q ks,F x.id=some x)->L.length<=f+o->(B2s ks o).map (A2M F L [] f)=ks.map A6R
 |f,[],o,p,_,_,_,_=>rfl
 |0,k::ks,o,p,h,hp,hF,hl=>by have h1:=h.fit;have h2:=A3X k;rw[A0f]at h1;omega
 |f+1,k::ks,o,p,h,hp,hF,hl=>by
  obtain⟨h1,h2,h3,h4⟩:=C0t h hp;have hk:=A0G k;have hs:=A0R (A0v k.kids);have b:=B8v (f+1) ks (o+A0j k) p h3 (by omega) (λx hx=>hF x (by rw[A4Q];exact Z2v _ hx)) (by omega);have c:∀x∈A4Q (A1n k.kids),F x.id=some x:=λx hx=>by obtain⟨q,hq,hx⟩:=B0x hx;have d:=(A0v k.kids).mem_iff.1 hq;exact hF x (A7K (k:=k) (B6g (A7K hx d)) (by simp))
  have a:=B8v f (A1n k.kids) (o+1) o h2 (by omega) c (by omega);have hb:A2T L o L.length=B2s (A1n k.kids) (o+1):=C6p h2 (by omega) λj hj he=>by have:=h4 j hj he;omega
  rw[B2s,Z0s,b,Z0s];congr 1;have hU:A6k F L o=k:=by have:=hF k (by rw[A4Q];exact Z1K _ (B0w k));simp[A6k,h1,this]
  have hL:A8V L o=k.label:=by simp[A8V,h1]
  rw[A2M];rw[hU,hL,C9I,hb,a];unfold A6R A5g A9C C2x;simp only[Z0f];refine⟨?_,?_,?_⟩
  .rw[B2H,Z1s];rfl
  .rw[B2X,Z2s];rfl
  .rw[C0Z,List.foldl_map,B8P];simp[A0N];rfl
termination_by f ks=>A0f ks
decreasing_by
 .rw[A0f,A0G k];omega
 .rw[A0R (A0v k.kids),A0f,A0G k];omega
end
structure D1c (pk:Int) (ks:List A0a):Prop where
 each:∀k∈ks,A1Z pk k.kind=true/\A2c k=true/\A0B k.label=true
 pair:ks.Pairwise λa b=>A2W a b=false
 most:ks.length<=64
def C0z{w:A0a}(h:A2c w=true):D1c w.kind w.kids:=by
 have ha:=B1a h;have hr:=B8h h;have hg:=λi hi=>B0I hr i hi;refine⟨λk hk=>?_,?_,?_⟩
 .obtain⟨i,hi,rfl⟩:=Z2w.1 hk;obtain⟨h1,h2,_⟩:=hg i hi;have h3:=B1a h2;have hk:=C5q h1;simp only[A3W,Z0c hk,Z0g]at h3;exact⟨h1,h2,h3.2⟩
 .rw[Z1O];intro i j hi hj a;exact(hg j hj).2.2.2 i a
 .simp only[A3W,Z0g,Z0l]at ha;exact ha.1.1.1.2
def C0P{pk:Int}{ks:List A0a}(h:D1c pk ks):D1c pk (A1n ks):=by refine⟨λk hk=>h.each k ((A0v ks).mem_iff.1 hk),?_,by rw[B5S];exact h.most⟩;exact(Z3z (λ{a b} (h:A2W a b=false)=>by rw[C3h];exact h) (A0v ks)).2 h.pair
def B3T{q:A0a}:∀{ks:List A0a},q∈ks->1+A1D q<=A2I ks
 |k::ks,h=>by
  rw[A2I];rcases Z0t.1 h with rfl|h
  .omega
  .have:=B3T h;omega
def C7A(k:A0a):A1D k=A2I k.kids:=by obtain⟨a,b,c,d,e,f⟩:=k;rw[A1D];rfl
def B8r{E:Nat->Int}:∀(r i:Nat),(∀j,i<=j->j<i+r->E j=0)->A7O E r i=0
 |0,i,_=>by rw[A7O]
 |r+1,i,h=>by rw[A7O,Z0d (h i (by omega) (by omega))];exact B8r r (i+1) λj h1 h2=>h j (by omega) (by omega)
section
variable {F:IdD->Option A0a} {L:List A0C} {uid:IdD}
def D8D(L:List A0C)(p:Int)(a c:Nat):A2T L p (a+c)=A2T L p a++(List.range' a c).filter λk:Nat=>decide (A2t L k=p):=by unfold A2T;have b:=Z2Q (s:=0) (m:=a) (n:=c);rw[Z0I]at b;rw[Z3N,<-b,Z2K,<-Z3N]
def B5J(a:(L.map A0C.id).Nodup):∀(ks:List A0a) (o:Nat) (p:Int) (pk:Int) (d:Nat) (B:List A0a),
 Blk L ks o p->-1<=p->p<o->(∀x∈A4Q ks,F x.id=some x/\x.id≠uid)->A4p F L p=pk->D1c pk (B++ks)->(∀k∈ks,d+1+A1D k<=8)->
 (∀f:Nat,p<f->A2C L f p=d)->(A2T L p o).length=B.length->(∀q∈A2T L p o,∃b∈B,A8V L q=b.label/\A4p F L q=b.kind)->
 ∀n,o<=n->n<o+A0f ks->B3K F uid L n=0
 |[],o,p,pk,d,B,_,_,_,_,_,_,_,_,_,_,n,h1,h2=>by rw[A0f]at h2;omega
 |k::ks,o,p,pk,d,B,h,hp1,hp,hF,hpk,hG,h8,hd,hb1,hb2,n,hn1,hn2=>by
  obtain⟨h1,h2,h3,h4⟩:=C0t h hp;have hk:=A0G k;have hs:=A0R (A0v k.kids);have hc:A0f (k::ks)=A0j k+A0f ks:=by rw[A0f]
  have z:=h.fit;have a0:=A3X k;obtain⟨l,y⟩:=hF k (by rw[A4Q];exact Z1K _ (B0w k));obtain⟨e1,e2,e3⟩:=hG.each k (by simp);have u:o<L.length:=by omega
  have hL:A8V L o=k.label:=by simp[A8V,h1]
  have hK:A4p F L o=k.kind:=by(have:¬((o:Int)<0):=by omega);simp[A4p,h1,this,l,B7m]
  have m:∀f:Nat,(o:Int)<f->A2C L f o=d+1:=λf hf=>by obtain⟨g,rfl⟩:∃g,f=g+1:=⟨f-1,by omega⟩;rw[A2C,Z0c (by omega),B3P h1];show A2C L g p+1=d+1;rw[hd g (by omega)]
  by_cases c1:n=o
  .subst c1;simp only[B3K,h1];(have q1:((L.take n).any λs=>decide (s.id=k.id))=false:=by rw[Z3c];intro s hs;simp only[Z0l];intro e;obtain⟨i,hi,rfl⟩:=Z2w.1 hs;rw[Z0E]at hi;rw[Z3Z]at e;(have t:L[n].id=k.id:=by have:=h1;rw[Z0m u]at this;rw[Z1Q this]);have:=(Z1O.1 a) i n (by simp;omega) (by simp;omega) (by omega);simp only[Z1R]at this;exact this (e.trans t.symm));(have q2:((A2T L p n).any (C0h F L n k.label))=false:=by rw[Z3c];intro q hq;obtain⟨b,hb,c,w⟩:=hb2 q hq;simp only[C0h,Z0g,Z0l,not_and];rw[c,w,hK];intro e5 e6;have:=(Z3i.1 hG.pair).2.2 b hb k (by simp);simp[A2W,e5,e6]at this);have q3:(A2T L p n).length<64:=by have:=hG.most;simp only[Z0r,Z0x]at this;omega
   (have q4:A2C L (n+1) n<=8:=by rw[m _ (by omega)];have:=h8 k (by simp);omega);have q5:¬p< -1:=by omega
   (have q6:¬(n:Int)<=p:=by omega);have q7:¬64<=(A2T L p n).length:=by omega
   (have q8:¬8<A2C L (n+1) n:=by omega);rw[hpk,hK]
   simp[l,y,q1,q2,q5,q6,e3,e1,q7,q8]
  by_cases c2:n<o+A0j k
  .refine B5J a (A1n k.kids) (o+1) o k.kind (d+1) [] h2 (by omega) (by omega) (λx hx=>?_) hK ?_ (λq hq=>?_) m ?_ ?_ n (by omega) (by omega)
   .obtain⟨q,hq,hx⟩:=B0x hx;exact hF x (A7K (k:=k) (B6g (A7K hx ((A0v k.kids).mem_iff.1 hq))) (by simp))
   .rw[Z1g];exact C0P (C0z e2)
   .have:=B3T ((A0v k.kids).mem_iff.1 hq);have:=C7A k;have:=h8 k (by simp);omega
   ·(have:A2T L o (o+1)=[]:=by unfold A2T;rw[Z1P];intro j hj;rw[Z1q]at hj;simp only[Z0l];intro e;have:=h4 j (by omega) e;omega);rw[this];rfl
   .intro q hq;have:=A7A hq;(have e:A2t L q=o:=by unfold A2T at hq;simpa using(Z1G.1 hq).2);have:=h4 q (by omega) e;omega
  ·(have r:A2T L p (o+A0j k)=A2T L p o++[o]:=by rw[D8D,show A0j k=A0f (A1n k.kids)+1 by omega,List.range'_succ,Z2a,Z0d (by simp[B3P h1])];congr 2;rw[Z1P];intro j hj;rw[Z3d]at hj;have:=h2.par (by omega) hj.1 hj.2;simp only[Z0l];omega);refine B5J a ks (o+A0j k) p pk d (B++[k]) h3 hp1 (by omega) (λx hx=>hF x (by rw[A4Q];exact Z2v _ hx)) hpk (by simpa using hG) (λq hq=>h8 q (by simp[hq])) hd ?_ ?_ n (by omega) (by omega)
   .rw[r];simp[hb1]
   .intro q hq;rw[r]at hq;rcases Z0P.1 hq with hq|hq
    .obtain⟨b,hb,c⟩:=hb2 q hq;exact⟨b,by simp[hb],c⟩
    .simp only[Z0t,Z1E,Z2H]at hq;subst hq;exact⟨k,by simp,hL,hK⟩
termination_by ks=>A0f ks
decreasing_by
 .rw[A0R (A0v k.kids),A0f,A0G k];omega
 .rw[A0f,A0G k];omega
end
def B7P(ks:List A0a)(o:Nat)(p:Int):(A7b ks o p).map A0C.id=A4n ks:=match ks with
 |[]=>by rw[A7b,A4n];rfl
 |k::ks=>by rw[A7b,A4n,Z0s,Z0Q,B7P (A1n k.kids),B7P ks];rfl
termination_by A0f ks
decreasing_by
 .rw[A0R (A0v k.kids),A0f,A0G k];omega
 .rw[A0f,A0G k];omega
def B6m:∀ks:List A0a,A2a ks=ks.flatMap A0T
 |[]=>by rw[A2a];rfl
 |k::ks=>by rw[A2a,B6m ks];rfl
def A6p{a b:List A0a}(h:a.Perm b):(A2a a).Perm (A2a b):=by rw[B6m,B6m];exact h.flatMap_right _
def A7I(ks:List A0a):(A4n ks).Perm (A2a ks):=match ks with
 |[]=>by rw[A4n,A2a]
 |k::ks=>by rw[A4n,A2a,A6y];exact((A7I (A1n k.kids)).trans (A6p (A0v k.kids))).cons _|>.append (A7I ks)
termination_by A0f ks
decreasing_by
 .rw[A0R (A0v k.kids),A0f,A0G k];omega
 .rw[A0f,A0G k];omega
def A8v(u:A0a):List A0C:=A4i (A1n u.kids) [] (-1)
def D8T(u:A0a):((A8v u).map A0C.id).Perm (A2a u.kids):=by unfold A8v;rw[A8g,Z1g,B7P];exact(A7I _).trans (A6p (A0v u.kids))
def C4B(u:A0a):(A8v u).length+1=A0j u:=by unfold A8v;rw[A8B,A0R (A0v u.kids),A0G u];simp;omega
def C3u{u x:A0a}(hn:(A0T u).Nodup)(hx:x∈A4Q u.kids):A1i x.id u=some x/\x.id≠u.id:=by refine⟨D0P hn (B6g hx),λe=>?_⟩;rw[A6y]at hn;rw[Z1A]at hn;obtain⟨k,hk,hx⟩:=B0x hx;refine hn.1 (B1Y (k:=k) ?_ hk);rw[<-e,<-A6E];exact Z2G hx
def A6e{u:A0a}(h:A3E u=true):u.kind=0/\A2c u=true/\A1D u<=8/\(A0T u).Nodup:=by simp only[A3E,C0F,Z0g,Z0l]at h;obtain⟨⟨c,⟨⟨hr,b⟩,hc⟩,d⟩,a⟩:=h;exact⟨c,hr,b,by have:=A7J (A0T u) [] Z4A a;simpa using this⟩
def C6U{ks:List A0a}{x:A0a}(h:x∈A4Q (A1n ks)):x∈A4Q ks:=by obtain⟨k,hk,hx⟩:=B0x h;exact A7K hx ((A0v ks).mem_iff.1 hk)
def B3m{u:A0a}(h:A3E u=true):A6i (λx=>A1i x u) u (A8v u)=0:=by
 obtain⟨h0,hr,h8,hn⟩:=A6e h;have c:(A2a u.kids).Nodup:=by rw[A6y,Z1A]at hn;exact hn.2
 have b:((A8v u).map A0C.id).Nodup:=(D8T u).nodup_iff.2 c;have d:=C4B u;have hG:=C0P (C0z hr);rw[h0]at hG;have a:=B5J (F:=λx=>A1i x u) (uid:=u.id) b (A1n u.kids) 0 (-1) 0 0 [] (C3L _) (by omega) (by omega) (λx hx=>C3u hn (C6U hx)) rfl hG (λk hk=>by have:=B3T ((A0v u.kids).mem_iff.1 hk);have:=C7A u;omega) (λf _=>by cases f<;>simp[A2C]) rfl (λq hq=>by have:=A7A hq;omega);rw[A0R (A0v u.kids)]at a;have e:=A0G u;unfold A6i;rw[h,B8r _ _ λj _ hj=>a j (by omega) (by omega)];simp;omega
def A9t{u:A0a}(hn:(A0T u).Nodup):A2L u (A8v u) []=(A1n u.kids).map A6R:=by unfold A2L A2o A8v;rw[D2T];exact B8v _ _ 0 (-1) (C3L _) (by omega) (λx hx=>(C3u hn (C6U hx)).1) (by omega)
def C7N{u:A0a}(h:A3E u=true)(a b:Int):A8G u (A8v u) [] a b=0\/A8G u (A8v u) [] a b=1\/A8G u (A8v u) [] a b=5\/A8G u (A8v u) [] a b=6:=by
 unfold A8G;rw[B3m h,Z0c (by simp)];split
 .simp
 split
 .simp
 rw[A9t (A6e h).2.2.2];have key:∀(ts:List A4Z) (e:Int),(∀t∈ts,t.2.2=0\/t.2.2=6)->(e=0\/e=6)->A6X ts e=0\/A6X ts e=6:=by
  intro ts;induction ts with
  |nil=>intro e _ he;exact he
  |cons t ts ih=>
   intro e ht he;refine ih _ (λt h=>ht t (by simp[h])) (C7L he ?_);unfold C5e;split
   .exact ht t (by simp)
   .simp
 unfold C4a;split
 .simp
 rcases key ((A1n u.kids).map A6R) 0 (λt ht=>by obtain⟨k,_,rfl⟩:=Z0G.1 ht;exact D4y k) (.inl rfl)with e|e<;>simp[e]
def B2Z{x:IdD}:∀{ks:List A0a},x∈A2a ks->∃p,A3D x ks=some p
 |[],h=>by rw[A2a]at h;simp at h
 |.mk id a b c d ks2::ks,h=>by
  rw[A3D,A4P];rw[A2a,A0T]at h;by_cases e:id=x
  .rw[Z0d e];exact⟨_,rfl⟩
  rw[Z0c e];by_cases h2:x∈A2a ks2
  .obtain⟨p,hp⟩:=B2Z h2;rw[hp];exact⟨_,rfl⟩
  have h3:x∈A2a ks:=by
   rcases Z0P.1 h with h|h
   .rcases Z0t.1 h with h|h
    .exact absurd h.symm e
    .exact absurd h h2
   .exact h
  obtain⟨p,hp⟩:=B2Z h3;rw[hp];cases A3D x ks2<;>exact⟨_,rfl⟩
def B2Q{x:IdD}{k:A0a}(h:k.id≠x):A4P x k=A3D x k.kids:=by obtain⟨a,b,c,d,e,f⟩:=k;rw[A4P];exact Z0c h
def C2A{x:IdD}{a b:List A0a}(h:a.Perm b):(A2a a).Nodup->A3D x a=A3D x b:=by
 induction h with
 |nil=>intro _;rfl
 |cons k _ ih=>intro hn;rw[A2a,Z1J]at hn;rw[A3D,A3D,ih hn.2.1]
 |swap k q l=>
  intro hn;rw[A3D,A3D,A3D,A3D];cases e:A4P x q with
  |none=>rfl
  |some p=>
   (have hx:x∈A0T q:=Z1p λhc=>by rw[A6t x q hc]at e;simp at e);have hk:x∉A0T k:=λhc=>by rw[A2a,A2a,Z1J]at hn;exact hn.2.2 x hx x (Z1K _ hc) rfl
   rw[A6t x k hk]
 |trans h1 _ ih1 ih2=>intro hn;rw[ih1 hn,ih2 ((A6p h1).nodup_iff.1 hn)]
def B1Z(ks:List A0a):A0f (A2J ks)=A0f ks:=match ks with
 |[]=>by rw[A2J]
 |k::ks=>by rw[A2J,A0f,A0f,A0j,B1Z (A1n k.kids),B1Z ks,A0R (A0v k.kids),A0G k]
termination_by A0f ks
decreasing_by
 .rw[A0R (A0v k.kids),A0f,A0G k];omega
 .rw[A0f,A0G k];omega
def A9p(k:A0a):A0j (A5g k)=A0j k:=by
 have h1:∀k:A0a,A0f [k]=A0j k:=λk=>by rw[A0f,A0f];rfl
 have:=B1Z [k];rw[A3z,show A2J []=[]by rw[A2J],h1,h1]at this;exact this
def A7Z(ks:List A0a):(A4n ks).length=A0f ks:=by have:=(A4t ks 0 (-1));rw[<-Z0K (f:=A0C.id),B7P]at this;exact this
def A4Y(k:A0a):(A9C k).length=A0j k:=by rw[A9C,Z0x,A7Z,A0R (A0v k.kids),A0G k];omega
def C7F{k:A0a}{x:IdD}:x∈A9C k<->x∈A0T k:=by rw[A9C,A6y,Z0t,Z0t,(A7I _).mem_iff,(A6p (A0v k.kids)).mem_iff]
def B5Q(a i:Int)(ks:List A0a)(n w m:Nat)(hn:(A2a ks).Nodup)(hm:m<(A4n ks).length):A3D ⟨a,i,((n+m+1:Nat):Int)⟩ (A1A a i (A2J ks) n w)=A3D (A4n ks)[m] ks:=match ks with
 |[]=>by rw[A4n]at hm;simp at hm
 |k::ks=>by
  have hk:=A0G k;have hs:=A0R (A0v k.kids);have f:=hn;rw[A2a,Z1J]at f;obtain⟨n1,n2,n3⟩:=f;have s:m<A0f (k::ks):=by rw[A7Z]at hm;exact hm
  rw[A0f]at s;have j:(A2a (A1n k.kids)).Nodup:=by rw[A6y,Z1A]at n1;exact(A6p (A0v k.kids)).nodup_iff.2 n1.2
  rw[A3z,A1A,A3D];have d:(A1B a i (A5g k) n w).kind=k.kind/\(A1B a i (A5g k) n w).label=k.label:=A6x a i (A5g k) n w;rw[d.1,d.2];have l:(A1B a i (A5g k) n w).id=⟨a,i,((n+1:Nat):Int)⟩:=by unfold A5g;rw[A1B];rfl
  by_cases c:m<A0j k
  ·(have e0:(A4n (k::ks))[m]=(A9C k)[m]'(by rw[A4Y];exact c):=by simp only[A7q];exact Z4j _);have key:A4P ⟨a,i,((n+m+1:Nat):Int)⟩ (A1B a i (A5g k) n w)=A4P ((A9C k)[m]'(by rw[A4Y];exact c)) k:=by
    match m,c with
    |0,c=>have e1:(A9C k)[0]'(by rw[A4Y];exact c)=k.id:=rfl;rw[e1];(have w1:∀y:A0a,A4P y.id y=some []:=λy=>by obtain⟨q1,q2,q3,q4,q5,q6⟩:=y;rw[A4P];exact Z0d rfl);rw[w1];have:=w1 (A1B a i (A5g k) n w);rw[l]at this;exact this
    |m+1,c=>have e1:(A9C k)[m+1]'(by rw[A4Y];exact c)=(A4n (A1n k.kids))[m]'(by rw[A7Z];omega):=rfl;(have o:k.id≠(A4n (A1n k.kids))[m]'(by rw[A7Z];omega):=λe=>by rw[A6y,Z1A]at n1;refine n1.1 ?_;rw[e];exact(A6p (A0v k.kids)).mem_iff.1 ((A7I _).mem_iff.1 (Z0q _)));(have g:(A1B a i (A5g k) n w).id≠⟨a,i,((n+(m+1)+1:Nat):Int)⟩:=by rw[l];intro e;have:=congrArg IdD.n e;simp only at this;omega);rw[B2Q g,e1,B2Q o];(have b:(A1B a i (A5g k) n w).kids=A1A a i (A2J (A1n k.kids)) (n+1) (w+(k.head.map λh=>A1O h.text).length+((A0N k.words).map A1O).length):=by unfold A5g;rw[A1B];rfl);have ih:=B5Q a i (A1n k.kids) (n+1) (w+(k.head.map λh=>A1O h.text).length+((A0N k.words).map A1O).length) m j (by rw[A7Z];omega);rw[b,show n+(m+1)+1=n+1+m+1 by omega,ih];exact C2A (A0v k.kids) j
   rw[key,e0,A3D];have hx:(A9C k)[m]'(by rw[A4Y];exact c)∈A0T k:=C7F.1 (Z0q _);obtain⟨p,hp⟩:∃p,A4P ((A9C k)[m]'(by rw[A4Y];exact c)) k=some p:=by
    have:=B2Z (x:=(A9C k)[m]'(by rw[A4Y];exact c)) (ks:=[k]) (by rw[A2a];exact Z1K _ hx);obtain⟨p,hp⟩:=this;rw[A3D]at hp;cases e:A4P ((A9C k)[m]'(by rw[A4Y];exact c)) k with
    |some q=>exact⟨q,rfl⟩
    |none=>rw[e]at hp;rw[A3D]at hp;simp at hp
   rw[hp]
  ·(have e0:(A4n (k::ks))[m]=(A4n ks)[m-A0j k]'(by rw[A7Z];omega):=by simp only[A7q];rw[Z2P (by rw[A4Y];omega)];simp only[A4Y]);have r:(A4n ks)[m-A0j k]'(by rw[A7Z];omega)∈A2a ks:=(A7I ks).mem_iff.1 (Z0q _);have hx:(A4n ks)[m-A0j k]'(by rw[A7Z];omega)∉A0T k:=λhc=>n3 _ hc _ r rfl;have hy:(⟨a,i,((n+m+1:Nat):Int)⟩:IdD)∉A0T (A1B a i (A5g k) n w):=λhc=>by rw[A7a,A9p]at hc;unfold B4f at hc;obtain⟨q,hq,e⟩:=Z0G.1 hc;rw[Z3d]at hq;have:=congrArg IdD.n e;simp only at this;omega
   have ih:=B5Q a i ks (n+A0j k) (w+wcU (A5g k)) (m-A0j k) n2 (by rw[A7Z];omega);rw[A6t _ _ hy,e0,A3D,A6t _ _ hx,A9p,<-ih,show n+A0j k+(m-A0j k)+1=n+m+1 by omega]
termination_by A0f ks
decreasing_by
 .rw[A0R (A0v k.kids),A0f,A0G k];omega
 .rw[A0f,A0G k];omega
def D1o(a:Int):∀(ks:List A0a) (j:Nat),(A2a ks).Nodup->∀z∈A4G a (ks.map A9C) j,A3D z.2 (A1q a (ks.map A6R) j)=A3D z.1 ks
 |[],j,_,z,hz=>by simp[A4G]at hz
 |k::ks,j,hn,z,hz=>by
  rw[A2a,Z1J]at hn;obtain⟨n1,n2,n3⟩:=hn;rw[Z0s,A4G]at hz;rw[Z0s,A1q,A3D,A3D];have d:=A6x a (j:Nat) (A6R k).1 0 0;rcases Z0P.1 hz with hz|hz
  .obtain⟨⟨x,m⟩,hx,rfl⟩:=Z0G.1 hz;obtain⟨h1,h2⟩:=List.mem_zipIdx' hx;have hs:=B5Q a (j:Nat) [k] 0 0 m (by rw[A2a,A2a,Z1b];exact n1) (by rw[A7q,A4n,Z1b];exact h1);(have e1:(A4n [k])[m]'(by rw[A7q,A4n,Z1b];exact h1)=x:=by simp only[A7q,A4n,Z1b];exact h2.symm);rw[e1,A3z,show A2J []=[]by rw[A2J],A1A,A1A,A3D,A3D,A3D,A3D]at hs;have c:x∈A0T k:=C7F.1 (h2▸Z0q _);(have hy:(⟨a,(j:Nat),(m:Int)+1⟩:IdD)=⟨a,(j:Nat),((0+m+1:Nat):Int)⟩:=by congr 1;omega);show(match A4P (⟨a,(j:Nat),(m:Int)+1⟩:IdD) (A1B a (j:Nat) (A5g k) 0 0)with|some p=>_|none=>_)=_;rw[hy];obtain⟨p,hp⟩:=B2Z (x:=x) (ks:=[k]) (by rw[A2a];exact Z1K _ c);rw[A3D,A3D]at hp;cases e2:A4P x k with
   |none=>rw[e2]at hp;simp at hp
   |some q=>
    rw[e2]at hs;cases e3:A4P ⟨a,(j:Nat),((0+m+1:Nat):Int)⟩ (A1B a (j:Nat) (A5g k) 0 0)with
    |none=>rw[e3]at hs;simp at hs
    |some q'=>rw[e3]at hs;exact hs
  ·(have b:z.1∈A2a ks:=by have:z.1∈(A4G a (ks.map A9C) (j+1)).map (·.1):=Z2G hz;rw[A8p,Z2s]at this;rw[<-(A7I ks).mem_iff,B2X];exact this);have hx:z.1∉A0T k:=λhc=>n3 _ hc _ b rfl;have hy:z.2∉A0T (A1B a (j:Nat) (A6R k).1 0 0):=λhc=>by rw[A7a]at hc;have h1:=(B1H hc).2;(have h2:z.2∈(A4G a ((ks.map A6R).map (·.2.1)) (j+1)).map (·.2):=by rw[Z1s];exact Z2G hz);rw[B2N a (ks.map A6R) (j+1) (λt ht=>by obtain⟨q,_,rfl⟩:=Z0G.1 ht;show A0j (A5g q)=(A9C q).length;rw[A9p,A4Y])]at h2;have h3:=((A8W a (ks.map A6R) (j+1)).2 _ h2).2;omega
   rw[A6t _ _ hy,A6t _ _ hx];exact D1o a ks (j+1) n2 z hz
mutual
def B6N:A0a->Prop
 |.mk _ _ _ _ _ ks=>B0u ks/\A9o ks
def A9o:List A0a->Prop
 |[]=>True
 |k::ks=>(A0B k.label=true/\B6N k)/\A9o ks
end
def C2D:∀{l:List A0a},A9o l<->∀u∈l,A0B u.label=true/\B6N u
 |[]=>by simp[A9o]
 |u::l=>by simp[A9o,C2D (l:=l)]
def B5X(u:A0a):B6N u<->B0u u.kids/\A9o u.kids:=by obtain⟨a,b,c,d,e,f⟩:=u;rw[B6N];rfl
def C0s{a b:List A0a}(h:a.map A4w=b.map A4w)(hb:B0u b):B0u a:=by unfold B0u at*;rw[<-Z3x (f:=A4w) (R:=ltK)]at hb|-;rw[h];exact hb
def D5U{x y:A0a}(hk:x.kind=y.kind)(hl:x.label=y.label):A4w x=A4w y:=by unfold A4w;rw[hk,hl]
def B2t(a i:Int):∀(ks:List A0a) (n w:Nat),(A1A a i ks n w).map A4w=ks.map A4w
 |[],n,w=>by rw[A1A]
 |k::ks,n,w=>by rw[A1A,Z0s,Z0s,B2t a i ks,D5U (A6x a i k n w).1 (A6x a i k n w).2]
def B8W(ks:List A0a):(A2J ks).map A4w=ks.map A4w:=by rw[B2H,Z1s];rfl
def B2W{k:A0a}(h:B4B k):A6Y (A1n k.kids)/\B0u (A1n k.kids):=by obtain⟨a,b,c,d,e,ks⟩:=k;rw[B4B]at h;exact⟨B0g.2 λu hu=>B0g.1 h.1 u ((A0v ks).mem_iff.1 hu),B6p ks h.2⟩
def B3S(a i:Int)(ks:List A0a)(n w:Nat)(h:A6Y ks):A9o (A1A a i (A2J ks) n w):=match ks with
 |[]=>by rw[A2J,A1A,A9o];trivial
 |k::ks=>by rw[A6Y]at h;obtain⟨⟨h1,h2⟩,h3⟩:=h;obtain⟨q1,q2⟩:=B2W h2;rw[A3z,A1A,A9o];refine⟨⟨by rw[(A6x a i (A5g k) n w).2];exact h1,?_⟩,B3S a i ks _ _ h3⟩;unfold A5g;rw[A1B,B6N];refine⟨C0s ?_ q2,B3S a i (A1n k.kids) _ _ q1⟩;rw[B2t,B8W]
termination_by A0f ks
decreasing_by
 .rw[A0R (A0v k.kids),A0f,A0G k];omega
 .rw[A0f,A0G k];omega
def B5e(a:Int):∀(ts:List A4Z) (j:Nat),(A1q a ts j).map A4w=ts.map λt=>A4w t.1
 |[],j=>rfl
 |t::ts,j=>by rw[A1q,Z0s,Z0s,B5e a ts,D5U (A6x a (j:Nat) t.1 0 0).1 (A6x a (j:Nat) t.1 0 0).2]
def B4F(a:Int):∀(ks:List A0a) (j:Nat),A6Y ks->A9o (A1q a (ks.map A6R) j)
 |[],j,_=>by rw[Z2c,A1q,A9o];trivial
 |k::ks,j,h=>by rw[A6Y]at h;have:=B3S a (j:Nat) [k] 0 0 (by rw[A6Y,A6Y];exact⟨h.1,trivial⟩);rw[A3z,show A2J []=[]by rw[A2J],A1A,A1A,A9o,A9o]at this;rw[Z0s,A1q,A9o];exact⟨this.1,B4F a ks (j+1) h.2⟩
mutual
def A3M:A0a->A0a
 |.mk _ k l h ws ks=>.mk idZ k l (h.map λw=>A1O w.text) (ws.map λw=>A1O w.text) (A4j ks)
def A4j:List A0a->List A0a
 |[]=>[]
 |k::ks=>A3M k::A4j ks
end
def B3L:∀ks:List A0a,A4j ks=ks.map A3M
 |[]=>by rw[A4j];rfl
 |k::ks=>by rw[A4j,B3L ks];rfl
def B0n(a i:Int):∀(l:List ByteArray) (n:Nat),(A4c a i n l).map (λw=>A1O w.text)=l.map A1O
 |[],n=>rfl
 |s::l,n=>by rw[A4c,Z0s,B0n a i l (n+1)];rfl
def B0e(l:List A0H):(A0N l).map A1O=l.map λw=>A1O w.text:=by simp[A0N]
mutual
def B6v(a i:Int):∀(t:A0a) (n w:Nat),A3M (A1B a i t n w)=A3M t
 |.mk id k l h ws ks,n,w=>by rw[A1B,A3M,A3M,B0n,B0n,B0e,B0e,B4X a i ks]
def B4X(a i:Int):∀(ks:List A0a) (n w:Nat),A4j (A1A a i ks n w)=A4j ks
 |[],n,w=>by rw[A1A]
 |k::ks,n,w=>by rw[A1A,A4j,A4j,B6v a i k,B4X a i ks]
end
def B2w(l:List A0H):(l.map λw=>A1O w.text).map (λw=>A1O w.text)=l.map λw=>A1O w.text:=by simp[A1O]
def B0T(ks:List A0a):A4j (A2J ks)=A2J ks:=match ks with
 |[]=>by rw[A2J,A4j]
 |k::ks=>by rw[A2J,A4j,A3M,B0T (A1n k.kids),B0T ks,B0e,B2w,B2w]
termination_by A0f ks
decreasing_by
 .rw[A0R (A0v k.kids),A0f,A0G k];omega
 .rw[A0f,A0G k];omega
def C5V{l:List A0a}(h:B0u l):A1n l=l:=by refine C0x (A0v l) (B6p l ?_) h;refine List.Pairwise.imp ?_ h;intro a b hl e;rw[e]at hl;exact C0A _ hl
def B3V(a i:Int)(ks:List A0a)(n w:Nat)(h:A6Y ks):A2J (A1A a i (A2J ks) n w)=A2J ks:=match ks with
 |[]=>by rw[A2J,A1A,A2J]
 |k::ks=>by
  rw[A6Y]at h;obtain⟨⟨h1,h2⟩,h3⟩:=h;obtain⟨q1,q2⟩:=B2W h2;rw[A3z,A1A,A3z,B3V a i ks _ _ h3];congr 1;unfold A5g;rw[A1B];have hs:B0u (A1A a i (A2J (A1n k.kids)) (n+1) (w+(k.head.map λh=>A1O h.text).length+((A0N k.words).map A1O).length)):=C0s (by rw[B2t,B8W]) q2;show A0a.mk idZ k.kind k.label _ _ (A2J (A1n (A1A a i (A2J (A1n k.kids)) (n+1) (w+(k.head.map λh=>A1O h.text).length+((A0N k.words).map A1O).length))))=_;rw[C5V hs,B3V a i (A1n k.kids) _ _ q1];congr 1
  .show(A4c a i w (A0N (k.head.map λh=>A1O h.text))).map (λh=>A1O h.text)=_;rw[B0n,B0e,B2w]
  .show(A0N (A4c a i (w+(k.head.map λh=>A1O h.text).length) (A0N ((A0N k.words).map A1O)))).map A1O=_;rw[B0e,B0n,D8h]
termination_by A0f ks
decreasing_by
 .rw[A0f,A0G k];omega
 .rw[A0R (A0v k.kids),A0f,A0G k];omega
def A9A(a:Int):∀(ts:List A4Z) (j:Nat),A4j (A1q a ts j)=A4j (ts.map (·.1))
 |[],j=>rfl
 |t::ts,j=>by rw[A1q,A4j,Z0s,A4j,B6v,A9A a ts]
def B4N(a:Int):∀(ks:List A0a) (j:Nat),A6Y ks->A2J (A1q a (ks.map A6R) j)=A2J ks
 |[],j,_=>rfl
 |k::ks,j,h=>by rw[A6Y]at h;have:=B3V a (j:Nat) [k] 0 0 (by rw[A6Y,A6Y];exact⟨h.1,trivial⟩);rw[A3z,show A2J []=[]by rw[A2J],A1A,A1A,A3z,show A2J []=[]by rw[A2J]]at this;rw[Z0s,A1q,A3z,A3z,B4N a ks (j+1) h.2];congr 1;exact(List.cons.inj this).1
def C3v(ks:List A0a):(ks.map A6R).map (·.1)=A2J ks:=by rw[B2H,Z1s];rfl
def C2E(u:A0a):A3M u=.mk idZ u.kind u.label (u.head.map λw=>A1O w.text) (u.words.map λw=>A1O w.text) (A4j u.kids):=by obtain⟨a,b,c,d,e,f⟩:=u;rw[A3M];rfl
section
variable {u:A0a}
def A5C(u:A0a)(number:Int):A0a:=A3x u number ((A1n u.kids).map A6R)
def A8E(a:Int):(A5C u a).kids=A1q a ((A1n u.kids).map A6R) u.kids.length:=rfl
def B9U(h:A3E u=true)(a:Int):B6N (A5C u a):=by have hl:=B7J u (A6e h).2.1;obtain⟨q1,q2⟩:=B2W hl;rw[B5X,A8E];refine⟨C0s ?_ q2,B4F a _ _ q1⟩;rw[B5e,Z1s];rfl
def C5m(h:A3E u=true)(a n2:Int):A3M (A5C (A5C u a) n2)=A3M (A5C u a):=by
 have hl:=B7J u (A6e h).2.1;obtain⟨q1,q2⟩:=B2W hl;have hr:=(B5X _).1 (B9U h a);have hs:=C5V hr.1;have e1:A4j (A5C u a).kids=A2J (A1n u.kids):=by rw[A8E,A9A,C3v,B0T]
 have e2:A4j (A5C (A5C u a) n2).kids=A2J (A1n u.kids):=by rw[A8E (u:=A5C u a),A9A,C3v,B0T,hs,A8E,B4N a _ _ q1]
 rw[C2E,C2E (A5C u a),e1,e2];rfl
def D3o(h:A3E u=true)(h0:u.id=idZ)(a:Int)(hn:1<=a):∀z∈A5F a u ((A1n u.kids).map A6R),A6A (A5C u a) z.2=A6A u z.1:=by
 obtain⟨-,-,-,f⟩:=A6e h;intro z hz;unfold A5F at hz;obtain⟨x,hx,hz⟩:=Z2W.1 hz;have hz:=(Z1G.1 hz).1;unfold A7Q at hz;rw[Z1s]at hz;have b:=f;rw[A6y,Z1A]at b;have c:(A2a (A1n u.kids)).Nodup:=(A6p (A0v u.kids)).nodup_iff.2 b.2;have hw:=D1o a (A1n u.kids) u.kids.length c z hz;have g:z.1∈A2a u.kids:=by have:z.1∈(A4G a ((A1n u.kids).map A9C) u.kids.length).map (·.1):=Z2G hz;rw[A8p,Z2s]at this;rw[<-(A6p (A0v u.kids)).mem_iff,<-(A7I _).mem_iff,B2X];exact this
 have d:z.2∈A2a (A1q a ((A1n u.kids).map A6R) u.kids.length):=by rw[<-B2N a _ _ (λt ht=>by obtain⟨q,_,rfl⟩:=Z0G.1 ht;show A0j (A5g q)=(A9C q).length;rw[A9p,A4Y]),Z1s];exact Z2G hz
 have n1:u.id≠z.1:=λe=>b.1 (e▸g);have n2:(A5C u a).id≠z.2:=λe=>by have h1:=((A8W a _ _).2 _ d).1;rw[<-e]at h1;have h2:(A5C u a).id=u.id:=rfl;rw[h2,h0]at h1;simp only[idZ]at h1;omega
 unfold A6A;rw[B2Q n1,B2Q n2,A8E,hw,C2A (A0v u.kids) c]
end
open Go.Proofs TryTypes
section
variable (gl:Nat->AV)
end
open Go.Proofs TryTypes Tryz
def D4D:prog.stoodInHeld 152=false:=by kernel_rfl
def D5D:prog.stoodInHeld 150=false:=by kernel_rfl
def D0b:prog.eqGuardType prog.depth 152=false:=by kernel_rfl
def D7I(w:A0H):A1z prog .neq 152 (.agg w.row) (.agg w.row)=some (B false):=by
 have h0:A2O prog .neq 152 (.agg w.row) (.agg w.row)=none:=by simp[A2O,A3I]
 have h1:A8a prog 30 152 (.agg w.row) (.agg w.row)=some true:=by simp[A8a,A2N,A0k,D4D,D5D,A0H.row]
 simp only[A1z,h0,A4s,D0b,h1];rfl
def E4U(x:IdD):A1z prog .neq 23 (.agg [I x.act,I x.item,I x.n]) (.agg [I x.act,I x.item,I x.n])=some (B false):=by
 have h0:A2O prog .neq 23 (.agg [I x.act,I x.item,I x.n]) (.agg [I x.act,I x.item,I x.n])=none:=by simp[A2O,A3I]
 have h1:A8a prog 30 23 (.agg [I x.act,I x.item,I x.n]) (.agg [I x.act,I x.item,I x.n])=some true:=by simp[A8a,A2N,A0k,B7Q]
 simp only[A1z,h0,A4s,B6f,h1];rfl
def D8S:prog.stoodInHeld 79=false:=by kernel_rfl
def D2p:prog.eqGuardType prog.depth 79=false:=by kernel_rfl
section
variable (gl:Nat->AV)
def B6D(ws:List A0H)(M:Mem)(hl:ws.length<=maxLen):A0c (WC gl) 78 [.list 4 (A0g ws) .no,.list 4 (A0g ws) .no] M (λv M'=>v=B true/\M'=M):=by
 have hl:ws.length<=9223372036854775807:=hl;refine A0o hB func78 ?_;simp -dsimp -implicitDefEqProofs;refine A0y hB ws.length 5 (λT M1=>∃i:Nat,i<=ws.length/\M1=M/\T 0=.list 4 (A0g ws) .no/\T 1=.list 4 (A0g ws) .no/\T 5=I i) ?_ ?_
 .exact⟨0,by omega,rfl,by simp,by simp,by simp⟩
 rintro T M1 ⟨i,i1,rfl,t0,t1,t5⟩;by_cases hi:i<ws.length
 .have a:(i:Int)<ws.length:=by omega
  have w1:IntKind.i64.wrap ((i:Int)+1)=(i+1:Nat):=by rw[A0J (by omega) (by omega)];omega
  have hn:=D7I ws[i];simp only[A0H.row]at hn;simp -dsimp -implicitDefEqProofs[t0,t1,t5,a];refine A0X hB (A0t gl) (λ_=>0) (λ_=>0) (by rfl) (by kernel_rfl) ?_;simp -dsimp -implicitDefEqProofs[t0,t1,t5,hi,a,A0H.row,hn,w1];exact⟨⟨i+1,by clear w1;omega,rfl⟩,by clear w1;omega⟩
 .have a:¬(i:Int)<ws.length:=by omega
  simp -dsimp -implicitDefEqProofs[t0,t1,t5,a]
def B7k:∀(u:A0a) (M:Mem),u.good->A0c (WC gl) 25 [.agg u.row,.agg u.row] M (λv M'=>v=B true/\M'=M)
 |.mk id kind lab hd ws ks,M,hg=>by
  obtain⟨_,_,o,d,m,f,l,g,e⟩:=(A0a.good_iff _).1 hg;have e:∀k∈ks,k.good:=e;have d:hd.length<=maxLen:=d;have f:ws.length<=maxLen:=f;have g:ks.length<=9223372036854775807:=g;have h:(A0a.mk id kind lab hd ws ks).row=[I id.act,I id.item,I id.n,I kind,S lab,.list 4 (A0g hd) .no,.list 4 (A0g ws) .no,.list 8 (A0q ks) .no]:=by rw[A0a.row]
  have hn:=E4U id;rw[h];refine A0o hB func25 ?_;simp -dsimp -implicitDefEqProofs[hn];refine A0i func78 (B6D gl hd M d) ?_;simp -dsimp -implicitDefEqProofs;refine A0i func78 (B6D gl ws M f) ?_;simp -dsimp -implicitDefEqProofs;refine A0y hB ks.length 5 (λT M1=>∃i:Nat,i<=ks.length/\M1=M/\T 2=.cptr [I id.act,I id.item,I id.n,I kind,S lab,.list 4 (A0g hd) .no,.list 4 (A0g ws) .no,.list 8 (A0q ks) .no]/\T 3=.cptr [I id.act,I id.item,I id.n,I kind,S lab,.list 4 (A0g hd) .no,.list 4 (A0g ws) .no,.list 8 (A0q ks) .no]/\T 5=I i) ?_ ?_
  .exact⟨0,by omega,rfl,by simp,by simp,by simp⟩
  rintro T M1 ⟨i,i1,rfl,t2,t3,t5⟩;by_cases hi:i<ks.length;case neg=>(have a:¬(i:Int)<ks.length:=by omega);simp -dsimp -implicitDefEqProofs[t2,t3,t5,a]
  have a:(i:Int)<ks.length:=by omega
  have w1:IntKind.i64.wrap ((i:Int)+1)=(i+1:Nat):=by rw[A0J (by omega) (by omega)];omega
  have c:ks[i]∈ks:=Z0q hi;have:=A0a.kid_lt (u:=.mk id kind lab hd ws ks) c;have b:=λM=>B7k ks[i] M (e _ c);obtain⟨X,hX⟩:∃X,X=ks[i]:=⟨_,rfl⟩;have j:ks[i].row=[I X.id.act,I X.id.item,I X.id.n,I X.kind,S X.label,.list 4 (A0g X.head) .no,.list 4 (A0g X.words) .no,.list 8 (A0q X.kids) .no]:=by rw[<-hX];exact X.row_eq
  simp only[j]at b;simp -dsimp -implicitDefEqProofs[t2,t3,t5,a];refine A0X hB (A0t gl) (λ_=>0) (λ_=>0) (by rfl) (by kernel_rfl) ?_;simp -dsimp -implicitDefEqProofs[t2,t3,t5,hi,a,j];refine A1G func25 b ?_;simp -dsimp -implicitDefEqProofs[t2,t3,t5,w1];exact⟨⟨i+1,by clear w1;omega,rfl⟩,by clear w1;omega⟩
termination_by u=>SizeOf.sizeOf u
end
mutual
def C0D:∀(u:A0a) (b a:Int),B0i u b a<=a->B0i u b a=A0j u
 |.mk _ _ _ _ _ ks,b,a,h=>by
  rw[B0i]at h|-;rw[A0j];by_cases c:20<b
  .rw[Z0d c]at h;omega
  .rw[Z0c c]at h|-;have:=B6T ks b a 1 h;omega
def B6T:∀(ks:List A0a) (b a n:Int),A8r ks b a n<=a->A8r ks b a n=n+A0f ks
 |[],b,a,n,h=>by rw[A8r,A0f];omega
 |k::ks,b,a,n,h=>by
  rw[A8r]at h|-;rw[A0f];by_cases c:n<=a
  .rw[Z0d c]at h|-;have h1:=B6T ks b a _ h;have h2:=C0D k (b+1) (a-n) (by omega);omega
  .rw[Z0c c]at h;omega
end
def B8b{l}(h:A8u l=true):l.length<=300:=by simp only[A8u,Z0g,Z0l]at h;exact h.2
mutual
def C0N:∀u:A0a,B2D u=true->A0j u<=1000->u.lims
 |.mk id k l h w ks,hw,hc=>by rw[B2D]at hw;simp only[Z0g,Z0l]at hw;obtain⟨⟨⟨h1,h2⟩,h3⟩,h4⟩:=hw;rw[A0j]at hc;have:=A1Q ks;rw[A0a.lims];exact⟨⟨Z0X (B8b h2) (by omega),Z0X (B8b h3) (by omega),by show ks.length<=1000;omega,by show l.size<=1000;omega⟩,B6A ks h4 (by omega)⟩
def B6A:∀ks:List A0a,B0M ks=true->A0f ks<=1000->A5s ks
 |[],_,_=>by rw[A5s];trivial
 |k::ks,hw,hc=>by rw[B0M,Z0g]at hw;rw[A0f]at hc;rw[A5s];exact⟨C0N k hw.1 (by omega),B6A ks hw.2 (by omega)⟩
end
def D7W(u:A0a)(hg:u.good)(h:B7q u 30=true):Fit u/\A0j u<=30:=by
 simp only[B7q,Z0g,Z0l]at h;have:=C0D u 0 30 h.1;have hc:A0j u<=30:=by omega
 exact⟨⟨hg,C0N u h.2 (by omega),by omega⟩,hc⟩
def B9r(u:A0a)(l:List A0C)(s:List A2m):Bool:=B7q u 30&&decide (l.length<=40)&&decide (s.length<=60)&&(l.all λs=>decide (s.label.size<=100))&&s.all λm=>decide (m.to.length<=40)
section
variable (gl:Nat->AV)
def D1L(u:A0a)(l:List A0C)(s:List A2m)(M:Mem)(hg:u.good)(hl:l.length<=maxLen)(hs:s.length<=maxLen):A0c (WC gl) 11 [.agg u.row,.list 5 (A1U l) .no,.list 5 (A4g s) .no] M (λv M'=>v=B (B9r u l s)/\M'=M):=by
 have o:l.length<=9223372036854775807:=by simpa[maxLen]using hl
 have n:s.length<=9223372036854775807:=by simpa[maxLen]using hs
 have hf:=D5G gl u 30 M hg (by omega) (by omega);obtain⟨R,hR⟩:∃R,R=B9r u l s:=⟨_,rfl⟩;have a:R=(B7q u 30&&decide (l.length<=40)&&decide (s.length<=60)&&(l.all λs=>decide (s.label.size<=100))&&s.all λm=>decide (m.to.length<=40)):=hR;rw[<-hR];rw[u.row_eq]at hf|-;refine A0o hB func11 ?_;simp -dsimp -implicitDefEqProofs;refine A0i func46 hf ?_;cases c1:B7q u 30 with
 |false=>rw[c1]at a;simp only[Z0B]at a;simp -dsimp -implicitDefEqProofs[a]
 |true=>
 rw[c1,Z0A]at a;by_cases c2:l.length<=40;case neg=>
  have d:(40:Int)<l.length:=by omega
  have g:(l.length:Int)>40:=d;rw[Z0y c2]at a;simp only[Z0B]at a;simp -dsimp -implicitDefEqProofs[d,g,a]
 have d:¬(40:Int)<l.length:=by omega
 have g:¬(l.length:Int)>40:=d;rw[Z0v c2,Z0A]at a;by_cases c4:s.length<=60;case neg=>
  have e:(60:Int)<s.length:=by omega
  have k:(s.length:Int)>60:=e;rw[Z0y c4]at a;simp only[Z0B]at a;simp -dsimp -implicitDefEqProofs[d,g,e,k,a]
 have e:¬(60:Int)<s.length:=by omega
 have k:¬(s.length:Int)>60:=e;rw[Z0v c4,Z0A]at a;simp -dsimp -implicitDefEqProofs[d,g,e,k];refine A0y hB l.length 7 (λT M1=>∃i:Nat,i<=l.length/\M1=M/\T 1=.list 5 (A1U l) .no/\T 2=.list 5 (A4g s) .no/\T 7=I i/\R=(((l.drop i).all λs=>decide (s.label.size<=100))&&s.all λm=>decide (m.to.length<=40))) ?_ ?_
 .exact⟨0,by omega,rfl,by simp,by simp,by simp,by simpa using a⟩
 rintro T M1 ⟨i,i1,rfl,t1,t2,t7,ho⟩;by_cases hi:i<l.length;case neg=>
  have f:¬(i:Int)<l.length:=by omega
  rw[show l.drop i=[]from Z0o (by omega),Z3L,Z0A]at ho;simp -dsimp -implicitDefEqProofs[t1,t2,t7,f];refine A0y hB s.length 8 (λT M2=>∃j:Nat,j<=s.length/\M2=M1/\T 2=.list 5 (A4g s) .no/\T 8=I j/\R=(s.drop j).all λm=>decide (m.to.length<=40)) ?_ ?_
  .exact⟨0,by omega,rfl,by simp[t2],by simp,by simpa using ho⟩
  clear hi f t1 t2 t7 ho;rintro T M2 ⟨j,j1,rfl,t2,t8,ho⟩;by_cases hj:j<s.length;case neg=>
   (have h:¬(j:Int)<s.length:=by omega);rw[show s.drop j=[]from Z0o (by omega),Z3L]at ho
   simp -dsimp -implicitDefEqProofs[t2,t8,h,ho]
  have h:(j:Int)<s.length:=by omega
  have w1:=A1E (i:=j) (by omega);rw[Z0i hj,Z1D]at ho;by_cases c3:s[j].to.length<=40
  ·(have b:¬(40:Int)<s[j].to.length:=by omega);have c:¬(s[j].to.length:Int)>40:=b
   rw[Z0v c3,Z0A]at ho;simp -dsimp -implicitDefEqProofs[t2,t8,hj,h,A2m.row,b,c,w1];exact⟨⟨j+1,by clear w1;omega,rfl,ho⟩,by clear w1;omega⟩
  ·(have b:(40:Int)<s[j].to.length:=by omega);have c:(s[j].to.length:Int)>40:=b
   rw[Z0y c3,Z0B]at ho;simp -dsimp -implicitDefEqProofs[t2,t8,hj,h,A2m.row,b,c,ho]
 have f:(i:Int)<l.length:=by omega
 have w1:=A1E (i:=i) (by omega);rw[Z0i hi,Z1D]at ho;by_cases c3:l[i].label.size<=100
 .have b:¬(100:Int)<l[i].label.size:=by omega
  have c:¬(l[i].label.size:Int)>100:=b;rw[Z0v c3,Z0A]at ho;simp -dsimp -implicitDefEqProofs[t1,t2,t7,hi,f,A0C.row,b,c,w1];exact⟨⟨i+1,by clear w1;omega,rfl,ho⟩,by clear w1;omega⟩
 .have b:(100:Int)<l[i].label.size:=by omega
  have c:(l[i].label.size:Int)>100:=b;rw[Z0y c3]at ho;simp only[Z0B]at ho;simp -dsimp -implicitDefEqProofs[t1,t2,t7,hi,f,A0C.row,b,c,ho]
end
section
variable (gl:Nat->AV)
def C9R(ws:List A0H)(o:Own)(M:Mem)(hl:ws.length<=100000000):A0c (WC gl) 33 [.list 4 (A0g ws) o] M (λv M'=>v=.list 1 (A1d (A0N ws)) .no/\M'=M):=A0c.still (enc:=A6U) (λ_=>rfl) (λn x=>by simp[A1Y,bdd]) (C3f gl M ws o hl)
def D1E(a:List ByteArray)(M:Mem)(h:a.length<=1000000):A0c (WC gl) 17 [.list 1 (A1d a) .no,.list 1 (A1d a) .no] M (λv M'=>v=B true/\M'=M):=by have:=D8w gl M (.list 1 (A1d a) .no) (.list 1 (A1d a) .no) a a (.inl ⟨_,rfl⟩) (.inl ⟨_,rfl⟩) h;rwa[Z0v rfl]at this
end
section
variable (gl:Nat->AV)
end
section
variable (gl:Nat->AV)
end
section
variable (gl:Nat->AV)
def B1K:∀(u:A0a) (M:Mem),u.lims->A0j u<=1000->A0c (WC gl) 39 [.agg u.row] M (λv M'=>v=.agg (A3M u).row/\M'=M)
 |.mk id kind lab hd ws ks,M,hlm,hc=>by
  obtain⟨⟨ab,o,a8,-⟩,a2⟩:=A3t _ hlm;have ab:hd.length<=100000000:=ab;have o:ws.length<=100000000:=o;have a8:ks.length<=1000:=a8;have a2:=A3g.1 a2;refine A0c.dataX ?_;have ac:(A0a.mk id kind lab hd ws ks).row=[I id.act,I id.item,I id.n,I kind,S lab,.list 4 (A0g hd) .no,.list 4 (A0g ws) .no,.list 8 (A0q ks) .no]:=by rw[A0a.row]
  have ah:(A3M (A0a.mk id kind lab hd ws ks)).row=[I 0,I 0,I 0,I kind,S lab,.list 4 (A0g (hd.map λw=>A1O w.text)) .no,.list 4 (A0g (ws.map λw=>A1O w.text)) .no,.list 8 (A0q (ks.map A3M)) .no]:=by rw[A3M,B3L,A0a.row];rfl
  rw[ac,ah];have a7:=λM=>C8a gl hd .no M (by omega);have a9:=λM=>C8a gl ws .no M (by omega);obtain⟨K2,a1⟩:∃z,z=ks.map A3M:=⟨_,rfl⟩;have ao:K2.length=ks.length:=by rw[a1,Z0K]
  rw[<-a1];obtain⟨a,a6⟩:∃z,z=hd.map λw=>A1O w.text:=⟨_,rfl⟩;obtain⟨c,a5⟩:∃z,z=ws.map λw=>A1O w.text:=⟨_,rfl⟩;rw[<-a6]at a7|-;rw[<-a5]at a9|-;obtain⟨b,r⟩:∃b,b=M.length:=⟨_,rfl⟩;obtain⟨M1,q⟩:∃M1,M1=M++[z8,A0p.cells 27 [I 0,I 0,I 0,I kind,S lab,.list 4 (A0g a) .no,.list 4 (A0g c) .no,.val (.slice none 0 0)]]:=⟨_,rfl⟩;have h1:M1[b]?=some z8:=by rw[q,r];simp
  have h2:M1[b+1]?=some (A0p.cells 27 [I 0,I 0,I 0,I kind,S lab,.list 4 (A0g a) .no,.list 4 (A0g c) .no,.val (.slice none 0 0)]):=by rw[q,r];simp[Z0Z]
  have ai:Grow M M1:=by rw[q];exact A0d.app none _ _
  have ak:A0w prog 27 [(1,I kind),(2,S lab),(3,.list 4 (A0g a) .no),(4,.list 4 (A0g c) .no)]=some (.agg [I 0,I 0,I 0,I kind,S lab,.list 4 (A0g a) .no,.list 4 (A0g c) .no,.val (.slice none 0 0)]):=by simp[A0w,A1e,A1r,A0e,AV.cells,AV.storable]
  refine A0o (hQ [32]) func39 ?_;simp -dsimp -implicitDefEqProofs[A0l];refine A0X (hQ [32]) (A0t gl) (λk=>if k=11\/k=12 then 2 else 0) (λ_=>0) (by rfl) (by kernel_rfl) ?_;simp -dsimp -implicitDefEqProofs;refine A1G func96 a7 ?_;simp -dsimp -implicitDefEqProofs;refine A1G func96 a9 ?_;simp -dsimp -implicitDefEqProofs[ak,A0l,A0m,A0e,A0K,A0I];rw[<-q,<-r];have an:1+A0f ks<=1000:=by rwa[A0j]at hc
  refine A0y (hQ [32]) ks.length 4 (λT Mi=>∃i:Nat,i<=ks.length/\T 1=.cptr [I id.act,I id.item,I id.n,I kind,S lab,.list 4 (A0g hd) .no,.list 4 (A0g ws) .no,.list 8 (A0q ks) .no]/\T 2=.ptr b 0/\T 3=.ptr (b+1) 0/\T 4=I i/\Grow M Mi/\Mi[b]?=some z8/\∃kv,Mi[b+1]?=some (A0p.cells 27 [I 0,I 0,I 0,I kind,S lab,.list 4 (A0g a) .no,.list 4 (A0g c) .no,kv])/\Arr 27 8 A0a.row (b+2) Mi kv (K2.take i)) ?_ ?_
  .exact⟨0,by omega,by simp,by simp,by simp,by simp,ai,h1,_,h2,by simpa using Arr.nil⟩
  rintro T Mi ⟨i,i1,t1,t2,t3,t4,l,a0,kv,m,ha⟩;have ae:b<Mi.length:=(Z0a.1 a0).1;have al:b+1<Mi.length:=(Z0a.1 m).1;by_cases hi:i<ks.length;case neg=>
   (have p:¬(i:Int)<ks.length:=by omega);rw[Z0k (by omega)]at ha
   (have a3:A1m prog 27 Mi (.ptr (b+1) 0)=some (.agg [I 0,I 0,I 0,I kind,S lab,.list 4 (A0g a) .no,.list 4 (A0g c) .no,kv]):=by rw[A0b m];simp);have y:A0m (some 8) Mi (.ptr b 0) (.agg [I 0,I 0,I 0,I kind,S lab,.list 4 (A0g a) .no,.list 4 (A0g c) .no,kv])=some (Mi.set b (.cells 27 [I 0,I 0,I 0,I kind,S lab,.list 4 (A0g a) .no,.list 4 (A0g c) .no,kv])):=by rw[A0h a0];rfl
   simp -dsimp -implicitDefEqProofs[t1,t2,t3,t4,p,a3,y,A0z ae,A0k];have a4:=ha.own.keep (A0d.set Mi b (.cells 27 [I 0,I 0,I 0,I kind,S lab,.list 4 (A0g a) .no,.list 4 (A0g c) .no,kv])) (λf hf e=>by have:=ha.lat f hf;simp at e;omega);have hs:=A9h a4 (n:=M.length) (λf hf=>by have:=ha.lat f hf;omega);refine⟨A1o l (by omega),.agg ?_ .nil⟩;rw[r]at hs|-;exact .same trivial (.same trivial (.same trivial (.same trivial (.same trivial (.same (by simp only[bdd,Z1M];exact A8f _ _) (.same (by simp only[bdd,Z1M];exact A8f _ _) hs))))))
  have p:(i:Int)<ks.length:=by omega
  have w1:=A1E (i:=i) (by omega);have d:ks[i]∈ks:=Z0q hi;have:=A0a.kid_lt (u:=.mk id kind lab hd ws ks) d;have am:=A2u d;obtain⟨x,hx⟩:∃x,x=ks[i]:=⟨_,rfl⟩;have t:ks[i]=x:=hx.symm;have g:=λM=>B1K ks[i] M (a2 _ d) (by omega);rw[t]at g;have ad:=A5k ks i hi;rw[t]at ad;have ag:K2.take (i+1)=K2.take i++[A3M x]:=by rw[Z1j,Z0m (show i<K2.length by omega),hx];simp only[a1,Z1R];rfl
  have a3:A1m prog 25 Mi (.ptr (b+1) 7)=some kv:=by rw[A0b m];simp
  simp -dsimp -implicitDefEqProofs[t1,t2,t3,t4,hi,p];refine A0X (hQ [32]) (A0t gl) (λk=>if k=1 then 1 else if k=9\/k=11 then 2 else 0) (λ_=>b+1) (by rfl) (by kernel_rfl) ?_;simp -dsimp -implicitDefEqProofs[t1,t2,t3,t4,hi,p,ad,t,a3,A1a,A5n];refine A1G func39 g ?_;simp -dsimp -implicitDefEqProofs[A0n,A0W,A0K,A0I];refine A3p (C:=WC gl) (enc:=A0a.row) (e:=27) (sz:=8) (news:=[A3M x]) A7P B2g B1T A0a.row_len ha.own (by simp[A0A]) (by simp;omega) rfl ?_;intro v' M' k1 k2 k3 _;have n1:obj kv≠some (b+1):=λe=>by have:=ha.lat (b+1) e;omega
  have n0:obj kv≠some b:=λe=>by have:=ha.lat b e;omega
  have s:=k2.get m n1;have aa:=k2.get a0 n0;have lv:∀f,obj v'=some f->b+2<=f:=λf hf=>by
   rcases k3 with e|h
   .rw[e]at hf;exact ha.lat f hf
   .have:=h f hf;omega
  have o:b+1<M'.length:=(Z0a.1 s).1;have y:A0m (some 1) M' (.ptr (b+1) 7) v'=some (M'.set (b+1) (.cells 27 [I 0,I 0,I 0,I kind,S lab,.list 4 (A0g a) .no,.list 4 (A0g c) .no,v'])):=by rw[A0h s,k1.cells,Z0d ⟨k1.store,by simp,rfl⟩];rfl
  have aj:Grow M M':=⟨by have:=k2.1;have:=l.1;omega,λj hj _=>by(have af:obj kv≠some j:=λe=>by have:=ha.lat j e;omega);rw[k2.2 j (by have:=l.1;omega) af];exact l.2 j hj (by simp)⟩;simp -dsimp -implicitDefEqProofs[t1,t2,t3,t4,y,w1];refine⟨⟨i+1,by clear w1;omega,rfl,A1o aj (by omega),?_,v',?_,?_⟩,by clear w1;omega⟩
  .exact aa
  .simp[o]
  .rw[ag];exact⟨k1.keep (A0d.set _ _ _) (λf hf e=>by have:=lv f hf;simp at e;omega),lv⟩
termination_by u=>SizeOf.sizeOf u
end
def D8v{G:A0r}{e:Nat}{x:Value}(h:Rep G A0x x):Rep G (.list e [] .no) x:=by simp only[A0x,Rep]at h|-;subst h;exact⟨none,0,rfl,by simp,by simp,by simp,by simp[A5G]⟩
def C6z{G:A0r}{e:Nat}{c:List AV}:∀(b:List AV) {ys:List Value},A0u G (b++A0x::c) ys->A0u G (b++.list e [] .no::c) ys
 |[],ys,h=>by simp only[Z1g,A0u]at h|-;obtain⟨y,d,rfl,h1,h2⟩:=h;exact⟨y,d,rfl,D8v h1,h2⟩
 |a::b,ys,h=>by simp only[Z1a,A0u]at h|-;obtain⟨y,d,rfl,h1,h2⟩:=h;exact⟨y,d,rfl,h1,C6z b h2⟩
def A0c.atNil{C:Ctx}{f:FuncId}{M:Mem}{Q:AV->Mem->Prop}{e:Nat}{a:List AV}(b:List AV)(h:A0c C f (b++.list e [] .no::a) M Q):A0c C f (b++A0x::a) M Q:=λG w vs hi hr=>h G w vs hi (C6z b hr)
def C0l(ks:List A0a)(o:Nat)(p:Int)(hp:inI p)(ho:o+A0f ks<=100000)(hk:∀k∈ks,k.good):∀s∈A7b ks o p,s.good:=match ks with
 |[]=>by rw[A7b];simp
 |k::ks=>by
  have hc:=A0G k;have hs:=A0R (A0v k.kids);rw[A0f]at ho;have hg:=(A0a.good_iff _).1 (hk k (by simp));intro s a;rw[A7b]at a;rcases Z0t.1 a with rfl|a
  .exact⟨hg.1,hp,hg.2.2.1⟩
  rcases Z0P.1 a with a|a
  .exact C0l (A1n k.kids) (o+1) o (by simp only[inI];omega) (by omega) (λq hq=>hg.2.2.2.2.2.2.2.2 q ((A0v k.kids).mem_iff.1 hq)) s a
  .exact C0l ks (o+A0j k) p hp (by omega) (λq hq=>hk q (by simp[hq])) s a
termination_by A0f ks
decreasing_by
 .rw[A0R (A0v k.kids),A0f,A0G k];omega
 .rw[A0f,A0G k];omega
def C5L{u:A0a}(hg:u.good)(hc:A0j u<=1000):∀s∈A8v u,s.good:=by unfold A8v;rw[A8g,Z1g];have:=A0G u;have:=A0R (A0v u.kids);exact C0l _ _ _ (by simp only[inI];omega) (by simp;omega) λk hk=>((A0a.good_iff _).1 hg).2.2.2.2.2.2.2.2 k ((A0v u.kids).mem_iff.1 hk)
def D6E(u:A0a)(x:IdD):((A6A u x).getD []).length<=A0j u+1:=by
 have:=B0q x u;unfold A6A;cases e:A4P x u with
 |none=>simp
 |some p=>rw[e]at this;simpa using this
section
variable (gl:Nat->AV)
def D8a(u:A0a)(M:Mem)(hg:u.good):A0c (WC gl) 11 [.agg u.row,A0x,A0x] M (λv M'=>v=B (B9r u [] [])/\M'=M):=A0c.atNil (e:=5) [.agg u.row] (A0c.atNil (e:=5) [.agg u.row,.list 5 [] .no] (D1L gl u [] [] M hg (by simp) (by simp)))
def C6m(f:gl 0=A2h)(d:gl 1=A2s)(b:gl 3=.cptr [fnV 444,fnV 445])(u:A0a)(l:List A0C)(a:Int)(M:Mem)(hf:Fit u)(hl:l.length<=500)(c:∀s∈l,s.good):A0c (WC gl) 24 [.agg u.row,.list 5 (A1U l) .no,A0x,I a] M (λv M'=>v=C3B u l [] a/\M'=M):=A0c.atNil (e:=5) [.agg u.row,.list 5 (A1U l) .no] (C3C gl f d b u l [] a M hf hl c (by simp) (by simp))
def D2W(p:List A0M)(M:Mem)(hp:p.length<=1000000):A0c (WC gl) 37 [.list 2 (A1T p) .no,.list 2 (A1T p) .no] M (λv M'=>v=B true/\M'=M):=by have:=D3e gl p p .no .no M hp;rwa[Z0v rfl]at this
def D4E(u:A0a)(hf:Fit u)(c:A0j u<=40)(h:A3E u=true)(h0:u.id=idZ)(a n2:Int)(hn:1<=a)(hA:A8G u (A8v u) [] a 0=0)(D:List A0C)(hD:D=if A3E (A5C u a)then A4i (A1n (A5C u a).kids) [] (-1)else[])(he:A8G (A5C u a) D [] n2 0=0):A3M (A3x (A5C u a) n2 (A2L (A5C u a) D []))=A3M (A5C u a):=by
 have hb:A3E (A5C u a)=true:=by refine Z1p λhc=>?_;unfold A8G A6i at he;rw[Bool.not_eq_true]at hc;rw[hc]at he;simp at he
 have b:D=A8v (A5C u a):=by rw[hD,Z0d hb];rfl
 rw[b,A9t (A6e hb).2.2.2]
 exact C5m h a n2
def D4q(a b:ByteArray)(M:Mem)(ha:A0B a=true)(hb:A0B b=true)(d:a.size<=maxLen)(c:b.size<=maxLen)(hl:D9s a b):A0c (WC gl) 95 [S a,S b] M (λv M'=>v=I (-1)/\M'=M):=by
 have hn:a≠b:=by
  rintro rfl;rcases hl with h|⟨_,h⟩
  .omega
  .rw[B0j]at h;simp at h
 have m1:=λM=>A8Z gl M a d;have m2:=λM=>A8Z gl M b c;have s1:=λM=>C2G gl M a ha d;have s2:=λM=>C2G gl M b hb c;rw[ha]at m1;rw[hb]at m2;refine A0o hB func95 ?_;simp -dsimp -implicitDefEqProofs[hn,B1S];refine A0i func105 (m1 M) ?_;simp -dsimp -implicitDefEqProofs;refine A0i func105 (m2 M) ?_;simp -dsimp -implicitDefEqProofs;refine A0i func145 (s1 M) ?_;simp -dsimp -implicitDefEqProofs;refine A0i func145 (s2 M) ?_;rcases hl with c1|⟨c2,c3⟩
 .simp -dsimp -implicitDefEqProofs[c1]
 .have c1:¬A3J b<A3J b:=by omega
  simp -dsimp -implicitDefEqProofs[c1,c2,c3,B1S]
set_option maxHeartbeats 1000000 in
def C1W:∀(u:A0a) (M:Mem),u.good->A0j u<=1000->B6N u->A0c (WC gl) 38 [.agg u.row] M (λv M'=>v=B true/\M'=M)
 |.mk id kind lab hd ws ks,M,hg,hc,hr=>by
  obtain⟨hs,hl⟩:=(B5X _).1 hr;have hs:B0u ks:=hs;have hl:=C2D.1 hl;have hl:∀k∈ks,A0B k.label=true/\B6N k:=hl;rw[A0j]at hc;have a5:=A1Q ks;have f:=((A0a.good_iff _).1 hg).2.2.2.2.2.2.2.2;have f:∀k∈ks,k.good:=f;rw[A0a.row];refine A0o hB func38 ?_;simp -dsimp -implicitDefEqProofs;refine A0y hB ks.length 3 (λT Mi=>∃i:Nat,i<=ks.length/\T 1=.cptr [I id.act,I id.item,I id.n,I kind,S lab,.list 4 (A0g hd) .no,.list 4 (A0g ws) .no,.list 8 (A0q ks) .no]/\T 3=I i/\Mi=M) ?_ ?_
  .exact⟨0,by omega,by simp,by simp,rfl⟩
  rintro T Mi ⟨i,i1,t1,t3,rfl⟩;by_cases hi:i<ks.length;case neg=>(have c:¬(i:Int)<ks.length:=by omega);simp -dsimp -implicitDefEqProofs[t1,t3,c]
  have c:(i:Int)<ks.length:=by omega
  have w1:=A1E (i:=i) (by omega);have b:ks[i]∈ks:=Z0q hi;have:=A0a.kid_lt (u:=.mk id kind lab hd ws ks) b;have a4:=A2u b;obtain⟨x,hx⟩:∃x,x=ks[i]:=⟨_,rfl⟩;have d:ks[i]=x:=hx.symm;have a:=λM=>C1W ks[i] M (f _ b) (by omega) (hl _ b).2;obtain⟨t,-⟩:=hl _ b;have e:=A5k ks i hi;have z:=f _ b;rw[d]at a e t z;rw[x.row_eq]at e;have a3:=t3;simp -dsimp -implicitDefEqProofs[t1,t3,c];refine A7L .normal (λT M'=>T 1=.cptr [I id.act,I id.item,I id.n,I kind,S lab,.list 4 (A0g hd) .no,.list 4 (A0g ws) .no,.list 8 (A0q ks) .no]/\T 3=I i/\T 70=B false/\M'=Mi) ?_ ?_
  .by_cases h0:i=0
   .subst h0;refine A8q hB (A0t gl) (λk=>0) (λ_=>0) (by rfl) (by kernel_rfl) ?_;simp -dsimp -implicitDefEqProofs[t1,t3,hi,c,e,d];refine A1G func38 a ?_;simp -dsimp -implicitDefEqProofs[t1,t3]
   obtain⟨j,rfl⟩:∃j,i=j+1:=⟨i-1,by omega⟩;(have hj:j<ks.length:=by omega);have w:ks[j]∈ks:=Z0q hj;obtain⟨y,hy⟩:∃y,y=ks[j]:=⟨_,rfl⟩;have l:ks[j]=y:=hy.symm;obtain⟨a1,-⟩:=hl _ w;have a0:=f _ w;have g:=A5k ks j hj;have m:=(Z1O.1 hs) j (j+1) hj hi (by omega);rw[l]at a1 a0 g m;rw[d]at m;rw[y.row_eq]at g;have a2:=λM h=>D4q gl y.label x.label M a1 t ((A0a.good_iff _).1 a0).2.2.1 ((A0a.good_iff _).1 z).2.2.1 h;(have w0:IntKind.i64.wrap (((j+1:Nat):Int)-1)=(j:Int):=by rw[show((j+1:Nat):Int)-1=(j:Int)by omega,A0J (by omega) (by omega)]);have o:IntKind.i64.wrap (j:Int)=(j:Int):=A0J (by omega) (by omega);rw[x.row_eq]at a;(have r:((j+1:Nat):Int)>0:=by omega);(have q:(j:Int)<ks.length:=by omega);(have p:(j:Int)+1<ks.length:=by omega);(have s:(0:Int)<=(j:Int)+1:=by omega);rcases m with h1|⟨h1,h2⟩
   .have h1:y.kind<x.kind:=h1;(have g1:¬y.kind>x.kind:=by omega);(have g2:¬y.kind=x.kind:=by omega);refine A8q hB (A0t gl) (λk=>0) (λ_=>0) (by rfl) (by kernel_rfl) ?_;simp -dsimp -implicitDefEqProofs[t1,t3,hi,c,hj,q,e,d,g,l,w0,o,p,s,r,g1,g2,y.row_eq,x.row_eq];refine A1G func38 a ?_;simp -dsimp -implicitDefEqProofs[t1,t3]
   .have h1:y.kind=x.kind:=h1;have h2:D9s y.label x.label:=h2;(have g1:¬y.kind>x.kind:=by omega);refine A8q hB (A0t gl) (λk=>0) (λ_=>0) (by rfl) (by kernel_rfl) ?_;simp -dsimp -implicitDefEqProofs[t1,t3,hi,c,hj,q,e,d,g,l,w0,o,p,s,r,g1,h1,y.row_eq,x.row_eq];refine A1G func95 (λM=>a2 M h2) ?_;simp -dsimp -implicitDefEqProofs[t1,t3,hi,c,hj,q,e,d,g,l,w0,o,p,s,r,g1,h1,y.row_eq,x.row_eq];refine A1G func38 a ?_;simp -dsimp -implicitDefEqProofs[t1,t3]
  clear t1 t3;rintro T M' ⟨t1,t3,t70,rfl⟩;simp -dsimp -implicitDefEqProofs[t1,t3,t70,w1,a3];exact⟨⟨i+1,by clear w1;omega,rfl⟩,by clear w1;omega⟩
termination_by u=>SizeOf.sizeOf u
end
end Go.Abs
