/- The texts CfE, CfF, CfG, CfH, CfO, CfP, CfQ, CfS, CfT, CbX4, CbX5, CbX6, CfI, CfJ, CfK, CfR, CfU, AwA, AwB, AwP, AwC2. -/
import Derived.Test.YtmpdkagfplajjaaGreatDoorHG40
import Derived.Test.YtmpdkagfplajjaaGreatDoorHG39
import Derived.Test.YtmpdkagfplajjaaGreatDoorHG37
import Derived.Test.YtmpdkagfplajjaaGreatDoorHG25
import Derived.Test.YtmpdkagfplajjaaGreatDoorHG21
import Derived.Test.YtmpdkagfplajjaaGreatDoorHG23
set_option linter.all false
namespace Go.Abs
open Go.Proofs TryTypes
section
variable {F:IdD->Option A0a} {l:List A0J} {s:List A1v}
def D1U(hp:∀j:Nat,j<l.length->A2l l j<j):∀(n f g:Nat),n<l.length->n<f->n<g->A3j l f n=A3j l g n:=by
 intro n;induction n using Nat.strongRecOn with
 |ind n ih=>
  intro f g hn hf hg;obtain⟨f,rfl⟩:∃f',f=f'+1:=⟨f-1,by omega⟩;obtain⟨g,rfl⟩:∃g',g=g'+1:=⟨g-1,by omega⟩;rw[A3j,A3j,Z0d (by omega),Z0d (by omega)];congr 1;have h1:=hp n hn;by_cases hneg:A2l l n<0
  .have z:∀f,A3j l f (A2l l n)=0:=λf=>by
    cases f with
    |zero=>rw[A3j]
    |succ f=>rw[A3j,Z0e hneg]
   rw[z,z]
  .obtain⟨p,a⟩:∃p:Nat,A2l l n=p:=⟨(A2l l n).toNat,by omega⟩;rw[a];exact ih p (by omega) f g (by omega) (by omega) (by omega)
def C8B{ks:List A0a}{m:Nat}(h:∀k∈ks,1+A2i k<=m):A3H ks<=m:=by
 induction ks with
 |nil=>rw[A3H];omega
 |cons k ks ih=>rw[A3H];have:=h k (by simp);have:=ih λq hq=>h q (by simp[hq]);omega
def B7d(a:∀j,j<l.length->B1u l j)(h8:∀n,n<l.length->A3j l (n+1) n<=8):∀f n,n<l.length->l.length<=f+n->A2i (A2x F l s f n).1+A3j l (n+1) n<=8
 |0,n,h1,h2=>by omega
 |f+1,n,h1,h2=>by
  have hp:∀j:Nat,j<l.length->A2l l j<j:=λj hj=>by have:=(a j hj j hj (Z0n _)).2;simpa[A2l,hj]using this
  have c:=h8 n h1;rw[A2x];simp only;rw[A2i];have:A3H (((A3M l n l.length).map (A2x F l s f)).map (·.1))<=8-A3j l (n+1) n:=by
   refine C8B λk hk=>?_;rw[Z1K]at hk;obtain⟨q,hq,rfl⟩:=Z0C.1 hk;obtain⟨h3,h4⟩:=B2S a hq;have ih:=B7d a h8 f q h4 (by omega);have b:A2l l q=(n:Int):=by simp only[A3M,Z1p,Z1o,Z0k]at hq;exact hq.2
   (have e:A3j l (q+1) q=A3j l (n+1) n+1:=by rw[A3j,Z0d (by omega),b,D1U hp n q (n+1) h1 h3 (by omega)]);show 1+A2i (A2x F l s f q).1<=_
   omega
  omega
end
structure D4X (u:A0a) (l:List A0J):Prop where
 deep:∀n,n<l.length->A3j l (n+1) n<=8
 nest:∀n,n<l.length->A4E (A4N (λx=>A0E x u) l (A2l l n)) (A2s (λx=>A0E x u) l n).kind=true
 dup:∀n (h:n<l.length),∀k∈A3M l (A2l l n) n,¬(A5J l k=A5J l n/\(A2s (λx=>A0E x u) l k).kind=(A2s (λx=>A0E x u) l n).kind)
def B0K{u:A0a}{l:List A0J}(hS:A6C u l){n:Nat}(hn:n<l.length):A4N (λx=>A0E x u) l n=(A2s (λx=>A0E x u) l n).kind:=by
 obtain⟨x,hx,_⟩:=hS.fd n hn;have h1:A2s (λx=>A0E x u) l n=x:=by simp[A2s,hn,hx]
 rw[h1];have:¬((n:Int)<0):=by omega
 simp[A4N,hn,hx,C0t,this]
def D6j{u:A0a}{l:List A0J}(hS:A6C u l)(h:A7q (λx=>A0E x u) u l=0):D4X u l:=by
 unfold A7q at h;split at h
 .simp at h
 split at h;case isFalse hne=>exact absurd h hne
 rename_i hfe;have he:=λn (hn:n<l.length)=>B2q _ _ hfe n (Z3a _) (by omega);have key:∀n (h:n<l.length),A4E (A4N (λx=>A0E x u) l l[n].parent) (A4N (λx=>A0E x u) l n)=true/\(A3M l l[n].parent n).any (C4h (λx=>A0E x u) l n l[n].label)=false/\A3j l (n+1) n<=8:=by
  intro n hn;have h:=he n hn;simp only[B6e,Z0l hn]at h;split at h
  .simp at h
  split at h
  .simp at h
  split at h
  .simp at h
  split at h
  .simp at h
  split at h
  .simp at h
  rename_i h5;split at h
  .simp at h
  rename_i h6;split at h
  .simp at h
  rename_i h7;simp only[Z1I,Z0k,Z2N]at h7;exact⟨by simpa using h5,by simpa using h6,by omega⟩
 have a:∀n (h:n<l.length),A2l l n=l[n].parent:=λn hn=>by simp[A2l,hn]
 have b:∀n (h:n<l.length),A5J l n=l[n].label:=λn hn=>by simp[A5J,hn]
 refine⟨λn hn=>(key n hn).2.2,λn hn=>?_,λn hn k hk hc=>?_⟩
 .rw[a n hn,<-B0K hS hn];exact(key n hn).1
 .rw[a n hn]at hk;have:=Z3w.1 (key n hn).2.1 k hk;refine this ?_;have c:=A7o hk;simp only[C4h,Z0f,Z0k];rw[B0K hS hn,B0K hS (by omega:k<l.length),<-b n hn];exact hc
def C3y(l:List A0J):(A3a l).Pairwise (·<·):=by unfold A3a A3M;exact Z3M _ Z4o
def B8t{l:List A0J}{n:Nat}(h:n∈A3a l):n<l.length/\A2l l n=-1:=by simp only[A3a,A3M,Z1p,Z1o,Z0k]at h;exact h
def C1U{F:IdD->Option A0a}{l:List A0J}{s:List A1v}{f n:Nat}:(A2x F l s (f+1) n).1.kind=(A2s F l n).kind/\(A2x F l s (f+1) n).1.label=A5J l n:=⟨rfl,rfl⟩
def C4Y(a i:Int)(t:A0a)(n w:Nat):(A2p a i t n w).kind=t.kind/\(A2p a i t n w).label=t.label:=by obtain⟨x1,x2,x3,x4,x5,x6⟩:=t;rw[A2p];exact⟨rfl,rfl⟩
section
variable {u:A0a} {l:List A0J} {s:List A1v}
abbrev A2j(u:A0a)(l:List A0J)(s:List A1v):List A5R:=A1O (λx=>A0E x u) l s
def B5N(u:A0a)(number:Int)(ts:List A5R)(i:Nat):A0a:=if i<=u.kids.length then A8h u (u.kids.drop i)else A8h u (A1T number (ts.take (i-u.kids.length)) u.kids.length)
def C4u(a:Int)(ts:List A5R){i:Nat}(h:i<=u.kids.length):B5N u a ts i=A8h u (u.kids.drop i):=Z0e h
def B7P(a:Int)(ts:List A5R)(j:Nat):B5N u a ts (u.kids.length+j)=A8h u (A1T a (ts.take j) u.kids.length):=by
 unfold B5N;by_cases h:j=0
 .subst h;rw[Z0e (by omega)];simp[A1T]
 .rw[Z0d (by omega),Z1X]
def D3X(g:Int)(ts:List A5R):B5N u g ts 0=u:=by rw[C4u g ts (Z3a _),Z1h];obtain⟨a,b,c,d,e,f⟩:=u;rfl
def D7k(a:Int)(ts:List A5R):B5N u a ts (u.kids.length+ts.length)=A2o u a ts:=by rw[B7P,List.take_length];rfl
structure E3p (u t:A0a) (number:Int) (i:Nat):Prop where
 hf:Fit u
 hft:Fit t
 hbt:A3A t
 hkt:t.kind≠0
 hvt:B0Y t=0
 hw:wcU t<=1000000000
 hx:Fit (A2p number i t 0 0)
 h64:u.kids.length<64
 hdp:A2i t<8
 hcn:A0r u+A0r t<=1024
 htk:B6l u (A2p number i t 0 0)=0
 hids:((A0R (A2p number i t 0 0)).any λy=>(A0R u).any λz=>decide (z=y))=false
def C4L(ts:List A5R)(j:Nat)(h:j<ts.length):A0A ((ts.take j).map (·.1))+A0r ts[j].1<=A0A (ts.map (·.1)):=by
 have h1:ts.map (·.1)=(ts.take j).map (·.1)++(ts.drop j).map (·.1):=by rw[<-Z0U,Z1b]
 rw[h1,A8i,Z0j h,Z0z,A0A];omega
def E0s(a9:Fit u)(hS:A6C u l)(hl:l.length<=500)(ai:∀s∈l,s.good)(ht:∀m∈s,m.to.length<=40)(hP:D4X u l)(am:u.kind=0)(ag:u.id=idZ)(b:Int)(ap:1<=b)(ar:b<=1048576) (af:u.kids.length+(A2j u l s).length<=32)(a0:∀t∈A2j u l s,B0Y t.1=0){j:Nat}(hj:j<(A2j u l s).length):E3p (B5N u b (A2j u l s) (u.kids.length+j)) (A2j u l s)[j].1 b (u.kids.length+j):=by
 obtain⟨ts,d⟩:=ex (A2j u l s)
 have a6:=C1j (s:=s) hS b
 rw[A2o,A0r,A5O]at a6
 have aq:ts.length=(A3a l).length:=by rw[d];simp[A1O]
 have a8:∀q,(h:q<ts.length)->∃f,(A3a l)[q]'(by omega)<l.length/\ts[q]=A2x (λx=>A0E x u) l s (f+1) ((A3a l)[q]'(by omega))/\l.length=f+1:=λq h=>by have hr:=(B8t (Z0o (show q<(A3a l).length by omega))).1;refine⟨l.length-1,hr,?_,by omega⟩;subst d;rw[show l.length-1+1=l.length by omega];simp[A2j,A1O]
 have g:∀t∈ts,Fit t.1/\A3A t.1:=λt h=>by rw[d]at h;obtain⟨n,hn,rfl⟩:=Z0C.1 h;exact⟨B5J hS (by omega) ai ht (A7o hn) (by omega),B3C _ _ _ _ _⟩
 have a6:1+A0A (ts.map (·.1))=l.length+1:=by rw[d];exact a6
 rw[<-d]at af a0 hj
 have al:inI b:=by simp only[inI];omega
 have aa:∀t∈ts,∀i:Nat,i<=1000->Fit (A2p b i t.1 0 0)/\wcU t.1<=1000000000:=λt h i hi=>by obtain⟨r1,r2⟩:=C1o (a0 t h);have hw:=B9v t.1 r1;obtain⟨f1,f2⟩:=g t h;have hc:=f1.2.2;obtain⟨g1,g2⟩:=B6d (a:=b) (i:=i) al (by simp only[inI];omega) t.1 0 0 f1.1 f1.2.1 (by omega) (by omega);exact⟨⟨g1,g2,by rw[A8P];exact hc⟩,by omega⟩
 have e:(A2j u l s)[j]'(by rw[<-d];exact hj)=ts[j]:=by subst d;rfl
 rw[e,<-d,B7P]
 have k:ts[j]∈ts:=Z0o hj
 obtain⟨f,a4,a7,au⟩:=a8 j hj
 have p:=C1U (F:=λx=>A0E x u) (l:=l) (s:=s) (f:=f) (n:=(A3a l)[j]'(by omega))
 rw[<-a7]at p
 have ah:(A3a l)[j]'(by omega)∈A3a l:=Z0o _
 have a2:=(B8t ah).2
 have c:=hP.nest _ a4
 rw[a2]at c
 have ak:A4N (λx=>A0E x u) l (-1)=0:=rfl
 rw[ak]at c
 have ao:=C4L ts j hj
 have a5:∀x∈A1T b (ts.take j) u.kids.length,x.good/\x.lims:=λx hx=>by obtain⟨t,h1,j',h2,h3,rfl⟩:=A8T b _ _ x hx;have:=(aa t (Z1k h1) j' (by have:=Z3P j ts;omega)).1;exact⟨this.1,this.2.1⟩
 obtain⟨s1,s2⟩:=aa _ k (u.kids.length+j) (by omega)
 have a1:=C4Y b (u.kids.length+j:Nat) ts[j].1 0 0
 refine⟨B8U a9 a5 (by rw[A5O];omega),(g _ k).1,(g _ k).2,?_,a0 _ k,s2,s1,?_,?_,?_,?_,?_⟩
 .rw[p.1];have:=D5H c;omega
 .show(A1T _ _ _).length<64;rw[B6L,Z0D];omega
 .have hd:=B7d (F:=λx=>A0E x u) (s:=s) hS.ord hP.deep (f+1) _ a4 (by omega);rw[<-a7]at hd;have h1:A3j l ((A3a l)[j]'(by omega)+1) ((A3a l)[j]'(by omega):Nat)=1:=by
   rw[A3j,Z0d (by omega),a2];cases(A3a l)[j]'(by omega)with
   |zero=>rw[A3j]
   |succ q=>rw[A3j,Z0e (by omega)]
  omega
 .rw[A8h,A0r,A5O];omega
 .unfold B6l;have ad:(A8h u (A1T b (ts.take j) u.kids.length)).kind=0:=am;rw[ad,a1.1,p.1,c,Z0d (by simp),Z0d];intro ab;obtain⟨x,hx,o⟩:=Z2U.1 ab;obtain⟨t,h1,j',h2,h3,rfl⟩:=A8T b _ _ x hx;obtain⟨q,hq,rfl⟩:=Z2r h1;have an:q<j:=by simp at hq;omega
  have ac:q<ts.length:=by omega
  obtain⟨f',r1,r2,r3⟩:=a8 q ac;have r:=C1U (F:=λx=>A0E x u) (l:=l) (s:=s) (f:=f') (n:=(A3a l)[q]'(by omega));rw[<-r2]at r;have w:=C4Y b (j':Nat) ts[q].1 0 0;rw[List.getElem_take]at o;simp only[kl2,Z0f,Z0k]at o;rw[w.1,w.2,a1.1,a1.2,p.1,p.2,r.1,r.2]at o;have aj:(A3a l)[q]'(by omega)<(A3a l)[j]'(by omega):=Z3o.1 (C3y l) q j (by omega) (by omega) an;have ae:=(B8t (Z0o (show q<(A3a l).length by omega))).2;exact hP.dup _ a4 _ (by rw[a2];exact C5O aj ae) ⟨o.2,o.1⟩
 .rw[Z3w];intro y hy hc;obtain⟨z,hz,a3⟩:=Z2U.1 hc;have a3:z=y:=by simpa using a3
  subst a3;rw[A9I]at hy;obtain⟨y1,y2⟩:=B4z hy;rw[A8h,A0R]at hz;rcases Z0s.1 hz with hz|hz
  .rw[hz,ag]at y1;simp[idZ]at y1;omega
  .have:=B8q b _ _ z hz;rw[y2,Z0D]at this;omega
end
set_option maxRecDepth 100000
open Go.Proofs TryTypes Tryz
def B3e(u:A0a)(l:List A0J)(s:List A1v)(number day:Int):Int:=
 if A7q (λx=>A0E x u) u l≠0 then A7q (λx=>A0E x u) u l
 else if C3r number day=true then 1
 else if((A0R u).tail.any λx=>decide (x.act=number))=true then 5
 else C3F u (A2j u l s)
def D0u(u:A0a)(l:List A0J)(s:List A1v)(number day:Int):D8K u l s number day=if B3e u l s number day=0 then .tuple [C7v number day (A2H u++A3w (A2j u l s)),.list 6 ((A3D number u (A2j u l s)).map A2Z) .no,I 0]else A5P (B3e u l s number day):=by
 unfold D8K B3e
 simp only
 split
 .rfl
 split
 .rw[Z0d (by omega)]
 split
 .rw[Z0d (by omega)]
 split
 .rfl
 .rename_i h;rw[Z0e (by simpa using h)]
structure A7L (u:A0a) (l:List A0J) (s:List A1v) (number day:Int):Prop where
 plan:A7q (λx=>A0E x u) u l=0
 n1:1<=number
 n2:number<=1048576
 new:∀x∈(A0R u).tail,x.act≠number
 len:u.kids.length+(A2j u l s).length<=32
 fmt:∀t∈A2j u l s,B0Y t.1=0
 sound:A6C u l
 slots:D4X u l
 kind:u.kind=0
 id:u.id=idZ
 right:A3u u=true
def B9S{a b:Int}(h:A8J a b=0):a=0/\b=0:=by
 unfold A8J at h;split at h
 .rename_i h1;rcases h1 with rfl|h1
  .simp at h
  .exact⟨h1,h⟩
 .rename_i h1;omega
def B3E:∀(ts:List A5R) (e:Int),A7M ts e=0->e=0/\∀t∈ts,C4H t=0
 |[],e,h=>⟨h,by simp⟩
 |t::ts,e,h=>by
  have h2:A7M ts (A8J e (C4H t))=0:=h;obtain⟨h3,h4⟩:=B3E ts _ h2;obtain⟨h5,h6⟩:=B9S h3;refine⟨h5,λq hq=>?_⟩;rcases Z0s.1 hq with rfl|hq
  .exact h6
  .exact h4 q hq
def D8Z{u:A0a}(h:B1Z u=true):u.id=idZ:=by
 simp only[B1Z,D5U,Z0f,Z0k]at h;obtain⟨⟨c,⟨⟨hr,d⟩,hc⟩,a⟩,b⟩:=h;have e:(A0R u).Nodup:=by have:=A9g (A0R u) [] List.nodup_nil b;simpa using this
 unfold D6f at a;simp only[Z1I,Z0f,Z0p,Z0k,Z3h]at a;rcases a with h|h
 .exact h _ (B3T u)
 .have:=h.1;rw[Z0w c]at this;simpa using this
def C2y{u:A0a}{l:List A0J}{s:List A1v}{number day:Int}(hf:Fit u)(h:B3e u l s number day=0):A7L u l s number day:=by
 unfold B3e at h;split at h
 .rename_i h1;exact absurd h h1
 rename_i hp;simp only[ne_eq,Decidable.not_not]at hp;split at h
 .simp at h
 rename_i hb;split at h
 .simp at h
 rename_i hn;have hS:=C5p hf hp;have b:B1Z u=true:=by
  unfold A7q at hp;split at hp
  .simp at hp
  .rename_i h1;simpa using h1
 have a:=b;simp only[B1Z,D5U,Z0f,Z0k]at a;simp only[C3r,Z1I,Z0k,Z2N]at hb;unfold C3F at h;split at h
 .simp at h
 rename_i h32;have c:=(B3E _ _ h).2;refine⟨hp,by omega,by omega,λx hx e=>?_,by omega,λt ht=>?_,hS,D6j hS hp,a.1.1,D8Z b,a.1.2.1.1.1⟩
 .refine hn (Z2U.2 ⟨x,hx,by simpa using e⟩)
 .have:=c t ht;unfold C4H at this;split at this
  .assumption
  .simp at this
section
variable {u:A0a} {l:List A0J} {s:List A1v} {number day:Int}
def D1Z(hA:A7L u l s number day):(A0R u).Nodup:=hA.sound.nu
def D6d(gl:Nat->AV)(f:gl 0=A2z)(n:gl 1=A2K)(b:gl 3=.cptr [fnV 444,fnV 445])(hf:Fit u)(hl:l.length<=500)(k:∀s∈l,s.good)(ht:∀m∈s,m.to.length<=40)(hA:A7L u l s number day)(d:Int):∀i (h:i<(A2H u++A3w (A2j u l s)).length) M,A0e (WC gl) 133 [.agg (B5N u number (A2j u l s) i).row,.agg (enR number i d (A2H u++A3w (A2j u l s))[i])] M (λv M'=>v=.tuple [.agg (B5N u number (A2j u l s) (i+1)).row,I 0]/\M'=M):=by
 intro i h M
 have a:(A2H u).length=u.kids.length:=by simp[A2H]
 have e:(A3w (A2j u l s)).length=(A2j u l s).length:=by simp[A3w]
 rw[Z0t,a,e]at h
 have hn:=D1Z hA
 by_cases hi:i<u.kids.length
 .have e1:(A2H u++A3w (A2j u l s))[i]'(by rw[Z0t];omega)=.rep [A3n,⟨u.kids[i].kind,u.kids[i].label⟩]:=by rw[List.getElem_append_left (by omega)];simp only[A2H,Z1R];rw[D5Y hn (Z0o hi)];rfl
  rw[e1,C4u _ _ (by omega),C4u _ _ (by omega)];obtain⟨k1,k2⟩:=D4o hA.right hA.kind hi;exact C3j gl b (A8h u (u.kids.drop i)) u.kids[i] (u.kids.drop (i+1)) number i d M (Z0j hi) (D6c hf i) (C9M hn i) k1 k2
 .obtain⟨j,rfl⟩:∃j,i=u.kids.length+j:=⟨i-u.kids.length,by omega⟩;have hj:j<(A2j u l s).length:=by omega
  have e1:(A2H u++A3w (A2j u l s))[u.kids.length+j]'(by rw[Z0t];omega)=.ins (A2j u l s)[j].1:=by rw[Z3p (by omega)];simp only[a,Z1X,A3w,Z1R]
  have hI:=E0s hf hA.sound hl k ht hA.slots hA.kind hA.id number hA.n1 hA.n2 hA.len hA.fmt hj;have c:=C4K gl f n b (B5N u number (A2j u l s) (u.kids.length+j)) (A2j u l s)[j].1 number (u.kids.length+j) d M hI.hf hI.hft hI.hbt hI.hkt hI.hvt hI.hw hI.hx hI.h64 hI.hdp hI.hcn hI.htk hI.hids;rw[e1];have e2:A8h (B5N u number (A2j u l s) (u.kids.length+j)) ((B5N u number (A2j u l s) (u.kids.length+j)).kids++[A2p number (u.kids.length+j:Nat) (A2j u l s)[j].1 0 0])=B5N u number (A2j u l s) (u.kids.length+j+1):=by rw[show u.kids.length+j+1=u.kids.length+(j+1)by omega,B7P,B7P];have g:(A2j u l s)[j]?=some (A2j u l s)[j]:=Z0l hj;rw[Z1r,g,B6P,Z0D,Z1A (by omega)];rfl
  rw[e2]at c;exact c
def C9b(gl:Nat->AV)(f:gl 0=A2z)(e:gl 1=A2K)(a:gl 3=.cptr [fnV 444,fnV 445])(hf:Fit u)(hl:l.length<=500)(c:∀s∈l,s.good)(ht:∀m∈s,m.to.length<=40)(hA:A7L u l s number day)(d:Int)(M:Mem):A0e (WC gl) 26 [.agg u.row,C7v number d (A2H u++A3w (A2j u l s))] M (λr M'=>r=.tuple [.agg (A2o u number (A2j u l s)).row,A0G]/\M'=M):=by
 have b:(A2H u++A3w (A2j u l s)).length=u.kids.length+(A2j u l s).length:=by simp[A2H,A3w]
 have h:=D6I gl u number d (A2H u++A3w (A2j u l s)) (B5N u number (A2j u l s)) M (by have:=hA.len;omega) (D3X _ _) (D6d gl f e a hf hl c ht hA d)
 rw[b,D7k]at h
 exact h
end
def D1k(u:A0a)(l:List A0J)(s:List A1v)(number:Int):AV:=if B3e u l s number 0=0 then .tuple [.agg (A2o u number (A2j u l s)).row,.list 6 ((A3D number u (A2j u l s)).map A2Z) .no,I 0]else .tuple [.agg zU,A0G,I (B3e u l s number 0)]
def D2f(n:Nat)(D:List (IdD×IdD)):bdd n (.list 6 (D.map A2Z) .no):=A6G (λx=>by simp[A2Z,A1I,bdd]) D
def D1B:A0x prog 27 []=some (.agg zU):=by simp[A0x,A1b,zU]
section
variable (gl:Nat->AV)
set_option maxHeartbeats 1000000 in
def C3f(p:gl 0=A2z)(o:gl 1=A2K)(w:gl 3=.cptr [fnV 444,fnV 445])(u:A0a)(l:List A0J)(s:List A1v)(number:Int)(M:Mem)(hf:Fit u)(hl:l.length<=500)(q:∀s∈l,s.good)(hs:s.length<=1000)(ht:∀m∈s,m.to.length<=40):A0e (WC gl) 24 [.agg u.row,.list 5 (A1L l) .no,.list 5 (A2e s) .no,I number] M (λv M'=>v=D1k u l s number/\M'=M):=by
 refine A0e.dataX ?_
 have a:=λM=>D5C gl p o u l s number 0 M hf (by omega) q hs ht
 rw[D0u]at a
 obtain⟨b,hb⟩:=ex (M.length)
 obtain⟨M1,i⟩:=ex (M++[z8])
 have h1:M1[b]?=some z8:=by rw[i,hb];simp
 have k:Grow M M1:=by rw[i];exact A0c.app none _ _
 unfold D1k
 by_cases he:B3e u l s number 0=0
 .have g:=λM=>C9b gl p o w hf hl q ht (C2y hf he) 0 M;rw[Z0e he]at a|-;have a0:=D2f M.length (A3D number u (A2j u l s));obtain⟨y,hy⟩:=ex (A2o u number (A2j u l s));rw[<-hy]at g|-;generalize(A3D number u (A2j u l s)).map A2Z=D at*;generalize A2H u++A3w (A2j u l s)=f at*;obtain⟨M2,c⟩:=ex (M1++[A0m.cells 49 [I number,S A9G,I 0,I 1,I 0,eS,.list 25 (f.map A1Q.row) .no]]);have hq:M2[M1.length]?=some (A0m.cells 49 [I number,S A9G,I 0,I 1,I 0,eS,.list 25 (f.map A1Q.row) .no]):=by rw[c];simp
  have d:Grow M1 M2:=by rw[c];exact A0c.app none _ _
  obtain⟨M3,n⟩:=ex (M2++[A0m.cells 27 y.row]);have j:Grow M2 M3:=by rw[n];exact A0c.app none _ _
  have hp:A1y prog 27 M3 (.ptr M2.length 0)=some (.agg y.row):=by
   (have h:M3[M2.length]?=some (A0m.cells 27 y.row):=by rw[n];simp);rw[y.row_eq]at h|-
   rw[A0b h];simp
  have h3:=j.get (d.get h1 (by simp)) (by simp);have x:b<M3.length:=(Z0a.1 h3).1;rw[C7v]at a g;rw[u.row_eq]at a g|-;refine A0n hB func24 ?_;simp -dsimp[A0k];rw[<-i,<-hb];refine A0h func20 (a M1) ?_;simp -dsimp[A0k,A0i,A0d,A0y,A0v];rw[<-c];simp -dsimp[A0b hq];refine A0h func26 (g M2) ?_;simp -dsimp[A0k,A0i,A0d,A0y,A0v];rw[<-n];simp -dsimp[hp,A0f h3,A0y,A0v,A0s x,A0j];exact⟨A0V (k.trans (d.trans j)) (by omega),.tuple (.same (by simp only[bdd];exact A3d _ _) (.same (by rw[hb];exact a0) (.same trivial .nil))) .nil⟩
 .rw[Z0d he]at a|-;obtain⟨e,r⟩:=ex (B3e u l s number 0);rw[<-r]at he a|-;obtain⟨M2,c⟩:=ex (M1++[A0m.cells 49 [I 0,eS,I 0,I 0,I 0,eS,A0G]]);have d:Grow M1 M2:=by rw[c];exact A0c.app none _ _
  have h2:=d.get h1 (by simp);have t:b<M2.length:=(Z0a.1 h2).1;rw[A5P,B0I]at a;rw[u.row_eq]at a|-;refine A0n hB func24 ?_;simp -dsimp[A0k];rw[<-i,<-hb];refine A0h func20 (a M1) ?_;simp -dsimp[A0k,A0i,A0d,A0y,A0v,he,D1B];rw[<-c];have a1:A0i (some 8) M2 (.ptr b 0) (.agg zU)=some (M2.set b (.cells 27 zU)):=by rw[A0f h2];rfl
  have z:A1n prog 27 zU=some (.agg zU):=by kernel_rfl
  simp -dsimp[h2,A0s t,z];exact⟨A0V (k.trans d) (by omega),.tuple (.same (by simp[bdd,A1I,zU]) (.same trivial (.same trivial .nil))) .nil⟩
end
def A5N(x:IdD)(D:List (IdD×IdD)):Option IdD:=(D.find? λy=>decide (y.1=x)).map (·.2)
def idO:Option IdD->IdD
 |some x=>x
 |none=>idZ
section
variable (gl:Nat->AV) (M:Mem)
def C1S(x:IdD)(D:List (IdD×IdD))(o:Own)(hl:D.length<=1000000):A0e (WC gl) 31 [.agg x.row,.list 6 (D.map A2Z) o] M (λv M'=>v=.tuple [.agg (idO (A5N x D)).row,B (A5N x D).isSome]/\M'=M):=by
 refine A0e.dataX ?_;have hx:x.row=[I x.act,I x.item,I x.n]:=rfl;obtain⟨b,hb⟩:=ex (M.length);obtain⟨M1,e⟩:=ex (M++[A0m.cells 23 [I 0,I 0,I 0]]);have h1:M1[b]?=some (A0m.cells 23 [I 0,I 0,I 0]):=by rw[e,hb];simp
 have h:Grow M M1:=by rw[e];exact A0c.app none _ _
 have f:b<M1.length:=(Z0a.1 h1).1;have hR:∀o:Option IdD,(idO o).row=[I (idO o).act,I (idO o).item,I (idO o).n]:=λ_=>rfl;obtain⟨R,g⟩:=ex (A5N x D);rw[<-g,hx,hR];refine A0n hB func31 ?_;simp -dsimp[A0k];rw[<-e,<-hb];refine A0B hB D.length 6 (λT Mi=>∃i:Nat,i<=D.length/\Mi=M1/\T 1=.list 6 (D.map A2Z) o/\T 2=.cptr [I x.act,I x.item,I x.n]/\T 4=.ptr b 0/\T 6=I i/\R=A5N x (D.drop i)) ?_ ?_
 .exact⟨0,by omega,rfl,by simp,by simp,by simp,by simp,by simpa using g⟩
 rintro T Mi ⟨i,i1,rfl,t1,t2,t4,t6,hr⟩;by_cases hi:i<D.length;case neg=>
  have a:¬(i:Int)<D.length:=by omega
  rw[Z0v (by omega)]at hr;have hr:R=none:=hr;subst hr;have k:A0x prog 23 []=some (.agg [I 0,I 0,I 0]):=by simp[A0x,A1b]
  simp -dsimp[t1,t2,t4,t6,a,k,A0f h1,A0y,A0v,A0s f,A0j,idO,idZ];exact⟨A0V h (by omega),.same (by simp[bdd,A1I]) .nil⟩
 have a:(i:Int)<D.length:=by omega
 have w1:IntKind.i64.wrap ((i:Int)+1)=(i+1:Nat):=by rw[A0L (by omega) (by omega)];omega
 obtain⟨y,hy⟩:=ex (D[i]);have d:D[i]=y:=hy.symm;have j:(D.map A2Z)[i]?=some [I y.1.act,I y.1.item,I y.1.n,I y.2.act,I y.2.item,I y.2.n]:=by rw[hy];simp[hi,A2Z]
 have he:=B4S y.1 x;rw[Z0j hi,d,A5N,Z2n]at hr;by_cases c:y.1=x
 .rw[Z0w c]at hr he;have hr:R=some y.2:=hr;subst hr;simp -dsimp[t1,t2,t4,t6,a];refine A0Z hB (A0u gl) (λ_=>0) (λ_=>0) (by rfl) (by kernel_rfl) ?_;simp -dsimp[t1,t2,t4,t6,hi,a,j,d,A2Z,he,A0f h1,A0y,A0v,A0s f,A0j,idO];exact⟨A0V h (by omega),.same (by simp[bdd,A1I]) .nil⟩
 .rw[Z0r c]at hr he;simp -dsimp[t1,t2,t4,t6,a];refine A0Z hB (A0u gl) (λ_=>0) (λ_=>0) (by rfl) (by kernel_rfl) ?_;simp -dsimp[t1,t2,t4,t6,hi,a,j,d,A2Z,he,w1];exact⟨⟨i+1,by clear w1;omega,rfl,hr⟩,by clear w1;omega⟩
end
section
variable {u:A0a} {l:List A0J} {s:List A1v} {number day:Int}
def D1d(hf:Fit u)(hl:l.length<=500)(c:∀s∈l,s.good)(ht:∀m∈s,m.to.length<=40)(hA:A7L u l s number day):Fit (A2o u number (A2j u l s)):=by
 have d:A0r (A2o u number (A2j u l s))=l.length+1:=C1j (s:=s) hA.sound number;have b:inI number:=by have:=hA.n1;have:=hA.n2;simp only[inI];omega
 have e:=hA.len;refine B8U (u:=u) (ks:=A1T number (A2j u l s) u.kids.length) hf (λx hx=>?_) ?_
 .obtain⟨t,h1,j',h2,h3,rfl⟩:=A8T number _ _ x hx;obtain⟨r1,r2⟩:=C1o (hA.fmt t h1);have hw:=B9v t.1 r1;obtain⟨n,hn,rfl⟩:=Z0C.1 h1;have f1:=B5J hA.sound (by omega) c ht (A7o hn) (f:=l.length) (by omega);have hc:=f1.2.2;exact B6d (a:=number) (i:=j') b (by simp only[inI];omega) _ 0 0 f1.1 f1.2.1 (by omega) (by omega)
 .have:A0r (A2o u number (A2j u l s))=1+A0A (A1T number (A2j u l s) u.kids.length):=by rw[A2o,A0r]
  omega
def C7M{α β:Type}[DecidableEq α](f:α->β):∀(L:List α) (x:α),x∈L->(L.map λy=>(y,f y)).find? (λq=>decide (q.1=x))=some (x,f x)
 |y::L,x,h=>by
  rw[Z0z,Z2n];by_cases c:y=x
  .subst c;simp
  ·(have:decide ((y,f y).1=x)=false:=by simp[c]);rw[this]
   exact C7M f L x (by rcases Z0s.1 h with e|e;exact absurd e.symm c;exact e)
def C0v(hA:A7L u l s number day){x:IdD}(hx:x∈(A0R u).tail):A5N x (A3D number u (A2j u l s))=some (A5g u l s number x):=by have:=B1o (s:=s) hA.sound number;rw[A5N,show A3D number u (A2j u l s)=_ from this,C7M _ _ _ hx];rfl
def C9C(hA:A7L u l s number day):((A3D number u (A2j u l s)).map (·.1)).Nodup/\((A3D number u (A2j u l s)).map (·.2)).Nodup/\(A3D number u (A2j u l s)).length=l.length:=by
 have hS:=hA.sound;have e:=B1o (s:=s) hS number;have hn:(A0R u).tail.Nodup:=hS.nu.sublist (List.tail_sublist _);rw[show A3D number u (A2j u l s)=_ from e,Z1K,Z1K,Z0G];refine⟨?_,?_,hS.len.symm⟩
 .have:((λx:IdD×IdD=>x.1)∘λx=>(x,A5g u l s number x))=id:=rfl;rw[this,Z4n];exact hn
 .unfold List.Nodup;rw[Z3Z];refine Z2C ?_ hn;intro a b ha hb c e;exact c (D5u (s:=s) hS number ha hb e)
end

section
variable {F:IdD->Option A0a} {L:List A0J}
end
section
variable {F:IdD->Option A0a} {L:List A0J} {uid:IdD}
end

section
variable {u:A0a}
end
section
variable (gl:Nat->AV)
end
def D8V:prog.stoodInHeld 79=false:=by kernel_rfl
def D2l:prog.eqGuardType prog.depth 79=false:=by kernel_rfl
section
variable (gl:Nat->AV)
end
mutual
def C0b:∀(u:A0a) (b a:Int),B0i u b a<=a->B0i u b a=A0r u
 |.mk _ _ _ _ _ ks,b,a,h=>by
  rw[B0i]at h|-;rw[A0r];by_cases c:20<b
  .rw[Z0e c]at h;omega
  .rw[Z0d c]at h|-;have:=B6V ks b a 1 h;omega
def B6V:∀(ks:List A0a) (b a n:Int),A8k ks b a n<=a->A8k ks b a n=n+A0A ks
 |[],b,a,n,h=>by rw[A8k,A0A];omega
 |k::ks,b,a,n,h=>by
  rw[A8k]at h|-;rw[A0A];by_cases c:n<=a
  .rw[Z0e c]at h|-;have h1:=B6V ks b a _ h;have h2:=C0b k (b+1) (a-n) (by omega);omega
  .rw[Z0d c]at h;omega
end
def B7W{l}(h:A8n l=true):l.length<=300:=by simp only[A8n,Z0f,Z0k]at h;exact h.2
mutual
def C0k:∀u:A0a,B2C u=true->A0r u<=1000->u.lims
 |.mk id k l h w ks,hw,hc=>by rw[B2C]at hw;simp only[Z0f,Z0k]at hw;obtain⟨⟨⟨h1,h2⟩,h3⟩,h4⟩:=hw;rw[A0r]at hc;have:=A1Z ks;rw[A0a.lims];exact⟨⟨Z0R (B7W h2) (by omega),Z0R (B7W h3) (by omega),by show ks.length<=1000;omega,by show l.size<=1000;omega⟩,B6I ks h4 (by omega)⟩
def B6I:∀ks:List A0a,B0Q ks=true->A0A ks<=1000->A5v ks
 |[],_,_=>by rw[A5v];trivial
 |k::ks,hw,hc=>by rw[B0Q,Z0f]at hw;rw[A0A]at hc;rw[A5v];exact⟨C0k k hw.1 (by omega),B6I ks hw.2 (by omega)⟩
end
def D7W(u:A0a)(hg:u.good)(h:B7n u 30=true):Fit u/\A0r u<=30:=by
 simp only[B7n,Z0f,Z0k]at h;have:=C0b u 0 30 h.1;have hc:A0r u<=30:=by omega
 exact⟨⟨hg,C0k u h.2 (by omega),by omega⟩,hc⟩
def C3M(u:A0a)(l:List A0J)(s:List A1v):Bool:=B7n u 30&&decide (l.length<=40)&&decide (s.length<=60)&&(l.all λs=>decide (s.label.size<=100))&&s.all λm=>decide (m.to.length<=40)
section
variable (gl:Nat->AV)
def D1G(u:A0a)(l:List A0J)(s:List A1v)(M:Mem)(hg:u.good)(hl:l.length<=maxLen)(hs:s.length<=maxLen):A0e (WC gl) 11 [.agg u.row,.list 5 (A1L l) .no,.list 5 (A2e s) .no] M (λv M'=>v=B (C3M u l s)/\M'=M):=by
 have o:l.length<=9223372036854775807:=by simpa[maxLen]using hl
 have n:s.length<=9223372036854775807:=by simpa[maxLen]using hs
 have hf:=D5x gl u 30 M hg (by omega) (by omega);obtain⟨R,hR⟩:=ex (C3M u l s);have a:R=(B7n u 30&&decide (l.length<=40)&&decide (s.length<=60)&&(l.all λs=>decide (s.label.size<=100))&&s.all λm=>decide (m.to.length<=40)):=hR;rw[<-hR];rw[u.row_eq]at hf|-;refine A0n hB func11 ?_;simp -dsimp;refine A0h func46 hf ?_;cases c1:B7n u 30 with
 |false=>rw[c1]at a;simp only[Z0O]at a;simp -dsimp[a]
 |true=>
 rw[c1,Z0L]at a;by_cases c2:l.length<=40;case neg=>
  have d:(40:Int)<l.length:=by omega
  have g:(l.length:Int)>40:=d;rw[Z0r c2]at a;simp only[Z0O]at a;simp -dsimp[d,g,a]
 have d:¬(40:Int)<l.length:=by omega
 have g:¬(l.length:Int)>40:=d;rw[Z0w c2,Z0L]at a;by_cases c4:s.length<=60;case neg=>
  have e:(60:Int)<s.length:=by omega
  have k:(s.length:Int)>60:=e;rw[Z0r c4]at a;simp only[Z0O]at a;simp -dsimp[d,g,e,k,a]
 have e:¬(60:Int)<s.length:=by omega
 have k:¬(s.length:Int)>60:=e;rw[Z0w c4,Z0L]at a;simp -dsimp[d,g,e,k];refine A0B hB l.length 7 (λT M1=>∃i:Nat,i<=l.length/\M1=M/\T 1=.list 5 (A1L l) .no/\T 2=.list 5 (A2e s) .no/\T 7=I i/\R=(((l.drop i).all λs=>decide (s.label.size<=100))&&s.all λm=>decide (m.to.length<=40))) ?_ ?_
 .exact⟨0,by omega,rfl,by simp,by simp,by simp,by simpa using a⟩
 rintro T M1 ⟨i,i1,rfl,t1,t2,t7,ho⟩;by_cases hi:i<l.length;case neg=>
  have f:¬(i:Int)<l.length:=by omega
  rw[show l.drop i=[]from Z0v (by omega),Z3L,Z0L]at ho;simp -dsimp[t1,t2,t7,f];refine A0B hB s.length 8 (λT M2=>∃j:Nat,j<=s.length/\M2=M1/\T 2=.list 5 (A2e s) .no/\T 8=I j/\R=(s.drop j).all λm=>decide (m.to.length<=40)) ?_ ?_
  .exact⟨0,by omega,rfl,by simp[t2],by simp,by simpa using ho⟩
  clear hi f t1 t2 t7 ho;rintro T M2 ⟨j,j1,rfl,t2,t8,ho⟩;by_cases hj:j<s.length;case neg=>
   (have h:¬(j:Int)<s.length:=by omega);rw[show s.drop j=[]from Z0v (by omega),Z3L]at ho
   simp -dsimp[t2,t8,h,ho]
  have h:(j:Int)<s.length:=by omega
  have w1:=A1H (i:=j) (by omega);rw[Z0j hj,Z1n]at ho;by_cases c3:s[j].to.length<=40
  ·(have b:¬(40:Int)<s[j].to.length:=by omega);have c:¬(s[j].to.length:Int)>40:=b
   rw[Z0w c3,Z0L]at ho;simp -dsimp[t2,t8,hj,h,A1v.row,b,c,w1];exact⟨⟨j+1,by clear w1;omega,rfl,ho⟩,by clear w1;omega⟩
  ·(have b:(40:Int)<s[j].to.length:=by omega);have c:(s[j].to.length:Int)>40:=b
   rw[Z0r c3,Z0O]at ho;simp -dsimp[t2,t8,hj,h,A1v.row,b,c,ho]
 have f:(i:Int)<l.length:=by omega
 have w1:=A1H (i:=i) (by omega);rw[Z0j hi,Z1n]at ho;by_cases c3:l[i].label.size<=100
 .have b:¬(100:Int)<l[i].label.size:=by omega
  have c:¬(l[i].label.size:Int)>100:=b;rw[Z0w c3,Z0L]at ho;simp -dsimp[t1,t2,t7,hi,f,A0J.row,b,c,w1];exact⟨⟨i+1,by clear w1;omega,rfl,ho⟩,by clear w1;omega⟩
 .have b:(100:Int)<l[i].label.size:=by omega
  have c:(l[i].label.size:Int)>100:=b;rw[Z0r c3]at ho;simp only[Z0O]at ho;simp -dsimp[t1,t2,t7,hi,f,A0J.row,b,c,ho]
end
section
variable (gl:Nat->AV)
def B4b(ws:List A0Q)(o:Own)(M:Mem)(hl:ws.length<=100000000):A0e (WC gl) 33 [.list 4 (A0g ws) o] M (λv M'=>v=.list 1 (A0W (A0z ws)) .no/\M'=M):=A0e.still (enc:=A4M) (λ_=>rfl) (λn x=>by simp[A1I,bdd]) (C2K gl M ws o hl)
def C1t(a:List ByteArray)(M:Mem)(h:a.length<=1000000):A0e (WC gl) 17 [.list 1 (A0W a) .no,.list 1 (A0W a) .no] M (λv M'=>v=B true/\M'=M):=by have:=D8x gl M (.list 1 (A0W a) .no) (.list 1 (A0W a) .no) a a (.inl ⟨_,rfl⟩) (.inl ⟨_,rfl⟩) h;rwa[Z0w rfl]at this
end
section
variable (gl:Nat->AV)
end
section
variable (gl:Nat->AV)
end
section
variable (gl:Nat->AV)
end
def D8w{G:A0o}{e:Nat}{x:Value}(h:Rep G A0G x):Rep G (.list e [] .no) x:=by simp only[A0G,Rep]at h|-;subst h;exact⟨none,0,rfl,by simp,by simp,by simp,by simp[A5I]⟩
def C6i{G:A0o}{e:Nat}{c:List AV}:∀(b:List AV) {ys:List Value},A0t G (b++A0G::c) ys->A0t G (b++.list e [] .no::c) ys
 |[],ys,h=>by simp only[Z1F,A0t]at h|-;obtain⟨y,d,rfl,h1,h2⟩:=h;exact⟨y,d,rfl,D8w h1,h2⟩
 |a::b,ys,h=>by simp only[Z0V,A0t]at h|-;obtain⟨y,d,rfl,h1,h2⟩:=h;exact⟨y,d,rfl,h1,C6i b h2⟩
def A0e.atNil{C:Ctx}{f:FuncId}{M:Mem}{Q:AV->Mem->Prop}{e:Nat}{a:List AV}(b:List AV)(h:A0e C f (b++.list e [] .no::a) M Q):A0e C f (b++A0G::a) M Q:=λG w vs hi hr=>h G w vs hi (C6i b hr)
section
variable (gl:Nat->AV)
end
section
variable (gl:Nat->AV)
def B5f(n:Int)(a:ByteArray)(ws:List ByteArray)(M:Mem)(hl:ws.length<=1000):A0e (WC gl) 45 [I n,S a,.list 1 (A0W ws) .no] M (λv M'=>v=.agg (A0a.mk ⟨1,0,n⟩ 2 a [] (ws.map A5b) []).row/\M'=M):=by
 refine A0e.dataX ?_;have a1:(A0a.mk ⟨1,0,n⟩ 2 a [] (ws.map A5b) []).row=[I 1,I 0,I n,I 2,S a,.list 4 [] .no,.list 4 (A0g (ws.map A5b)) .no,.list 8 [] .no]:=by rw[A0a.row];rfl
 rw[a1];obtain⟨K,hK⟩:=ex (ws.map A5b);have aa:K.length=ws.length:=by rw[hK,Z0G]
 rw[<-hK];obtain⟨b,s⟩:=ex (M.length);obtain⟨M1,m⟩:=ex (M++[z8,A0m.cells 27 [I 1,I 0,I n,I 2,S a,A0G,A0G,A0G]]);have h1:M1[b]?=some z8:=by rw[m,s];simp
 have h2:M1[b+1]?=some (A0m.cells 27 [I 1,I 0,I n,I 2,S a,A0G,A0G,A0G]):=by rw[m,s];simp[Z0W]
 have a3:Grow M M1:=by rw[m];exact A0c.app none _ _
 have a8:A0x prog 23 [(0,I 1),(2,I n)]=some (.agg [I 1,I 0,I n]):=by simp[A0x,A1b,A1o,A0d]
 have a6:A0x prog 27 [(1,I 2),(2,S a),(0,.agg [I 1,I 0,I n])]=some (.agg [I 1,I 0,I n,I 2,S a,A0G,A0G,A0G]):=by simp[A0x,A1b,A1o,A0d,A0v]
 refine A0n (hQ [27]) func45 ?_;simp -dsimp[A0k,a8,a6,A0i,A0d,A0y,A0v];refine A0B (hQ [27]) ws.length 8 (λT Mi=>∃i:Nat,i<=ws.length/\T 2=.list 1 (A0W ws) .no/\T 6=.ptr b 0/\T 7=.ptr (b+1) 0/\T 8=I i/\Grow M Mi/\Mi[b]?=some z8/\∃kv,Mi[b+1]?=some (A0m.cells 27 [I 1,I 0,I n,I 2,S a,A0G,kv,A0G])/\Arr 152 4 A0Q.row (b+2) Mi kv (K.take i)) ?_ ?_
 .rw[<-s];have e:M++[z8]++[A0m.cells 27 [I 1,I 0,I n,I 2,S a,A0G,A0G,A0G]]=M1:=by rw[m];simp
  refine⟨0,by omega,by simp,by simp,by simp,by simp,?_⟩;simp only[Z0F,Z0V,Z1F]at e|-;rw[e];exact⟨a3,h1,_,h2,by simpa using Arr.nil⟩
 rintro T Mi ⟨i,i1,t2,t6,t7,t8,d,q,kv,g,ha⟩;have y:b<Mi.length:=(Z0a.1 q).1;have a9:b+1<Mi.length:=(Z0a.1 g).1;by_cases hi:i<ws.length;case neg=>
  have l:¬(i:Int)<ws.length:=by omega
  rw[Z0g (by omega)]at ha;have r:A1y prog 27 Mi (.ptr (b+1) 0)=some (.agg [I 1,I 0,I n,I 2,S a,A0G,kv,A0G]):=by rw[A0b g];simp
  have p:A0i (some 8) Mi (.ptr b 0) (.agg [I 1,I 0,I n,I 2,S a,A0G,kv,A0G])=some (Mi.set b (.cells 27 [I 1,I 0,I n,I 2,S a,A0G,kv,A0G])):=by rw[A0f q];rfl
  simp -dsimp[t2,t6,t7,t8,l,r,p,A0s y,A0j];have t:=ha.own.keep (A0c.set Mi b (.cells 27 [I 1,I 0,I n,I 2,S a,A0G,kv,A0G])) (λf hf e=>by have:=ha.lat f hf;simp at e;omega);refine⟨A0V d (by omega),.agg ?_ .nil⟩;have a5:Still (Mi.set b (.cells 27 [I 1,I 0,I n,I 2,S a,A0G,kv,A0G])) M.length (bdd M.length) [kv,A0G] [.list 4 (K.map A0Q.row) .no,.list 8 [] .no]:=Still.rows (λ_=>rfl) (λx c hc=>by simp only[A0Q.row,Z0s,Z1x,Z2G]at hc;rcases hc with rfl|rfl|rfl|rfl<;>simp[bdd]) t (λf hf=>by have:=ha.lat f hf;omega) (.nilS .nil);exact .same trivial (.same trivial (.same trivial (.same trivial (.same trivial (.nilS a5)))))
 have l:(i:Int)<ws.length:=by omega
 have w1:=A1H (i:=i) (by omega);obtain⟨x,hx⟩:=ex (ws[i]);have u:ws[i]=x:=hx.symm;have a0:K.take (i+1)=K.take i++[A5b x]:=by rw[Z1r,Z0l (show i<K.length by omega),hx];simp only[hK,Z1R];rfl
 have r:A1y prog 24 Mi (.ptr (b+1) 6)=some kv:=by rw[A0b g];simp
 have a7:(A0W ws)[i]?=some [S x]:=by simp[A0W,hi,u]
 simp -dsimp[t2,t6,t7,t8,hi,l];refine A0Z (hQ [27]) (A0u gl) (λk=>if k=1 then 1 else if k=8\/k=10 then 2 else 0) (λ_=>b+1) (by rfl) (by kernel_rfl) ?_;simp -dsimp[t2,t6,t7,t8,hi,l,a7,u,r,A0F,A2Y,A0l,A0M,A0y,A0v];refine A3B (C:=WC gl) (enc:=A0Q.row) (e:=152) (sz:=4) (news:=[A5b x]) B7Z C7G C0B (λ_=>rfl) ha.own (by simp[A0D,A0Q.row,A5b]) (by simp;omega) rfl ?_;intro v' M' k1 k2 k3 _;have n1:obj kv≠some (b+1):=λe=>by have:=ha.lat (b+1) e;omega
 have n0:obj kv≠some b:=λe=>by have:=ha.lat b e;omega
 have o:=k2.get g n1;have w:=k2.get q n0;have lv:∀f,obj v'=some f->b+2<=f:=λf hf=>by
  rcases k3 with e|h
  .rw[e]at hf;exact ha.lat f hf
  .have:=h f hf;omega
 have a2:b+1<M'.length:=(Z0a.1 o).1;have p:A0i (some 1) M' (.ptr (b+1) 6) v'=some (M'.set (b+1) (.cells 27 [I 1,I 0,I n,I 2,S a,A0G,v',A0G])):=by rw[A0f o,k1.cells,Z0e ⟨k1.store,by simp,rfl⟩];rfl
 have a4:Grow M M':=⟨by have:=k2.1;have:=d.1;omega,λj hj _=>by
  have z:obj kv≠some j:=λe=>by have:=ha.lat j e;omega
  rw[k2.2 j (by have:=d.1;omega) z];exact d.2 j hj (by simp)⟩
 simp -dsimp[t2,t6,t7,t8,p,w1];refine⟨⟨i+1,by clear w1;omega,rfl,A0V a4 (by omega),?_,v',?_,?_⟩,by clear w1;omega⟩
 .exact w
 .simp[a2]
 .rw[a0];exact⟨k1.keep (A0c.set _ _ _) (λf hf e=>by have:=lv f hf;simp at e;omega),lv⟩
end
def exA:A0a:=.mk ⟨1,0,1⟩ 2 ⟨#[53]⟩ [] [⟨⟨#[115,101,101]⟩,0,0,0⟩,⟨⟨#[115,101,99,116,105,111,110]⟩,0,0,0⟩,⟨⟨#[50,44]⟩,0,0,0⟩] []
def exB:A0a:=.mk ⟨1,0,2⟩ 2 ⟨#[50]⟩ [] [] []
def exU:A0a:=.mk idZ 0 ⟨#[]⟩ [] [] [exA,exB]
def exP:List A0J:=[⟨⟨1,0,2⟩,-1,⟨#[50]⟩⟩,⟨⟨1,0,1⟩,-1,⟨#[53]⟩⟩]
def exQ:List A0J:=[⟨⟨1,0,2⟩,-1,⟨#[49]⟩⟩,⟨⟨1,0,1⟩,-1,⟨#[50]⟩⟩]
def exM:List A1v:=[⟨⟨1,0,1⟩,0,[⟨1,0,2⟩]⟩]
def D4K:B1Z exU=true:=by kernel_rfl
def D3e:A7q (λx=>A0E x exU) exU exP=0:=by kernel_rfl
def D1u{t:ByteArray}(h:t.size<=maxLen):A0Q.good ⟨t,0,0,0⟩:=B4n h
def D3N:exU.good:=by have h:∀n:Nat,n<=100->n<=maxLen:=λn h=>Z0R h (by decide);rw[exU,A0a.good,B3l,B3l,B3l,exA,A0a.good,B3l,exB,A0a.good,B3l];refine⟨by simp[IdD.good,idZ,inI],by simp[inI],h _ (by decide),h _ (by decide),by simp,h _ (by decide),by simp,h _ (by decide),⟨by simp[IdD.good,inI],by simp[inI],h _ (by decide),h _ (by decide),by simp,h _ (by decide),?_,h _ (by decide),trivial⟩,⟨by simp[IdD.good,inI],by simp[inI],h _ (by decide),h _ (by decide),by simp,h _ (by decide),by simp,h _ (by decide),trivial⟩,trivial⟩;intro w hw;simp only[Z0s,Z1x,Z2G]at hw;rcases hw with rfl|rfl|rfl<;>exact D1u (h _ (by decide))
def B7Q:Fit exU:=by refine⟨D3N,?_,by decide⟩;rw[exU,A0a.lims,A5v,A5v,A5v,exA,A0a.lims,A5v,exB,A0a.lims,A5v];have hl:∀u:A0a,u.head.length<=300->u.words.length<=300->u.kids.length<=1000->u.label.size<=1000->u.lim:=λu h1 h2 h3 h4=>⟨by omega,by omega,h3,h4⟩;exact⟨hl _ (by decide) (by decide) (by decide) (by decide),⟨hl _ (by decide) (by decide) (by decide) (by decide),trivial⟩,⟨hl _ (by decide) (by decide) (by decide) (by decide),trivial⟩,trivial⟩
def D6C:∀s∈exP,s.good:=by intro s hs;simp only[exP,Z0s,Z1x,Z2G]at hs;rcases hs with rfl|rfl<;>exact⟨by simp[IdD.good,inI],by simp[inI],by decide⟩
def C7u:∀s∈exQ,s.good:=by intro s hs;simp only[exQ,Z0s,Z1x,Z2G]at hs;rcases hs with rfl|rfl<;>exact⟨by simp[IdD.good,inI],by simp[inI],by decide⟩
def C2C{M:Mem}{f g o:Nat}{cs:List AV}{a:List (Nat×Nat)}(hm:M[f]?=some (.vec 69 5 cs g a))(hl:a.lookup g=some 2)(ho:o<10)(hc:cs.length=10)(x:ByteArray):A0i (some 1) M (.vptr f g o) (S x)=some (M.set f (.vec 69 5 (A0d cs o [S x]) g (A0Y 5 g o a))):=by
 simp only[A0i,hm,hl]
 rw[Z0e (by simp[AV.storable,AV.cells];omega)]
 rfl
abbrev A7x:List AV:=[I 1,I 0,I 1,I 2,S ⟨#[53]⟩,.list 4 [] .no,.list 4 [[S ⟨#[115,101,101]⟩,I 0,I 0,I 0],[S ⟨#[115,101,99,116,105,111,110]⟩,I 0,I 0,I 0],[S ⟨#[50,44]⟩,I 0,I 0,I 0]] .no,.list 8 [] .no]
abbrev A7R:List AV:=[I 1,I 0,I 2,I 2,S ⟨#[50]⟩,.list 4 [] .no,.list 4 [] .no,.list 8 [] .no]
section
variable (gl:Nat->AV) {f g:Nat}
def D0H{M:Mem}{o:Nat}{cs r:List AV}{a:List (Nat×Nat)}(hm:M[f]?=some (.vec 27 8 cs g a))(hl:a.lookup g=some 2)(ho:o<=8)(hr:r.length=8)(hs:AV.storable (.agg r)=true):A0i (some 8) M (.vptr f g o) (.agg r)=some (M.set f (.vec 27 8 (A0d cs o r) g (A0Y 8 g o a))):=by simp only[A0i,hm,hl,hs,AV.cells,hr,Z0w (show o+8<=2*8 by omega),decide_true,Z3j,Z0T]
def D2L{M:Mem}{a:List (Nat×Nat)}(hm:M[f]?=some (.vec 27 8 (A7x++A7R) g a))(hl:a.lookup g=some 2):A0e (WC gl) 159 [.vref f g 8 0 2,I 0,I 2,.func (.func 54) [] []] M (λ_ M'=>∃h2,M'=M.set f (.vec 27 8 (A7R++A7x) g h2)/\h2.lookup g=some 2):=by
 have hc:=λM=>D7t gl M exB exA (by decide) (by decide)
 have e1:exA.row=A7x:=rfl
 have e2:exB.row=A7R:=rfl
 rw[e1,e2,show E0E exB exA=-1 by kernel_rfl]at hc
 have h:f<M.length:=(Z0a.1 hm).1
 have l1:∀off,(A0Y 8 g off a).lookup g=some 2:=λoff=>by unfold A0Y;exact A2v _ hl
 have l2:∀o p,(A0Y 8 g o (A0Y 8 g p a)).lookup g=some 2:=λo p=>by unfold A0Y;exact A2v _ (l1 p)
 have d:A1y prog 27 M (.vptr f g 0)=some (.agg A7x):=by simp[A1y,A3k,hm,hl,A0j]
 have c:A1y prog 27 M (.vptr f g 8)=some (.agg A7R):=by simp[A1y,A3k,hm,hl,A0j]
 have s1:=D0H (r:=A7x) hm hl (o:=8) (by omega) rfl (by simp)
 obtain⟨M1,b⟩:=ex (M.set f (.vec 27 8 (A0d (A7x++A7R) 8 A7x) g (A0Y 8 g 8 a)))
 rw[<-b]at s1
 have m1:M1[f]?=some (.vec 27 8 (A0d (A7x++A7R) 8 A7x) g (A0Y 8 g 8 a)):=by rw[b];simp[h]
 have s2:=D0H (r:=A7R) m1 (l1 8) (o:=0) (by omega) rfl (by simp)
 obtain⟨M2,e⟩:=ex (M.set f (.vec 27 8 (A7R++A7x) g (A0Y 8 g 0 (A0Y 8 g 8 a))))
 rw[b,Z2J,show A0d (A0d (A7x++A7R) 8 A7x) 0 A7R=A7R++A7x from rfl,<-b,<-e]at s2
 have w1:IntKind.i64.wrap 1=1:=by decide
 have w2:IntKind.i64.wrap 2=2:=by decide
 have w0:IntKind.i64.wrap 0=0:=by decide
 refine A0n hW func159 ?_
 simp -dsimp -implicitDefEqProofs[w1]
 refine A2P hW (λT Mi=>T 0=.vref f g 8 0 2/\T 1=I 0/\T 2=I 2/\T 3=.func (.func 54) [] []/\(T 8=I 1/\Mi=M\/T 8=I 2/\Mi=M2)) (λT _=>match T 8 with|.val (.int _ i)=>2-i.toNat|_=>0) (by kernel_rfl) ?_ ?_
 .exact⟨by simp,by simp,by simp,by simp,.inl ⟨by simp,rfl⟩⟩
 rintro T Mi ⟨t0,t1,t2,t3,⟨t8,rfl⟩|⟨t8,rfl⟩⟩
 case inr=>simp -dsimp -implicitDefEqProofs[t0,t1,t2,t3,t8];exact⟨_,e,l2 _ _⟩
 simp -dsimp -implicitDefEqProofs[t0,t1,t2,t3,t8]
 refine A2P hW (λT M'=>T 0=.vref f g 8 0 2/\T 1=I 0/\T 2=I 2/\T 3=.func (.func 54) [] []/\T 8=I 1/\(T 9=I 1/\M'=Mi\/T 9=I 0/\M'=M2)) (λT _=>match T 9 with|.val (.int _ i)=>i.toNat|_=>0) (by kernel_rfl) ?_ ?_
 .exact⟨by simp[t0],by simp[t1],by simp[t2],by simp[t3],by simp[t8],.inl ⟨by simp,rfl⟩⟩
 rintro T M' ⟨u0,u1,u2,u3,u8,⟨u9,rfl⟩|⟨u9,rfl⟩⟩
 case inr=>simp -dsimp -implicitDefEqProofs;refine A0Z hW (A0u gl) (λk=>if k=8\/k=13 then 1 else 0) (λ_=>f) (by rfl) (by kernel_rfl) ?_;simp -dsimp -implicitDefEqProofs[u0,u1,u2,u3,u8,u9,w2,t8]
 simp -dsimp -implicitDefEqProofs
 refine A0Z hW (A0u gl) (λk=>if k=8\/k=13 then 1 else 0) (λ_=>f) (by rfl) (by kernel_rfl) ?_
 simp -dsimp -implicitDefEqProofs[u0,u1,u2,u3,u8,u9,w0,d,c]
 refine A7l (r:=I (-1)) (λM=>A1a func54 rfl rfl (hc M)) ?_
 simp -dsimp -implicitDefEqProofs[u0,u1,u2,u3,u8,u9]
 refine A0Z hW (A0u gl) (λk=>if k=9\/k=13 then 1 else if k=15\/k=17 then 2 else 0) (λ_=>f) (by rfl) (by kernel_rfl) ?_
 simp -dsimp -implicitDefEqProofs[u0,u1,u2,u3,u8,u9,w0,d,c,s1,s2]
def D5J{M:Mem}{a:List (Nat×Nat)}(hm:M[f]?=some (.vec 27 8 (A7x++A7R) g a))(hl:a.lookup g=some 2):A0e (WC gl) 53 [.vref f g 8 0 2,.func (.func 54) [] []] M (λ_ M'=>∃h2,M'=M.set f (.vec 27 8 (A7R++A7x) g h2)/\h2.lookup g=some 2):=by
 refine A0n hW func53 ?_
 simp -dsimp -implicitDefEqProofs
 refine A0q func110 (Q':=λ_ M'=>∃h2,M'=M.set f (.vec 27 8 (A7R++A7x) g h2)/\h2.lookup g=some 2) ?_ ?_
 .refine A0n hW func110 ?_;simp -dsimp -implicitDefEqProofs;refine A2P hW (λT M1=>M1=M/\T 0=.vref f g 8 0 2/\T 1=I 2/\T 2=.func (.func 54) [] []/\T 6=I 20/\T 7=I 0/\T 8=I 20) (λ_ _=>0) (by kernel_rfl) ?_ ?_
  .exact⟨rfl,by simp,by simp,by simp,by simp,by simp,by simp⟩
  rintro T M1 ⟨rfl,t0,t1,t2,t6,t7,t8⟩;simp -dsimp -implicitDefEqProofs[t0,t1,t2,t6,t7,t8];refine A0q func159 (D2L gl hm hl) ?_;rintro r M2 hS;simp -dsimp -implicitDefEqProofs;refine A2P hW (λT M1=>M1=M2/\T 1=I 2/\T 6=I 20) (λ_ _=>0) (by kernel_rfl) ?_ ?_
  .exact⟨rfl,by simp[t1],by simp[t6]⟩
  rintro T M1 ⟨rfl,t1,t6⟩;simp -dsimp -implicitDefEqProofs[t1,t6];exact hS
 rintro r M2 h
 simp -dsimp -implicitDefEqProofs
 exact h
def D5F(M:Mem)(x cf:AV)(hx:A2y prog 25 x=some 0):A0e (WC gl) 53 [x,cf] M (λ_ M'=>M'=M):=by
 refine A0n hW func53 ?_;simp -dsimp -implicitDefEqProofs[hx];refine A0q func110 (Q':=λ_ M'=>M'=M) ?_ ?_
 .refine A0n hW func110 ?_;simp -dsimp -implicitDefEqProofs;refine A2P hW (λT M1=>M1=M/\T 0=x/\T 1=I 0/\T 2=cf/\T 6=I 20/\T 7=I 0/\T 8=I 20) (λ_ _=>0) (by kernel_rfl) ?_ ?_
  .exact⟨rfl,by simp,by simp,by simp,by simp,by simp,by simp⟩
  rintro T M1 ⟨rfl,t0,t1,t2,t6,t7,t8⟩;simp -dsimp -implicitDefEqProofs[t0,t1,t2,t6,t7,t8];refine A0q func159 (Q':=λ_ M'=>M'=M1) ?_ ?_
  .refine A0n hW func159 ?_;(have w1:IntKind.i64.wrap 1=1:=by decide);simp -dsimp -implicitDefEqProofs[w1];refine A2P hW (λT M2=>M2=M1/\T 2=I 0/\T 8=I 1) (λ_ _=>0) (by kernel_rfl) ?_ ?_
   .exact⟨rfl,by simp,by simp⟩
   rintro T M2 ⟨rfl,t2,t8⟩;simp -dsimp -implicitDefEqProofs[t2,t8]
  rintro r M2 rfl;simp -dsimp -implicitDefEqProofs;refine A2P hW (λT M1=>M1=M2/\T 1=I 0/\T 6=I 20) (λ_ _=>0) (by kernel_rfl) ?_ ?_
  .exact⟨rfl,by simp[t1],by simp[t6]⟩
  rintro T M1 ⟨rfl,t1,t6⟩;simp -dsimp -implicitDefEqProofs[t1,t6]
 rintro r M2 rfl;simp -dsimp -implicitDefEqProofs
def D8G(o wv:Nat)(a b c k p:Int)(lb:ByteArray)(hv f:AV)(M:Mem):A0e (WC gl) 51 [.agg [I a,I b,I c,I k,S lb,hv,f,.list 8 [] .no],I p,.ptr o 0,.ptr wv 0] M (λ_ M'=>Grow M M'):=by
 refine A0n (hQ [28]) func51 ?_;simp -dsimp -implicitDefEqProofs;refine A0q func52 (C1K gl [] M (by simp)) ?_;rintro kv M1 ⟨hk,h,_⟩;have d:A2y prog 25 kv=some 0:=hk.len (e':=27) (by simp);simp -dsimp -implicitDefEqProofs;refine A0q func53 (D5F gl M1 kv _ d) ?_;rintro r1 M2 rfl;simp -dsimp -implicitDefEqProofs[d];refine A2P (hQ [28]) (λT M3=>M3=M2/\T 15=I 0/\T 16=I 0) (λT M1=>0) (by kernel_rfl) ?_ ?_
 .exact⟨rfl,by simp,by simp⟩
 rintro T M3 ⟨rfl,g,e⟩;simp -dsimp -implicitDefEqProofs[g,e];exact h
set_option maxHeartbeats 1000000 in
def D1l(o wv:Nat)(M0 M:Mem)(ay:o≠wv)(h0:M0.length<=o)(bc:M0.length<=wv)(a9:Grow M0 M)(ho:M[o]?=some (.cells 28 [A0G]))(hw:M[wv]?=some (.cells 100 [C7c o wv])):A0e (WC gl) 51 [.agg [I 0,I 0,I 0,I 0,S ⟨#[]⟩,.list 4 [] .no,.list 4 [] .no,.list 8 [A7x,A7R] .no],I (-1),.ptr o 0,.ptr wv 0] M (λ_ M'=>∃v',M'[o]?=some (.cells 28 [v'])/\A1g 69 5 A0J.row M' v' exP/\Grow M0 M'/\A1m M0.length v'):=by
 refine A0n (hQ [28]) func51 ?_
 simp -dsimp -implicitDefEqProofs
 refine A0q func52 (C1K gl [exA,exB] M (by simp)) ?_
 rintro kv M1 ⟨hk,r,a8⟩
 rcases hk with⟨-,av⟩|⟨f,g,b2,rfl,hm,hl⟩
 .exact absurd av (by simp)
 have b7:=a8 f rfl
 have b3:A2y prog 25 (.vref f g 8 0 2)=some 2:=by simp
 simp -dsimp -implicitDefEqProofs
 refine A0q func53 (D5J gl hm hl) ?_
 rintro r1 M2 ⟨h2,rfl,a5⟩
 have ah:f<M1.length:=(Z0a.1 hm).1
 have b4:o<M.length:=(Z0a.1 ho).1
 have b5:wv<M.length:=(Z0a.1 hw).1
 have ba:=a9.1
 have b9:=r.1
 obtain⟨M2,k⟩:=ex (M1.set f (.vec 27 8 (A7R++A7x) g h2))
 have af:M2[f]?=some (.vec 27 8 (A7R++A7x) g h2):=by rw[k];simp[ah]
 have o2:M2[o]?=some (.cells 28 [A0G]):=by rw[k,Z0c (by omega)];exact r.get ho (by simp)
 have w2:M2[wv]?=some (.cells 100 [C7c o wv]):=by rw[k,Z0c (by omega)];exact r.get hw (by simp)
 have g2:Grow M0 M2:=by rw[k];exact A0V (a9.trans r) (by omega)
 rw[<-k]
 simp -dsimp -implicitDefEqProofs
 refine A2P (hQ [28]) (λT M3=>∃(j:Nat) (va:AV),j<=2/\T 1=I (-1)/\T 2=.ptr o 0/\T 3=.ptr wv 0/\T 14=.vref f g 8 0 2/\T 15=I 2/\T 16=I j/\M3[o]?=some (.cells 28 [va])/\M3[wv]?=some (.cells 100 [C7c o wv])/\A1g 69 5 A0J.row M3 va (exP.take j)/\M3[f]?=some (.vec 27 8 (A7R++A7x) g h2)/\Grow M0 M3/\A1m M0.length va/\obj va≠some o/\obj va≠some wv/\obj va≠some f) (λT M1=>match T 16 with|.val (.int _ i)=>2-i.toNat|_=>0) (by kernel_rfl) ?_ ?_
 .exact⟨0,A0G,by omega,by simp,by simp,by simp,by simp,by simp,by simp,o2,w2,A1g.nil,af,g2,by simp[A1m],by simp,by simp,by simp⟩
 clear ho hw o2 w2 g2 af k
 rintro T M3 ⟨j,va,j1,t1,t2,t3,d,c,b,ho,hw,ha,hm,hg,x,w,ac,a6⟩
 by_cases hj:j<2
 case neg=>
  have z:¬(j:Int)<2:=by omega
  rw[Z0g (show exP.length<=j from by simp[exP];omega)]at ha;simp -dsimp -implicitDefEqProofs[t1,t2,t3,d,c,b,z];exact⟨va,ho,ha,hg,x⟩
 have z:(j:Int)<2:=by omega
 have w1:=A1H (i:=j) (by omega)
 obtain⟨n,lb,A,B,ar,aw⟩:∃(n:Int) (lb:ByteArray) (A B:List (List AV)),A1y prog 27 M3 (.vptr f g (j*8))=some (.agg [I 1,I 0,I n,I 2,S lb,.list 4 A .no,.list 4 B .no,.list 8 [] .no])/\exP.take (j+1)=exP.take j++[⟨⟨1,0,n⟩,-1,lb⟩]:=by
  have:j=0\/j=1:=by omega
  rcases this with rfl|rfl
  .exact⟨2,⟨#[50]⟩,[],[],by simp[A1y,A3k,hm,a5,A0j],rfl⟩
  .exact⟨1,⟨#[53]⟩,[],_,by simp[A1y,A3k,hm,a5,A0j];rfl,rfl⟩
 obtain⟨xo,ai⟩:=ex (M3.length)
 obtain⟨M4,u⟩:=ex (M3++[A0m.cells 27 [I 1,I 0,I n,I 2,S lb,.list 4 A .no,.list 4 B .no,.list 8 [] .no]])
 have a:Grow M3 M4:=by rw[u];exact A0c.app none _ _
 have ag:M4[xo]?=some (A0m.cells 27 [I 1,I 0,I n,I 2,S lb,.list 4 A .no,.list 4 B .no,.list 8 [] .no]):=by rw[u,ai];simp
 have ad:=a.get ho (by simp)
 have al:=a.get hw (by simp)
 have am:=ha.keep a (by simp)
 have ao:=a.get hm (by simp)
 have au:o<M3.length:=(Z0a.1 ho).1
 have b1:wv<M3.length:=(Z0a.1 hw).1
 have az:f<M3.length:=(Z0a.1 hm).1
 have y:∀q,obj va=some q->q<M3.length:=λq hq=>ha.lt hq
 have b6:=hg.1
 have b8:=a.1
 simp -dsimp -implicitDefEqProofs[t1,t2,t3,d,c,b,hj,z,ar,A0k,A0i,A0d,A0y,A0v]
 rw[<-u,<-ai]
 simp -dsimp -implicitDefEqProofs[t1,t2,t3,d,c,b,A0b ad,A0b ag,D0P,A0l,A0M,A0y,A0v]
 refine A3B (C:=WC gl) (enc:=A0J.row) (e:=69) (sz:=5) (news:=[⟨⟨1,0,n⟩,-1,lb⟩]) D9Y E4y E3c (λ_=>rfl) am (by simp[A0D,A0J.row]) (by simp[exP];omega) rfl ?_
 intro v1 M5 a1 a2 a3 _
 rw[<-aw]at a1
 have an:=a2.get ad w
 have b0:=a2.get al ac
 have aj:=a2.get ag (λe=>by have:=y _ e;omega)
 have ap:=a2.get ao a6
 have bb:M4.length<=M5.length:=a2.1
 have ab:∀q,obj v1=some q->obj va=some q\/M4.length<=q:=λq hq=>by
  rcases a3 with e|e
  .exact .inl (by rw[<-e];exact hq)
  .exact .inr (e q hq)
 have m:∀q,q<M4.length->obj va≠some q->obj v1≠some q:=λq hq hn e=>by
  rcases ab _ e with h|h
  .exact hn h
  .omega
 have ax:A0i (some 1) M5 (.ptr o 0) v1=some (M5.set o (.cells 28 [v1])):=by rw[A0f an,a1.cells,Z0e ⟨a1.store,by simp,rfl⟩];rfl
 obtain⟨M6,s⟩:=ex (M5.set o (.cells 28 [v1]))
 have p:A0c (some o) M5 M6:=by rw[s];exact A0c.set _ _ _
 have a0:M6[o]?=some (.cells 28 [v1]):=by rw[s,Z2H (by omega)]
 have a4:=p.get b0 (by simpa using ay)
 have aq:=p.get aj (by simp;omega)
 have ak:=p.get ap (by simp;omega)
 have a7:=a1.keep p (λq hq=>by intro e;exact m o (by omega) w (by rw[hq,Z1H e]))
 have g6:Grow M0 M6:=by rw[s];refine A0V (?_:Grow M0 M5) h0;exact(hg.trans a).chain a2 (.inr λq hq=>x q hq)
 have ae:A2y prog 28 v1=some (j+1):=by have:=a7.len (P:=prog) (t:=28) (e':=69) (by simp);rw[this];simp[exP];omega
 have w2:IntKind.i64.wrap (j:Int)=j:=A0L (by omega) (by omega)
 have aa:=D8G gl o wv 1 0 n 2 j lb (.list 4 A .no) (.list 4 B .no) M6
 simp -dsimp -implicitDefEqProofs[t1,t2,t3,d,c,b,ax]
 rw[<-s]
 simp -dsimp -implicitDefEqProofs[t1,t2,t3,d,c,b,A0b a0,A0b a4,A0b aq,ae,w2]
 refine A0q func51 aa ?_
 rintro r7 M7 l
 simp -dsimp -implicitDefEqProofs[t1,t2,t3,d,c,b,w1]
 exact⟨⟨j+1,by clear w1 w2;omega,rfl,v1,l.get a0 (by simp),l.get a4 (by simp),a7.keep l (by simp),l.get ak (by simp),g6.trans l,λq hq=>by rcases ab q hq with h|h;exact x q h;omega,m o (by omega) w,m wv (by omega) ac,m f (by omega) a6⟩,by clear w1 w2;omega⟩
def D1W(h:gl 0=A2z)(e:gl 1=A2K)(M:Mem):A0e (WC gl) 15 [.agg exU.row] M (λv M'=>A1g 69 5 A0J.row M' v exP/\Grow M M'/\A1m M.length v):=by
 have b:=C2J gl h e exU M B7Q;rw[C1N,D4K]at b;obtain⟨M1,a⟩:=ex (M++[A0m.cells 28 [.val (.slice none 0 0)],A0m.cells 100 [C7c M.length (M.length+1)]]);have ho:M1[M.length]?=some (A0m.cells 28 [.val (.slice none 0 0)]):=by rw[a];simp
 have hw:M1[M.length+1]?=some (A0m.cells 100 [C7c M.length (M.length+1)]):=by rw[a];simp
 have g:=D1l gl M.length (M.length+1) M M1 (by omega) (by omega) (by omega) (by rw[a];exact A0c.app none _ _) ho hw;have d:exU.row=[I 0,I 0,I 0,I 0,S ⟨#[]⟩,.list 4 [] .no,.list 4 [] .no,.list 8 [A7x,A7R] .no]:=rfl;rw[d]at b|-;refine A0n (hQ []) func15 ?_;simp -dsimp -implicitDefEqProofs;refine A0h func50 b ?_;simp -dsimp -implicitDefEqProofs[A0k,A0i,A0d,A0y,A0v];rw[<-a];simp -dsimp -implicitDefEqProofs[A0b hw];refine A0q func51 g ?_;rintro r M2 ⟨v',h1,h3,f,c⟩;simp -dsimp -implicitDefEqProofs[A0b h1,h3,f,c]
end
def A9Q{C:Ctx}{h:A2u}{N:Nat}{x y:Code}{Q:Exit->Env->Mem->Prop}{T:Env}{M:Mem}{I:Env->Mem->Prop}(hx:A5e C h N x (λe T' M'=>C5m .normal I e T' M' ⟨⟩) T M ⟨⟩)(a:A1V N x=true)
 (hy:∀T M,I T M->AWp C N y Q T M):AWp C N (.seq x y) Q T M:=
 B7I (AWp.mono (A3y x _ T M a hx) λe T M h=>by obtain⟨rfl,h⟩:=h;exact hy T M h)
def D2B{C:Ctx}{h:A2u}{N:Nat}{x y:Code}{Q:Exit->Env->Mem->Prop}{T:Env}{M:Mem}{I:Env->Mem->Prop}(hx:A5e C h N x (λe T' M'=>C5m .normal I e T' M' ⟨⟩) T M ⟨⟩)(a:A1V N x=true)
 (hy:∀T M,I T M->∃n T2,(∀k,Still M n (λ_=>True) [T k] [T2 k])/\AWp C N y Q T2 (A4w M n)):AWp C N (.seq x y) Q T M:=
 B7I (AWp.still (AWp.mono (A3y x _ T M a hx) λe T M h=>by obtain⟨rfl,h⟩:=h;exact hy T M h))
def E0Z(x:IdD×IdD):A1B prog .eql 79 (.agg (A2Z x)) (.agg (A2Z x))=some (B true):=by
 have h0:A3q prog .eql 79 (.agg (A2Z x)) (.agg (A2Z x))=none:=by simp[A3q,A4p]
 have h1:A9V prog 30 79 (.agg (A2Z x)) (.agg (A2Z x))=some true:=by simp[A9V,A3p,A0j,D8V,C4n,A2Z]
 simp only[A1B,h0,A4T,D2l,h1];rfl
def D4V{C:Ctx}{h:A2u}{N:Nat}{x:Code}{rs:List ResultVar}{Q:AV->Mem->Prop}{T:Env}{M:Mem}(hx:A5e C h N x (λe T M=>C6T C rs Q e T M ⟨⟩) T M ⟨⟩)(a:A1V N x=true):AWp C N x (B4P C rs Q) T M:=A3y x _ T M a hx
def D8P:B3e exU exQ exM 9 40=0:=by kernel_rfl
def D5W:B3e exU exQ exM 9 0=0:=by kernel_rfl
def D5b:(A2H exU++A3w (A2j exU exQ exM)).length=4:=by kernel_rfl
def C6k:A3D 9 exU (A2j exU exQ exM)=[(⟨1,0,1⟩,⟨9,3,1⟩),(⟨1,0,2⟩,⟨9,2,1⟩)]:=by kernel_rfl
def D4C:((A2o exU 9 (A2j exU exQ exM)).kids.map λk=>A0z k.words)=[[],[⟨#[115,101,101]⟩,⟨#[98,111,111,107]⟩,⟨#[115,101,99,116,105,111,110]⟩,⟨#[49,44]⟩]]:=by kernel_rfl
def D7n:∃x y,(A2o exU 9 (A2j exU exQ exM)).kids=[x,y]/\A0z y.words=[⟨#[115,101,101]⟩,⟨#[98,111,111,107]⟩,⟨#[115,101,99,116,105,111,110]⟩,⟨#[49,44]⟩]:=by
 have h:=D4C;generalize(A2o exU 9 (A2j exU exQ exM)).kids=K at*
 match K,h with
 |[],h=>simp at h
 |[x],h=>simp at h
 |[x,y],h=>simp only[Z0z,Z2b,Z1a,Z1D]at h;exact⟨x,y,rfl,h.2⟩
 |x::y::z::K,h=>simp at h
section
variable (gl:Nat->AV)
abbrev B7z:List AV:=[I 0,I 0,I 0,I 0,eS,A0G,A0G,.list 8 [A7x,A7R] .full]
abbrev D3l:List AV:=[I 0,I 0,I 0,I 0,eS,A0G,A0G,.list 8 [A7x,A7R] .no]
set_option maxHeartbeats 1000000 in
def C9e(s:gl 0=A2z)(w:gl 1=A2K)(ba:gl 3=.cptr [fnV 444,fnV 445])(an:∀g,bdd 0 (gl g)):A0e (WC gl) 10 [] [] (λv _=>v=B true):=by
 have al:=λM=>B5f gl 1 ⟨#[53]⟩ [⟨#[115,101,101]⟩,⟨#[115,101,99,116,105,111,110]⟩,⟨#[50,44]⟩] M (by decide);have am:=λM=>A0e.atNil (e:=1) [I 2,S ⟨#[50]⟩] (B5f gl 2 ⟨#[50]⟩ [] M (by decide));have e1:(A0a.mk ⟨1,0,1⟩ 2 ⟨#[53]⟩ [] (([⟨#[115,101,101]⟩,⟨#[115,101,99,116,105,111,110]⟩,⟨#[50,44]⟩]:List ByteArray).map A5b) []).row=A7x:=rfl;have e2:(A0a.mk ⟨1,0,2⟩ 2 ⟨#[50]⟩ [] (([]:List ByteArray).map A5b) []).row=A7R:=rfl;rw[e1]at al;simp only[e2]at am;have ac:exU.row=[I 0,I 0,I 0,I 0,eS,.list 4 [] .no,.list 4 [] .no,.list 8 [A7x,A7R] .no]:=rfl;have hU:∀(M:Mem) (xs ys:List AV),Still M M.length (λ_=>True) xs ys->Still M M.length (λ_=>True) (.agg D3l::xs) (.agg exU.row::ys):=λM xs ys h=>by rw[ac];exact .agg (.same trivial (.same trivial (.same trivial (.same trivial (.same trivial (.nilS (.nilS (.same trivial .nil)))))))) h
 have au:A0x prog 27 [(5,.list 8 [A7x,A7R] .full)]=some (.agg B7z):=by simp[A0x,A1b,A1o,A0d,AV.cells,AV.storable]
 obtain⟨M1,a9⟩:=ex ([A0m.cells 27 B7z]);have a1:M1[0]?=some (A0m.cells 27 B7z):=by rw[a9];rfl
 have az:=D1W gl s w M1;have ap:=A0e.disown (args:=[.agg B7z]) (ds:=[.agg D3l]) rfl (A0e.calm (hU M1 [] [] .nil) az);have u:∀a b:Int,A0x prog 23 [(0,I a),(2,I b)]=some (.agg [I a,I 0,I b]):=λa b=>by simp[A0x,A1b,A1o,A0d]
 have a0:exP.length=2:=rfl;refine A8v func10 rfl rfl rfl rfl rfl ?_;refine A9Q (h:=hB) (I:=λT M=>M=[]) ?_ rfl ?_
 .simp -dsimp -implicitDefEqProofs
 rintro T M rfl;refine A9Q (h:=hB) (I:=λT M=>T 1=.ptr 0 0/\M=M1) ?_ rfl ?_
 .simp -dsimp -implicitDefEqProofs[A0l,A0M,A0y,A0v];refine A0h func45 (A0e.disown (by simp[A6H,C1z,B1m,A0W]) (al _)) ?_;simp -dsimp -implicitDefEqProofs[A0l,A0M,A0y,A0v];refine A0h func45 (A0e.disown (by simp[A6H,C1z,B1m]) (am _)) ?_;simp -dsimp -implicitDefEqProofs[au,A0l,A0M,A0k,A0i,A0d,A0y,A0v];exact a9.symm
 rintro T M ⟨t1,rfl⟩;refine A9Q (h:=hB) (I:=λT M'=>T 1=.ptr 0 0/\M'[0]?=some (A0m.cells 27 B7z)/\∃f g c,T 2=.vref f g 5 0 2/\1<=f/\M'[f]?=some (.vec 69 5 (exP.flatMap A0J.row) g c)/\c.lookup g=some 2) ?_ rfl ?_
 .simp -dsimp -implicitDefEqProofs[t1,A0b a1];refine A0q func15 ap ?_;rintro v M2 ⟨ho,bf,ao⟩;have a2:=bf.get a1 (by simp);rcases ho with⟨-,b7⟩|⟨f,g,c,rfl,hm,hl⟩
  .exact absurd b7 (by simp[exP])
  have ax:1<=f:=by have:=ao f rfl;rw[a9]at this;exact this
  rw[a0]at hl;simp -dsimp -implicitDefEqProofs[t1,a0];exact⟨a2,f,g,⟨rfl,rfl⟩,ax,c,hm,hl⟩
 rintro T M2 ⟨t1,a2,f,g,c,t2,ax,hm,hl⟩;have t:=A0e.lone (M:=M2) (n:=0) (args:=[.vref f g 5 0 2,.list 5 [[I 1,I 0,I 2,I (-1),S ⟨#[50]⟩],[I 1,I 0,I 1,I (-1),S ⟨#[53]⟩]] .full]) (ds:=[.list 5 (A1L exP) .no,.list 5 (A1L exP) .no]) an
  (Still.rows (enc:=A0J.row) (l:=exP) (e:=69) (λ_=>rfl) (λ_ _ _=>trivial) (.inr ⟨f,g,c,rfl,hm,hl⟩) (λ_ _=>Z3a _) (.dis trivial .nil))
  (by simp[A1I,bdd,A7H,A1L,exP,A0J.row]) ((D5n gl exP [] (by decide)).mono λ_ _ h=>h.1)
 have d:=A0e.lone (M:=M2) (n:=0) (args:=[.agg D3l,.vref f g 5 0 2]) (ds:=[.agg exU.row,.list 5 (A1L exP) .no]) an
  (by rw[ac];exact .agg (.same trivial (.same trivial (.same trivial (.same trivial (.same trivial (.nilS (.nilS (.same trivial .nil)))))))) (Still.rows (enc:=A0J.row) (l:=exP) (e:=69) (λ_=>rfl) (λ_ _ _=>trivial) (.inr ⟨f,g,c,rfl,hm,hl⟩) (λ_ _=>Z3a _) .nil))
  (by rw[ac];simp[A1I,bdd,A7H,A1L,exP,A0J.row]) ((C8a gl s w (λx=>A0E x exU) exU rfl exP [] B7Q (by decide) D6C).mono λ_ _ h=>h.1)
 rw[D3e]at d;have d:=A0e.disown (args:=[.agg B7z,.vref f g 5 0 2]) (ds:=[.agg D3l,.vref f g 5 0 2]) rfl d;refine A9Q (h:=hB) (I:=λT M'=>T 1=.ptr 0 0/\T 2=.vref f g 5 0 2/\M'=M2) ?_ rfl ?_
 .simp -dsimp -implicitDefEqProofs[t1,t2,u,D0P,A0l,A0M,A0y,A0v];refine A0h func14 t ?_;simp -dsimp -implicitDefEqProofs[t1,t2,A0b a2];refine A0h func12 d ?_;simp -dsimp -implicitDefEqProofs[t1,t2]
 clear t1 t2;rintro T M' ⟨t1,t2,rfl⟩;refine D2B (h:=hB) (I:=λT M3=>T 1=.ptr 0 0/\T 2=.vref f g 5 0 2/\M3[0]?=some (A0m.cells 27 B7z)/\∃h2,M3[f]?=some (.vec 69 5 (exQ.flatMap A0J.row) g h2)/\h2.lookup g=some 2) ?_ rfl ?_
 .have s1:=C2C hm hl (o:=4) (by omega) rfl ⟨#[49]⟩;have b6:f<M'.length:=(Z0a.1 hm).1;have l1:(A0Y 5 g 4 c).lookup g=some 2:=by unfold A0Y;exact A2v _ hl
  obtain⟨c1,ah⟩:=ex (A0d (exP.flatMap A0J.row) 4 [S ⟨#[49]⟩]);rw[<-ah]at s1;obtain⟨h1,b3⟩:=ex (A0Y 5 g 4 c);rw[<-b3]at s1 l1;obtain⟨N1,ad⟩:=ex (M'.set f (.vec 69 5 c1 g h1));rw[<-ad]at s1;have m1:N1[f]?=some (.vec 69 5 c1 g h1):=by rw[ad];simp[b6]
  have av:f<N1.length:=(Z0a.1 m1).1;have s2:=C2C m1 l1 (o:=9) (by omega) (by rw[ah];rfl) ⟨#[50]⟩;have bd:A0d c1 9 [S ⟨#[50]⟩]=exQ.flatMap A0J.row:=by rw[ah];rfl
  rw[bd]at s2;have b1:N1[0]?=some (A0m.cells 27 B7z):=by rw[ad,Z0c (by omega)];exact a2
  obtain⟨h2,ak⟩:=ex (A0Y 5 g 9 h1);have l2:h2.lookup g=some 2:=by rw[ak];unfold A0Y;exact A2v _ l1
  rw[<-ak]at s2;obtain⟨N2,aa⟩:=ex (N1.set f (.vec 69 5 (exQ.flatMap A0J.row) g h2));rw[<-aa]at s2;have m2:N2[f]?=some (.vec 69 5 (exQ.flatMap A0J.row) g h2):=by rw[aa];simp[av]
  have b2:N2[0]?=some (A0m.cells 27 B7z):=by rw[aa,Z0c (by omega)];exact b1
  simp -dsimp -implicitDefEqProofs[t1,t2,s1,s2];exact⟨b2,h2,m2,l2⟩
 clear t1 t2;rintro T M3 ⟨t1,t2,a3,h2,bc,b0⟩;refine⟨1,T.put (some 2) (.list 5 (A1L exQ) .no),A8a (B2W T) (by rw[t2];exact Still.rows (enc:=A0J.row) (l:=exQ) (e:=69) (λ_=>rfl) (λ_ _ _=>trivial) (.inr ⟨f,g,h2,rfl,bc,b0⟩) (λq hq=>by simp at hq;omega) .nil),?_⟩;have a4:(A4w M3 1)[0]?=some (A0m.cells 27 B7z):=A6i a3 λ_ _ _ _ _ e=>by simp at e
 have ab:(T.put (some 2) (.list 5 (A1L exQ) .no)) 1=.ptr 0 0:=by simp[t1]
 have a8:(T.put (some 2) (.list 5 (A1L exQ) .no)) 2=.list 5 (A1L exQ) .no:=by simp
 generalize T.put (some 2) (.list 5 (A1L exQ) .no)=T at*;generalize A4w M3 1=M4 at*;have be:A6H [AV.agg B7z,.list 5 (A1L exQ) .no,.list 5 [[I 1,I 0,I 1,I 0,.list 3 [[I 1,I 0,I 2]] .full]] .full,I 9,I 40]=[.agg D3l,.list 5 (A1L exQ) .no,.list 5 (A2e exM) .no,I 9,I 40]:=rfl;have ay:A6H [AV.agg B7z,.list 5 (A1L exQ) .no,.list 5 [[I 1,I 0,I 1,I 0,.list 3 [[I 1,I 0,I 2]] .full]] .full,I 9]=[.agg D3l,.list 5 (A1L exQ) .no,.list 5 (A2e exM) .no,I 9]:=rfl;have ar:∀m∈exM,m.to.length<=40:=by intro m hm;simp only[exM,Z0s,Z1x,Z2G]at hm;subst hm;decide
 have k:=λM=>D5C gl s w exU exQ exM 9 40 M B7Q (by decide) C7u (by decide) ar;simp only[D0u,Z0e D8P]at k;have i:=λM=>C3f gl s w ba exU exQ exM 9 M B7Q (by decide) C7u (by decide) ar;unfold D1k at i;simp only[Z0e D5W,C6k]at i;rw[C6k]at k;have a7:=λM=>A0e.disown be (A0e.calm (hU M _ _ (.same trivial (.same trivial (.same trivial (.same trivial .nil))))) (k M));have af:=λM=>A0e.disown ay (A0e.calm (hU M _ _ (.same trivial (.same trivial (.same trivial .nil)))) (i M));obtain⟨x,y,hk,hy⟩:=D7n;have aq:=D5b;obtain⟨j,r⟩:∃z,z=A2H exU++A3w (A2j exU exQ exM):=⟨_,rfl⟩;obtain⟨V,hV⟩:∃z,z=A2o exU 9 (A2j exU exQ exM):=⟨_,rfl⟩;rw[<-r]at a7 aq;rw[<-hV]at af hk;rw[V.row_eq]at af;simp only[C7v]at a7;have a6:A0x prog 90 [(0,.agg [I 1,I 0,I 1]),(2,.list 3 [[I 1,I 0,I 2]] .full)]=some (.agg [I 1,I 0,I 1,I 0,.list 3 [[I 1,I 0,I 2]] .full]):=by simp[A0x,A1b,A1o,A0d,AV.cells,AV.storable]
 obtain⟨p,hp⟩:=ex (M4.length);obtain⟨M5,ae⟩:∃z,z=M4++[A0m.cells 49 [I 9,S A9G,I 40,I 1,I 40,eS,.list 25 (j.map A1Q.row) .no]]:=⟨_,rfl⟩;have g5:Grow M4 M5:=by rw[ae];exact A0c.app none _ _
 have a5:=g5.get a4 (by simp);have p5:M5[p]?=some (A0m.cells 49 [I 9,S A9G,I 40,I 1,I 40,eS,.list 25 (j.map A1Q.row) .no]):=by rw[ae,hp];simp
 refine A9Q (h:=hB) (I:=λT M=>T 1=.ptr 0 0/\T 2=.list 5 (A1L exQ) .no/\T 3=.ptr p 0/\T 4=.list 6 [[I 1,I 0,I 1,I 9,I 3,I 1],[I 1,I 0,I 2,I 9,I 2,I 1]] .no/\T 5=I 0/\M=M5) ?_ rfl ?_
 .simp -dsimp -implicitDefEqProofs[ab,a8,A0b a4,u,a6,A0l,A0M,A0y,A0v];refine A0h func20 (a7 M4) ?_;simp -dsimp -implicitDefEqProofs[ab,a8,A0k,A0i,A0d,A0y,A0v,A2Z];exact⟨hp.symm,ae.symm⟩
 clear ab a8;rintro T M ⟨t1,t2,t3,t4,t5,rfl⟩;obtain⟨q,hq⟩:=ex (M.length);obtain⟨M6,ag⟩:∃z,z=M++[A0m.cells 27 [I V.id.act,I V.id.item,I V.id.n,I V.kind,S V.label,.list 4 (A0g V.head) .no,.list 4 (A0g V.words) .no,.list 8 (A0p V.kids) .no]]:=⟨_,rfl⟩;have g6:Grow M M6:=by rw[ag];exact A0c.app none _ _
 have p6:=g6.get p5 (by simp);have q6:M6[q]?=some (A0m.cells 27 [I V.id.act,I V.id.item,I V.id.n,I V.kind,S V.label,.list 4 (A0g V.head) .no,.list 4 (A0g V.words) .no,.list 8 (A0p V.kids) .no]):=by rw[ag,hq];simp
 refine A9Q (h:=hB) (I:=λT M=>T 3=.ptr p 0/\T 4=.list 6 [[I 1,I 0,I 1,I 9,I 3,I 1],[I 1,I 0,I 2,I 9,I 2,I 1]] .no/\T 5=I 0/\T 6=.ptr q 0/\T 8=I 0/\M=M6) ?_ rfl ?_
 .simp -dsimp -implicitDefEqProofs[t1,t2,t3,t4,t5,A0b a5,u,a6,A0l,A0M,A0y,A0v];refine A0h func24 (af M) ?_;simp -dsimp -implicitDefEqProofs[t3,t4,t5,A0k,A0i,A0d,A0y,A0v];exact⟨hq.symm,ag.symm⟩
 clear t1 t2 t3 t4 t5;rintro T M' ⟨t3,t4,t5,t6,t8,rfl⟩;have ai:A0x prog 23 [(0,I 9),(1,I 3),(2,I 1)]=some (.agg [I 9,I 3,I 1]):=by simp[A0x,A1b,A1o,A0d]
 have aw:A0x prog 79 [(0,.agg [I 1,I 0,I 1]),(1,.agg [I 9,I 3,I 1])]=some (.agg [I 1,I 0,I 1,I 9,I 3,I 1]):=by simp[A0x,A1b,A1o,A0d,A0v]
 have b9:V.kids.length=2:=by rw[hk];rfl
 have bb:(A0p V.kids)[1]?=some [I y.id.act,I y.id.item,I y.id.n,I y.kind,S y.label,.list 4 (A0g y.head) .no,.list 4 (A0g y.words) .no,.list 8 (A0p y.kids) .no]:=by rw[A3F V.kids 1 (by omega)];simp[hk,y.row_eq]
 have b5:A1B prog .eql 79 (.agg [I 1,I 0,I 1,I 9,I 3,I 1]) (.agg [I 1,I 0,I 1,I 9,I 3,I 1])=some (B true):=E0Z (⟨1,0,1⟩,⟨9,3,1⟩);have b8:V.kids[1]'(by omega)=y:=by simp[hk]
 have bg:y.words.length=4:=by have:=congrArg List.length hy;simpa[A0z]using this
 have aj:=B4b gl y.words .no M' (by omega);rw[hy]at aj;have b4:=A0e.disown (args:=[.list 1 (A0W [⟨#[115,101,101]⟩,⟨#[98,111,111,107]⟩,⟨#[115,101,99,116,105,111,110]⟩,⟨#[49,44]⟩]) .no,.list 1 [[S ⟨#[115,101,101]⟩],[S ⟨#[98,111,111,107]⟩],[S ⟨#[115,101,99,116,105,111,110]⟩],[S ⟨#[49,44]⟩]] .full]) rfl (C1t gl [⟨#[115,101,101]⟩,⟨#[98,111,111,107]⟩,⟨#[115,101,99,116,105,111,110]⟩,⟨#[49,44]⟩] M' (by decide));refine D4V (h:=hB) ?_ rfl;simp -dsimp -implicitDefEqProofs[t3,t4,t5,t6,t8,A0b p6,A0b q6,u,ai,aw,aq,b9,bb,b5,b8,y.row_eq,A0l,A0M,A0y,A0v];refine A0h func33 aj ?_;simp -dsimp -implicitDefEqProofs[A0l,A0M];refine A0h func17 b4 ?_;simp -dsimp -implicitDefEqProofs
end
end Go.Abs
