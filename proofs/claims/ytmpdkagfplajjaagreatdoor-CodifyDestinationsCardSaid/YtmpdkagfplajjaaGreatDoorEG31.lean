/- The texts CaD, CaE, CaF, CaG, CaH, CaI, CaJ, CaN, CaK, CaL, CaO, CaP, CaQ, CaR, CaS, CbU. -/
import Derived.Test.YtmpdkagfplajjaaGreatDoorEG30
import Derived.Test.YtmpdkagfplajjaaGreatDoorEG23
import Derived.Test.YtmpdkagfplajjaaGreatDoorEG25
set_option linter.all false
set_option maxRecDepth 100000
namespace Go.Abs
open Go.Proofs TryTypes Tryz
section
variable (gl:Nat->AV)
def B7M:D7j (WC gl) 112 [] A0X:=λs M=>A1T func112 rfl rfl (A3Z (λ_=>trivial) (A9n gl M s))
@[simp] def E0G:A0D prog 159 []=some (.agg [I 0,S ⟨#[]⟩]):=by simp[A0D,A1k]
@[simp] def E0d{k}{t}:A0D prog 159 [(0,I k),(1,S t)]=some (.agg [I k,S t]):=by simp[A0D,A1k,A1E,A0d]
def A8Y{M:Mem}{r:Nat}{l:List ByteArray}{o:Own}{a:Nat}{en:Bool}{X:A0j}(h:r<M.length):Rd (M.set r (.cells 240 (A1t l o a en))) r l o a en:=by simp[Rd,h]
def C5S(l:List ByteArray)(o:Own)(hl:l.length<=1000000000)(a9:∀s∈l,s.size<=maxLen)(ks:List ByteArray)(o2:Own)(hk:ks.length<=100)(r:Nat)(a:Nat)(en:Bool)(M:Mem)(hr:Rd M r l o a en):A0e (WC gl) 330 [.ptr r 0,.list 1 (A1c ks) o2] M (λv M'=>v=.tuple [.agg (match(A6S l (A2y ks) a en).1 with|some s=>s.row|none=>[I 0,S ⟨#[]⟩]),B (A6S l (A2y ks) a en).1.isSome]/\A0c (some r) M M'/\Rd M' r l o (A6S l (A2y ks) a en).2.1 (A6S l (A2y ks) a en).2.2):=by
 obtain⟨R,hR⟩:∃R,R=A6S l (A2y ks) a en:=⟨_,rfl⟩
 rw[<-hR]
 refine A0m hB func330 ?_
 have q:r<M.length:=(Z0b.1 hr).1
 obtain⟨M1,b⟩:∃M1,M1=M++[A0j.cells 159 [I 0,S ⟨#[]⟩],A0j.cells 240 (A1t l o a en)]:=⟨_,rfl⟩
 have k:Rd M1 r l o a en:=by unfold Rd;rw[b,Z0h q];exact hr
 have a4:(M++[A0j.cells 159 [I 0,S ⟨#[]⟩]])[r]?=some (.cells 240 (A1t l o a en)):=by rw[Z0h q];exact hr
 have y:M1[M.length]?=some (.cells 159 [I 0,S ⟨#[]⟩]):=by rw[b];simp
 have a6:M1[M.length+1]?=some (.cells 240 (A1t l o a en)):=by rw[b];simp
 have w:A0c (some r) M M1:=by rw[b];exact .app _ _ _
 simp -dsimp -implicitDefEqProofs[A0k,A0b a4,A0l,A0d]
 rw[<-b]
 clear a4 b
 refine A0r func333 (C4O gl l o hl a9 ks o2 hk r a en M1 k) ?_
 rintro _ M2 ⟨rfl,rfl⟩
 have g:r<M1.length:=(Z0b.1 k).1
 have h:A6S l (A2y ks) a en=match A3e l (λs=>decide (0<A2y ks s)) a en with
  |(none,_,_)=>(none,a,en)
  |(some s,a1,f)=>match A3e l A0X a1 f with
   |(none,_,_)=>(none,a,en)
   |(some t,a2,en2)=>(some ⟨A2y ks s,t⟩,a2,en2):=rfl
 rw[h]at hR
 clear h
 rcases hw:A3e l (λs=>decide (0<A2y ks s)) a en with⟨w1,a1,f⟩
 rw[hw]at hR
 have z:=@A8Y M1 r l o a1 f .gone g
 have d:r≠M.length:=by omega
 have a7:r≠M.length+1:=by omega
 simp -dsimp -implicitDefEqProofs
 refine A0r func331 (B4J gl l o hl a9 A0X r 112 [] (B7M gl) a1 f _ z) ?_
 rintro _ M3 ⟨rfl,rfl⟩
 rcases hw2:A3e l A0X a1 f with⟨w2,a2,en2⟩
 simp only[Z2C]
 have m:=@A8Y M1 r l o a2 en2 .gone g
 have a8:A0c (some r) M (M1.set r (.cells 240 (A1t l o a2 en2))):=w.trans (.set _ _ _)
 have j:(M1.set r (.cells 240 (A1t l o a2 en2)))[M.length]?=some (.cells 159 [I 0,S ⟨#[]⟩]):=by rw[Z0f d];exact y
 have a0:(M1.set r (.cells 240 (A1t l o a2 en2)))[M.length+1]?=some (.cells 240 (A1t l o a en)):=by rw[Z0f a7];exact a6
 generalize M1.set r (.cells 240 (A1t l o a2 en2))=M3 at*
 have e:M.length<M3.length:=(Z0b.1 j).1
 have u:Rd (M3.set r (.cells 240 (A1t l o a en))) r l o a en:=@A8Y M3 r l o a en .gone (by omega)
 have a3:(M3.set r (.cells 240 (A1t l o a en)))[M.length]?=some (.cells 159 [I 0,S ⟨#[]⟩]):=by rw[Z0f d];exact j
 have a5:A0c (some r) M (M3.set r (.cells 240 (A1t l o a en))):=a8.trans (.set _ _ _)
 have c:∀(M4:Mem) (X:List AV) (a':Nat) (p:Bool),Rd M4 r l o a' p->A0c (some r) M M4->A0c (some r) M (M4.set M.length (.cells 159 X))/\Rd (M4.set M.length (.cells 159 X)) r l o a' p:=λM4 X a' p h1 h2=>by
  refine⟨⟨by simpa using h2.1,λi hi ho=>?_⟩,?_⟩
  .rw[Z0f (by omega)];exact h2.2 i hi ho
  .unfold Rd;rw[Z0f d.symm];exact h1
 clear w k y a6 z
 cases w1 with
 |none=>
  simp only at hR
  subst hR
  have hq:=c _ [I 0,S ⟨#[]⟩] a en u a5
  simp -dsimp -implicitDefEqProofs[A0b a0,A0f m,A0d]
  simp -dsimp -implicitDefEqProofs[A0f a3,A0d,A0v,e,A0h]
  exact hq
 |some s=>
  simp only[hw2]at hR
  cases w2 with
  |none=>
   simp only at hR
   subst hR
   have hq:=c _ [I 0,S ⟨#[]⟩] a en u a5
   simp -dsimp -implicitDefEqProofs[A0b a0,A0f m,A0d]
   simp -dsimp -implicitDefEqProofs[A0f a3,A0d,A0v,e,A0h]
   exact hq
  |some t=>
   simp only at hR
   subst hR
   have hq:=c _ [I (A2y ks s),S t] a2 en2 m a8
   simp -dsimp -implicitDefEqProofs[A0f j,A0d,A0v,e,A0h,A0G.row]
   exact hq
end
def A1r(r:Nat)(b:Option Nat)(M M':Mem):Prop:=M.length<=M'.length/\∀i,i<M.length->i≠r->b≠some i->M'[i]?=M[i]?
def A1r.refl(r:Nat)(b:Option Nat)(M:Mem):A1r r b M M:=⟨Z0n _,λ_ _ _ _=>rfl⟩
def A1r.step{r}{b c}{M M1 M2}(h:A1r r b M M1)(k:A1r r c M1 M2)(hc:∀i,c=some i->i<M.length->b=some i):A1r r b M M2:=⟨Z0Q h.1 k.1,λi hi h1 h2=>(k.2 i (Z1n hi h.1) h1 λe=>h2 (hc i e hi)).trans (h.2 i hi h1 h2)⟩
def A1r.of_r{r}{b}{M M'}(h:A0c (some r) M M'):A1r r b M M':=⟨h.1,λi hi h1 _=>h.2 i hi λe=>h1 (by simpa using e.symm)⟩
def A1r.of_b{r}{b}{M M'}(h:A0c b M M'):A1r r b M M':=⟨h.1,λi hi _ h2=>h.2 i hi h2⟩
def lenV(v:AV):Nat:=match v with
 |.vref _ _ _ _ n=>n
 |_=>0
def A1l.lenV{α:Type}{e sz}{enc:α->List AV}{M}{v}{l}(h:A1l e sz enc M v l):lenV v=l.length:=by rcases h with⟨rfl,rfl⟩|⟨f,g,a,rfl,_⟩<;>rfl
def C2K(l:List ByteArray)(o:Own)(r a:Nat)(en:Bool)(b:Option Nat)(n:Nat)(M M':Mem):Prop:=∃en',Rd M' r l o (a+n) en'/\A1a l (a+n) en'=(A1a l a en).drop n/\A1r r b M M'
def D8j(l:List ByteArray)(o:Own)(r a:Nat)(en:Bool)(n:Nat)(b:Option Nat)(P:List A0G)(M:Mem)(q:List A0G)(M1:Mem):Prop:=∃en1,Rd M1 r l o (a+2*q.length) en1/\A1a l (a+2*q.length) en1=(A1a l a en).drop (2*q.length)/\P=q++prs (9-n-q.length) (A1a l (a+2*q.length) en1)/\A1r r b M M1
section
variable (gl:Nat->AV)
def C3A(l:List ByteArray)(o:Own)(hl:l.length<=1000000000)(aa:∀s∈l,s.size<=maxLen)(r:Nat)(a:Nat)(en:Bool)(p:List A0G)(v0:AV)(M:Mem)(hr:Rd M r l o a en)(hv:A1l 159 2 A0G.row M v0 p)(hp:p.length<=9)(a5:obj v0≠some r):A0e (WC gl) 329 [.ptr r 0,v0] M (λv M'=>A1l 159 2 A0G.row M' v (p++prs (9-p.length) (A1a l a en))/\C2K l o r a en (obj v0) (2*(prs (9-p.length) (A1a l a en)).length) M M'/\(obj v=obj v0\/A1m M.length v)):=by
 obtain⟨P,hP⟩:∃P,P=prs (9-p.length) (A1a l a en):=⟨_,rfl⟩
 rw[<-hP]
 refine A0m (hQ [21]) func329 ?_
 simp -dsimp -implicitDefEqProofs
 refine A7V (hQ [21]) (λT M1=>∃(q:List A0G) (vq:AV),T 0=.ptr r 0/\T 1=vq/\A1l 159 2 A0G.row M1 vq (p++q)/\p.length+q.length<=9/\D8j l o r a en p.length (obj v0) P M q M1/\(obj vq=obj v0\/A1m M.length vq)/\obj vq≠some r) (λT M1=>10-lenV (T 1)) (by kernel_rfl) ?_ ?_
 .exact⟨[],v0,by simp,by simp,by simpa using hv,by simpa using hp,⟨en,by simpa using hr,by simp,by simpa using hP,.refl _ _ _⟩,.inl rfl,a5⟩
 rintro T M1 ⟨q,vq,t0,t1,h1,h2,⟨d,h3,h4,h5,h6⟩,h7,h8⟩
 have m:=h1.len (P:=prog) (t:=40) (e':=159) (by kernel_rfl)
 have ab:r<M1.length:=(Z0b.1 h3).1
 have ad:=h1.lenV
 rw[Z0q]at m ad
 by_cases c:p.length+q.length<9
 .have c':(p.length:Int)+q.length<9:=by omega
  simp -dsimp -implicitDefEqProofs[t0,t1,m,c'];refine A0r func219 (B7E gl M1) ?_;rintro _ M2 ⟨rfl,rfl⟩;simp -dsimp -implicitDefEqProofs[t0,t1];refine A0r func330 (C5S gl l o hl aa A1x .full (by decide) r _ d M2 h3) ?_;rintro _ M3 ⟨rfl,hk,k⟩;have z:=@C0t l kS C4H (a+2*q.length) d;rcases z with⟨s,t,w',e1,e2,e3,u,e4,e5⟩|⟨e1,e2⟩
  .have a9:A6S l (A2y A1x) (a+2*q.length) d=(some ⟨kS s,t⟩,a+2*q.length+2,u):=e4;rw[a9]at k|-;obtain⟨M4,w⟩:∃M4,M4=M3++[A0j.cells 159 [I (kS s),S t]]:=⟨_,rfl⟩;(have a7:M4[M3.length]?=some (A0j.cells 159 [I (kS s),S t]):=by rw[w];simp);have j:A0c (some r) M2 M4:=hk.trans (by rw[w];exact .app _ _ _);(have y:Rd M4 r l o (a+2*q.length+2) u:=by unfold Rd;rw[w,Z0h (by have:=(Z0b.1 k).1;exact this)];exact k);have a0:A1l 159 2 A0G.row M4 vq (p++q):=h1.keep j (λf hf e=>h8 (by rw[hf];exact e.symm));simp -dsimp -implicitDefEqProofs[t0,t1,A0k,A0l,A0d,A0G.row];rw[<-w];simp -dsimp -implicitDefEqProofs[t0,t1,A0b a7,A0q,A1f];refine A4C (C:=WC gl) (enc:=A0G.row) (e:=159) (sz:=2) (news:=[⟨kS s,t⟩]) B5k C0u B5q (λ_=>rfl) a0 (by simp[A0A,A0G.row]) (by simp;omega) rfl ?_;intro v' M5 k1 k2 k3 _;have a3:Rd M5 r l o (a+2*q.length+2) u:=k2.get y h8;(have a4:P=(q++[⟨kS s,t⟩])++prs (9-p.length-(q.length+1)) w':=by rw[h5,e1,show 9-p.length-q.length=(9-p.length-(q.length+1))+1 from by omega,D3L ⟨e2,e3⟩,Z0W];rfl);(have a1:A1a l (a+2*(q.length+1)) u=w':=by rw[show a+2*(q.length+1)=a+2*q.length+2 from by omega];exact e5);(have hdr:w'=(A1a l a en).drop (2*(q.length+1)):=by rw[show 2*(q.length+1)=2*q.length+2 from by omega,<-Z1R,<-h4,e1];rfl);have af:=k1.lenV;have ae:M2.length<=M4.length:=j.1;simp -dsimp -implicitDefEqProofs[t0,t1];have a6:obj v'≠some r:=λe=>by
    rcases k3 with h|h
    .exact h8 (h▸e)
    .have:=h _ e;have:=ae;omega
   have a8:obj v'=obj v0\/A1m M.length v':=by
    rcases k3 with h|h
    .rcases h7 with g|g
     .exact .inl (h.trans g)
     .exact .inr λf hf=>g f (h▸hf)
    .exact .inr λf hf=>by have:=h f hf;have:=h6.1;omega
   have ac:A1r r (obj v0) M M5:=by
    refine(h6.step (A1r.of_r (b:=none) j) (by simp)).step (A1r.of_b k2) λi hi ab=>?_;rcases h7 with g|g
    .rw[<-g];exact hi
    .have:=g i hi;omega
   refine⟨⟨q++[⟨kS s,t⟩],by simpa using k1,by simp;omega,⟨u,?_,?_,?_,ac⟩,a8,a6⟩,?_⟩
   .simpa[show a+2*(q.length+1)=a+2*q.length+2 from by omega]using a3
   .simp only[Z0q,Z0v,Z1z,Z0G];rw[a1,hdr]
   .simp only[Z0q,Z0v,Z1z,Z0G];rw[a1];exact a4
   .simp at af;omega
  .have a2:A6S l (A2y A1x) (a+2*q.length) d=(none,a+2*q.length,d):=e2;rw[a2]at k|-;have z:prs (9-p.length-q.length) (A1a l (a+2*q.length) d)=[]:=D2E e1;rw[z,Z1D]at h5;subst h5;have j:A0c (some r) M2 (M3++[A0j.cells 159 [I 0,S ⟨#[]⟩]]):=hk.trans (.app _ _ _);(have y:Rd (M3++[A0j.cells 159 [I 0,S ⟨#[]⟩]]) r l o (a+2*P.length) d:=by unfold Rd;rw[Z0h (by have:=(Z0b.1 k).1;exact this)];exact k);have a0:A1l 159 2 A0G.row (M3++[A0j.cells 159 [I 0,S ⟨#[]⟩]]) vq (p++P):=h1.keep j (λf hf e=>h8 (by rw[hf];exact e.symm));simp -dsimp -implicitDefEqProofs[t0,t1,A0k,A0l,A0d];exact⟨a0,⟨d,y,h4,h6.step (A1r.of_r (b:=none) j) (by simp)⟩,h7⟩
 .have c':¬(p.length:Int)+q.length<9:=by omega
  have hz:prs (9-p.length-q.length) (A1a l (a+2*q.length) d)=[]:=by rw[show 9-p.length-q.length=0 from by omega];cases A1a l (a+2*q.length) d<;>simp[prs]
  rw[hz,Z1D]at h5;subst h5;simp -dsimp -implicitDefEqProofs[t0,t1,m,c'];exact⟨h1,⟨d,h3,h4,h6⟩,h7⟩
end
section
variable (gl:Nat->AV)
def C3z(l:List ByteArray)(o:Own)(hl:l.length<=1000000000)(q:∀s∈l,s.size<=maxLen)(r:Nat)(a:Nat)(en:Bool)(M:Mem)(hr:Rd M r l o a en):A0e (WC gl) 248 [.ptr r 0] M (λv M'=>A1l 159 2 A0G.row M' v (A2E (A1a l a en))/\C2K l o r a en none (A0Y (A1a l a en)) M M'/\A1m M.length v):=by
 refine A0m (hQ [9]) func248 ?_
 simp -dsimp -implicitDefEqProofs
 refine A0r func251 (B2n gl l o hl q A3l r a en M hr) ?_
 rintro _ M1 ⟨rfl,rfl⟩
 have d:r<M.length:=(Z0b.1 hr).1
 rcases A7D (l:=l) (a:=a) (en:=en) A3G.2.2.2.2.2.1 with⟨w,e1,c,e2,e3⟩|⟨e1,e2⟩
 .rw[e2];have hb:bkN (A1a l a en)=1:=by rw[e1];simp[bkN]
  have k:bkS (A1a l a en)=[A3o]:=by simp[bkS,hb]
  have hdr:(A1a l a en).drop 1=w:=by rw[e1];rfl
  have m:=@A8Y M r l o (a+1) c .gone d;have b:A0c (some r) M (M.set r (.cells 240 (A1t l o (a+1) c))):=.set _ _ _;generalize M.set r (.cells 240 (A1t l o (a+1) c))=M1 at*;simp -dsimp -implicitDefEqProofs[A0q,A1f];refine A4C (C:=WC gl) (enc:=A0G.row) (e:=159) (sz:=2) (l:=[]) (news:=[A3o]) B5k C0u B5q (λ_=>rfl) .nil (by simp[A0A,A0G.row,A3o]) (by simp) rfl ?_;intro v' M2 k1 k2 k3 _;have t:Rd M2 r l o (a+1) c:=k2.get m (by simp);have u:obj v'≠some r:=λe=>by
   rcases k3 with h|h
   .rw[h]at e;simp at e
   .have:=h _ e;have:=b.1;omega
  simp -dsimp -implicitDefEqProofs;refine A0r func329 (C3A gl l o hl q r (a+1) c [A3o] v' M2 t (by simpa using k1) (by simp) u) ?_;rintro v M3 ⟨q1,⟨en2,q2,q3,q4⟩,q5⟩;have j:A2E (A1a l a en)=[A3o]++prs (9-[A3o].length) (A1a l (a+1) c):=by unfold A2E;rw[k,hb,hdr,e3];rfl
  have p:A0Y (A1a l a en)=1+2*(prs (9-[A3o].length) (A1a l (a+1) c)).length:=by unfold A0Y;rw[hb,hdr,e3];rfl
  simp -dsimp -implicitDefEqProofs;rw[j,p];refine⟨q1,⟨en2,by rw[<-Z2m];exact q2,by rw[<-Z2m,q3,e3,e1,Z3U 1];rfl,?_⟩,?_⟩
  .refine((A1r.of_r b).step (A1r.of_b k2) (by simp)).step q4 λi hi d=>?_;rcases k3 with h|h
   .rw[h]at hi;simp at hi
   .have:=h i hi;have:=b.1;omega
  .intro f hf;have y:=b.1;have z:=k2.1;rcases q5 with g|g
   .rw[g]at hf;rcases k3 with h|h
    .rw[h]at hf;simp at hf
    .have:=h f hf;omega
   .have:=g f hf;omega
 .rw[e2];have hb:bkN (A1a l a en)=0:=by
   cases hs:A1a l a en with
   |nil=>rfl
   |cons s w=>simp only[bkN];rw[Z0e λe=>e1 w (by rw[hs,e])]
  have k:bkS (A1a l a en)=[]:=by simp[bkS,hb]
  have m:=@A8Y M r l o a en .gone d;have b:A0c (some r) M (M.set r (.cells 240 (A1t l o a en))):=.set _ _ _;generalize M.set r (.cells 240 (A1t l o a en))=M1 at*;simp -dsimp -implicitDefEqProofs;refine A0r func329 (C3A gl l o hl q r a en [] _ M1 m .nil (by simp) (by simp)) ?_;rintro v M3 ⟨q1,⟨en2,q2,q3,q4⟩,q5⟩;have j:A2E (A1a l a en)=[]++prs (9-([]:List A0G).length) (A1a l a en):=by unfold A2E;rw[k,hb];rfl
  have p:A0Y (A1a l a en)=2*(prs (9-([]:List A0G).length) (A1a l a en)).length:=by unfold A0Y;rw[hb,Z0G];rfl
  simp -dsimp -implicitDefEqProofs;rw[j,p];refine⟨q1,⟨en2,q2,q3,(A1r.of_r b).step q4 (by simp)⟩,?_⟩;intro f hf;have y:=b.1;rcases q5 with g|g
  .rw[g]at hf;simp at hf
  .have:=g f hf;omega
end
def D4S(l:List ByteArray)(o:Own)(r:Nat)(M M':Mem):Prop:=(∃a en,Rd M' r l o a en)/\A1r r none M M'
def C7B(l:List ByteArray)(o:Own)(r a:Nat)(en:Bool)(M:Mem)(v:AV)(M':Mem):Prop:=(∃p n,A2t (A1a l a en)=some (p,n)/\A1l 159 2 A0G.row M' v p/\C2K l o r a en none n M M'/\A1m M.length v)\/(A2t (A1a l a en)=none/\v=.val (.slice none 0 0)/\D4S l o r M M')
section
variable (gl:Nat->AV)
@[simp] def D9X{k}:A0D prog 159 [(0,I k)]=some (.agg [I k,S ⟨#[]⟩]):=by simp[A0D,A1k,A1E,A0d]
def B8d{k}{M}:A1H prog 40 1 [(0,.agg [I k,S ⟨#[]⟩])] M=some (.vref M.length 0 2 0 1,M++[.vec 159 2 [I k,S ⟨#[]⟩] 0 [(0,1)]]):=by simp[A1H,A1f,AV.storable,AV.cells]
def C0V(l:List ByteArray)(o:Own)(hl:l.length<=1000000000)(t:∀s∈l,s.size<=maxLen)(r:Nat)(a:Nat)(en:Bool)(M:Mem)(hr:Rd M r l o a en):A0e (WC gl) 252 [.ptr r 0] M (C7B l o r a en M):=by
 have j:r<M.length:=(Z0b.1 hr).1
 refine A0m (hQ [16]) func252 ?_
 simp -dsimp -implicitDefEqProofs
 refine A0r func219 (B7E gl M) ?_
 rintro _ M1 ⟨rfl,rfl⟩
 simp -dsimp -implicitDefEqProofs
 refine A0r func333 (C4O gl l o hl t A1x .full (by decide) r a en M1 hr) ?_
 rintro _ M2 ⟨rfl,rfl⟩
 rcases D0G (l:=l) (a:=a) (en:=en) C4H with⟨s,w,e1,e2,c,e3,e4⟩|⟨e1,e3⟩
 .have m:A3e l (λs=>decide (0<A2y A1x s)) a en=(some s,a+1,c):=e3;rw[m];have h:=@A8Y M1 r l o (a+1) c .gone j;have e:A0c (some r) M1 (M1.set r (.cells 240 (A1t l o (a+1) c))):=.set _ _ _;generalize M1.set r (.cells 240 (A1t l o (a+1) c))=M2 at*;simp -dsimp -implicitDefEqProofs[B8d];obtain⟨M3,d⟩:∃M3,M3=M2++[.vec 159 2 [I (A2y A1x s),S ⟨#[]⟩] 0 [(0,1)]]:=⟨_,rfl⟩;rw[<-d];have hv:A1l 159 2 A0G.row M3 (.vref M2.length 0 2 0 1) [⟨kS s,⟨#[]⟩⟩]:=.inr ⟨M2.length,0,[(0,1)],rfl,by rw[d];simp[A0G.row,kS],rfl⟩;have q:A0c (some r) M2 M3:=by rw[d];exact .app _ _ _
  have p:r<M2.length:=(Z0b.1 h).1;have u:Rd M3 r l o (a+1) c:=by unfold Rd;rw[d,Z0h p];exact h
  have y:=e.1;clear d;refine A0r func329 (C3A gl l o hl t r (a+1) c [⟨kS s,⟨#[]⟩⟩] _ M3 u hv (by simp) (by simp;omega)) ?_;rintro v M4 ⟨q1,⟨en2,q2,q3,q4⟩,q5⟩;rw[e4]at q1 q2 q3;have k:A2t (A1a l a en)=some (⟨kS s,⟨#[]⟩⟩::prs 8 w,1+2*(prs 8 w).length):=by rw[e1];simp only[A2t];rw[Z0d e2]
  simp -dsimp -implicitDefEqProofs;refine .inl ⟨_,_,k,q1,⟨en2,by rw[<-Z2m];exact q2,by rw[<-Z2m];refine q3.trans ?_;rw[e1,Z3U 1];rfl,?_⟩,?_⟩
  .refine((A1r.of_r e).step (A1r.of_r (b:=none) q) (by simp)).step q4 λi hi j=>?_;simp at hi;omega
  .intro f hf;have:=q.1;rcases q5 with g|g
   .rw[g]at hf;simp at hf;omega
   .have:=g f hf;omega
 .have m:A3e l (λs=>decide (0<A2y A1x s)) a en=(none,a,en):=e3;rw[m];have h:=@A8Y M1 r l o a en .gone j;have e:A0c (some r) M1 (M1.set r (.cells 240 (A1t l o a en))):=.set _ _ _;have k:A2t (A1a l a en)=none:=by
   cases hs:A1a l a en with
   |nil=>rfl
   |cons s w=>simp only[A2t];rw[Z0e (e1 s w hs)]
  simp -dsimp -implicitDefEqProofs;exact .inr ⟨k,rfl,⟨a,en,h⟩,.of_r e⟩
end
abbrev A0E:AV:=.val (.slice none 0 0)
def D2u(l:List ByteArray)(o:Own)(r a:Nat)(en:Bool)(M:Mem)(v:AV)(M':Mem):Prop:=
 (∃s d vp,A3M ((A1a l a en).drop (A0Y (A1a l a en)))=some (s,d)/\v=.agg [I 1,vp,S d,I 0,I 0]/\A1l 159 2 A0G.row M' vp (A2E (A1a l a en)++[s])/\A1m M.length vp/\C2K l o r a en none (A0Y (A1a l a en)+4) M M')\/
 (A3M ((A1a l a en).drop (A0Y (A1a l a en)))=none/\∃vp p,v=.agg [I 1,vp,S ⟨#[]⟩,I 0,I 0]/\A1l 159 2 A0G.row M' vp p/\A1m M.length vp/\p.length<=10/\D4S l o r M M')
structure D1t (l:List ByteArray) (o:Own) (r:Nat) (M:Mem) (c:Nat) (v1:AV) (p:List A0G) (a':Nat) (en':Bool) (Mi:Mem):Prop where
 rd:Rd Mi r l o a' en'
 res:Mi[M.length]?=some (.cells 110 [I 0,A0E,S ⟨#[]⟩,I 0,I 0])
 cc:Mi[c]?=some (.cells 110 [I 1,v1,S ⟨#[]⟩,I 0,I 0])
 own:A1l 159 2 A0G.row Mi v1 p
 lat:∀f,obj v1=some f->M.length<f/\f<c
 kp:A1r r none M Mi
 lt:r<M.length/\M.length<c
def D1t.next{l}{o}{r}{M}{c}{v1}{p}{a' a2}{en' en2}{Mi Mj}(h:D1t l o r M c v1 p a' en' Mi)(k:A0c (some r) Mi Mj)(hr:Rd Mj r l o a2 en2):D1t l o r M c v1 p a2 en2 Mj:=by have a:=h.lt;exact⟨hr,k.get h.res (by simp;omega),k.get h.cc (by simp;omega),h.own.keep k λf hf e=>by have:=h.lat f hf;simp at e;omega,h.lat,h.kp.step (A1r.of_r (b:=none) k) (by simp),a⟩
def D1t.fail{l}{o}{r}{M}{c}{v1}{p}{a'}{en'}{Mi}(h:D1t l o r M c v1 p a' en' Mi){X}:A1l 159 2 A0G.row (Mi.set M.length (.cells 110 X)) v1 p/\A1m M.length v1/\D4S l o r M (Mi.set M.length (.cells 110 X)):=by
 have a:=h.lt
 refine⟨h.own.keep (.set _ _ _) λf hf e=>by have:=h.lat f hf;simp at e;omega,λf hf=>by have:=h.lat f hf;omega,⟨a',en',?_⟩,?_⟩
 .unfold Rd;rw[Z0f (by omega)];exact h.rd
 .refine⟨by simpa using h.kp.1,λi hi h1 h2=>?_⟩;rw[Z0f (by omega)];exact h.kp.2 i hi h1 h2
section
variable (gl:Nat->AV)
@[simp] def A7E{k}{v}{M}{p}(h:A1l 159 2 A0G.row M v p):A0D prog 110 [(0,I k),(1,v)]=some (.agg [I k,v,S ⟨#[]⟩,I 0,I 0]):=by
 rcases h with⟨rfl,_⟩|⟨f,g,a,rfl,_⟩<;>simp[A0D,A1k,A1E,A0d,AV.cells,AV.storable]
def D5O(l:List ByteArray)(o:Own)(hl:l.length<=1000000000)(ae:∀s∈l,s.size<=maxLen)(r:Nat)(a:Nat)(en:Bool)(M:Mem)(hr:Rd M r l o a en):A0e (WC gl) 249 [.ptr r 0] M (D2u l o r a en M):=by
 have ap:r<M.length:=(Z0b.1 hr).1
 refine A0m (hQ [27]) func249 ?_
 obtain⟨M0,a5⟩:∃M0,M0=M++[A0j.cells 110 [I 0,A0E,S ⟨#[]⟩,I 0,I 0]]:=⟨_,rfl⟩
 have p:Rd M0 r l o a en:=by unfold Rd;rw[a5,Z0h ap];exact hr
 have au:M0[M.length]?=some (A0j.cells 110 [I 0,A0E,S ⟨#[]⟩,I 0,I 0]):=by rw[a5];simp
 have ay:M0.length=M.length+1:=by rw[a5];simp
 have aq:A1r r none M M0:=by rw[a5];exact .of_r (.app _ _ _)
 simp -dsimp -implicitDefEqProofs[A0k]
 rw[<-a5]
 clear a5
 refine A0r func248 (C3z gl l o hl ae r a en M0 p) ?_
 rintro v1 M1 ⟨q1,⟨y,q2,q3,q4⟩,q5⟩
 obtain⟨w,hw⟩:∃w,w=A1a l a en:=⟨_,rfl⟩
 rw[<-hw]at q1 q2 q3
 have bf:=B8b w
 have bc:(A2E w).length<=9:=by have:=A3F (9-bkN w) (w.drop (bkN w));have hb:=B5M w;unfold A2E;rw[Z0q,B0A];omega
 obtain⟨c,hc⟩:∃c,c=M1.length:=⟨_,rfl⟩
 have b8:M.length<c:=by have:=q4.1;omega
 have b5:=q1.store
 have b7:=q1.cells
 have ab:D1t l o r M c v1 (A2E w) (a+A0Y w) y (M1++[A0j.cells 110 [I 1,v1,S ⟨#[]⟩,I 0,I 0]]):=by
  have al:A0c (some r) M1 (M1++[A0j.cells 110 [I 1,v1,S ⟨#[]⟩,I 0,I 0]]):=.app _ _ _;refine⟨?_,?_,?_,q1.keep al ?_,?_,(aq.step q4 (by simp)).step (A1r.of_r (b:=none) al) (by simp),ap,b8⟩
  .unfold Rd;rw[Z0h (by have:=q4.1;omega)];exact q2
  .rw[Z0h (by have:=q4.1;omega),q4.2 _ (by omega) (by omega) (by simp)];exact au
  .rw[hc];simp
  .intro f hf e;have:=q5 f hf;simp at e;omega
  .intro f hf;have:=q5 f hf;have:=q1.lt hf;omega
 simp -dsimp -implicitDefEqProofs[A7E q1,A0k,A0l,A0d]
 rw[<-hc]
 clear b7 b5 q1 q2 q4 q5 p au ay aq
 generalize M1++[A0j.cells 110 [I 1,v1,S ⟨#[]⟩,I 0,I 0]]=M2 at*
 clear hc
 refine A0r func169 (D2a gl M2) ?_
 rintro _ M3 ⟨rfl,rfl⟩
 simp -dsimp -implicitDefEqProofs
 refine A0r func330 (C5S gl l o hl ae A3w .full (by decide) r _ y M3 ab.rd) ?_
 rintro _ M4 ⟨rfl,aj,a2⟩
 have ai:(∀s t r,A1a l (a+A0Y w) y=s::t::r->¬(0<kP s/\A0X t=true))->A3M (w.drop (A0Y w))=none:=λh=>by
  rw[<-q3];unfold A3M;split
  .rename_i s t c d r e;rw[Z0e λhh=>h s t _ e ⟨hh.1,hh.2.1⟩]
  .rfl
 rcases C0t (l:=l) (a:=a+A0Y w) (en:=y) D4m with⟨s,t,w',e1,e2,e3,z,e4,e5⟩|⟨e1,e2⟩
 .have b2:A6S l (A2y A3w) (a+A0Y w) y=(some ⟨kP s,t⟩,a+A0Y w+2,z):=e4;rw[b2]at a2|-;obtain⟨M5,m⟩:∃M5,M5=M4++[A0j.cells 159 [I (kP s),S t]]:=⟨_,rfl⟩;have an:M5[M4.length]?=some (A0j.cells 159 [I (kP s),S t]):=by rw[m];simp
  have a1:Rd M5 r l o (a+A0Y w+2) z:=by unfold Rd;rw[m,Z0h (by have:=(Z0b.1 a2).1;exact this)];exact a2
  have k:=ab.next (aj.trans (by rw[m];exact .app _ _ _)) a1;have bb:c<M4.length:=by have:=(Z0b.1 ab.cc).1;have:=aj.1;omega
  simp -dsimp -implicitDefEqProofs[A0k,A0l,A0d,A0G.row];rw[<-m];generalize hx:M4.length=x at*;clear m;refine A0r func251 (B2n gl l o hl ae toW r _ z M5 a1) ?_;rintro _ M6 ⟨rfl,rfl⟩;have a0:r<M5.length:=(Z0b.1 a1).1;rcases A7D (l:=l) (a:=a+A0Y w+2) (en:=z) A3G.2.2.2.2.1 with⟨w2,g1,en2,g2,g3⟩|⟨g1,g2⟩
  .rw[g2];have bd:=k.lt;have af:=@A8Y M5 r l o (a+A0Y w+2+1) en2 .gone a0;have j:=k.next (.set M5 r (.cells 240 (A1t l o (a+A0Y w+2+1) en2))) af;(have b0:(M5.set r (.cells 240 (A1t l o (a+A0Y w+2+1) en2)))[x]?=some (A0j.cells 159 [I (kP s),S t]):=by rw[Z0f (by omega)];exact an);generalize M5.set r (.cells 240 (A1t l o (a+A0Y w+2+1) en2))=M6 at*;have bg:c<M6.length:=(Z0b.1 j.cc).1;simp -dsimp -implicitDefEqProofs[A0b j.cc,A0b b0,A0q,A1f];refine A4C (C:=WC gl) (enc:=A0G.row) (e:=159) (sz:=2) (news:=[⟨kP s,t⟩]) B5k C0u B5q (λ_=>rfl) j.own (by simp[A0A,A0G.row]) (by simp;omega) rfl ?_;intro v2 M7 k1 k2 k3 _;have u:=j.lat;have a8:∀f,obj v2=some f->M.length<f/\f≠c:=λf hf=>by
    rcases k3 with h|h
    .have:=u f (h▸hf);omega
    .have:=h f hf;omega
   (have ao:M7[c]?=some (.cells 110 [I 1,v1,S ⟨#[]⟩,I 0,I 0]):=k2.get j.cc λe=>by have:=u c e;omega);have b3:Rd M7 r l o (a+A0Y w+2+1) en2:=k2.get j.rd λe=>by have:=u r e;omega
   (have b1:M7[M.length]?=some (.cells 110 [I 0,A0E,S ⟨#[]⟩,I 0,I 0]):=k2.get j.res λe=>by have:=u _ e;omega);have ag:A1r r none M M7:=⟨Z0Q j.kp.1 k2.1,λi hi h1 h2=>by rw[k2.2 i (by have:=j.kp.1;omega) λe=>by have:=u i e;omega];exact j.kp.2 i hi h1 h2⟩
   obtain⟨f2,b6,n2,rfl⟩:∃f g n,v2=.vref f g 2 0 n:=by
    rcases k1 with⟨rfl,hn⟩|⟨f,g,ba,rfl,_⟩
    .simp at hn
    .exact⟨f,g,_,rfl⟩
   generalize q:AV.vref f2 b6 2 0 n2=v2 at*;clear ab k an a1 af;rw[<-q];simp -dsimp -implicitDefEqProofs[A0f ao,A0d];rw[q];(have av:(M7.set c (.cells 110 [I 1,v2,S ⟨#[]⟩,I 0,I 0]))[c]?=some (.cells 110 [I 1,v2,S ⟨#[]⟩,I 0,I 0]):=by have:=(Z0b.1 ao).1;simp[this]);(have ar:Rd (M7.set c (.cells 110 [I 1,v2,S ⟨#[]⟩,I 0,I 0])) r l o (a+A0Y w+2+1) en2:=by unfold Rd;rw[Z0f (by omega)];exact b3);(have b9:(M7.set c (.cells 110 [I 1,v2,S ⟨#[]⟩,I 0,I 0]))[M.length]?=some (.cells 110 [I 0,A0E,S ⟨#[]⟩,I 0,I 0]):=by rw[Z0f (by omega)];exact b1);(have az:A1l 159 2 A0G.row (M7.set c (.cells 110 [I 1,v2,S ⟨#[]⟩,I 0,I 0])) v2 (A2E w++[⟨kP s,t⟩]):=k1.keep (.set _ _ _) λf hf e=>by have:=a8 f hf;simp at e;omega);have ah:A1r r none M (M7.set c (.cells 110 [I 1,v2,S ⟨#[]⟩,I 0,I 0])):=⟨by simpa using ag.1,λi hi h1 h2=>by rw[Z0f (by omega)];exact ag.2 i hi h1 h2⟩;generalize M7.set c (.cells 110 [I 1,v2,S ⟨#[]⟩,I 0,I 0])=M8 at*;have aw:r<M8.length:=(Z0b.1 ar).1;have am:c<M8.length:=(Z0b.1 av).1;refine A0r func331 (B4J gl l o hl ae A0X r 112 [] (B7M gl) _ en2 M8 ar) ?_;rintro _ M9 ⟨rfl,rfl⟩;have a9:∀(to:ByteArray) (a3:Nat) (a7:Bool) (ad:Mem),ad=((M8.set r (.cells 240 (A1t l o a3 a7))).set c (.cells 110 [I 1,v2,S to,I 0,I 0])).set M.length (.cells 110 [I 1,v2,S to,I 0,I 0])->
    A1l 159 2 A0G.row ad v2 (A2E w++[⟨kP s,t⟩])/\A1m M.length v2/\Rd ad r l o a3 a7/\A1r r none M ad:=λto a3 a7 ad h=>by
    subst h
    refine⟨((az.keep (.set _ _ _) λf hf e=>?_).keep (.set _ _ _) λf hf e=>?_).keep (.set _ _ _) λf hf e=>?_,λf hf=>by have:=a8 f hf;omega,?_,⟨by simpa using ah.1,λi hi h1 h2=>?_⟩⟩
    .have:=a8 f hf;simp at e;omega
    .have:=a8 f hf;simp at e;omega
    .have:=a8 f hf;simp at e;omega
    .unfold Rd;rw[Z0f (by omega),Z0f (by omega)];simp[aw]
    .rw[Z0f (by omega),Z0f (by omega),Z0f (by omega)];exact ah.2 i hi h1 h2
   (have a4:∀X,(M8.set r X)[c]?=some (.cells 110 [I 1,v2,S ⟨#[]⟩,I 0,I 0]):=λX=>by rw[Z0f (by omega)];exact av);have aa:∀X Y,((M8.set r X).set c Y)[c]?=some Y:=λX Y=>by simp[am]
   (have ac:∀X Y,((M8.set r X).set c Y)[M.length]?=some (.cells 110 [I 0,A0E,S ⟨#[]⟩,I 0,I 0]):=λX Y=>by rw[Z0f (by omega),Z0f (by omega)];exact b9);have be:∀X Y,M.length<((M8.set r X).set c Y).length:=λX Y=>by simp;omega
   (have a6:M.length<M8.length:=by omega);have p:w.drop (A0Y w)=s::t::toW::w2:=by rw[<-q3,e1,<-e5,g1]
   cases hw2:w2 with
   |nil=>rw[hw2]at g3 p;rw[B1t g3];rw[<-q]at a4|-;simp -dsimp -implicitDefEqProofs[A0f (a4 _),A0d];simp -dsimp -implicitDefEqProofs[A0b (aa _ _),A0f (ac _ _),A0d,A0v,a6,A0h];rw[q];obtain⟨z1,z2,z3,z4⟩:=a9 _ _ _ _ rfl;exact .inr ⟨by rw[<-hw,p];rfl,v2,_,rfl,z1,z2,by simp;omega,⟨_,_,z3⟩,z4⟩
   |cons d w3=>
    rw[hw2]at g3 p;obtain⟨-,-,hd|hd⟩:=A9o B6w g3
    .obtain⟨d1,a7,d2,d3⟩:=hd;rw[d2];rw[<-q]at a4|-;simp -dsimp -implicitDefEqProofs[A0f (a4 _),A0d];simp -dsimp -implicitDefEqProofs[A0b (aa _ _),A0f (ac _ _),A0d,A0v,a6,A0h];rw[q];obtain⟨z1,z2,z3,z4⟩:=a9 d _ _ _ rfl;refine .inl ⟨⟨kP s,t⟩,d,v2,?_,rfl,by rw[<-hw];exact z1,z2,a7,?_,?_,z4⟩
     .rw[<-hw,p];simp only[A3M];rw[Z0d ⟨e2,e3,by trivial,d1⟩]
     .rw[<-hw,show a+(A0Y w+4)=a+A0Y w+2+1+1 from by omega];exact z3
     .rw[<-hw,show a+(A0Y w+4)=a+A0Y w+2+1+1 from by omega,d3,<-Z1R,p];rfl
    .rw[hd.2];rw[<-q]at a4|-;simp -dsimp -implicitDefEqProofs[A0f (a4 _),A0d];simp -dsimp -implicitDefEqProofs[A0b (aa _ _),A0f (ac _ _),A0d,A0v,a6,A0h];rw[q];obtain⟨z1,z2,z3,z4⟩:=a9 ⟨#[]⟩ _ _ _ rfl;exact .inr ⟨by rw[<-hw,p];simp only[A3M];rw[Z0e λhh=>by rw[hd.1]at hh;exact absurd hh.2.2.2 (by simp)],v2,_,rfl,z1,z2,by simp;omega,⟨_,_,z3⟩,z4⟩
  .rw[g2];have af:=@A8Y M5 r l o (a+A0Y w+2) z .gone a0;have j:=k.next (.set M5 r (.cells 240 (A1t l o (a+A0Y w+2) z))) af;generalize M5.set r (.cells 240 (A1t l o (a+A0Y w+2) z))=M6 at*;have ak:M.length<M6.length:=(Z0b.1 j.res).1;have b4:A3M (w.drop (A0Y w))=none:=by
    rw[<-q3,e1];unfold A3M;split
    .rename_i s' t' c' d' r' e;simp only[Z1d]at e;rw[Z0e λhh=>g1 (d'::r') (by rw[e5,e.2.2,hh.2.2.1])]
    .rfl
   simp -dsimp -implicitDefEqProofs[A0b j.cc,A0f j.res,A0d,A0v,ak,A0h];obtain⟨z1,z2,z3⟩:=j.fail (X:=[I 1,v1,S ⟨#[]⟩,I 0,I 0]);exact .inr ⟨by rw[<-hw];exact b4,v1,_,rfl,z1,z2,by omega,z3⟩
 .have ax:A6S l (A2y A3w) (a+A0Y w) y=(none,a+A0Y w,y):=e2;rw[ax]at a2|-;obtain⟨M5,m⟩:∃M5,M5=M4++[A0j.cells 159 [I 0,S ⟨#[]⟩]]:=⟨_,rfl⟩;have a1:Rd M5 r l o (a+A0Y w) y:=by unfold Rd;rw[m,Z0h (by have:=(Z0b.1 a2).1;exact this)];exact a2
  have k:=ab.next (aj.trans (by rw[m];exact .app _ _ _)) a1;have a0:M.length<M5.length:=(Z0b.1 k.res).1;simp -dsimp -implicitDefEqProofs[A0k,A0l,A0d];rw[<-m];clear m;simp -dsimp -implicitDefEqProofs[A0b k.cc,A0f k.res,A0d,A0v,a0,A0h];obtain⟨z1,z2,z3⟩:=k.fail (X:=[I 1,v1,S ⟨#[]⟩,I 0,I 0]);exact .inr ⟨by rw[<-hw];exact ai e1,v1,_,rfl,z1,z2,by omega,z3⟩
end
def A8i(i:Nat)(l:List ByteArray)(o:Own)(r a:Nat)(en:Bool)(M:Mem)(v:AV)(M':Mem):Prop:=∃k p to vp a' en',v=.agg [I k,vp,S to,I 0,I 0]/\A1l 159 2 A0G.row M' vp p/\A1m M.length vp/\p.length<=10/\Rd M' r l o a' en'/\A1r r none M M'/\A1X i (A1a l a en)=if A4g k p to=true then some ((k,p,to),a'-a)else none
abbrev zC:A0j:=.cells 110 [I 0,A0E,S ⟨#[]⟩,I 0,I 0]
structure B0k (l:List ByteArray) (o:Own) (r:Nat) (M:Mem) (a':Nat) (en':Bool) (Mi:Mem):Prop where
 rd:Rd Mi r l o a' en'
 res:Mi[M.length]?=some zC
 kp:A1r r none M Mi
 lt:r<M.length
def B0k.start{l}{o}{r}{M}{a}{en}(h:Rd M r l o a en):B0k l o r M a en (M++[zC]):=by have b:r<M.length:=(Z0b.1 h).1;exact⟨by unfold Rd;rw[Z0h b];exact h,by simp,.of_r (.app _ _ _),b⟩
def B0k.next{l}{o}{r}{M}{a' a2}{en' en2}{Mi Mj}(h:B0k l o r M a' en' Mi)(hr:Rd Mj r l o a2 en2)(k:A1r r none Mi Mj):B0k l o r M a2 en2 Mj:=by have a:=h.lt;have hl:=(Z0b.1 h.res).1;exact⟨hr,by rw[k.2 _ hl (by omega) (by simp)];exact h.res,h.kp.step k (by simp),a⟩
def B0k.set{l}{o}{r}{M}{a'}{en'}{Mi}(h:B0k l o r M a' en' Mi){a2}{en2}:B0k l o r M a2 en2 (Mi.set r (.cells 240 (A1t l o a2 en2))):=h.next (@A8Y Mi r l o a2 en2 .gone (Z0b.1 h.rd).1) (.of_r (.set _ _ _))
def B0k.later{l}{o}{r}{M}{a'}{en'}{Mi}(h:B0k l o r M a' en' Mi){v}(hv:A1m Mi.length v):∀f,obj v=some f->M.length<f:=λf hf=>by have:=hv f hf;have:=(Z0b.1 h.res).1;omega
def B0k.fin{l}{o}{r}{M}{a'}{en'}{Mi}(h:B0k l o r M a' en' Mi){X}{v}{p}(ho:A1l 159 2 A0G.row Mi v p)(hv:∀f,obj v=some f->M.length<f):A1l 159 2 A0G.row (Mi.set M.length (.cells 110 X)) v p/\A1m M.length v/\Rd (Mi.set M.length (.cells 110 X)) r l o a' en'/\A1r r none M (Mi.set M.length (.cells 110 X)):=by
 have a:=h.lt
 refine⟨ho.keep (.set _ _ _) λf hf e=>by have:=hv f hf;simp at e;omega,λf hf=>by have:=hv f hf;omega,?_,⟨by simpa using h.kp.1,λi hi h1 h2=>?_⟩⟩
 .unfold Rd;rw[Z0f (by omega)];exact h.rd
 .rw[Z0f (by omega)];exact h.kp.2 i hi h1 h2
def B0k.len{l}{o}{r}{M}{a'}{en'}{Mi}(h:B0k l o r M a' en' Mi):M.length<Mi.length:=(Z0b.1 h.res).1
section
variable (gl:Nat->AV)
@[simp] def D2f{v}{M}{p}(h:A1l 159 2 A0G.row M v p):A0D prog 110 [(1,v)]=some (.agg [I 0,v,S ⟨#[]⟩,I 0,I 0]):=by
 rcases h with⟨rfl,_⟩|⟨f,g,a,rfl,_⟩<;>simp[A0D,A1k,A1E,A0d,AV.cells,AV.storable]
@[simp] def E0x{k}:A0D prog 110 [(0,I k)]=some (.agg [I k,A0E,S ⟨#[]⟩,I 0,I 0]):=by
 simp[A0D,A1k,A1E,A0d,AV.cells,AV.storable]
def B8o(w:List ByteArray):(A2E w).length<=9:=by have:=A3F (9-bkN w) (w.drop (bkN w));have hb:=B5M w;unfold A2E;rw[Z0q,B0A];omega
def B7q{k}(hk:k=0\/k=4)(w:List ByteArray):A2M k w=if A4g k (A2E w) ⟨#[]⟩=true then some ((k,A2E w,⟨#[]⟩),A0Y w)else none:=by rw[D1j hk];unfold A2M;by_cases c:A0Y w=bkN w<;>simp[c]
def D3M(l:List ByteArray)(o:Own)(hl:l.length<=1000000000)(e:∀s∈l,s.size<=maxLen)(r:Nat)(a:Nat)(en:Bool)(M:Mem)(hr:Rd M r l o a en):A0e (WC gl) 247 [.ptr r 0] M (A8i 0 l o r a en M):=by
 refine A0m hB func247 ?_
 have f0:=B0k.start hr
 simp -dsimp -implicitDefEqProofs[A0k]
 generalize M++[zC]=M0 at*
 refine A0r func248 (C3z gl l o hl e r a en M0 f0.rd) ?_
 rintro v M1 ⟨q1,⟨d,q2,q3,q4⟩,q5⟩
 have f1:=f0.next q2 q4
 have c:=f0.later q5
 have b:=f1.len
 have f:=B8o (A1a l a en)
 simp -dsimp -implicitDefEqProofs[D2f q1,A0f f1.res,A0d,A0v,b,A0h]
 obtain⟨z1,z2,z3,z4⟩:=f1.fin q1 c (X:=[I 0,v,S ⟨#[]⟩,I 0,I 0])
 exact⟨0,_,⟨#[]⟩,v,_,d,rfl,z1,z2,by omega,z3,z4,by rw[show A1X 0 (A1a l a en)=A2M 0 (A1a l a en)from rfl,B7q (.inl rfl),Z2h]⟩
def D4k(l:List ByteArray)(o:Own)(hl:l.length<=1000000000)(f:∀s∈l,s.size<=maxLen)(r:Nat)(a:Nat)(en:Bool)(M:Mem)(hr:Rd M r l o a en):A0e (WC gl) 249 [.ptr r 0] M (A8i 1 l o r a en M):=by
 refine(D5O gl l o hl f r a en M hr).mono λv M' h=>?_
 have g:=B8o (A1a l a en)
 rcases h with⟨s,d,vp,h1,rfl,h3,h4,e,h5,h6,h7⟩|⟨h1,vp,p,rfl,h3,h4,h5,⟨a',b,h6⟩,h7⟩
 .refine⟨1,_,d,vp,_,e,rfl,h3,h4,by simp;omega,h5,h7,?_⟩;simp only[A1X,h1];rw[D1S h1,Z2h];by_cases c:(A2E (A1a l a en)).length<=8<;>simp[c]
 .refine⟨1,p,⟨#[]⟩,vp,a',b,rfl,h3,h4,h5,h6,h7,?_⟩;simp only[A1X,h1,C1X,Z0I,Z1j]
def A9j{i}{l}{o}{r}{M}{a a2}{en en2}{Mi}(k:Int)(h:B0k l o r M a2 en2 Mi)(hf:A1X i (A1a l a en)=none):A8i i l o r a en M (.agg [I k,A0E,S ⟨#[]⟩,I 0,I 0]) (Mi.set M.length (.cells 110 [I k,A0E,S ⟨#[]⟩,I 0,I 0])):=by
 obtain⟨z1,z2,z3,z4⟩:=h.fin (v:=A0E) (p:=[]) A1l.nil (λf hf=>by simp at hf) (X:=[I k,A0E,S ⟨#[]⟩,I 0,I 0])
 exact⟨k,[],⟨#[]⟩,A0E,a2,en2,rfl,z1,z2,by simp,z3,z4,by rw[hf,D5L];rfl⟩
def D3o(l:List ByteArray)(o:Own)(hl:l.length<=1000000000)(d:∀s∈l,s.size<=maxLen)(r:Nat)(a:Nat)(en:Bool)(M:Mem)(hr:Rd M r l o a en):A0e (WC gl) 250 [.ptr r 0] M (A8i 2 l o r a en M):=by
 refine A0m hB func250 ?_
 have f0:=B0k.start hr
 simp -dsimp -implicitDefEqProofs[A0k]
 generalize M++[zC]=M0 at*
 refine A0r func251 (B2n gl l o hl d A3y r a en M0 f0.rd) ?_
 rintro _ M1 ⟨rfl,rfl⟩
 rcases A7D (l:=l) (a:=a) (en:=en) A3G.1 with⟨w,e1,c,e2,e3⟩|⟨e1,e2⟩
 .rw[e2];have f1:=f0.set (a2:=a+1) (en2:=c);generalize M0.set r (.cells 240 (A1t l o (a+1) c))=M1 at*;simp -dsimp -implicitDefEqProofs;refine A0r func252 (C0V gl l o hl d r (a+1) c M1 f1.rd) ?_;rintro v M2 h;have hf:A1X 2 (A1a l a en)=(A2t w).map λx=>((2,x.1,⟨#[]⟩),x.2+1):=by rw[e1];simp only[A1X,Z0F]
  rcases h with⟨p,n,h1,h2,⟨en2,h3,h4,h5⟩,h6⟩|⟨h1,rfl,⟨a2,en2,h3⟩,h4⟩
  .rw[e3]at h1;(have g:p.length<=9:=by have:=B4r (.inl rfl) (k:=2) h1;simp only[A4g,Z0g,Z0m]at this;exact this.1);have f2:=f1.next h3 h5;have f:=f1.later h6;have b:=f2.len;simp -dsimp -implicitDefEqProofs[A7E h2,A0f f2.res,A0d,A0v,b,A0h];obtain⟨z1,z2,z3,z4⟩:=f2.fin h2 f (X:=[I 2,v,S ⟨#[]⟩,I 0,I 0]);refine⟨2,p,⟨#[]⟩,v,_,en2,rfl,z1,z2,by omega,z3,z4,?_⟩;rw[hf,h1,B4r (.inl rfl) h1];simp only[Z0M,Z0F];congr 2;omega
  .rw[e3]at h1;have f2:=f1.next h3 h4;have b:=f2.len;simp -dsimp -implicitDefEqProofs[A7E (M:=M2) (p:=[]) A1l.nil,A0f f2.res,A0d,A0v,b,A0h];exact A9j 2 f2 (by rw[hf,h1];rfl)
 .rw[e2];have f1:=f0.set (a2:=a) (en2:=en);generalize M0.set r (.cells 240 (A1t l o a en))=M1 at*;have b:=f1.len;simp -dsimp -implicitDefEqProofs[A0f f1.res,A0d,A0v,b,A0h];refine A9j 2 f1 ?_;cases hs:A1a l a en with
  |nil=>rfl
  |cons s w=>simp only[A1X];rw[Z0e λe=>e1 w (by rw[hs,e])]
def D3i(l:List ByteArray)(o:Own)(hl:l.length<=1000000000)(f:∀s∈l,s.size<=maxLen)(r:Nat)(a:Nat)(en:Bool)(M:Mem)(hr:Rd M r l o a en):A0e (WC gl) 254 [.ptr r 0] M (A8i 4 l o r a en M):=by
 refine A0m hB func254 ?_
 have f0:=B0k.start hr
 simp -dsimp -implicitDefEqProofs[A0k]
 generalize M++[zC]=M0 at*
 refine A0r func251 (B2n gl l o hl f A6J r a en M0 f0.rd) ?_
 rintro _ M1 ⟨rfl,rfl⟩
 rcases A7D (l:=l) (a:=a) (en:=en) A3G.2.2.2.1 with⟨w,e1,d,e2,e3⟩|⟨e1,e2⟩
 .rw[e2];have f1:=f0.set (a2:=a+1) (en2:=d);generalize M0.set r (.cells 240 (A1t l o (a+1) d))=M1 at*;simp -dsimp -implicitDefEqProofs;refine A0r func248 (C3z gl l o hl f r (a+1) d M1 f1.rd) ?_;rintro v M2 ⟨q1,⟨h,q2,q3,q4⟩,q5⟩;rw[e3]at q1 q2;have f2:=f1.next q2 q4;have g:=f1.later q5;have b:=f2.len;have i:=B8o w;simp -dsimp -implicitDefEqProofs[A7E q1,A0f f2.res,A0d,A0v,b,A0h];obtain⟨z1,z2,z3,z4⟩:=f2.fin q1 g (X:=[I 4,v,S ⟨#[]⟩,I 0,I 0]);refine⟨4,_,⟨#[]⟩,v,_,h,rfl,z1,z2,by omega,z3,z4,?_⟩;have hf:A1X 4 (A1a l a en)=(A2M 4 w).map λx=>(x.1,x.2+1):=by rw[e1];simp only[A1X,Z0F]
  rw[hf,B7q (.inr rfl)];by_cases c:A4g 4 (A2E w) ⟨#[]⟩=true
  .rw[Z0d c,Z0d c];simp only[Z0M];congr 2;omega
  .rw[Z0e c,Z0e c];rfl
 .rw[e2];have f1:=f0.set (a2:=a) (en2:=en);generalize M0.set r (.cells 240 (A1t l o a en))=M1 at*;have b:=f1.len;simp -dsimp -implicitDefEqProofs[A0f f1.res,A0d,A0v,b,A0h];refine A9j 4 f1 ?_;cases hs:A1a l a en with
  |nil=>rfl
  |cons s w=>simp only[A1X];rw[Z0e λe=>e1 w (by rw[hs,e])]
end
section
variable (gl:Nat->AV)
def D2F(l:List ByteArray)(o:Own)(hl:l.length<=1000000000)(d:∀s∈l,s.size<=maxLen)(r:Nat)(a:Nat)(en:Bool)(M:Mem)(hr:Rd M r l o a en):A0e (WC gl) 253 [.ptr r 0] M (A8i 3 l o r a en M):=by
 refine A0m hB func253 ?_
 have f0:=B0k.start hr
 simp -dsimp -implicitDefEqProofs[A0k]
 generalize M++[zC]=M0 at*
 refine A0r func251 (B2n gl l o hl d A6c r a en M0 f0.rd) ?_
 rintro _ M1 ⟨rfl,rfl⟩
 rcases A7D (l:=l) (a:=a) (en:=en) A3G.2.1 with⟨w,e1,c,e2,e3⟩|⟨e1,e2⟩
 .rw[e2];have f1:=f0.set (a2:=a+1) (en2:=c);generalize M0.set r (.cells 240 (A1t l o (a+1) c))=M1 at*;simp -dsimp -implicitDefEqProofs;refine A0r func251 (B2n gl l o hl d A9h r (a+1) c M1 f1.rd) ?_;rintro _ M2 ⟨rfl,rfl⟩;rcases A7D (l:=l) (a:=a+1) (en:=c) A3G.2.2.1 with⟨w2,g1,en2,g2,g3⟩|⟨g1,g2⟩
  .rw[g2];have f2:=f1.set (a2:=a+1+1) (en2:=en2);generalize M1.set r (.cells 240 (A1t l o (a+1+1) en2))=M2 at*;simp -dsimp -implicitDefEqProofs;refine A0r func252 (C0V gl l o hl d r (a+1+1) en2 M2 f2.rd) ?_;rintro v M3 h;(have hf:A1X 3 (A1a l a en)=(A2t w2).map λx=>((3,x.1,⟨#[]⟩),x.2+2):=by rw[e1,<-e3,g1];simp only[A1X,Z3V,Z0F]);rcases h with⟨p,n,h1,h2,⟨f,h3,h4,h5⟩,h6⟩|⟨h1,rfl,⟨a2,f,h3⟩,h4⟩
   .rw[g3]at h1;(have i:p.length<=9:=by have:=B4r (.inr rfl) (k:=3) h1;simp only[A4g,Z0g,Z0m]at this;exact this.1);have f3:=f2.next h3 h5;have g:=f2.later h6;have b:=f3.len;simp -dsimp -implicitDefEqProofs[A7E h2,A0f f3.res,A0d,A0v,b,A0h];obtain⟨z1,z2,z3,z4⟩:=f3.fin h2 g (X:=[I 3,v,S ⟨#[]⟩,I 0,I 0]);refine⟨3,p,⟨#[]⟩,v,_,f,rfl,z1,z2,by omega,z3,z4,?_⟩;rw[hf,h1,B4r (.inr rfl) h1];simp only[Z0M,Z0F];congr 2;omega
   .rw[g3]at h1;have f3:=f2.next h3 h4;have b:=f3.len;simp -dsimp -implicitDefEqProofs[A7E (M:=M3) (p:=[]) A1l.nil,A0f f3.res,A0d,A0v,b,A0h];exact A9j 3 f3 (by rw[hf,h1];rfl)
  .rw[g2];have f2:=f1.set (a2:=a+1) (en2:=c);generalize M1.set r (.cells 240 (A1t l o (a+1) c))=M2 at*;have b:=f2.len;simp -dsimp -implicitDefEqProofs[A0f f2.res,A0d,A0v,b,A0h];refine A9j 3 f2 ?_;rw[e1,<-e3];cases hs:A1a l (a+1) c with
   |nil=>rfl
   |cons s w=>simp only[A1X];rw[Z0e λe=>g1 w (by rw[hs,e.2])]
 .rw[e2];have f1:=f0.set (a2:=a) (en2:=en);generalize M0.set r (.cells 240 (A1t l o a en))=M1 at*;have b:=f1.len;simp -dsimp -implicitDefEqProofs[A0f f1.res,A0d,A0v,b,A0h];refine A9j 3 f1 ?_;cases hs:A1a l a en with
  |nil=>rfl
  |cons s w=>cases w<;>simp only[A1X];rw[Z0e λe=>e1 _ (by rw[hs,e.1])]
def A9S:List FuncId:=[247,249,250,253,254]
def D2T(M:Mem):A0e (WC gl) 199 [] M (λv M'=>v=.list 1 (A9S.map λg=>[.func (.func g) [] []]) .full/\M'=M):=by refine A0m hB func199 ?_;simp -dsimp -implicitDefEqProofs[A0q,A1f,A9S]
def D7L(i:Nat)(l:List ByteArray)(o:Own)(r a:Nat)(en:Bool)(M:Mem)(v:AV)(M':Mem):Prop:=∃k p to a' en',v=.agg [I k,.list 2 (A1L p) .no,S to,I 0,I 0]/\p.length<=10/\Rd M' r l o a' en'/\A1r r none M M'/\A1X i (A1a l a en)=if A4g k p to=true then some ((k,p,to),a'-a)else none
def A9A{f}{i}{l}{o}{r a}{en}{M}(h:A0e (WC gl) f [.ptr r 0] M (A8i i l o r a en M)):A0e (WC gl) f [.ptr r 0] M (D7L i l o r a en M):=by
 refine A0e.stillN (h.mono ?_);rintro v M' ⟨k,p,to,vp,a',c,rfl,h1,h2,h3,h4,h5,h6⟩;refine⟨M.length,.agg [I k,.list 2 (p.map A0G.row) .no,S to,I 0,I 0],?_,k,p,to,a',c,rfl,h3,?_,⟨by simpa using h5.1,λi hi hr hb=>?_⟩,h6⟩
 .refine .agg (.same trivial (Still.rows (λ_=>rfl) (λ_ _ _=>trivial) h1 h2 (.same trivial (.same trivial (.same trivial .nil))))) .nil
 .exact A8g h4 (by rintro _ _ _ _ _ e;exact absurd e (by simp))
 .have b:i<M'.length:=Z1n hi h5.1;rw[<-h5.2 i hi hr hb,Z0k b];exact A8g (Z0k b) λ_ _ _ _ _ _=>hi
def D6k(l:List ByteArray)(o:Own)(hl:l.length<=1000000000)(b:∀s∈l,s.size<=maxLen)(r:Nat)(a:Nat)(en:Bool)(M:Mem)(hr:Rd M r l o a en)(i:Nat)(hi:i<A9S.length):A3V (WC gl) A9S[i] [.ptr r 0] M (D7L i l o r a en M):=by
 match i,hi with
 |0,_=>exact A1T func247 rfl rfl (A9A gl (D3M gl l o hl b r a en M hr))
 |1,_=>exact A1T func249 rfl rfl (A9A gl (D4k gl l o hl b r a en M hr))
 |2,_=>exact A1T func250 rfl rfl (A9A gl (D3o gl l o hl b r a en M hr))
 |3,_=>exact A1T func253 rfl rfl (A9A gl (D2F gl l o hl b r a en M hr))
 |4,_=>exact A1T func254 rfl rfl (A9A gl (D3i gl l o hl b r a en M hr))
end
section
variable (gl:Nat->AV) (M:Mem)
def D4o(s:A0G):A0e (WC gl) 218 [s.v] M (λv M'=>v=B (!A1N s)/\Grow M M'):=by refine A0m hB func218 ?_;simp -dsimp -implicitDefEqProofs[A0G.row];refine A0r func217 (C4v gl M s) ?_;rintro r M' ⟨rfl,a⟩;simp -dsimp -implicitDefEqProofs[a]
def C2T(p:List A0G)(o:Own)(c:p.length<=1000000):A0e (WC gl) 270 [.list 2 (A1L p) o,.func (.func 218) [] []] M (λv M'=>(∃r,v=I r/\decide (0<=r)=p.any (λs=>!A1N s))/\Grow M M'):=by
 refine A0m hB func270 ?_;simp -dsimp -implicitDefEqProofs;refine A0F hB p.length 8 (λT M1=>∃i:Nat,i<=p.length/\Grow M M1/\T 0=.list 2 (A1L p) o/\T 1=.func (.func 218) [] []/\T 7=I p.length/\T 8=I i/\(p.take i).all A1N=true) ?_ ?_
 .refine⟨0,?_⟩;simp -dsimp -implicitDefEqProofs[Grow.refl]
 .rintro T M1 ⟨i,h1,h2,h3,h4,h5,h6,h7⟩;by_cases hi:i<p.length
  ·(have a:(i:Int)<p.length:=by omega);have hw:IntKind.i64.wrap ((i:Int)+1)=(i+1:Nat):=by rw[A0Z (by omega) (by omega)];omega
   simp -dsimp -implicitDefEqProofs[h3,h4,h5,h6,hi,a];refine A0r func218 (D4o gl M1 p[i]) ?_;rintro r M' ⟨rfl,b⟩;have hg:=h2.trans b;cases hb:A1N p[i]
   .simp -dsimp -implicitDefEqProofs[h3,h4,h5,h6];refine⟨?_,hg⟩;exact⟨p[i],Z0y hi,hb⟩
   .simp -dsimp -implicitDefEqProofs[h3,h4,h5,h6,hw,hg];refine⟨⟨i+1,?_⟩,?_⟩
    .have:=B2u hi h7 hb;simp only[Z0p]at this|-;exact⟨by clear hw;omega,by simp,this⟩
    .clear hw;omega
  ·(have a:¬(i:Int)<p.length:=by omega);rw[Z0j (by omega),Z0p]at h7
   simp -dsimp -implicitDefEqProofs[h3,h4,h5,h6,a];exact⟨h7,h2⟩
def B6F(p:List A0G)(o:Own)(a:p.length<=1000000):A0e (WC gl) 215 [.list 2 (A1L p) o,.func (.func 218) [] []] M (λv M'=>v=B (p.any (λs=>!A1N s))/\Grow M M'):=by refine A0m hB func215 ?_;simp -dsimp -implicitDefEqProofs;refine A0r func270 (C2T gl M p o a) ?_;rintro r M' ⟨⟨r,rfl,hr⟩,b⟩;simp -dsimp -implicitDefEqProofs[b,hr]
def C4C(p:List A0G)(o:Own)(b:p.length<=1000000):A0e (WC gl) 167 [.list 2 (A1L p) o] M (λv M'=>v=B (B0L p)/\Grow M M'):=by
 refine A0m hB func167 ?_;cases p with
 |nil=>simp -dsimp -implicitDefEqProofs[A1L,B0L,Grow.refl]
 |cons s p'=>
  simp only[Z0v]at b;have i0:¬(p'.length:Int)+1=0:=by omega
  have i1:(1:Int)<=(p'.length:Int)+1:=by omega
  have i2:(0:Int)<=(p'.length:Int):=by omega
  by_cases c1:s.lab=⟨#[]⟩;case neg=>simp -dsimp -implicitDefEqProofs[A1L,A0G.row,B0L,c1,i0,Grow.refl]
  by_cases c2:s.k<1
  ·(have:¬1<=s.k:=by omega);simp -dsimp -implicitDefEqProofs[A1L,A0G.row,B0L,c1,c2,this,i0,Grow.refl]
  by_cases c3:7<s.k
  ·(have h3:¬s.k<=7:=by omega);have a:s.k>7:=c3
   simp -dsimp -implicitDefEqProofs[A1L,A0G.row,B0L,c1,c2,c3,h3,a,i0,Grow.refl]
  have h2:1<=s.k:=by omega
  have h3:s.k<=7:=by omega
  have a:¬s.k>7:=c3;simp -dsimp -implicitDefEqProofs[A1L,A0G.row,B0L,c1,c2,c3,h2,h3,a,i0,i1,i2];refine A0r func215 (B6F gl M p' _ (by omega)) ?_;rintro r M' ⟨rfl,c⟩;simp -dsimp -implicitDefEqProofs[c,C3c];simp[B0L,c1,h2,h3]
end
section
variable (gl:Nat->AV)
def D0B(k:Int)(p:List A0G)(o:Own)(to:ByteArray)(x y:Int)(M:Mem)(hp:p.length<=1000000):A0e (WC gl) 116 [.agg [I k,.list 2 (A1L p) o,S to,I x,I y]] M (λv M'=>v=B (A4g k p to)/\M'=M):=by
 refine A3Z (λ_=>trivial) ?_;refine A0m hB func116 ?_;by_cases c9:p.length<=9;case neg=>
  have i2:(9:Int)<p.length:=by omega
  simp -dsimp -implicitDefEqProofs[i2,A4g,c9,Grow.refl]
 have i1:¬(p.length:Int)>9:=by omega
 have i2:¬(9:Int)<p.length:=by omega
 by_cases ct:to=⟨#[]⟩<;>by_cases k1:k=1
 .have hm:A4g k p to=false:=by rw[ct,k1];exact C1X
  simp -dsimp -implicitDefEqProofs[i1,i2,ct,k1,C1X,Grow.refl]
 .by_cases k0:k=0
  ·(have hm:A4g k p to=A4u p:=by simp[A4g,k0,c9,ct]);rw[hm]
   simp -dsimp -implicitDefEqProofs[i1,i2,ct,k1,k0];refine A0r func166 (B4j gl M p o hp) ?_;rintro r M2 ⟨rfl,a⟩;simp -dsimp -implicitDefEqProofs[a]
  by_cases k4:k=4
  ·(have hm:A4g k p to=A4u p:=by simp[A4g,k4,c9,ct]);rw[hm]
   simp -dsimp -implicitDefEqProofs[i1,i2,ct,k1,k0,k4];refine A0r func166 (B4j gl M p o hp) ?_;rintro r M2 ⟨rfl,a⟩;simp -dsimp -implicitDefEqProofs[a]
  by_cases k2:k=2
  ·(have hm:A4g k p to=B0L p:=by simp[A4g,k2,c9,ct]);rw[hm]
   simp -dsimp -implicitDefEqProofs[i1,i2,ct,k1,k0,k4,k2];refine A0r func167 (C4C gl M p o hp) ?_;rintro r M2 ⟨rfl,a⟩;simp -dsimp -implicitDefEqProofs[a]
  by_cases k3:k=3
  ·(have hm:A4g k p to=B0L p:=by simp[A4g,k3,c9,ct]);rw[hm]
   simp -dsimp -implicitDefEqProofs[i1,i2,ct,k1,k0,k4,k2,k3];refine A0r func167 (C4C gl M p o hp) ?_;rintro r M2 ⟨rfl,a⟩;simp -dsimp -implicitDefEqProofs[a]
  have hm:A4g k p to=false:=by simp[A4g,k0,k1,k2,k3,k4]
  rw[hm];simp -dsimp -implicitDefEqProofs[i1,i2,ct,k1,k0,k4,k2,k3,Grow.refl]
 .have hm:A4g k p to=(A4u p&&A0X to&&decide (C1B p≠6)):=by simp[A4g,k1,c9,Bool.and_comm,Bool.and_assoc]
  rw[hm];simp -dsimp -implicitDefEqProofs[i1,i2,ct,k1];refine A0r func166 (B4j gl M p o hp) ?_;rintro r M2 ⟨rfl,a⟩;cases hpl:A4u p with
  |false=>simp -dsimp -implicitDefEqProofs[a]
  |true=>
   simp -dsimp -implicitDefEqProofs;refine A0r func112 (A9n gl M2 to) ?_;rintro r M3 ⟨rfl,b⟩;cases hlb:A0X to with
   |false=>simp -dsimp -implicitDefEqProofs[a.trans b]
   |true=>
    (have d:p≠[]:=λe=>by rw[e]at hpl;exact absurd hpl (by decide));have f:=Z2k.2 d
    (have hw:IntKind.i64.wrap ((p.length:Int)-1)=(p.length-1:Nat):=by rw[A0Z (by omega) (by omega)];omega);have j1:((p.length-1:Nat):Int)<p.length:=by omega
    (have j2:p.length-1<p.length:=by omega);have c:C1B p=(p[p.length-1]).k:=by unfold C1B;rw[List.getLast?_eq_getElem?,Z0k j2]
    simp -dsimp -implicitDefEqProofs[hw,j1,j2];refine⟨?_,a.trans b⟩;rw[c];by_cases h:p[p.length-1].k=6<;>simp[h]
 .have hm:A4g k p to=false:=by simp[A4g,ct,k1]
  simp -dsimp -implicitDefEqProofs[i1,i2,ct,k1,hm,Grow.refl]
end
def D1T{C}{f}{args}{M}{r}(hb:∀n,bdd n r)(h:A0e C f args M (λv M'=>v=r/\Grow M M')):A0e C f args M (λv M'=>v=r/\M'=M):=by refine h.cut ?_;rintro _ M' ⟨rfl,hg⟩;obtain⟨X,hX⟩:=hg.tail;exact⟨X,hX,hb _,rfl,rfl⟩
def D1n(n:Nat)(p:List A0G):A9y n (A1L p):=by
 induction p with
 |nil=>simp[A1L,A9y]
 |cons s p ih=>simp only[A1L,Z0t,A9y];exact⟨by simp[A0G.row,A1K,bdd],ih⟩
def hL:A2r:=⟨λd=>!(d==20),λ_=>true,λ_=>false⟩
@[simp] def E6A:hL.imm=λd=>!(d==20):=rfl
def A7s(g:Option (Cq×Nat))(a:Nat):List AV:=match g with
 |some ((k,p,to),n)=>[I k,.list 2 (A1L p) .no,S to,I a,I (a+n:Nat)]
 |none=>[I 0,A0E,S ⟨#[]⟩,I 0,I 0]
@[simp] def D0A(g:Option (Cq×Nat))(a:Nat):(A7s g a).length=5:=by cases g<;>rfl
def C6s(g:Option (Cq×Nat))(a:Nat):∃x y z u,A7s g a=[x,y,z,u,I (if g.isSome then a+B3q g else 0:Nat)]:=by
 match g with
 |none=>exact⟨_,_,_,_,rfl⟩
 |some ((k,p,to),n)=>exact⟨_,_,_,_,rfl⟩
def D4a(g:Option (Cq×Nat))(a n:Nat):A1K n (A7s g a):=by
 match g with
 |none=>simp[A7s,A1K,bdd]
 |some ((k,p,to),m)=>simp only[A7s,A1K,bdd,Z1O,Z2n];exact D1n n p
def C7j{k}{w}{c}{n}(h:A2M k w=some (c,n)):0<n:=by
 have:=B3G w;unfold A2M at h;split at h
 .exact absurd h (by simp)
 .simp only[Z0a,Z0c]at h;omega
def D0F{i}{w}{c}{n}(h:A1X i w=some (c,n)):0<n:=by
 unfold A1X at h;split at h
 .exact C7j h
 .split at h
  .split at h
   .simp only[Z0a,Z0c]at h;omega
   .exact absurd h (by simp)
  .exact absurd h (by simp)
 .split at h
  .split at h
   .cases hb:A2t _ with
    |none=>rw[hb]at h;exact absurd h (by simp)
    |some y=>rw[hb]at h;simp at h;omega
   .exact absurd h (by simp)
  .exact absurd h (by simp)
 .split at h
  .split at h
   .cases hb:A2t _ with
    |none=>rw[hb]at h;exact absurd h (by simp)
    |some y=>rw[hb]at h;simp at h;omega
   .exact absurd h (by simp)
  .exact absurd h (by simp)
 .split at h
  .split at h
   .cases hb:A2M 4 _ with
    |none=>rw[hb]at h;exact absurd h (by simp)
    |some y=>rw[hb]at h;simp at h;omega
   .exact absurd h (by simp)
  .exact absurd h (by simp)
def B1T(w:List ByteArray):∀i,(A4y w i).isSome=true->0<B3q (A4y w i)
 |0,h=>by simp[A4y]at h
 |i+1,h=>by
  rw[A4y]at h|-;cases hf:A1X i w with
  |none=>rw[hf]at h;simp only[A5K]at h|-;exact B1T w i h
  |some y=>
   obtain⟨c,n⟩:=y;rw[hf]at h;simp only[A5K]at h|-;by_cases e:B3q (A4y w i)<n
   .rw[Z0d e];simp only[B3q];omega
   .rw[Z0e e]at h|-;exact B1T w i h
def D1m{w}{i}{k}{p}{to}{a a'}(h:A1X i w=if A4g k p to=true then some ((k,p,to),a'-a)else none):A7s (A4y w (i+1)) a=if A4g k p to=true/\(if(A4y w i).isSome then a+B3q (A4y w i)else 0)<a' then[I k,.list 2 (A1L p) .no,S to,I a,I a']else A7s (A4y w i) a:=by
 rw[A4y,h]
 by_cases c:A4g k p to=true
 .rw[Z0d c]at h|-;have hp:=D0F h;have hn:=B1T w i;simp only[A5K,c,Z2n];cases hb:A4y w i with
  |none=>simp only[Option.isSome_none,Z0I,Z1j];rw[Z0d (show B3q none<a'-a from hp),Z0d (by omega)];simp only[A7s,show a+(a'-a)=a' from by omega]
  |some y=>
   rw[hb]at hn;simp only[Z2D,Z0F];by_cases e:B3q (some y)<a'-a
   .rw[Z0d e,Z0d (by omega)];simp only[A7s,show a+(a'-a)=a' from by omega]
   .rw[Z0e e,Z0e (by omega)]
 .rw[Z0e c];simp[A5K,c]
section
variable (gl:Nat->AV)
@[simp] def E1Y{rows}{o}{x}:A0D prog 240 [(0,.list 1 rows o),(1,I x)]=some (.agg [.list 1 rows o,I x,B false]):=by
 simp[A0D,A1k,A1E,A0d,AV.cells,AV.storable]
def C7G(l:List ByteArray)(o:Own)(hl:l.length<=1000000000)(am:∀s∈l,s.size<=maxLen)(a:Nat)(M:Mem):A0e (WC gl) 147 [.list 1 (A1c l) o,I a] M (λv M'=>v=.tuple [.agg (A7s (B1m (B4Z (l.drop a))) a),B (B1m (B4Z (l.drop a))).isSome]/\M'=M):=by
 obtain⟨w,hw⟩:∃w,w=A1a l a false:=⟨_,rfl⟩
 have ap:B4Z (l.drop a)=w:=by rw[hw];rfl
 rw[ap,<-C8L]
 refine D1T (λn=>by simp only[bdd,A1K,Z1O];exact D4a _ _ _) ?_
 refine A0m hL func147 ?_
 simp -dsimp -implicitDefEqProofs[A0k]
 refine A0r func199 (D2T gl _) ?_
 rintro _ M1 ⟨rfl,rfl⟩
 simp -dsimp -implicitDefEqProofs[A0k]
 refine A0F hL 5 13 (λT M1=>∃i:Nat,i<=5/\T 0=.list 1 (A1c l) o/\T 1=I a/\T 4=.ptr M.length 0/\T 6=.ptr (M.length+1) 0/\T 11=.list 1 (A9S.map λg=>[.func (.func g) [] []]) .full/\T 12=I 5/\T 13=I i/\Grow M M1/\M1[M.length]?=some zC/\M1[M.length+1]?=some (.cells 110 (A7s (A4y w i) a))) ?_ ?_
 .refine⟨0,by omega,by simp,by simp,by simp,by simp,by simp,by simp[A9S],by simp,⟨by simp,λi hi _=>?_⟩,?_,?_⟩
  .simp[Z1h,hi]
  .simp[Z1h]
  .simp[Z1h,A4y,A7s]
 rintro T M1 ⟨i,hi,t0,t1,t4,t6,f,e,d,h1,h2,h3⟩
 by_cases c:i<5
 .have c':(i:Int)<5:=by omega
  have ai:i<A9S.length:=c;have ar:M.length+1<M1.length:=(Z0b.1 h3).1;obtain⟨M2,a5⟩:∃M2,M2=M1++[A0j.cells 240 (A1t l o a false)]:=⟨_,rfl⟩;have ad:Rd M2 M1.length l o a false:=by rw[a5];simp[Rd]
  have m:Grow M1 M2:=by rw[a5];exact A0c.app none _ _
  simp -dsimp -implicitDefEqProofs[t0,t1,t4,t6,f,e,d,c',ai,A0k];rw[<-a5];refine A4o (D6k gl l o hl am M1.length a false M2 ad i ai) ?_;rintro v M3 ⟨k,p,to,a',al,rfl,f1,f2,f3,f4⟩;rw[<-hw]at f4;have q:=D1m f4 (a:=a);have u:Grow M M3:=⟨by have:=h1.1;have:=m.1;have:=f3.1;omega,λj hj _=>by rw[f3.2 j (by have:=h1.1;have:=m.1;omega) (by omega) (by simp),m.2 j (by have:=h1.1;omega) (by simp)];exact h1.2 j hj (by simp)⟩;have a2:M3[M.length]?=some zC:=by rw[f3.2 _ (by have:=m.1;omega) (by omega) (by simp)];exact m.get h2 (by simp)
  have y:M3[M.length+1]?=some (.cells 110 (A7s (A4y w i) a)):=by rw[f3.2 _ (by have:=m.1;omega) (by omega) (by simp)];exact m.get h3 (by simp)
  obtain⟨x,hx⟩:∃x,x=M3.length:=⟨_,rfl⟩;have av:M.length+1<x:=by have:=(Z0b.1 y).1;omega
  have aw:M1.length<x:=by have:=(Z0b.1 f2).1;omega
  generalize au:M1.length=r at*;clear a5 ad m f3 h1 h2 h3 f4;obtain⟨M4,a1⟩:∃M4,M4=M3++[A0j.cells 110 [I k,.list 2 (A1L p) .no,S to,I 0,I 0]]:=⟨_,rfl⟩;have ab:M4[x]?=some (A0j.cells 110 [I k,.list 2 (A1L p) .no,S to,I 0,I 0]):=by rw[a1,hx];simp
  have z:Grow M3 M4:=by rw[a1];exact A0c.app none _ _
  have af:M4[r]?=some (.cells 240 (A1t l o a' al)):=z.get f2 (by simp);replace a2:=z.get a2 (by simp);replace y:=z.get y (by simp);replace u:=u.trans z;simp -dsimp -implicitDefEqProofs[t0,t1,t4,t6,f,e,d,A0k,A0l,A0d];rw[<-hx,<-a1];clear a1 z;have a7:∀X,(M4.set x X)[r]?=M4[r]?:=λX=>Z0f (by omega);have ag:x<M4.length:=(Z0b.1 ab).1;have a8:∀X,(M4.set x X)[x]?=some X:=λX=>by simp[ag]
  refine A6r hL (A0I gl) (λk=>if k=4 then 1 else if k=6\/k=8 then 2 else 0) (λ_=>r) (λ_=>false) [r] (by intros;simp) (by rfl) (by kernel_rfl) ?_;simp -dsimp -implicitDefEqProofs[t0,t1,t4,t6,f,e,d,A0b af,A0f ab,A0d,A0R];refine⟨a7 _,?_⟩;simp -dsimp -implicitDefEqProofs[A0f (a8 _),A0d,Z2C,a7];obtain⟨M5,t⟩:∃M5,M5=M4.set x (A0j.cells 110 [I k,.list 2 (A1L p) .no,S to,I a,I a']):=⟨_,rfl⟩;have aa:M5[x]?=some (A0j.cells 110 [I k,.list 2 (A1L p) .no,S to,I a,I a']):=by rw[t];exact a8 _
  have a4:M5[M.length]?=some zC:=by rw[t,Z0f (by omega)];exact a2
  have a3:M5[M.length+1]?=some (.cells 110 (A7s (A4y w i) a)):=by rw[t,Z0f (by omega)];exact y
  have a0:Grow M M5:=⟨by rw[t];simpa using u.1,λj hj _=>by rw[t,Z0f (by omega)];exact u.2 j hj (by simp)⟩;rw[<-t];clear t a2 y u a7 a8 ag ab af f2;simp -dsimp -implicitDefEqProofs[t0,t1,t4,t6,f,e,d,A0b aa];refine A0r func116 (D0B gl k p .no to _ _ M5 (by omega)) ?_;rintro _ M6 ⟨rfl,rfl⟩;have a9:IntKind.i64.wrap ((i:Int)+1)=(i+1:Nat):=by rw[A0Z (by omega) (by omega)];omega
  have ah:M.length<M6.length:=(Z0b.1 a4).1;have ao:M.length+1<M6.length:=(Z0b.1 a3).1;obtain⟨y1,y2,y3,y4,a6⟩:=C6s (A4y w i) a;generalize ax:(if(A4y w i).isSome=true then a+B3q (A4y w i)else 0)=nb at*;cases c2:A4g k p to with
  |false=>rw[c2]at q;simp only[Z0I,Z3Z,Z1j]at q;simp -dsimp -implicitDefEqProofs[t0,t1,t4,t6,f,e,d,a9];exact⟨⟨i+1,by omega,rfl,a0,a4,by rw[q];exact a3⟩,by omega⟩
  |true=>
   rw[c2]at q;have b:=a3;rw[a6]at b;by_cases c3:nb<a'
   ·(have ac:(nb:Int)<a':=by omega);rw[Z0d ⟨rfl,c3⟩]at q
    simp -dsimp -implicitDefEqProofs[t0,t1,t4,t6,f,e,d,A0b aa,A0b b,ac,A0f b,A0d,a9];refine⟨⟨i+1,by omega,rfl,⟨by simpa using a0.1,λj hj _=>?_⟩,?_,?_⟩,by omega⟩
    .rw[Z0f (by omega)];exact a0.2 j hj (by simp)
    .exact a4
    .rw[q];simp[ao]
   ·(have ac:¬(nb:Int)<a':=by omega);rw[Z0e λh=>c3 h.2]at q
    simp -dsimp -implicitDefEqProofs[t0,t1,t4,t6,f,e,d,A0b aa,A0b b,ac,a9];exact⟨⟨i+1,by omega,rfl,a0,a4,by rw[q];exact a3⟩,by omega⟩
 .have c':¬(i:Int)<5:=by omega
  have an:i=5:=by omega
  subst an;have ah:M.length<M1.length:=(Z0b.1 h2).1;simp -dsimp -implicitDefEqProofs[t0,t1,t4,t6,f,e,d,c'];refine A6r hL (A0I gl) (λk=>if k=0\/k=2 then 1 else if k=4 then 2 else 0) (λ_=>M.length+1) (λ_=>false) [M.length+1] (by intros;simp) (by rfl) (by kernel_rfl) ?_;obtain⟨y1,y2,y3,y4,a6⟩:=C6s (A4y w 5) a;have ak:=B1T w 5;have b:=h3;rw[a6]at b;have aj:∀X,(M1.set M.length X)[M.length+1]?=M1[M.length+1]?:=λX=>Z0f (by omega);have aq:∀X,Grow M (M1.set M.length X):=λX=>⟨by simpa using h1.1,λj hj _=>by rw[Z0f (by omega)];exact h1.2 j hj (by simp)⟩;simp -dsimp -implicitDefEqProofs[t0,t1,t4,t6,f,e,d,A0b b,A0f h2,A0d,A0R,aj];have ae:decide (0<if(A4y w 5).isSome=true then a+B3q (A4y w 5)else 0)=(A4y w 5).isSome:=by
   cases hs:(A4y w 5).isSome with
   |false=>simp
   |true=>have:=ak hs;simp;omega
  rw[ae,<-a6];simp -dsimp -implicitDefEqProofs[A0v,ah,A0h,D0A,aq];exact Z0j (by simp)
end
section
variable (gl:Nat->AV)
def C6M(l:List ByteArray)(o:Own)(hl:l.length<=1000000000)(r:∀s∈l,s.size<=maxLen)(M:Mem):A0e (WC gl) 98 [.list 1 (A1c l) o] M (λv M'=>A1l 110 5 A1w.row M' v (A3c l 0)/\Grow M M'/\A1m M.length v):=by
 refine A0m (hQ [24]) func98 ?_
 simp -dsimp -implicitDefEqProofs
 refine A0F (hQ [24]) l.length 4 (λT M1=>∃(i:Nat) (q:List A1w) (vq:AV),T 0=.list 1 (A1c l) o/\T 3=vq/\T 4=I i/\i<=l.length/\A1l 110 5 A1w.row M1 vq q/\A3c l 0=q++A3c l i/\q.length<=i/\Grow M M1/\A1m M.length vq) ?_ ?_
 .exact⟨0,[],A0E,by simp,by simp,by simp,by omega,.nil,rfl,by simp,A0c.refl _ _,λf hf=>by simp at hf⟩
 rintro T M1 ⟨i,q,vq,t0,t3,t4,h1,h2,h3,h4,h5,h6⟩
 by_cases c:i<l.length
 .have c':(i:Int)<l.length:=by omega
  have m:IntKind.i64.wrap ((i:Int)+1)=(i+1:Nat):=by rw[A0Z (by omega) (by omega)];omega
  simp -dsimp -implicitDefEqProofs[t0,t3,t4,c'];refine A0r func147 (C7G gl l o hl r i M1) ?_;rintro _ M2 ⟨rfl,rfl⟩;cases hc:B1m (B4Z (l.drop i))with
  |none=>rw[D0M c hc]at h3;have hk:Grow M2 (M2++[A0j.cells 110 (A7s none i)]):=A0c.app none _ _;simp -dsimp -implicitDefEqProofs[t0,t3,t4,A0k,A0l,A0d,m];exact⟨⟨i+1,by omega,by omega,q,h2.keep hk (by simp),h3,by omega,h5.trans hk,h6⟩,by omega⟩
  |some g=>
   obtain⟨⟨k,p,to⟩,n⟩:=g;rw[D1V c hc]at h3;obtain⟨b1,b2,b3,b4⟩:=B1p hc;have hn:=B8n (l.drop i);rw[Z1q]at hn;obtain⟨M3,a⟩:∃M3,M3=M2++[A0j.cells 110 [I k,.list 2 (A1L p) .no,S to,I i,I ((i:Int)+n)]]:=⟨_,rfl⟩;(have hk:Grow M2 M3:=by rw[a];exact A0c.app none _ _);(have hx:M3[M2.length]?=some (A0j.cells 110 [I k,.list 2 (A1L p) .no,S to,I i,I ((i:Int)+n)]):=by rw[a];simp);have ho:=h2.keep hk (by simp);simp -dsimp -implicitDefEqProofs[t0,t3,t4,A0k,A0l,A0d,A7s];rw[<-a];simp -dsimp -implicitDefEqProofs[t0,t3,t4,A0b hx,A0q,A1f];refine A4C (C:=WC gl) (enc:=A1w.row) (e:=110) (sz:=5) (news:=[⟨k,p,to,i,(i:Int)+n⟩]) C2c C9z C2L (λ_=>rfl) ho (by simp[A0A,A1w.row,A1L]) (by simp;omega) rfl ?_;intro v' M4 k1 k2 k3 _;have d:A1m M.length v':=λf hf=>by
    rcases k3 with h|h
    .exact h6 f (h▸hf)
    .have:=h f hf;have:=h5.1;have:=hk.1;omega
   have hg:Grow M M4:=by refine⟨Z0Q (h5.trans hk).1 k2.1,λj hj _=>?_⟩;rw[k2.2 j (by have:=(h5.trans hk).1;omega) λe=>by have:=h6 j e;omega];exact(h5.trans hk).2 j hj (by simp)
   (have b:M4[M2.length]?=some (A0j.cells 110 [I k,.list 2 (A1L p) .no,S to,I i,I ((i:Int)+n)]):=k2.get hx λe=>by have:=h2.lt e;omega);simp -dsimp -implicitDefEqProofs[t0,t3,t4,A0b b]
   exact⟨⟨i+n,by omega,by omega,_,k1,by rw[h3];simp,by simp;omega,hg,d⟩,by omega⟩
 .have c':¬(i:Int)<l.length:=by omega
  rw[D3x (l:=l) (i:=i) (by omega),Z1D]at h3;simp -dsimp -implicitDefEqProofs[t0,t3,t4,c'];rw[h3];exact⟨h2,h5,h6⟩
end
open Go.Proofs TryTypes
section
variable (gl:Nat->AV)
end
section
variable (gl:Nat->AV)
end
section
variable (gl:Nat->AV)
def C6f(x y:Int)(M:Mem):A0e (WC gl) 73 [I x,I y] M (λv M'=>v=I (A9f x y)/\M'=M):=by refine A0m hB func73 ?_;by_cases h1:y=6<;>by_cases h2:x=0<;>simp -dsimp -implicitDefEqProofs[A9f,h1,h2]
end
section
variable (gl:Nat->AV)
def C0S(l:List A0Q)(a b c:Nat)(n:Int)(M:Mem)(hn:n<0):A0e (WC gl) 224 [B1j l a b c,I n] M (λv M'=>A1l 159 2 A0G.row M' v [A3o]/\Grow M M'/\A1m M.length v):=by
 refine A0m (hQ [9,26]) func224 ?_
 simp -dsimp -implicitDefEqProofs[hn,B8d]
 refine⟨.inr ⟨M.length,0,[(0,1)],rfl,by simp[A0G.row,A3o],rfl⟩,A0c.app none _ _,λf hf=>by simp at hf;omega⟩
end
section
variable (gl:Nat->AV)
def D4Q(F:IdD->Option A0a)(l:List A0Q):∀f n,A5w F l f n≠[]
 |0,n=>by simp[A5w]
 |f+1,n=>by rw[A5w];split<;>simp
def B5h(F:IdD->Option A0a)(l:List A0Q):∀f n,(A5w F l f n).length<=f+1
 |0,n=>by simp[A5w]
 |f+1,n=>by have:=B5h F l f (A2w l n);rw[A5w];split<;>simp<;>omega
def D2s(l:List A0Q)(L:List (IdD×A0a))(a b c:Nat)(hl:l.length<=1000)(y:∀j,j<l.length->B0C l j):∀(f:Nat) (n:Int) (M:Mem),n<l.length->n<f->f<=2000->A1W A2C B4x M a L->A0e (WC gl) 224 [B1j l a b c,I n] M (λv M'=>A1l 159 2 A0G.row M' v (A5w (A1C L) l f n)/\Grow M M'/\A1m M.length v):=by
 intro f
 induction f with
 |zero=>intro n M h1 h2 _ hM;exact C0S gl l a b c n M (by omega)
 |succ f ih=>
  intro n M h1 h2 a8 hM
  by_cases hn:n<0
  .rw[A5w,Z0d hn];exact C0S gl l a b c n M hn
  .refine A0m (hQ [9,26]) func224 ?_;(have d:n.toNat<l.length:=by omega);have s:0<=n/\n<l.length:=⟨by omega,h1⟩;simp -dsimp -implicitDefEqProofs[hn,s,s.1,s.2,d,A0Q.row,A0k,A0l,A0d];obtain⟨x,hx⟩:∃x,x=l[n.toNat]:=⟨_,rfl⟩;rw[<-hx];obtain⟨M1,p⟩:∃M1,M1=M++[A0j.cells 69 [I x.id.act,I x.id.item,I x.id.n,I x.parent,S x.label]]:=⟨_,rfl⟩;(have g:M1[M.length]?=some (A0j.cells 69 [I x.id.act,I x.id.item,I x.id.n,I x.parent,S x.label]):=by rw[p];simp);(have u:Grow M M1:=by rw[p];exact A0c.app none _ _);have w:=hM.keep u (by simp);rw[<-p];(have a3:A2w l n=x.parent:=by simp[A2w,d,hx]);(have a7:A9I l n.toNat=x.label:=by simp[A9I,d,hx]);have a6:=y n.toNat d n.toNat d (Z0n _);rw[<-hx]at a6;(have a4:x.parent<f:=by omega);(have z:x.parent<l.length:=by omega);(have a0:A5w (A1C L) l (f+1) n=A5w (A1C L) l f x.parent++[⟨A4L (A1C L) l n,x.label⟩]:=by rw[A5w,Z0e hn,a3,a7]);have a1:=A0e.repack (enc:=A0G.row) (e:=159) (sz:=2) (λ_=>rfl) (λn x=>by simp[A0G.row,A1K,bdd]) (D4Q (A1C L) l f x.parent) (ih x.parent M1 z a4 (by omega) w);rw[a0];have hAl:=B5h (A1C L) l f x.parent;generalize hA:A5w (A1C L) l f x.parent=A at*;refine A6r (hQ [9,26]) (A0I gl) (λk=>if k=2\/k=8 then 1 else if k=3\/k=6\/k=11 then 2 else 0) (λ_=>M.length) (λ_=>false) [M.length] (by intros;simp) (by rfl) (by kernel_rfl) ?_;simp -dsimp -implicitDefEqProofs[A0b g,A0R];refine A4T (A1T func224 rfl rfl a1) ?_;obtain⟨M2,t⟩:∃M2,M2=M1++[A0j.vec 159 2 (A.flatMap A0G.row) 0 [(0,A.length)]]:=⟨_,rfl⟩;(have i:Grow M1 M2:=by rw[t];exact A0c.app none _ _);have a5:A1l 159 2 A0G.row M2 (.vref M1.length 0 2 0 A.length) A:=.inr ⟨M1.length,0,[(0,A.length)],rfl,by rw[t];simp,by simp⟩;(have o:M2[M.length]?=M1[M.length]?:=by rw[g];exact i.get g (by simp));have a2:=w.keep i (by simp);rw[<-t];refine⟨by intro r hr;simp only[Z1k]at hr;subst hr;exact o,?_⟩;simp -dsimp -implicitDefEqProofs;refine A4T (A1T func151 rfl rfl (B7h gl l L a b c n M2 a2 (by omega))) ?_;simp -dsimp -implicitDefEqProofs[o,A0b (o.trans g),A0R,A0q,A1f];refine A4C (C:=WC gl) (enc:=A0G.row) (e:=159) (sz:=2) (news:=[⟨A4L (A1C L) l n,x.label⟩]) B5k C0u B5q (λ_=>rfl) a5 (by simp[A0A,A0G.row]) (by simp;omega) rfl ?_;intro v' M3 k1 k2 k3 _;have a9:M.length<M1.length:=(Z0b.1 g).1;refine⟨by intro r hr;simp only[Z1k]at hr;subst hr;exact k2.2 _ (by have:=i.1;omega) (by simp;omega),?_⟩;simp -dsimp -implicitDefEqProofs;have m:=u.trans i;refine⟨k1,⟨Z0Q m.1 k2.1,λj hj _=>?_⟩,λq hq=>?_⟩
   .rw[k2.2 j (by have:=m.1;omega) (by simp;omega)];exact m.2 j hj (by simp)
   .rcases k3 with h|h
    .rw[h]at hq;simp at hq;omega
    .have:=h q hq;have:=m.1;omega
end
def A0e.dataX{C}{f}{args}{M}{X}(h:A0e C f args M (λv M'=>Grow M M'/\Still M' M.length (bdd M.length) [v] [X])):A0e C f args M (λd M'=>d=X/\M'=M):=A0e.data (Q:=λd=>d=X) (h.mono λ_ _ h=>⟨h.1,X,h.2,rfl⟩)
def C5d{α:Type}{f:α->List AV}{n}(h:∀x,A1K n (f x)):∀l:List α,A9y n (l.map f)
 |[]=>by simp[A9y]
 |x::l=>by simp only[Z0t,A9y];exact⟨h x,C5d h l⟩
def A7x{α:Type}{f:α->List AV}{n sz}(h:∀x,A1K n (f x))(l:List α):bdd n (.list sz (l.map f) .no):=by simp only[bdd,Z1O];exact C5d h l
def B9x(n:Nat)(x:A0G):A1K n x.row:=by simp[A0G.row,A1K,bdd]
def C7M(n:Nat)(x:IdD):A1K n x.row:=by simp[IdD.row,A1K,bdd]
def B7m(n:Nat)(p:List A0G):bdd n (A8K p):=A7x (B9x n) p
def C3Q(n:Nat)(c:A1w):A1K n c.row:=by simp only[A1w.row,A1K,Z1O];exact⟨trivial,B7m n _,trivial,trivial,trivial⟩
def C1k{M}{n sz}{ok:AV->Prop}:Still M n ok [.val (.slice none 0 0)] [.list sz [] .no]:=.nilS .nil
def A3P{α:Type}{M}{n e sz}{enc:α->List AV}{v}{l}(he:∀x,(enc x).length=sz)(hb:∀n x,A1K n (enc x))(h:A1l e sz enc M v l)(hn:A1m n v):Still M n (bdd n) [v] [.list sz (l.map enc) .no]:=Still.rows he (λx c hc=>bddL_mem (hb n x) hc) h hn .nil
where
 bddL_mem {n:Nat}:∀{cs:List AV} {c:AV},A1K n cs->c∈cs->bdd n c
  |d::cs,c,h,hc=>by
   simp only[A1K]at h;rcases Z0u.1 hc with rfl|hc
   .exact h.1
   .exact bddL_mem h.2 hc
abbrev A4m(l:List IdD):List (List AV):=l.map IdD.row
def A3C(s:List A1P):List (List AV):=s.map A1P.row
@[simp] def E0o(l:List A1P):(A3C l).length=l.length:=by simp[A3C]
@[simp] def E0O{p}{i}(h:i<(A3C p).length):(A3C p)[i]=(p[i]'(by simpa using h)).row:=by simp[A3C]
end Go.Abs
