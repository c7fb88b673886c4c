/- The texts CaD, CaE, CaF, CaG, CaH, CaI, CaJ, CaN, CaK, CaL, CaO, CaP, CaQ, CaR, CaS. -/
import Derived.Test.YtmpdkagfplajjaaGreatDoorGG31
import Derived.Test.YtmpdkagfplajjaaGreatDoorGG21
set_option linter.all false
set_option maxRecDepth 100000
namespace Go.Abs
open Go.Proofs TryTypes Tryz
section
variable (gl:Nat->AV)
def B8U:D8Y (WC gl) 112 [] A0B:=λs M=>A0V func112 rfl rfl (A3f (λ_=>trivial) (A6C gl M s))
@[simp] def E2s:A0w prog 159 []=some (.agg [I 0,S ⟨#[]⟩]):=by simp[A0w,A1e]
@[simp] def E1M{k}{t}:A0w prog 159 [(0,I k),(1,S t)]=some (.agg [I k,S t]):=by simp[A0w,A1e,A1r,A0e]
def A9H{M:Mem}{r:Nat}{l:List ByteArray}{o:Own}{a:Nat}{en:Bool}{X:A0p}(h:r<M.length):Rd (M.set r (.cells 240 (A1I l o a en))) r l o a en:=by simp[Rd,h]
def C7q(l:List ByteArray)(o:Own)(hl:l.length<=1000000000)(a7:∀s∈l,s.size<=maxLen)(ks:List ByteArray)(o2:Own)(hk:ks.length<=100)(r:Nat)(a:Nat)(en:Bool)(M:Mem)(hr:Rd M r l o a en):A0c (WC gl) 330 [.ptr r 0,.list 1 (A1d ks) o2] M (λv M'=>v=.tuple [.agg (match(A7r l (A2P ks) a en).1 with|some s=>s.row|none=>[I 0,S ⟨#[]⟩]),B (A7r l (A2P ks) a en).1.isSome]/\A0d (some r) M M'/\Rd M' r l o (A7r l (A2P ks) a en).2.1 (A7r l (A2P ks) a en).2.2):=by
 obtain⟨R,hR⟩:∃R,R=A7r l (A2P ks) a en:=⟨_,rfl⟩
 rw[<-hR]
 refine A0o hB func330 ?_
 have p:r<M.length:=(Z0a.1 hr).1
 obtain⟨M1,b⟩:∃M1,M1=M++[A0p.cells 159 [I 0,S ⟨#[]⟩],A0p.cells 240 (A1I l o a en)]:=⟨_,rfl⟩
 have k:Rd M1 r l o a en:=by unfold Rd;rw[b,Z0h p];exact hr
 have a0:(M++[A0p.cells 159 [I 0,S ⟨#[]⟩]])[r]?=some (.cells 240 (A1I l o a en)):=by rw[Z0h p];exact hr
 have w:M1[M.length]?=some (.cells 159 [I 0,S ⟨#[]⟩]):=by rw[b];simp
 have a4:M1[M.length+1]?=some (.cells 240 (A1I l o a en)):=by rw[b];simp
 have u:A0d (some r) M M1:=by rw[b];exact .app _ _ _
 simp -dsimp -implicitDefEqProofs[A0l,A0b a0,A0m,A0e]
 rw[<-b]
 clear a0 b
 refine A0s func333 (C6j gl l o hl a7 ks o2 hk r a en M1 k) ?_
 rintro _ M2 ⟨rfl,rfl⟩
 have g:r<M1.length:=(Z0a.1 k).1
 have h:A7r l (A2P ks) a en=match A3r l (λs=>decide (0<A2P ks s)) a en with
  |(none,_,_)=>(none,a,en)
  |(some s,a1,f)=>match A3r l A0B a1 f with
   |(none,_,_)=>(none,a,en)
   |(some t,a2,en2)=>(some ⟨A2P ks s,t⟩,a2,en2):=rfl
 rw[h]at hR
 clear h
 rcases hw:A3r l (λs=>decide (0<A2P ks s)) a en with⟨w1,a1,f⟩
 rw[hw]at hR
 have x:=@A9H M1 r l o a1 f .gone g
 have d:r≠M.length:=by omega
 have a5:r≠M.length+1:=by omega
 simp -dsimp -implicitDefEqProofs
 refine A0s func331 (B5o gl l o hl a7 A0B r 112 [] (B8U gl) a1 f _ x) ?_
 rintro _ M3 ⟨rfl,rfl⟩
 rcases hw2:A3r l A0B a1 f with⟨w2,a2,en2⟩
 simp only[Z2z]
 have m:=@A9H M1 r l o a2 en2 .gone g
 have a6:A0d (some r) M (M1.set r (.cells 240 (A1I l o a2 en2))):=u.trans (.set _ _ _)
 have j:(M1.set r (.cells 240 (A1I l o a2 en2)))[M.length]?=some (.cells 159 [I 0,S ⟨#[]⟩]):=by rw[Z0e d];exact w
 have y:(M1.set r (.cells 240 (A1I l o a2 en2)))[M.length+1]?=some (.cells 240 (A1I l o a en)):=by rw[Z0e a5];exact a4
 generalize M1.set r (.cells 240 (A1I l o a2 en2))=M3 at*
 have e:M.length<M3.length:=(Z0a.1 j).1
 have q:Rd (M3.set r (.cells 240 (A1I l o a en))) r l o a en:=@A9H M3 r l o a en .gone (by omega)
 have z:(M3.set r (.cells 240 (A1I l o a en)))[M.length]?=some (.cells 159 [I 0,S ⟨#[]⟩]):=by rw[Z0e d];exact j
 have a3:A0d (some r) M (M3.set r (.cells 240 (A1I l o a en))):=a6.trans (.set _ _ _)
 have c:∀(M4:Mem) (X:List AV) (a':Nat) (n:Bool),Rd M4 r l o a' n->A0d (some r) M M4->A0d (some r) M (M4.set M.length (.cells 159 X))/\Rd (M4.set M.length (.cells 159 X)) r l o a' n:=λM4 X a' n h1 h2=>by
  refine⟨⟨by simpa using h2.1,λi hi ho=>?_⟩,?_⟩
  .rw[Z0e (by omega)];exact h2.2 i hi ho
  .unfold Rd;rw[Z0e d.symm];exact h1
 clear u k w a4 x
 cases w1 with
 |none=>
  simp only at hR
  subst hR
  have hq:=c _ [I 0,S ⟨#[]⟩] a en q a3
  simp -dsimp -implicitDefEqProofs[A0b y,A0h m,A0e]
  simp -dsimp -implicitDefEqProofs[A0h z,A0e,A0z,e,A0k]
  exact hq
 |some s=>
  simp only[hw2]at hR
  cases w2 with
  |none=>
   simp only at hR
   subst hR
   have hq:=c _ [I 0,S ⟨#[]⟩] a en q a3
   simp -dsimp -implicitDefEqProofs[A0b y,A0h m,A0e]
   simp -dsimp -implicitDefEqProofs[A0h z,A0e,A0z,e,A0k]
   exact hq
  |some t=>
   simp only at hR
   subst hR
   have hq:=c _ [I (A2P ks s),S t] a2 en2 m a6
   simp -dsimp -implicitDefEqProofs[A0h j,A0e,A0z,e,A0k,A0M.row]
   exact hq
end
def A1H(r:Nat)(b:Option Nat)(M M':Mem):Prop:=M.length<=M'.length/\∀i,i<M.length->i≠r->b≠some i->M'[i]?=M[i]?
def A1H.refl(r:Nat)(b:Option Nat)(M:Mem):A1H r b M M:=⟨Z0n _,λ_ _ _ _=>rfl⟩
def A1H.step{r}{b c}{M M1 M2}(h:A1H r b M M1)(k:A1H r c M1 M2)(hc:∀i,c=some i->i<M.length->b=some i):A1H r b M M2:=⟨Z0X h.1 k.1,λi hi h1 h2=>(k.2 i (Z1i hi h.1) h1 λe=>h2 (hc i e hi)).trans (h.2 i hi h1 h2)⟩
def A1H.of_r{r}{b}{M M'}(h:A0d (some r) M M'):A1H r b M M':=⟨h.1,λi hi h1 _=>h.2 i hi λe=>h1 (by simpa using e.symm)⟩
def A1H.of_b{r}{b}{M M'}(h:A0d b M M'):A1H r b M M':=⟨h.1,λi hi _ h2=>h.2 i hi h2⟩
def lenV(v:AV):Nat:=match v with
 |.vref _ _ _ _ n=>n
 |_=>0
def A1b.lenV{α:Type}{e sz}{enc:α->List AV}{M}{v}{l}(h:A1b e sz enc M v l):lenV v=l.length:=by rcases h with⟨rfl,rfl⟩|⟨f,g,a,rfl,_⟩<;>rfl
def C4l(l:List ByteArray)(o:Own)(r a:Nat)(en:Bool)(b:Option Nat)(n:Nat)(M M':Mem):Prop:=∃en',Rd M' r l o (a+n) en'/\A1k l (a+n) en'=(A1k l a en).drop n/\A1H r b M M'
def D9X(l:List ByteArray)(o:Own)(r a:Nat)(en:Bool)(n:Nat)(b:Option Nat)(P:List A0M)(M:Mem)(q:List A0M)(M1:Mem):Prop:=∃en1,Rd M1 r l o (a+2*q.length) en1/\A1k l (a+2*q.length) en1=(A1k l a en).drop (2*q.length)/\P=q++prs (9-n-q.length) (A1k l (a+2*q.length) en1)/\A1H r b M M1
section
variable (gl:Nat->AV)
def C5a(l:List ByteArray)(o:Own)(hl:l.length<=1000000000)(a8:∀s∈l,s.size<=maxLen)(r:Nat)(a:Nat)(en:Bool)(p:List A0M)(v0:AV)(M:Mem)(hr:Rd M r l o a en)(hv:A1b 159 2 A0M.row M v0 p)(hp:p.length<=9)(a3:obj v0≠some r):A0c (WC gl) 329 [.ptr r 0,v0] M (λv M'=>A1b 159 2 A0M.row M' v (p++prs (9-p.length) (A1k l a en))/\C4l l o r a en (obj v0) (2*(prs (9-p.length) (A1k l a en)).length) M M'/\(obj v=obj v0\/A1g M.length v)):=by
 obtain⟨P,hP⟩:∃P,P=prs (9-p.length) (A1k l a en):=⟨_,rfl⟩
 rw[<-hP]
 refine A0o (hQ [21]) func329 ?_
 simp -dsimp -implicitDefEqProofs
 refine A1R (hQ [21]) (λT M1=>∃(q:List A0M) (vq:AV),T 0=.ptr r 0/\T 1=vq/\A1b 159 2 A0M.row M1 vq (p++q)/\p.length+q.length<=9/\D9X l o r a en p.length (obj v0) P M q M1/\(obj vq=obj v0\/A1g M.length vq)/\obj vq≠some r) (λT M1=>10-lenV (T 1)) (by kernel_rfl) ?_ ?_
 .exact⟨[],v0,by simp,by simp,by simpa using hv,by simpa using hp,⟨en,by simpa using hr,by simp,by simpa using hP,.refl _ _ _⟩,.inl rfl,a3⟩
 rintro T M1 ⟨q,vq,t0,t1,h1,h2,⟨d,h3,h4,h5,h6⟩,h7,h8⟩
 have m:=h1.len (P:=prog) (t:=40) (e':=159) (by kernel_rfl)
 have a9:r<M1.length:=(Z0a.1 h3).1
 have ab:=h1.lenV
 rw[Z0r]at m ab
 by_cases c:p.length+q.length<9
 .have c':(p.length:Int)+q.length<9:=by omega
  simp -dsimp -implicitDefEqProofs[t0,t1,m,c'];refine A0s func219 (B8H gl M1) ?_;rintro _ M2 ⟨rfl,rfl⟩;simp -dsimp -implicitDefEqProofs[t0,t1];refine A0s func330 (C7q gl l o hl a8 A1M .full (by decide) r _ d M2 h3) ?_;rintro _ M3 ⟨rfl,hk,k⟩;have x:=@C1G l kS C6c (a+2*q.length) d;rcases x with⟨s,t,w',e1,e2,e3,n,e4,e5⟩|⟨e1,e2⟩
  .have a7:A7r l (A2P A1M) (a+2*q.length) d=(some ⟨kS s,t⟩,a+2*q.length+2,n):=e4;rw[a7]at k|-;obtain⟨M4,u⟩:∃M4,M4=M3++[A0p.cells 159 [I (kS s),S t]]:=⟨_,rfl⟩;(have a5:M4[M3.length]?=some (A0p.cells 159 [I (kS s),S t]):=by rw[u];simp);have j:A0d (some r) M2 M4:=hk.trans (by rw[u];exact .app _ _ _);(have w:Rd M4 r l o (a+2*q.length+2) n:=by unfold Rd;rw[u,Z0h (by have:=(Z0a.1 k).1;exact this)];exact k);have y:A1b 159 2 A0M.row M4 vq (p++q):=h1.keep j (λf hf e=>h8 (by rw[hf];exact e.symm));simp -dsimp -implicitDefEqProofs[t0,t1,A0l,A0m,A0e,A0M.row];rw[<-u];simp -dsimp -implicitDefEqProofs[t0,t1,A0b a5,A0n,A0W];refine A3p (C:=WC gl) (enc:=A0M.row) (e:=159) (sz:=2) (news:=[⟨kS s,t⟩]) B1U B6w B2c (λ_=>rfl) y (by simp[A0A,A0M.row]) (by simp;omega) rfl ?_;intro v' M5 k1 k2 k3 _;have a1:Rd M5 r l o (a+2*q.length+2) n:=k2.get w h8;(have a2:P=(q++[⟨kS s,t⟩])++prs (9-p.length-(q.length+1)) w':=by rw[h5,e1,show 9-p.length-q.length=(9-p.length-(q.length+1))+1 from by omega,D5v ⟨e2,e3⟩,Z0T];rfl);(have z:A1k l (a+2*(q.length+1)) n=w':=by rw[show a+2*(q.length+1)=a+2*q.length+2 from by omega];exact e5);(have hdr:w'=(A1k l a en).drop (2*(q.length+1)):=by rw[show 2*(q.length+1)=2*q.length+2 from by omega,<-Z1V,<-h4,e1];rfl);have ad:=k1.lenV;have ac:M2.length<=M4.length:=j.1;simp -dsimp -implicitDefEqProofs[t0,t1];have a4:obj v'≠some r:=λe=>by
    rcases k3 with h|h
    .exact h8 (h▸e)
    .have:=h _ e;have:=ac;omega
   have a6:obj v'=obj v0\/A1g M.length v':=by
    rcases k3 with h|h
    .rcases h7 with g|g
     .exact .inl (h.trans g)
     .exact .inr λf hf=>g f (h▸hf)
    .exact .inr λf hf=>by have:=h f hf;have:=h6.1;omega
   have aa:A1H r (obj v0) M M5:=by
    refine(h6.step (A1H.of_r (b:=none) j) (by simp)).step (A1H.of_b k2) λi hi a9=>?_;rcases h7 with g|g
    .rw[<-g];exact hi
    .have:=g i hi;omega
   refine⟨⟨q++[⟨kS s,t⟩],by simpa using k1,by simp;omega,⟨n,?_,?_,?_,aa⟩,a6,a4⟩,?_⟩
   .simpa[show a+2*(q.length+1)=a+2*q.length+2 from by omega]using a1
   .simp only[Z0r,Z0x,Z1I,Z0I];rw[z,hdr]
   .simp only[Z0r,Z0x,Z1I,Z0I];rw[z];exact a2
   .simp at ad;omega
  .have a0:A7r l (A2P A1M) (a+2*q.length) d=(none,a+2*q.length,d):=e2;rw[a0]at k|-;have x:prs (9-p.length-q.length) (A1k l (a+2*q.length) d)=[]:=D4c e1;rw[x,Z1b]at h5;subst h5;have j:A0d (some r) M2 (M3++[A0p.cells 159 [I 0,S ⟨#[]⟩]]):=hk.trans (.app _ _ _);(have w:Rd (M3++[A0p.cells 159 [I 0,S ⟨#[]⟩]]) r l o (a+2*P.length) d:=by unfold Rd;rw[Z0h (by have:=(Z0a.1 k).1;exact this)];exact k);have y:A1b 159 2 A0M.row (M3++[A0p.cells 159 [I 0,S ⟨#[]⟩]]) vq (p++P):=h1.keep j (λf hf e=>h8 (by rw[hf];exact e.symm));simp -dsimp -implicitDefEqProofs[t0,t1,A0l,A0m,A0e];exact⟨y,⟨d,w,h4,h6.step (A1H.of_r (b:=none) j) (by simp)⟩,h7⟩
 .have c':¬(p.length:Int)+q.length<9:=by omega
  have hz:prs (9-p.length-q.length) (A1k l (a+2*q.length) d)=[]:=by rw[show 9-p.length-q.length=0 from by omega];cases A1k l (a+2*q.length) d<;>simp[prs]
  rw[hz,Z1b]at h5;subst h5;simp -dsimp -implicitDefEqProofs[t0,t1,m,c'];exact⟨h1,⟨d,h3,h4,h6⟩,h7⟩
end
section
variable (gl:Nat->AV)
def C4Z(l:List ByteArray)(o:Own)(hl:l.length<=1000000000)(p:∀s∈l,s.size<=maxLen)(r:Nat)(a:Nat)(en:Bool)(M:Mem)(hr:Rd M r l o a en):A0c (WC gl) 248 [.ptr r 0] M (λv M'=>A1b 159 2 A0M.row M' v (A2V (A1k l a en))/\C4l l o r a en none (A1f (A1k l a en)) M M'/\A1g M.length v):=by
 refine A0o (hQ [9]) func248 ?_
 simp -dsimp -implicitDefEqProofs
 refine A0s func251 (B3f gl l o hl p A3B r a en M hr) ?_
 rintro _ M1 ⟨rfl,rfl⟩
 have d:r<M.length:=(Z0a.1 hr).1
 rcases A8i (l:=l) (a:=a) (en:=en) A3V.2.2.2.2.2.1 with⟨w,e1,c,e2,e3⟩|⟨e1,e2⟩
 .rw[e2];have hb:bkN (A1k l a en)=1:=by rw[e1];simp[bkN]
  have k:bkS (A1k l a en)=[A3a]:=by simp[bkS,hb]
  have hdr:(A1k l a en).drop 1=w:=by rw[e1];rfl
  have m:=@A9H M r l o (a+1) c .gone d;have b:A0d (some r) M (M.set r (.cells 240 (A1I l o (a+1) c))):=.set _ _ _;generalize M.set r (.cells 240 (A1I l o (a+1) c))=M1 at*;simp -dsimp -implicitDefEqProofs[A0n,A0W];refine A3p (C:=WC gl) (enc:=A0M.row) (e:=159) (sz:=2) (l:=[]) (news:=[A3a]) B1U B6w B2c (λ_=>rfl) .nil (by simp[A0A,A0M.row,A3a]) (by simp) rfl ?_;intro v' M2 k1 k2 k3 _;have q:Rd M2 r l o (a+1) c:=k2.get m (by simp);have t:obj v'≠some r:=λe=>by
   rcases k3 with h|h
   .rw[h]at e;simp at e
   .have:=h _ e;have:=b.1;omega
  simp -dsimp -implicitDefEqProofs;refine A0s func329 (C5a gl l o hl p r (a+1) c [A3a] v' M2 q (by simpa using k1) (by simp) t) ?_;rintro v M3 ⟨q1,⟨en2,q2,q3,q4⟩,q5⟩;have j:A2V (A1k l a en)=[A3a]++prs (9-[A3a].length) (A1k l (a+1) c):=by unfold A2V;rw[k,hb,hdr,e3];rfl
  have n:A1f (A1k l a en)=1+2*(prs (9-[A3a].length) (A1k l (a+1) c)).length:=by unfold A1f;rw[hb,hdr,e3];rfl
  simp -dsimp -implicitDefEqProofs;rw[j,n];refine⟨q1,⟨en2,by rw[<-Z2j];exact q2,by rw[<-Z2j,q3,e3,e1,Z3J 1];rfl,?_⟩,?_⟩
  .refine((A1H.of_r b).step (A1H.of_b k2) (by simp)).step q4 λi hi d=>?_;rcases k3 with h|h
   .rw[h]at hi;simp at hi
   .have:=h i hi;have:=b.1;omega
  .intro f hf;have u:=b.1;have x:=k2.1;rcases q5 with g|g
   .rw[g]at hf;rcases k3 with h|h
    .rw[h]at hf;simp at hf
    .have:=h f hf;omega
   .have:=g f hf;omega
 .rw[e2];have hb:bkN (A1k l a en)=0:=by
   cases hs:A1k l a en with
   |nil=>rfl
   |cons s w=>simp only[bkN];rw[Z0c λe=>e1 w (by rw[hs,e])]
  have k:bkS (A1k l a en)=[]:=by simp[bkS,hb]
  have m:=@A9H M r l o a en .gone d;have b:A0d (some r) M (M.set r (.cells 240 (A1I l o a en))):=.set _ _ _;generalize M.set r (.cells 240 (A1I l o a en))=M1 at*;simp -dsimp -implicitDefEqProofs;refine A0s func329 (C5a gl l o hl p r a en [] _ M1 m .nil (by simp) (by simp)) ?_;rintro v M3 ⟨q1,⟨en2,q2,q3,q4⟩,q5⟩;have j:A2V (A1k l a en)=[]++prs (9-([]:List A0M).length) (A1k l a en):=by unfold A2V;rw[k,hb];rfl
  have n:A1f (A1k l a en)=2*(prs (9-([]:List A0M).length) (A1k l a en)).length:=by unfold A1f;rw[hb,Z0I];rfl
  simp -dsimp -implicitDefEqProofs;rw[j,n];refine⟨q1,⟨en2,q2,q3,(A1H.of_r b).step q4 (by simp)⟩,?_⟩;intro f hf;have u:=b.1;rcases q5 with g|g
  .rw[g]at hf;simp at hf
  .have:=g f hf;omega
end
def D6B(l:List ByteArray)(o:Own)(r:Nat)(M M':Mem):Prop:=(∃a en,Rd M' r l o a en)/\A1H r none M M'
def C8X(l:List ByteArray)(o:Own)(r a:Nat)(en:Bool)(M:Mem)(v:AV)(M':Mem):Prop:=(∃p n,A2G (A1k l a en)=some (p,n)/\A1b 159 2 A0M.row M' v p/\C4l l o r a en none n M M'/\A1g M.length v)\/(A2G (A1k l a en)=none/\v=.val (.slice none 0 0)/\D6B l o r M M')
section
variable (gl:Nat->AV)
@[simp] def E1G{k}:A0w prog 159 [(0,I k)]=some (.agg [I k,S ⟨#[]⟩]):=by simp[A0w,A1e,A1r,A0e]
def B9p{k}{M}:A1J prog 40 1 [(0,.agg [I k,S ⟨#[]⟩])] M=some (.vref M.length 0 2 0 1,M++[.vec 159 2 [I k,S ⟨#[]⟩] 0 [(0,1)]]):=by simp[A1J,A0W,AV.storable,AV.cells]
def C2m(l:List ByteArray)(o:Own)(hl:l.length<=1000000000)(q:∀s∈l,s.size<=maxLen)(r:Nat)(a:Nat)(en:Bool)(M:Mem)(hr:Rd M r l o a en):A0c (WC gl) 252 [.ptr r 0] M (C8X l o r a en M):=by
 have j:r<M.length:=(Z0a.1 hr).1
 refine A0o (hQ [16]) func252 ?_
 simp -dsimp -implicitDefEqProofs
 refine A0s func219 (B8H gl M) ?_
 rintro _ M1 ⟨rfl,rfl⟩
 simp -dsimp -implicitDefEqProofs
 refine A0s func333 (C6j gl l o hl q A1M .full (by decide) r a en M1 hr) ?_
 rintro _ M2 ⟨rfl,rfl⟩
 rcases D1W (l:=l) (a:=a) (en:=en) C6c with⟨s,w,e1,e2,c,e3,e4⟩|⟨e1,e3⟩
 .have m:A3r l (λs=>decide (0<A2P A1M s)) a en=(some s,a+1,c):=e3;rw[m];have h:=@A9H M1 r l o (a+1) c .gone j;have e:A0d (some r) M1 (M1.set r (.cells 240 (A1I l o (a+1) c))):=.set _ _ _;generalize M1.set r (.cells 240 (A1I l o (a+1) c))=M2 at*;simp -dsimp -implicitDefEqProofs[B9p];obtain⟨M3,d⟩:∃M3,M3=M2++[.vec 159 2 [I (A2P A1M s),S ⟨#[]⟩] 0 [(0,1)]]:=⟨_,rfl⟩;rw[<-d];have hv:A1b 159 2 A0M.row M3 (.vref M2.length 0 2 0 1) [⟨kS s,⟨#[]⟩⟩]:=.inr ⟨M2.length,0,[(0,1)],rfl,by rw[d];simp[A0M.row,kS],rfl⟩;have p:A0d (some r) M2 M3:=by rw[d];exact .app _ _ _
  have n:r<M2.length:=(Z0a.1 h).1;have t:Rd M3 r l o (a+1) c:=by unfold Rd;rw[d,Z0h n];exact h
  have u:=e.1;clear d;refine A0s func329 (C5a gl l o hl q r (a+1) c [⟨kS s,⟨#[]⟩⟩] _ M3 t hv (by simp) (by simp;omega)) ?_;rintro v M4 ⟨q1,⟨en2,q2,q3,q4⟩,q5⟩;rw[e4]at q1 q2 q3;have k:A2G (A1k l a en)=some (⟨kS s,⟨#[]⟩⟩::prs 8 w,1+2*(prs 8 w).length):=by rw[e1];simp only[A2G];rw[Z0d e2]
  simp -dsimp -implicitDefEqProofs;refine .inl ⟨_,_,k,q1,⟨en2,by rw[<-Z2j];exact q2,by rw[<-Z2j];refine q3.trans ?_;rw[e1,Z3J 1];rfl,?_⟩,?_⟩
  .refine((A1H.of_r e).step (A1H.of_r (b:=none) p) (by simp)).step q4 λi hi j=>?_;simp at hi;omega
  .intro f hf;have:=p.1;rcases q5 with g|g
   .rw[g]at hf;simp at hf;omega
   .have:=g f hf;omega
 .have m:A3r l (λs=>decide (0<A2P A1M s)) a en=(none,a,en):=e3;rw[m];have h:=@A9H M1 r l o a en .gone j;have e:A0d (some r) M1 (M1.set r (.cells 240 (A1I l o a en))):=.set _ _ _;have k:A2G (A1k l a en)=none:=by
   cases hs:A1k l a en with
   |nil=>rfl
   |cons s w=>simp only[A2G];rw[Z0c (e1 s w hs)]
  simp -dsimp -implicitDefEqProofs;exact .inr ⟨k,rfl,⟨a,en,h⟩,.of_r e⟩
end
abbrev A0x:AV:=.val (.slice none 0 0)
def D3Q(l:List ByteArray)(o:Own)(r a:Nat)(en:Bool)(M:Mem)(v:AV)(M':Mem):Prop:=
 (∃s d vp,A4a ((A1k l a en).drop (A1f (A1k l a en)))=some (s,d)/\v=.agg [I 1,vp,S d,I 0,I 0]/\A1b 159 2 A0M.row M' vp (A2V (A1k l a en)++[s])/\A1g M.length vp/\C4l l o r a en none (A1f (A1k l a en)+4) M M')\/
 (A4a ((A1k l a en).drop (A1f (A1k l a en)))=none/\∃vp p,v=.agg [I 1,vp,S ⟨#[]⟩,I 0,I 0]/\A1b 159 2 A0M.row M' vp p/\A1g M.length vp/\p.length<=10/\D6B l o r M M')
structure D2I (l:List ByteArray) (o:Own) (r:Nat) (M:Mem) (c:Nat) (v1:AV) (p:List A0M) (a':Nat) (en':Bool) (Mi:Mem):Prop where
 rd:Rd Mi r l o a' en'
 res:Mi[M.length]?=some (.cells 110 [I 0,A0x,S ⟨#[]⟩,I 0,I 0])
 cc:Mi[c]?=some (.cells 110 [I 1,v1,S ⟨#[]⟩,I 0,I 0])
 own:A1b 159 2 A0M.row Mi v1 p
 lat:∀f,obj v1=some f->M.length<f/\f<c
 kp:A1H r none M Mi
 lt:r<M.length/\M.length<c
def D2I.next{l}{o}{r}{M}{c}{v1}{p}{a' a2}{en' en2}{Mi Mj}(h:D2I l o r M c v1 p a' en' Mi)(k:A0d (some r) Mi Mj)(hr:Rd Mj r l o a2 en2):D2I l o r M c v1 p a2 en2 Mj:=by have a:=h.lt;exact⟨hr,k.get h.res (by simp;omega),k.get h.cc (by simp;omega),h.own.keep k λf hf e=>by have:=h.lat f hf;simp at e;omega,h.lat,h.kp.step (A1H.of_r (b:=none) k) (by simp),a⟩
def D2I.fail{l}{o}{r}{M}{c}{v1}{p}{a'}{en'}{Mi}(h:D2I l o r M c v1 p a' en' Mi){X}:A1b 159 2 A0M.row (Mi.set M.length (.cells 110 X)) v1 p/\A1g M.length v1/\D6B l o r M (Mi.set M.length (.cells 110 X)):=by
 have a:=h.lt
 refine⟨h.own.keep (.set _ _ _) λf hf e=>by have:=h.lat f hf;simp at e;omega,λf hf=>by have:=h.lat f hf;omega,⟨a',en',?_⟩,?_⟩
 .unfold Rd;rw[Z0e (by omega)];exact h.rd
 .refine⟨by simpa using h.kp.1,λi hi h1 h2=>?_⟩;rw[Z0e (by omega)];exact h.kp.2 i hi h1 h2
section
variable (gl:Nat->AV)
@[simp] def A8j{k}{v}{M}{p}(h:A1b 159 2 A0M.row M v p):A0w prog 110 [(0,I k),(1,v)]=some (.agg [I k,v,S ⟨#[]⟩,I 0,I 0]):=by
 rcases h with⟨rfl,_⟩|⟨f,g,a,rfl,_⟩<;>simp[A0w,A1e,A1r,A0e,AV.cells,AV.storable]
def D7w(l:List ByteArray)(o:Own)(hl:l.length<=1000000000)(ae:∀s∈l,s.size<=maxLen)(r:Nat)(a:Nat)(en:Bool)(M:Mem)(hr:Rd M r l o a en):A0c (WC gl) 249 [.ptr r 0] M (D3Q l o r a en M):=by
 have ap:r<M.length:=(Z0a.1 hr).1
 refine A0o (hQ [27]) func249 ?_
 obtain⟨M0,a5⟩:∃M0,M0=M++[A0p.cells 110 [I 0,A0x,S ⟨#[]⟩,I 0,I 0]]:=⟨_,rfl⟩
 have p:Rd M0 r l o a en:=by unfold Rd;rw[a5,Z0h ap];exact hr
 have au:M0[M.length]?=some (A0p.cells 110 [I 0,A0x,S ⟨#[]⟩,I 0,I 0]):=by rw[a5];simp
 have ay:M0.length=M.length+1:=by rw[a5];simp
 have aq:A1H r none M M0:=by rw[a5];exact .of_r (.app _ _ _)
 simp -dsimp -implicitDefEqProofs[A0l]
 rw[<-a5]
 clear a5
 refine A0s func248 (C4Z gl l o hl ae r a en M0 p) ?_
 rintro v1 M1 ⟨q1,⟨y,q2,q3,q4⟩,q5⟩
 obtain⟨w,hw⟩:∃w,w=A1k l a en:=⟨_,rfl⟩
 rw[<-hw]at q1 q2 q3
 have bf:=B9n w
 have bc:(A2V w).length<=9:=by have:=A3U (9-bkN w) (w.drop (bkN w));have hb:=B6y w;unfold A2V;rw[Z0r,B1q];omega
 obtain⟨c,hc⟩:∃c,c=M1.length:=⟨_,rfl⟩
 have b8:M.length<c:=by have:=q4.1;omega
 have b5:=q1.store
 have b7:=q1.cells
 have ab:D2I l o r M c v1 (A2V w) (a+A1f w) y (M1++[A0p.cells 110 [I 1,v1,S ⟨#[]⟩,I 0,I 0]]):=by
  have al:A0d (some r) M1 (M1++[A0p.cells 110 [I 1,v1,S ⟨#[]⟩,I 0,I 0]]):=.app _ _ _;refine⟨?_,?_,?_,q1.keep al ?_,?_,(aq.step q4 (by simp)).step (A1H.of_r (b:=none) al) (by simp),ap,b8⟩
  .unfold Rd;rw[Z0h (by have:=q4.1;omega)];exact q2
  .rw[Z0h (by have:=q4.1;omega),q4.2 _ (by omega) (by omega) (by simp)];exact au
  .rw[hc];simp
  .intro f hf e;have:=q5 f hf;simp at e;omega
  .intro f hf;have:=q5 f hf;have:=q1.lt hf;omega
 simp -dsimp -implicitDefEqProofs[A8j q1,A0l,A0m,A0e]
 rw[<-hc]
 clear b7 b5 q1 q2 q4 q5 p au ay aq
 generalize M1++[A0p.cells 110 [I 1,v1,S ⟨#[]⟩,I 0,I 0]]=M2 at*
 clear hc
 refine A0s func169 (D3p gl M2) ?_
 rintro _ M3 ⟨rfl,rfl⟩
 simp -dsimp -implicitDefEqProofs
 refine A0s func330 (C7q gl l o hl ae A3O .full (by decide) r _ y M3 ab.rd) ?_
 rintro _ M4 ⟨rfl,aj,a2⟩
 have ai:(∀s t r,A1k l (a+A1f w) y=s::t::r->¬(0<kP s/\A0B t=true))->A4a (w.drop (A1f w))=none:=λh=>by
  rw[<-q3];unfold A4a;split
  .rename_i s t c d r e;rw[Z0c λhh=>h s t _ e ⟨hh.1,hh.2.1⟩]
  .rfl
 rcases C1G (l:=l) (a:=a+A1f w) (en:=y) D5X with⟨s,t,w',e1,e2,e3,z,e4,e5⟩|⟨e1,e2⟩
 .have b2:A7r l (A2P A3O) (a+A1f w) y=(some ⟨kP s,t⟩,a+A1f w+2,z):=e4;rw[b2]at a2|-;obtain⟨M5,m⟩:∃M5,M5=M4++[A0p.cells 159 [I (kP s),S t]]:=⟨_,rfl⟩;have an:M5[M4.length]?=some (A0p.cells 159 [I (kP s),S t]):=by rw[m];simp
  have a1:Rd M5 r l o (a+A1f w+2) z:=by unfold Rd;rw[m,Z0h (by have:=(Z0a.1 a2).1;exact this)];exact a2
  have k:=ab.next (aj.trans (by rw[m];exact .app _ _ _)) a1;have bb:c<M4.length:=by have:=(Z0a.1 ab.cc).1;have:=aj.1;omega
  simp -dsimp -implicitDefEqProofs[A0l,A0m,A0e,A0M.row];rw[<-m];generalize hx:M4.length=x at*;clear m;refine A0s func251 (B3f gl l o hl ae toW r _ z M5 a1) ?_;rintro _ M6 ⟨rfl,rfl⟩;have a0:r<M5.length:=(Z0a.1 a1).1;rcases A8i (l:=l) (a:=a+A1f w+2) (en:=z) A3V.2.2.2.2.1 with⟨w2,g1,en2,g2,g3⟩|⟨g1,g2⟩
  .rw[g2];have bd:=k.lt;have af:=@A9H M5 r l o (a+A1f w+2+1) en2 .gone a0;have j:=k.next (.set M5 r (.cells 240 (A1I l o (a+A1f w+2+1) en2))) af;(have b0:(M5.set r (.cells 240 (A1I l o (a+A1f w+2+1) en2)))[x]?=some (A0p.cells 159 [I (kP s),S t]):=by rw[Z0e (by omega)];exact an);generalize M5.set r (.cells 240 (A1I l o (a+A1f w+2+1) en2))=M6 at*;have bg:c<M6.length:=(Z0a.1 j.cc).1;simp -dsimp -implicitDefEqProofs[A0b j.cc,A0b b0,A0n,A0W];refine A3p (C:=WC gl) (enc:=A0M.row) (e:=159) (sz:=2) (news:=[⟨kP s,t⟩]) B1U B6w B2c (λ_=>rfl) j.own (by simp[A0A,A0M.row]) (by simp;omega) rfl ?_;intro v2 M7 k1 k2 k3 _;have u:=j.lat;have a8:∀f,obj v2=some f->M.length<f/\f≠c:=λf hf=>by
    rcases k3 with h|h
    .have:=u f (h▸hf);omega
    .have:=h f hf;omega
   (have ao:M7[c]?=some (.cells 110 [I 1,v1,S ⟨#[]⟩,I 0,I 0]):=k2.get j.cc λe=>by have:=u c e;omega);have b3:Rd M7 r l o (a+A1f w+2+1) en2:=k2.get j.rd λe=>by have:=u r e;omega
   (have b1:M7[M.length]?=some (.cells 110 [I 0,A0x,S ⟨#[]⟩,I 0,I 0]):=k2.get j.res λe=>by have:=u _ e;omega);have ag:A1H r none M M7:=⟨Z0X j.kp.1 k2.1,λi hi h1 h2=>by rw[k2.2 i (by have:=j.kp.1;omega) λe=>by have:=u i e;omega];exact j.kp.2 i hi h1 h2⟩
   obtain⟨f2,b6,n2,rfl⟩:∃f g n,v2=.vref f g 2 0 n:=by
    rcases k1 with⟨rfl,hn⟩|⟨f,g,ba,rfl,_⟩
    .simp at hn
    .exact⟨f,g,_,rfl⟩
   generalize q:AV.vref f2 b6 2 0 n2=v2 at*;clear ab k an a1 af;rw[<-q];simp -dsimp -implicitDefEqProofs[A0h ao,A0e];rw[q];(have av:(M7.set c (.cells 110 [I 1,v2,S ⟨#[]⟩,I 0,I 0]))[c]?=some (.cells 110 [I 1,v2,S ⟨#[]⟩,I 0,I 0]):=by have:=(Z0a.1 ao).1;simp[this]);(have ar:Rd (M7.set c (.cells 110 [I 1,v2,S ⟨#[]⟩,I 0,I 0])) r l o (a+A1f w+2+1) en2:=by unfold Rd;rw[Z0e (by omega)];exact b3);(have b9:(M7.set c (.cells 110 [I 1,v2,S ⟨#[]⟩,I 0,I 0]))[M.length]?=some (.cells 110 [I 0,A0x,S ⟨#[]⟩,I 0,I 0]):=by rw[Z0e (by omega)];exact b1);(have az:A1b 159 2 A0M.row (M7.set c (.cells 110 [I 1,v2,S ⟨#[]⟩,I 0,I 0])) v2 (A2V w++[⟨kP s,t⟩]):=k1.keep (.set _ _ _) λf hf e=>by have:=a8 f hf;simp at e;omega);have ah:A1H r none M (M7.set c (.cells 110 [I 1,v2,S ⟨#[]⟩,I 0,I 0])):=⟨by simpa using ag.1,λi hi h1 h2=>by rw[Z0e (by omega)];exact ag.2 i hi h1 h2⟩;generalize M7.set c (.cells 110 [I 1,v2,S ⟨#[]⟩,I 0,I 0])=M8 at*;have aw:r<M8.length:=(Z0a.1 ar).1;have am:c<M8.length:=(Z0a.1 av).1;refine A0s func331 (B5o gl l o hl ae A0B r 112 [] (B8U gl) _ en2 M8 ar) ?_;rintro _ M9 ⟨rfl,rfl⟩;have a9:∀(to:ByteArray) (a3:Nat) (a7:Bool) (ad:Mem),ad=((M8.set r (.cells 240 (A1I l o a3 a7))).set c (.cells 110 [I 1,v2,S to,I 0,I 0])).set M.length (.cells 110 [I 1,v2,S to,I 0,I 0])->
    A1b 159 2 A0M.row ad v2 (A2V w++[⟨kP s,t⟩])/\A1g M.length v2/\Rd ad r l o a3 a7/\A1H r none M ad:=λto a3 a7 ad h=>by
    subst h
    refine⟨((az.keep (.set _ _ _) λf hf e=>?_).keep (.set _ _ _) λf hf e=>?_).keep (.set _ _ _) λf hf e=>?_,λf hf=>by have:=a8 f hf;omega,?_,⟨by simpa using ah.1,λi hi h1 h2=>?_⟩⟩
    .have:=a8 f hf;simp at e;omega
    .have:=a8 f hf;simp at e;omega
    .have:=a8 f hf;simp at e;omega
    .unfold Rd;rw[Z0e (by omega),Z0e (by omega)];simp[aw]
    .rw[Z0e (by omega),Z0e (by omega),Z0e (by omega)];exact ah.2 i hi h1 h2
   (have a4:∀X,(M8.set r X)[c]?=some (.cells 110 [I 1,v2,S ⟨#[]⟩,I 0,I 0]):=λX=>by rw[Z0e (by omega)];exact av);have aa:∀X Y,((M8.set r X).set c Y)[c]?=some Y:=λX Y=>by simp[am]
   (have ac:∀X Y,((M8.set r X).set c Y)[M.length]?=some (.cells 110 [I 0,A0x,S ⟨#[]⟩,I 0,I 0]):=λX Y=>by rw[Z0e (by omega),Z0e (by omega)];exact b9);have be:∀X Y,M.length<((M8.set r X).set c Y).length:=λX Y=>by simp;omega
   (have a6:M.length<M8.length:=by omega);have p:w.drop (A1f w)=s::t::toW::w2:=by rw[<-q3,e1,<-e5,g1]
   cases hw2:w2 with
   |nil=>rw[hw2]at g3 p;rw[B2p g3];rw[<-q]at a4|-;simp -dsimp -implicitDefEqProofs[A0h (a4 _),A0e];simp -dsimp -implicitDefEqProofs[A0b (aa _ _),A0h (ac _ _),A0e,A0z,a6,A0k];rw[q];obtain⟨z1,z2,z3,z4⟩:=a9 _ _ _ _ rfl;exact .inr ⟨by rw[<-hw,p];rfl,v2,_,rfl,z1,z2,by simp;omega,⟨_,_,z3⟩,z4⟩
   |cons d w3=>
    rw[hw2]at g3 p;obtain⟨-,-,hd|hd⟩:=A9T B7r g3
    .obtain⟨d1,a7,d2,d3⟩:=hd;rw[d2];rw[<-q]at a4|-;simp -dsimp -implicitDefEqProofs[A0h (a4 _),A0e];simp -dsimp -implicitDefEqProofs[A0b (aa _ _),A0h (ac _ _),A0e,A0z,a6,A0k];rw[q];obtain⟨z1,z2,z3,z4⟩:=a9 d _ _ _ rfl;refine .inl ⟨⟨kP s,t⟩,d,v2,?_,rfl,by rw[<-hw];exact z1,z2,a7,?_,?_,z4⟩
     .rw[<-hw,p];simp only[A4a];rw[Z0d ⟨e2,e3,by trivial,d1⟩]
     .rw[<-hw,show a+(A1f w+4)=a+A1f w+2+1+1 from by omega];exact z3
     .rw[<-hw,show a+(A1f w+4)=a+A1f w+2+1+1 from by omega,d3,<-Z1V,p];rfl
    .rw[hd.2];rw[<-q]at a4|-;simp -dsimp -implicitDefEqProofs[A0h (a4 _),A0e];simp -dsimp -implicitDefEqProofs[A0b (aa _ _),A0h (ac _ _),A0e,A0z,a6,A0k];rw[q];obtain⟨z1,z2,z3,z4⟩:=a9 ⟨#[]⟩ _ _ _ rfl;exact .inr ⟨by rw[<-hw,p];simp only[A4a];rw[Z0c λhh=>by rw[hd.1]at hh;exact absurd hh.2.2.2 (by simp)],v2,_,rfl,z1,z2,by simp;omega,⟨_,_,z3⟩,z4⟩
  .rw[g2];have af:=@A9H M5 r l o (a+A1f w+2) z .gone a0;have j:=k.next (.set M5 r (.cells 240 (A1I l o (a+A1f w+2) z))) af;generalize M5.set r (.cells 240 (A1I l o (a+A1f w+2) z))=M6 at*;have ak:M.length<M6.length:=(Z0a.1 j.res).1;have b4:A4a (w.drop (A1f w))=none:=by
    rw[<-q3,e1];unfold A4a;split
    .rename_i s' t' c' d' r' e;simp only[Z1c]at e;rw[Z0c λhh=>g1 (d'::r') (by rw[e5,e.2.2,hh.2.2.1])]
    .rfl
   simp -dsimp -implicitDefEqProofs[A0b j.cc,A0h j.res,A0e,A0z,ak,A0k];obtain⟨z1,z2,z3⟩:=j.fail (X:=[I 1,v1,S ⟨#[]⟩,I 0,I 0]);exact .inr ⟨by rw[<-hw];exact b4,v1,_,rfl,z1,z2,by omega,z3⟩
 .have ax:A7r l (A2P A3O) (a+A1f w) y=(none,a+A1f w,y):=e2;rw[ax]at a2|-;obtain⟨M5,m⟩:∃M5,M5=M4++[A0p.cells 159 [I 0,S ⟨#[]⟩]]:=⟨_,rfl⟩;have a1:Rd M5 r l o (a+A1f w) y:=by unfold Rd;rw[m,Z0h (by have:=(Z0a.1 a2).1;exact this)];exact a2
  have k:=ab.next (aj.trans (by rw[m];exact .app _ _ _)) a1;have a0:M.length<M5.length:=(Z0a.1 k.res).1;simp -dsimp -implicitDefEqProofs[A0l,A0m,A0e];rw[<-m];clear m;simp -dsimp -implicitDefEqProofs[A0b k.cc,A0h k.res,A0e,A0z,a0,A0k];obtain⟨z1,z2,z3⟩:=k.fail (X:=[I 1,v1,S ⟨#[]⟩,I 0,I 0]);exact .inr ⟨by rw[<-hw];exact ai e1,v1,_,rfl,z1,z2,by omega,z3⟩
end
def A8P(i:Nat)(l:List ByteArray)(o:Own)(r a:Nat)(en:Bool)(M:Mem)(v:AV)(M':Mem):Prop:=∃k p to vp a' en',v=.agg [I k,vp,S to,I 0,I 0]/\A1b 159 2 A0M.row M' vp p/\A1g M.length vp/\p.length<=10/\Rd M' r l o a' en'/\A1H r none M M'/\A2j i (A1k l a en)=if A4q k p to=true then some ((k,p,to),a'-a)else none
abbrev zC:A0p:=.cells 110 [I 0,A0x,S ⟨#[]⟩,I 0,I 0]
structure B0X (l:List ByteArray) (o:Own) (r:Nat) (M:Mem) (a':Nat) (en':Bool) (Mi:Mem):Prop where
 rd:Rd Mi r l o a' en'
 res:Mi[M.length]?=some zC
 kp:A1H r none M Mi
 lt:r<M.length
def B0X.start{l}{o}{r}{M}{a}{en}(h:Rd M r l o a en):B0X l o r M a en (M++[zC]):=by have b:r<M.length:=(Z0a.1 h).1;exact⟨by unfold Rd;rw[Z0h b];exact h,by simp,.of_r (.app _ _ _),b⟩
def B0X.next{l}{o}{r}{M}{a' a2}{en' en2}{Mi Mj}(h:B0X l o r M a' en' Mi)(hr:Rd Mj r l o a2 en2)(k:A1H r none Mi Mj):B0X l o r M a2 en2 Mj:=by have a:=h.lt;have hl:=(Z0a.1 h.res).1;exact⟨hr,by rw[k.2 _ hl (by omega) (by simp)];exact h.res,h.kp.step k (by simp),a⟩
def B0X.set{l}{o}{r}{M}{a'}{en'}{Mi}(h:B0X l o r M a' en' Mi){a2}{en2}:B0X l o r M a2 en2 (Mi.set r (.cells 240 (A1I l o a2 en2))):=h.next (@A9H Mi r l o a2 en2 .gone (Z0a.1 h.rd).1) (.of_r (.set _ _ _))
def B0X.later{l}{o}{r}{M}{a'}{en'}{Mi}(h:B0X l o r M a' en' Mi){v}(hv:A1g Mi.length v):∀f,obj v=some f->M.length<f:=λf hf=>by have:=hv f hf;have:=(Z0a.1 h.res).1;omega
def B0X.fin{l}{o}{r}{M}{a'}{en'}{Mi}(h:B0X l o r M a' en' Mi){X}{v}{p}(ho:A1b 159 2 A0M.row Mi v p)(hv:∀f,obj v=some f->M.length<f):A1b 159 2 A0M.row (Mi.set M.length (.cells 110 X)) v p/\A1g M.length v/\Rd (Mi.set M.length (.cells 110 X)) r l o a' en'/\A1H r none M (Mi.set M.length (.cells 110 X)):=by
 have a:=h.lt
 refine⟨ho.keep (.set _ _ _) λf hf e=>by have:=hv f hf;simp at e;omega,λf hf=>by have:=hv f hf;omega,?_,⟨by simpa using h.kp.1,λi hi h1 h2=>?_⟩⟩
 .unfold Rd;rw[Z0e (by omega)];exact h.rd
 .rw[Z0e (by omega)];exact h.kp.2 i hi h1 h2
def B0X.len{l}{o}{r}{M}{a'}{en'}{Mi}(h:B0X l o r M a' en' Mi):M.length<Mi.length:=(Z0a.1 h.res).1
section
variable (gl:Nat->AV)
@[simp] def D3x{v}{M}{p}(h:A1b 159 2 A0M.row M v p):A0w prog 110 [(1,v)]=some (.agg [I 0,v,S ⟨#[]⟩,I 0,I 0]):=by
 rcases h with⟨rfl,_⟩|⟨f,g,a,rfl,_⟩<;>simp[A0w,A1e,A1r,A0e,AV.cells,AV.storable]
@[simp] def E2j{k}:A0w prog 110 [(0,I k)]=some (.agg [I k,A0x,S ⟨#[]⟩,I 0,I 0]):=by
 simp[A0w,A1e,A1r,A0e,AV.cells,AV.storable]
def B9z(w:List ByteArray):(A2V w).length<=9:=by have:=A3U (9-bkN w) (w.drop (bkN w));have hb:=B6y w;unfold A2V;rw[Z0r,B1q];omega
def B8q{k}(hk:k=0\/k=4)(w:List ByteArray):A2Z k w=if A4q k (A2V w) ⟨#[]⟩=true then some ((k,A2V w,⟨#[]⟩),A1f w)else none:=by rw[D2y hk];unfold A2Z;by_cases c:A1f w=bkN w<;>simp[c]
def D5w(l:List ByteArray)(o:Own)(hl:l.length<=1000000000)(e:∀s∈l,s.size<=maxLen)(r:Nat)(a:Nat)(en:Bool)(M:Mem)(hr:Rd M r l o a en):A0c (WC gl) 247 [.ptr r 0] M (A8P 0 l o r a en M):=by
 refine A0o hB func247 ?_
 have f0:=B0X.start hr
 simp -dsimp -implicitDefEqProofs[A0l]
 generalize M++[zC]=M0 at*
 refine A0s func248 (C4Z gl l o hl e r a en M0 f0.rd) ?_
 rintro v M1 ⟨q1,⟨d,q2,q3,q4⟩,q5⟩
 have f1:=f0.next q2 q4
 have c:=f0.later q5
 have b:=f1.len
 have f:=B9z (A1k l a en)
 simp -dsimp -implicitDefEqProofs[D3x q1,A0h f1.res,A0e,A0z,b,A0k]
 obtain⟨z1,z2,z3,z4⟩:=f1.fin q1 c (X:=[I 0,v,S ⟨#[]⟩,I 0,I 0])
 exact⟨0,_,⟨#[]⟩,v,_,d,rfl,z1,z2,by omega,z3,z4,by rw[show A2j 0 (A1k l a en)=A2Z 0 (A1k l a en)from rfl,B8q (.inl rfl),Z2E]⟩
def D5W(l:List ByteArray)(o:Own)(hl:l.length<=1000000000)(f:∀s∈l,s.size<=maxLen)(r:Nat)(a:Nat)(en:Bool)(M:Mem)(hr:Rd M r l o a en):A0c (WC gl) 249 [.ptr r 0] M (A8P 1 l o r a en M):=by
 refine(D7w gl l o hl f r a en M hr).mono λv M' h=>?_
 have g:=B9z (A1k l a en)
 rcases h with⟨s,d,vp,h1,rfl,h3,h4,e,h5,h6,h7⟩|⟨h1,vp,p,rfl,h3,h4,h5,⟨a',b,h6⟩,h7⟩
 .refine⟨1,_,d,vp,_,e,rfl,h3,h4,by simp;omega,h5,h7,?_⟩;simp only[A2j,h1];rw[D3i h1,Z2E];by_cases c:(A2V (A1k l a en)).length<=8<;>simp[c]
 .refine⟨1,p,⟨#[]⟩,vp,a',b,rfl,h3,h4,h5,h6,h7,?_⟩;simp only[A2j,h1,C3D,Z0J,Z1o]
def A9P{i}{l}{o}{r}{M}{a a2}{en en2}{Mi}(k:Int)(h:B0X l o r M a2 en2 Mi)(hf:A2j i (A1k l a en)=none):A8P i l o r a en M (.agg [I k,A0x,S ⟨#[]⟩,I 0,I 0]) (Mi.set M.length (.cells 110 [I k,A0x,S ⟨#[]⟩,I 0,I 0])):=by
 obtain⟨z1,z2,z3,z4⟩:=h.fin (v:=A0x) (p:=[]) A1b.nil (λf hf=>by simp at hf) (X:=[I k,A0x,S ⟨#[]⟩,I 0,I 0])
 exact⟨k,[],⟨#[]⟩,A0x,a2,en2,rfl,z1,z2,by simp,z3,z4,by rw[hf,D7u];rfl⟩
def D4W(l:List ByteArray)(o:Own)(hl:l.length<=1000000000)(d:∀s∈l,s.size<=maxLen)(r:Nat)(a:Nat)(en:Bool)(M:Mem)(hr:Rd M r l o a en):A0c (WC gl) 250 [.ptr r 0] M (A8P 2 l o r a en M):=by
 refine A0o hB func250 ?_
 have f0:=B0X.start hr
 simp -dsimp -implicitDefEqProofs[A0l]
 generalize M++[zC]=M0 at*
 refine A0s func251 (B3f gl l o hl d A3P r a en M0 f0.rd) ?_
 rintro _ M1 ⟨rfl,rfl⟩
 rcases A8i (l:=l) (a:=a) (en:=en) A3V.1 with⟨w,e1,c,e2,e3⟩|⟨e1,e2⟩
 .rw[e2];have f1:=f0.set (a2:=a+1) (en2:=c);generalize M0.set r (.cells 240 (A1I l o (a+1) c))=M1 at*;simp -dsimp -implicitDefEqProofs;refine A0s func252 (C2m gl l o hl d r (a+1) c M1 f1.rd) ?_;rintro v M2 h;have hf:A2j 2 (A1k l a en)=(A2G w).map λx=>((2,x.1,⟨#[]⟩),x.2+1):=by rw[e1];simp only[A2j,Z0M]
  rcases h with⟨p,n,h1,h2,⟨en2,h3,h4,h5⟩,h6⟩|⟨h1,rfl,⟨a2,en2,h3⟩,h4⟩
  .rw[e3]at h1;(have g:p.length<=9:=by have:=B4T (.inl rfl) (k:=2) h1;simp only[A4q,Z0g,Z0l]at this;exact this.1);have f2:=f1.next h3 h5;have f:=f1.later h6;have b:=f2.len;simp -dsimp -implicitDefEqProofs[A8j h2,A0h f2.res,A0e,A0z,b,A0k];obtain⟨z1,z2,z3,z4⟩:=f2.fin h2 f (X:=[I 2,v,S ⟨#[]⟩,I 0,I 0]);refine⟨2,p,⟨#[]⟩,v,_,en2,rfl,z1,z2,by omega,z3,z4,?_⟩;rw[hf,h1,B4T (.inl rfl) h1];simp only[Z1f,Z0M];congr 2;omega
  .rw[e3]at h1;have f2:=f1.next h3 h4;have b:=f2.len;simp -dsimp -implicitDefEqProofs[A8j (M:=M2) (p:=[]) A1b.nil,A0h f2.res,A0e,A0z,b,A0k];exact A9P 2 f2 (by rw[hf,h1];rfl)
 .rw[e2];have f1:=f0.set (a2:=a) (en2:=en);generalize M0.set r (.cells 240 (A1I l o a en))=M1 at*;have b:=f1.len;simp -dsimp -implicitDefEqProofs[A0h f1.res,A0e,A0z,b,A0k];refine A9P 2 f1 ?_;cases hs:A1k l a en with
  |nil=>rfl
  |cons s w=>simp only[A2j];rw[Z0c λe=>e1 w (by rw[hs,e])]
def D4K(l:List ByteArray)(o:Own)(hl:l.length<=1000000000)(f:∀s∈l,s.size<=maxLen)(r:Nat)(a:Nat)(en:Bool)(M:Mem)(hr:Rd M r l o a en):A0c (WC gl) 254 [.ptr r 0] M (A8P 4 l o r a en M):=by
 refine A0o hB func254 ?_
 have f0:=B0X.start hr
 simp -dsimp -implicitDefEqProofs[A0l]
 generalize M++[zC]=M0 at*
 refine A0s func251 (B3f gl l o hl f A7g r a en M0 f0.rd) ?_
 rintro _ M1 ⟨rfl,rfl⟩
 rcases A8i (l:=l) (a:=a) (en:=en) A3V.2.2.2.1 with⟨w,e1,d,e2,e3⟩|⟨e1,e2⟩
 .rw[e2];have f1:=f0.set (a2:=a+1) (en2:=d);generalize M0.set r (.cells 240 (A1I l o (a+1) d))=M1 at*;simp -dsimp -implicitDefEqProofs;refine A0s func248 (C4Z gl l o hl f r (a+1) d M1 f1.rd) ?_;rintro v M2 ⟨q1,⟨h,q2,q3,q4⟩,q5⟩;rw[e3]at q1 q2;have f2:=f1.next q2 q4;have g:=f1.later q5;have b:=f2.len;have i:=B9z w;simp -dsimp -implicitDefEqProofs[A8j q1,A0h f2.res,A0e,A0z,b,A0k];obtain⟨z1,z2,z3,z4⟩:=f2.fin q1 g (X:=[I 4,v,S ⟨#[]⟩,I 0,I 0]);refine⟨4,_,⟨#[]⟩,v,_,h,rfl,z1,z2,by omega,z3,z4,?_⟩;have hf:A2j 4 (A1k l a en)=(A2Z 4 w).map λx=>(x.1,x.2+1):=by rw[e1];simp only[A2j,Z0M]
  rw[hf,B8q (.inr rfl)];by_cases c:A4q 4 (A2V w) ⟨#[]⟩=true
  .rw[Z0d c,Z0d c];simp only[Z1f];congr 2;omega
  .rw[Z0c c,Z0c c];rfl
 .rw[e2];have f1:=f0.set (a2:=a) (en2:=en);generalize M0.set r (.cells 240 (A1I l o a en))=M1 at*;have b:=f1.len;simp -dsimp -implicitDefEqProofs[A0h f1.res,A0e,A0z,b,A0k];refine A9P 4 f1 ?_;cases hs:A1k l a en with
  |nil=>rfl
  |cons s w=>simp only[A2j];rw[Z0c λe=>e1 w (by rw[hs,e])]
end
section
variable (gl:Nat->AV)
def D4f(l:List ByteArray)(o:Own)(hl:l.length<=1000000000)(d:∀s∈l,s.size<=maxLen)(r:Nat)(a:Nat)(en:Bool)(M:Mem)(hr:Rd M r l o a en):A0c (WC gl) 253 [.ptr r 0] M (A8P 3 l o r a en M):=by
 refine A0o hB func253 ?_
 have f0:=B0X.start hr
 simp -dsimp -implicitDefEqProofs[A0l]
 generalize M++[zC]=M0 at*
 refine A0s func251 (B3f gl l o hl d A6v r a en M0 f0.rd) ?_
 rintro _ M1 ⟨rfl,rfl⟩
 rcases A8i (l:=l) (a:=a) (en:=en) A3V.2.1 with⟨w,e1,c,e2,e3⟩|⟨e1,e2⟩
 .rw[e2];have f1:=f0.set (a2:=a+1) (en2:=c);generalize M0.set r (.cells 240 (A1I l o (a+1) c))=M1 at*;simp -dsimp -implicitDefEqProofs;refine A0s func251 (B3f gl l o hl d A9N r (a+1) c M1 f1.rd) ?_;rintro _ M2 ⟨rfl,rfl⟩;rcases A8i (l:=l) (a:=a+1) (en:=c) A3V.2.2.1 with⟨w2,g1,en2,g2,g3⟩|⟨g1,g2⟩
  .rw[g2];have f2:=f1.set (a2:=a+1+1) (en2:=en2);generalize M1.set r (.cells 240 (A1I l o (a+1+1) en2))=M2 at*;simp -dsimp -implicitDefEqProofs;refine A0s func252 (C2m gl l o hl d r (a+1+1) en2 M2 f2.rd) ?_;rintro v M3 h;(have hf:A2j 3 (A1k l a en)=(A2G w2).map λx=>((3,x.1,⟨#[]⟩),x.2+2):=by rw[e1,<-e3,g1];simp only[A2j,Z4f,Z0M]);rcases h with⟨p,n,h1,h2,⟨f,h3,h4,h5⟩,h6⟩|⟨h1,rfl,⟨a2,f,h3⟩,h4⟩
   .rw[g3]at h1;(have i:p.length<=9:=by have:=B4T (.inr rfl) (k:=3) h1;simp only[A4q,Z0g,Z0l]at this;exact this.1);have f3:=f2.next h3 h5;have g:=f2.later h6;have b:=f3.len;simp -dsimp -implicitDefEqProofs[A8j h2,A0h f3.res,A0e,A0z,b,A0k];obtain⟨z1,z2,z3,z4⟩:=f3.fin h2 g (X:=[I 3,v,S ⟨#[]⟩,I 0,I 0]);refine⟨3,p,⟨#[]⟩,v,_,f,rfl,z1,z2,by omega,z3,z4,?_⟩;rw[hf,h1,B4T (.inr rfl) h1];simp only[Z1f,Z0M];congr 2;omega
   .rw[g3]at h1;have f3:=f2.next h3 h4;have b:=f3.len;simp -dsimp -implicitDefEqProofs[A8j (M:=M3) (p:=[]) A1b.nil,A0h f3.res,A0e,A0z,b,A0k];exact A9P 3 f3 (by rw[hf,h1];rfl)
  .rw[g2];have f2:=f1.set (a2:=a+1) (en2:=c);generalize M1.set r (.cells 240 (A1I l o (a+1) c))=M2 at*;have b:=f2.len;simp -dsimp -implicitDefEqProofs[A0h f2.res,A0e,A0z,b,A0k];refine A9P 3 f2 ?_;rw[e1,<-e3];cases hs:A1k l (a+1) c with
   |nil=>rfl
   |cons s w=>simp only[A2j];rw[Z0c λe=>g1 w (by rw[hs,e.2])]
 .rw[e2];have f1:=f0.set (a2:=a) (en2:=en);generalize M0.set r (.cells 240 (A1I l o a en))=M1 at*;have b:=f1.len;simp -dsimp -implicitDefEqProofs[A0h f1.res,A0e,A0z,b,A0k];refine A9P 3 f1 ?_;cases hs:A1k l a en with
  |nil=>rfl
  |cons s w=>cases w<;>simp only[A2j];rw[Z0c λe=>e1 _ (by rw[hs,e.1])]
def B0E:List FuncId:=[247,249,250,253,254]
def D4s(M:Mem):A0c (WC gl) 199 [] M (λv M'=>v=.list 1 (B0E.map λg=>[.func (.func g) [] []]) .full/\M'=M):=by refine A0o hB func199 ?_;simp -dsimp -implicitDefEqProofs[A0n,A0W,B0E]
def D9A(i:Nat)(l:List ByteArray)(o:Own)(r a:Nat)(en:Bool)(M:Mem)(v:AV)(M':Mem):Prop:=∃k p to a' en',v=.agg [I k,.list 2 (A1T p) .no,S to,I 0,I 0]/\p.length<=10/\Rd M' r l o a' en'/\A1H r none M M'/\A2j i (A1k l a en)=if A4q k p to=true then some ((k,p,to),a'-a)else none
def B0h{f}{i}{l}{o}{r a}{en}{M}(h:A0c (WC gl) f [.ptr r 0] M (A8P i l o r a en M)):A0c (WC gl) f [.ptr r 0] M (D9A i l o r a en M):=by
 refine A0c.stillN (h.mono ?_);rintro v M' ⟨k,p,to,vp,a',c,rfl,h1,h2,h3,h4,h5,h6⟩;refine⟨M.length,.agg [I k,.list 2 (p.map A0M.row) .no,S to,I 0,I 0],?_,k,p,to,a',c,rfl,h3,?_,⟨by simpa using h5.1,λi hi hr hb=>?_⟩,h6⟩
 .refine .agg (.same trivial (Still.rows (λ_=>rfl) (λ_ _ _=>trivial) h1 h2 (.same trivial (.same trivial (.same trivial .nil))))) .nil
 .exact A6g h4 (by rintro _ _ _ _ _ e;exact absurd e (by simp))
 .have b:i<M'.length:=Z1i hi h5.1;rw[<-h5.2 i hi hr hb,Z0m b];exact A6g (Z0m b) λ_ _ _ _ _ _=>hi
def D7V(l:List ByteArray)(o:Own)(hl:l.length<=1000000000)(b:∀s∈l,s.size<=maxLen)(r:Nat)(a:Nat)(en:Bool)(M:Mem)(hr:Rd M r l o a en)(i:Nat)(hi:i<B0E.length):A4A (WC gl) B0E[i] [.ptr r 0] M (D9A i l o r a en M):=by
 match i,hi with
 |0,_=>exact A0V func247 rfl rfl (B0h gl (D5w gl l o hl b r a en M hr))
 |1,_=>exact A0V func249 rfl rfl (B0h gl (D5W gl l o hl b r a en M hr))
 |2,_=>exact A0V func250 rfl rfl (B0h gl (D4W gl l o hl b r a en M hr))
 |3,_=>exact A0V func253 rfl rfl (B0h gl (D4f gl l o hl b r a en M hr))
 |4,_=>exact A0V func254 rfl rfl (B0h gl (D4K gl l o hl b r a en M hr))
end
section
variable (gl:Nat->AV) (M:Mem)
def D5Z(s:A0M):A0c (WC gl) 218 [s.v] M (λv M'=>v=B (!A2b s)/\Grow M M'):=by refine A0o hB func218 ?_;simp -dsimp -implicitDefEqProofs[A0M.row];refine A0s func217 (C5W gl M s) ?_;rintro r M' ⟨rfl,a⟩;simp -dsimp -implicitDefEqProofs[a]
def C4v(p:List A0M)(o:Own)(c:p.length<=1000000):A0c (WC gl) 270 [.list 2 (A1T p) o,.func (.func 218) [] []] M (λv M'=>(∃r,v=I r/\decide (0<=r)=p.any (λs=>!A2b s))/\Grow M M'):=by
 refine A0o hB func270 ?_;simp -dsimp -implicitDefEqProofs;refine A0y hB p.length 8 (λT M1=>∃i:Nat,i<=p.length/\Grow M M1/\T 0=.list 2 (A1T p) o/\T 1=.func (.func 218) [] []/\T 7=I p.length/\T 8=I i/\(p.take i).all A2b=true) ?_ ?_
 .refine⟨0,?_⟩;simp -dsimp -implicitDefEqProofs[Grow.refl]
 .rintro T M1 ⟨i,h1,h2,h3,h4,h5,h6,h7⟩;by_cases hi:i<p.length
  ·(have a:(i:Int)<p.length:=by omega);have hw:IntKind.i64.wrap ((i:Int)+1)=(i+1:Nat):=by rw[A0J (by omega) (by omega)];omega
   simp -dsimp -implicitDefEqProofs[h3,h4,h5,h6,hi,a];refine A0s func218 (D5Z gl M1 p[i]) ?_;rintro r M' ⟨rfl,b⟩;have hg:=h2.trans b;cases hb:A2b p[i]
   .simp -dsimp -implicitDefEqProofs[h3,h4,h5,h6];refine⟨?_,hg⟩;exact⟨p[i],Z0q hi,hb⟩
   .simp -dsimp -implicitDefEqProofs[h3,h4,h5,h6,hw,hg];refine⟨⟨i+1,?_⟩,?_⟩
    .have:=B3l hi h7 hb;simp only[Z0u]at this|-;exact⟨by clear hw;omega,by simp,this⟩
    .clear hw;omega
  ·(have a:¬(i:Int)<p.length:=by omega);rw[Z0k (by omega),Z0u]at h7
   simp -dsimp -implicitDefEqProofs[h3,h4,h5,h6,a];exact⟨h7,h2⟩
def B7E(p:List A0M)(o:Own)(a:p.length<=1000000):A0c (WC gl) 215 [.list 2 (A1T p) o,.func (.func 218) [] []] M (λv M'=>v=B (p.any (λs=>!A2b s))/\Grow M M'):=by refine A0o hB func215 ?_;simp -dsimp -implicitDefEqProofs;refine A0s func270 (C4v gl M p o a) ?_;rintro r M' ⟨⟨r,rfl,hr⟩,b⟩;simp -dsimp -implicitDefEqProofs[b,hr]
def C6a(p:List A0M)(o:Own)(b:p.length<=1000000):A0c (WC gl) 167 [.list 2 (A1T p) o] M (λv M'=>v=B (B1y p)/\Grow M M'):=by
 refine A0o hB func167 ?_;cases p with
 |nil=>simp -dsimp -implicitDefEqProofs[A1T,B1y,Grow.refl]
 |cons s p'=>
  simp only[Z0x]at b;have i0:¬(p'.length:Int)+1=0:=by omega
  have i1:(1:Int)<=(p'.length:Int)+1:=by omega
  have i2:(0:Int)<=(p'.length:Int):=by omega
  by_cases c1:s.lab=⟨#[]⟩;case neg=>simp -dsimp -implicitDefEqProofs[A1T,A0M.row,B1y,c1,i0,Grow.refl]
  by_cases c2:s.k<1
  ·(have:¬1<=s.k:=by omega);simp -dsimp -implicitDefEqProofs[A1T,A0M.row,B1y,c1,c2,this,i0,Grow.refl]
  by_cases c3:7<s.k
  ·(have h3:¬s.k<=7:=by omega);have a:s.k>7:=c3
   simp -dsimp -implicitDefEqProofs[A1T,A0M.row,B1y,c1,c2,c3,h3,a,i0,Grow.refl]
  have h2:1<=s.k:=by omega
  have h3:s.k<=7:=by omega
  have a:¬s.k>7:=c3;simp -dsimp -implicitDefEqProofs[A1T,A0M.row,B1y,c1,c2,c3,h2,h3,a,i0,i1,i2];refine A0s func215 (B7E gl M p' _ (by omega)) ?_;rintro r M' ⟨rfl,c⟩;simp -dsimp -implicitDefEqProofs[c,C4D];simp[B1y,c1,h2,h3]
end
section
variable (gl:Nat->AV)
def D1Q(k:Int)(p:List A0M)(o:Own)(to:ByteArray)(x y:Int)(M:Mem)(hp:p.length<=1000000):A0c (WC gl) 116 [.agg [I k,.list 2 (A1T p) o,S to,I x,I y]] M (λv M'=>v=B (A4q k p to)/\M'=M):=by
 refine A3f (λ_=>trivial) ?_;refine A0o hB func116 ?_;by_cases c9:p.length<=9;case neg=>
  have i2:(9:Int)<p.length:=by omega
  simp -dsimp -implicitDefEqProofs[i2,A4q,c9,Grow.refl]
 have i1:¬(p.length:Int)>9:=by omega
 have i2:¬(9:Int)<p.length:=by omega
 by_cases ct:to=⟨#[]⟩<;>by_cases k1:k=1
 .have hm:A4q k p to=false:=by rw[ct,k1];exact C3D
  simp -dsimp -implicitDefEqProofs[i1,i2,ct,k1,C3D,Grow.refl]
 .by_cases k0:k=0
  ·(have hm:A4q k p to=A4I p:=by simp[A4q,k0,c9,ct]);rw[hm]
   simp -dsimp -implicitDefEqProofs[i1,i2,ct,k1,k0];refine A0s func166 (B4L gl M p o hp) ?_;rintro r M2 ⟨rfl,a⟩;simp -dsimp -implicitDefEqProofs[a]
  by_cases k4:k=4
  ·(have hm:A4q k p to=A4I p:=by simp[A4q,k4,c9,ct]);rw[hm]
   simp -dsimp -implicitDefEqProofs[i1,i2,ct,k1,k0,k4];refine A0s func166 (B4L gl M p o hp) ?_;rintro r M2 ⟨rfl,a⟩;simp -dsimp -implicitDefEqProofs[a]
  by_cases k2:k=2
  ·(have hm:A4q k p to=B1y p:=by simp[A4q,k2,c9,ct]);rw[hm]
   simp -dsimp -implicitDefEqProofs[i1,i2,ct,k1,k0,k4,k2];refine A0s func167 (C6a gl M p o hp) ?_;rintro r M2 ⟨rfl,a⟩;simp -dsimp -implicitDefEqProofs[a]
  by_cases k3:k=3
  ·(have hm:A4q k p to=B1y p:=by simp[A4q,k3,c9,ct]);rw[hm]
   simp -dsimp -implicitDefEqProofs[i1,i2,ct,k1,k0,k4,k2,k3];refine A0s func167 (C6a gl M p o hp) ?_;rintro r M2 ⟨rfl,a⟩;simp -dsimp -implicitDefEqProofs[a]
  have hm:A4q k p to=false:=by simp[A4q,k0,k1,k2,k3,k4]
  rw[hm];simp -dsimp -implicitDefEqProofs[i1,i2,ct,k1,k0,k4,k2,k3,Grow.refl]
 .have hm:A4q k p to=(A4I p&&A0B to&&decide (C3c p≠6)):=by simp[A4q,k1,c9,Bool.and_comm,Bool.and_assoc]
  rw[hm];simp -dsimp -implicitDefEqProofs[i1,i2,ct,k1];refine A0s func166 (B4L gl M p o hp) ?_;rintro r M2 ⟨rfl,a⟩;cases hpl:A4I p with
  |false=>simp -dsimp -implicitDefEqProofs[a]
  |true=>
   simp -dsimp -implicitDefEqProofs;refine A0s func112 (A6C gl M2 to) ?_;rintro r M3 ⟨rfl,b⟩;cases hlb:A0B to with
   |false=>simp -dsimp -implicitDefEqProofs[a.trans b]
   |true=>
    (have d:p≠[]:=λe=>by rw[e]at hpl;exact absurd hpl (by decide));have f:=Z2p.2 d
    (have hw:IntKind.i64.wrap ((p.length:Int)-1)=(p.length-1:Nat):=by rw[A0J (by omega) (by omega)];omega);have j1:((p.length-1:Nat):Int)<p.length:=by omega
    (have j2:p.length-1<p.length:=by omega);have c:C3c p=(p[p.length-1]).k:=by unfold C3c;rw[List.getLast?_eq_getElem?,Z0m j2]
    simp -dsimp -implicitDefEqProofs[hw,j1,j2];refine⟨?_,a.trans b⟩;rw[c];by_cases h:p[p.length-1].k=6<;>simp[h]
 .have hm:A4q k p to=false:=by simp[A4q,ct,k1]
  simp -dsimp -implicitDefEqProofs[i1,i2,ct,k1,hm,Grow.refl]
end
def D3j{C}{f}{args}{M}{r}(hb:∀n,bdd n r)(h:A0c C f args M (λv M'=>v=r/\Grow M M')):A0c C f args M (λv M'=>v=r/\M'=M):=by refine h.cut ?_;rintro _ M' ⟨rfl,hg⟩;obtain⟨X,hX⟩:=hg.tail;exact⟨X,hX,hb _,rfl,rfl⟩
def D2D(n:Nat)(p:List A0M):A8U n (A1T p):=by
 induction p with
 |nil=>simp[A1T,A8U]
 |cons s p ih=>simp only[A1T,Z0s,A8U];exact⟨by simp[A0M.row,A1Y,bdd],ih⟩
def hL:A2r:=⟨λd=>!(d==20),λ_=>true,λ_=>false⟩
@[simp] def E8q:hL.imm=λd=>!(d==20):=rfl
def A7T(g:Option (Cq×Nat))(a:Nat):List AV:=match g with
 |some ((k,p,to),n)=>[I k,.list 2 (A1T p) .no,S to,I a,I (a+n:Nat)]
 |none=>[I 0,A0x,S ⟨#[]⟩,I 0,I 0]
@[simp] def D1O(g:Option (Cq×Nat))(a:Nat):(A7T g a).length=5:=by cases g<;>rfl
def C7S(g:Option (Cq×Nat))(a:Nat):∃x y z u,A7T g a=[x,y,z,u,I (if g.isSome then a+B3Z g else 0:Nat)]:=by
 match g with
 |none=>exact⟨_,_,_,_,rfl⟩
 |some ((k,p,to),n)=>exact⟨_,_,_,_,rfl⟩
def D5J(g:Option (Cq×Nat))(a n:Nat):A1Y n (A7T g a):=by
 match g with
 |none=>simp[A7T,A1Y,bdd]
 |some ((k,p,to),m)=>simp only[A7T,A1Y,bdd,Z1M,Z2y];exact D2D n p
def C8G{k}{w}{c}{n}(h:A2Z k w=some (c,n)):0<n:=by
 have:=B4p w;unfold A2Z at h;split at h
 .exact absurd h (by simp)
 .simp only[Z0b,Z0f]at h;omega
def D1U{i}{w}{c}{n}(h:A2j i w=some (c,n)):0<n:=by
 unfold A2j at h;split at h
 .exact C8G h
 .split at h
  .split at h
   .simp only[Z0b,Z0f]at h;omega
   .exact absurd h (by simp)
  .exact absurd h (by simp)
 .split at h
  .split at h
   .cases hb:A2G _ with
    |none=>rw[hb]at h;exact absurd h (by simp)
    |some y=>rw[hb]at h;simp at h;omega
   .exact absurd h (by simp)
  .exact absurd h (by simp)
 .split at h
  .split at h
   .cases hb:A2G _ with
    |none=>rw[hb]at h;exact absurd h (by simp)
    |some y=>rw[hb]at h;simp at h;omega
   .exact absurd h (by simp)
  .exact absurd h (by simp)
 .split at h
  .split at h
   .cases hb:A2Z 4 _ with
    |none=>rw[hb]at h;exact absurd h (by simp)
    |some y=>rw[hb]at h;simp at h;omega
   .exact absurd h (by simp)
  .exact absurd h (by simp)
def B2J(w:List ByteArray):∀i,(A4L w i).isSome=true->0<B3Z (A4L w i)
 |0,h=>by simp[A4L]at h
 |i+1,h=>by
  rw[A4L]at h|-;cases hf:A2j i w with
  |none=>rw[hf]at h;simp only[A5T]at h|-;exact B2J w i h
  |some y=>
   obtain⟨c,n⟩:=y;rw[hf]at h;simp only[A5T]at h|-;by_cases e:B3Z (A4L w i)<n
   .rw[Z0d e];simp only[B3Z];omega
   .rw[Z0c e]at h|-;exact B2J w i h
def D2C{w}{i}{k}{p}{to}{a a'}(h:A2j i w=if A4q k p to=true then some ((k,p,to),a'-a)else none):A7T (A4L w (i+1)) a=if A4q k p to=true/\(if(A4L w i).isSome then a+B3Z (A4L w i)else 0)<a' then[I k,.list 2 (A1T p) .no,S to,I a,I a']else A7T (A4L w i) a:=by
 rw[A4L,h]
 by_cases c:A4q k p to=true
 .rw[Z0d c]at h|-;have hp:=D1U h;have hn:=B2J w i;simp only[A5T,c,Z2y];cases hb:A4L w i with
  |none=>simp only[Option.isSome_none,Z0J,Z1o];rw[Z0d (show B3Z none<a'-a from hp),Z0d (by omega)];simp only[A7T,show a+(a'-a)=a' from by omega]
  |some y=>
   rw[hb]at hn;simp only[Z3r,Z0M];by_cases e:B3Z (some y)<a'-a
   .rw[Z0d e,Z0d (by omega)];simp only[A7T,show a+(a'-a)=a' from by omega]
   .rw[Z0c e,Z0c (by omega)]
 .rw[Z0c c];simp[A5T,c]
section
variable (gl:Nat->AV)
@[simp] def E3I{rows}{o}{x}:A0w prog 240 [(0,.list 1 rows o),(1,I x)]=some (.agg [.list 1 rows o,I x,B false]):=by
 simp[A0w,A1e,A1r,A0e,AV.cells,AV.storable]
def C9b(l:List ByteArray)(o:Own)(hl:l.length<=1000000000)(am:∀s∈l,s.size<=maxLen)(a:Nat)(M:Mem):A0c (WC gl) 147 [.list 1 (A1d l) o,I a] M (λv M'=>v=.tuple [.agg (A7T (B2f (B5F (l.drop a))) a),B (B2f (B5F (l.drop a))).isSome]/\M'=M):=by
 obtain⟨w,hw⟩:∃w,w=A1k l a false:=⟨_,rfl⟩
 have ap:B5F (l.drop a)=w:=by rw[hw];rfl
 rw[ap,<-C9Z]
 refine D3j (λn=>by simp only[bdd,A1Y,Z1M];exact D5J _ _ _) ?_
 refine A0o hL func147 ?_
 simp -dsimp -implicitDefEqProofs[A0l]
 refine A0s func199 (D4s gl _) ?_
 rintro _ M1 ⟨rfl,rfl⟩
 simp -dsimp -implicitDefEqProofs[A0l]
 refine A0y hL 5 13 (λT M1=>∃i:Nat,i<=5/\T 0=.list 1 (A1d l) o/\T 1=I a/\T 4=.ptr M.length 0/\T 6=.ptr (M.length+1) 0/\T 11=.list 1 (B0E.map λg=>[.func (.func g) [] []]) .full/\T 12=I 5/\T 13=I i/\Grow M M1/\M1[M.length]?=some zC/\M1[M.length+1]?=some (.cells 110 (A7T (A4L w i) a))) ?_ ?_
 .refine⟨0,by omega,by simp,by simp,by simp,by simp,by simp,by simp[B0E],by simp,⟨by simp,λi hi _=>?_⟩,?_,?_⟩
  .simp[Z0Z,hi]
  .simp[Z0Z]
  .simp[Z0Z,A4L,A7T]
 rintro T M1 ⟨i,hi,t0,t1,t4,t6,f,e,d,h1,h2,h3⟩
 by_cases c:i<5
 .have c':(i:Int)<5:=by omega
  have ai:i<B0E.length:=c;have ar:M.length+1<M1.length:=(Z0a.1 h3).1;obtain⟨M2,a5⟩:∃M2,M2=M1++[A0p.cells 240 (A1I l o a false)]:=⟨_,rfl⟩;have ad:Rd M2 M1.length l o a false:=by rw[a5];simp[Rd]
  have m:Grow M1 M2:=by rw[a5];exact A0d.app none _ _
  simp -dsimp -implicitDefEqProofs[t0,t1,t4,t6,f,e,d,c',ai,A0l];rw[<-a5];refine A1l (D7V gl l o hl am M1.length a false M2 ad i ai) ?_;rintro v M3 ⟨k,p,to,a',al,rfl,f1,f2,f3,f4⟩;rw[<-hw]at f4;have q:=D2C f4 (a:=a);have u:Grow M M3:=⟨by have:=h1.1;have:=m.1;have:=f3.1;omega,λj hj _=>by rw[f3.2 j (by have:=h1.1;have:=m.1;omega) (by omega) (by simp),m.2 j (by have:=h1.1;omega) (by simp)];exact h1.2 j hj (by simp)⟩;have a2:M3[M.length]?=some zC:=by rw[f3.2 _ (by have:=m.1;omega) (by omega) (by simp)];exact m.get h2 (by simp)
  have y:M3[M.length+1]?=some (.cells 110 (A7T (A4L w i) a)):=by rw[f3.2 _ (by have:=m.1;omega) (by omega) (by simp)];exact m.get h3 (by simp)
  obtain⟨x,hx⟩:∃x,x=M3.length:=⟨_,rfl⟩;have av:M.length+1<x:=by have:=(Z0a.1 y).1;omega
  have aw:M1.length<x:=by have:=(Z0a.1 f2).1;omega
  generalize au:M1.length=r at*;clear a5 ad m f3 h1 h2 h3 f4;obtain⟨M4,a1⟩:∃M4,M4=M3++[A0p.cells 110 [I k,.list 2 (A1T p) .no,S to,I 0,I 0]]:=⟨_,rfl⟩;have ab:M4[x]?=some (A0p.cells 110 [I k,.list 2 (A1T p) .no,S to,I 0,I 0]):=by rw[a1,hx];simp
  have z:Grow M3 M4:=by rw[a1];exact A0d.app none _ _
  have af:M4[r]?=some (.cells 240 (A1I l o a' al)):=z.get f2 (by simp);replace a2:=z.get a2 (by simp);replace y:=z.get y (by simp);replace u:=u.trans z;simp -dsimp -implicitDefEqProofs[t0,t1,t4,t6,f,e,d,A0l,A0m,A0e];rw[<-hx,<-a1];clear a1 z;have a7:∀X,(M4.set x X)[r]?=M4[r]?:=λX=>Z0e (by omega);have ag:x<M4.length:=(Z0a.1 ab).1;have a8:∀X,(M4.set x X)[x]?=some X:=λX=>by simp[ag]
  refine A5r hL (A0t gl) (λk=>if k=4 then 1 else if k=6\/k=8 then 2 else 0) (λ_=>r) (λ_=>false) [r] (by intros;simp) (by rfl) (by kernel_rfl) ?_;simp -dsimp -implicitDefEqProofs[t0,t1,t4,t6,f,e,d,A0b af,A0h ab,A0e,A1a];refine⟨a7 _,?_⟩;simp -dsimp -implicitDefEqProofs[A0h (a8 _),A0e,Z2z,a7];obtain⟨M5,t⟩:∃M5,M5=M4.set x (A0p.cells 110 [I k,.list 2 (A1T p) .no,S to,I a,I a']):=⟨_,rfl⟩;have aa:M5[x]?=some (A0p.cells 110 [I k,.list 2 (A1T p) .no,S to,I a,I a']):=by rw[t];exact a8 _
  have a4:M5[M.length]?=some zC:=by rw[t,Z0e (by omega)];exact a2
  have a3:M5[M.length+1]?=some (.cells 110 (A7T (A4L w i) a)):=by rw[t,Z0e (by omega)];exact y
  have a0:Grow M M5:=⟨by rw[t];simpa using u.1,λj hj _=>by rw[t,Z0e (by omega)];exact u.2 j hj (by simp)⟩;rw[<-t];clear t a2 y u a7 a8 ag ab af f2;simp -dsimp -implicitDefEqProofs[t0,t1,t4,t6,f,e,d,A0b aa];refine A0s func116 (D1Q gl k p .no to _ _ M5 (by omega)) ?_;rintro _ M6 ⟨rfl,rfl⟩;have a9:IntKind.i64.wrap ((i:Int)+1)=(i+1:Nat):=by rw[A0J (by omega) (by omega)];omega
  have ah:M.length<M6.length:=(Z0a.1 a4).1;have ao:M.length+1<M6.length:=(Z0a.1 a3).1;obtain⟨y1,y2,y3,y4,a6⟩:=C7S (A4L w i) a;generalize ax:(if(A4L w i).isSome=true then a+B3Z (A4L w i)else 0)=nb at*;cases c2:A4q k p to with
  |false=>rw[c2]at q;simp only[Z0J,Z4q,Z1o]at q;simp -dsimp -implicitDefEqProofs[t0,t1,t4,t6,f,e,d,a9];exact⟨⟨i+1,by omega,rfl,a0,a4,by rw[q];exact a3⟩,by omega⟩
  |true=>
   rw[c2]at q;have b:=a3;rw[a6]at b;by_cases c3:nb<a'
   ·(have ac:(nb:Int)<a':=by omega);rw[Z0d ⟨rfl,c3⟩]at q
    simp -dsimp -implicitDefEqProofs[t0,t1,t4,t6,f,e,d,A0b aa,A0b b,ac,A0h b,A0e,a9];refine⟨⟨i+1,by omega,rfl,⟨by simpa using a0.1,λj hj _=>?_⟩,?_,?_⟩,by omega⟩
    .rw[Z0e (by omega)];exact a0.2 j hj (by simp)
    .exact a4
    .rw[q];simp[ao]
   ·(have ac:¬(nb:Int)<a':=by omega);rw[Z0c λh=>c3 h.2]at q
    simp -dsimp -implicitDefEqProofs[t0,t1,t4,t6,f,e,d,A0b aa,A0b b,ac,a9];exact⟨⟨i+1,by omega,rfl,a0,a4,by rw[q];exact a3⟩,by omega⟩
 .have c':¬(i:Int)<5:=by omega
  have an:i=5:=by omega
  subst an;have ah:M.length<M1.length:=(Z0a.1 h2).1;simp -dsimp -implicitDefEqProofs[t0,t1,t4,t6,f,e,d,c'];refine A5r hL (A0t gl) (λk=>if k=0\/k=2 then 1 else if k=4 then 2 else 0) (λ_=>M.length+1) (λ_=>false) [M.length+1] (by intros;simp) (by rfl) (by kernel_rfl) ?_;obtain⟨y1,y2,y3,y4,a6⟩:=C7S (A4L w 5) a;have ak:=B2J w 5;have b:=h3;rw[a6]at b;have aj:∀X,(M1.set M.length X)[M.length+1]?=M1[M.length+1]?:=λX=>Z0e (by omega);have aq:∀X,Grow M (M1.set M.length X):=λX=>⟨by simpa using h1.1,λj hj _=>by rw[Z0e (by omega)];exact h1.2 j hj (by simp)⟩;simp -dsimp -implicitDefEqProofs[t0,t1,t4,t6,f,e,d,A0b b,A0h h2,A0e,A1a,aj];have ae:decide (0<if(A4L w 5).isSome=true then a+B3Z (A4L w 5)else 0)=(A4L w 5).isSome:=by
   cases hs:(A4L w 5).isSome with
   |false=>simp
   |true=>have:=ak hs;simp;omega
  rw[ae,<-a6];simp -dsimp -implicitDefEqProofs[A0z,ah,A0k,D1O,aq];exact Z0k (by simp)
end
section
variable (gl:Nat->AV)
def C8n(l:List ByteArray)(o:Own)(hl:l.length<=1000000000)(r:∀s∈l,s.size<=maxLen)(M:Mem):A0c (WC gl) 98 [.list 1 (A1d l) o] M (λv M'=>A1b 110 5 A1F.row M' v (A3o l 0)/\Grow M M'/\A1g M.length v):=by
 refine A0o (hQ [24]) func98 ?_
 simp -dsimp -implicitDefEqProofs
 refine A0y (hQ [24]) l.length 4 (λT M1=>∃(i:Nat) (q:List A1F) (vq:AV),T 0=.list 1 (A1d l) o/\T 3=vq/\T 4=I i/\i<=l.length/\A1b 110 5 A1F.row M1 vq q/\A3o l 0=q++A3o l i/\q.length<=i/\Grow M M1/\A1g M.length vq) ?_ ?_
 .exact⟨0,[],A0x,by simp,by simp,by simp,by omega,.nil,rfl,by simp,A0d.refl _ _,λf hf=>by simp at hf⟩
 rintro T M1 ⟨i,q,vq,t0,t3,t4,h1,h2,h3,h4,h5,h6⟩
 by_cases c:i<l.length
 .have c':(i:Int)<l.length:=by omega
  have m:IntKind.i64.wrap ((i:Int)+1)=(i+1:Nat):=by rw[A0J (by omega) (by omega)];omega
  simp -dsimp -implicitDefEqProofs[t0,t3,t4,c'];refine A0s func147 (C9b gl l o hl r i M1) ?_;rintro _ M2 ⟨rfl,rfl⟩;cases hc:B2f (B5F (l.drop i))with
  |none=>rw[D2b c hc]at h3;have hk:Grow M2 (M2++[A0p.cells 110 (A7T none i)]):=A0d.app none _ _;simp -dsimp -implicitDefEqProofs[t0,t3,t4,A0l,A0m,A0e,m];exact⟨⟨i+1,by omega,by omega,q,h2.keep hk (by simp),h3,by omega,h5.trans hk,h6⟩,by omega⟩
  |some g=>
   obtain⟨⟨k,p,to⟩,n⟩:=g;rw[D3k c hc]at h3;obtain⟨b1,b2,b3,b4⟩:=B2k hc;have hn:=B9y (l.drop i);rw[Z1x]at hn;obtain⟨M3,a⟩:∃M3,M3=M2++[A0p.cells 110 [I k,.list 2 (A1T p) .no,S to,I i,I ((i:Int)+n)]]:=⟨_,rfl⟩;(have hk:Grow M2 M3:=by rw[a];exact A0d.app none _ _);(have hx:M3[M2.length]?=some (A0p.cells 110 [I k,.list 2 (A1T p) .no,S to,I i,I ((i:Int)+n)]):=by rw[a];simp);have ho:=h2.keep hk (by simp);simp -dsimp -implicitDefEqProofs[t0,t3,t4,A0l,A0m,A0e,A7T];rw[<-a];simp -dsimp -implicitDefEqProofs[t0,t3,t4,A0b hx,A0n,A0W];refine A3p (C:=WC gl) (enc:=A1F.row) (e:=110) (sz:=5) (news:=[⟨k,p,to,i,(i:Int)+n⟩]) C3I D0N C4m (λ_=>rfl) ho (by simp[A0A,A1F.row,A1T]) (by simp;omega) rfl ?_;intro v' M4 k1 k2 k3 _;have d:A1g M.length v':=λf hf=>by
    rcases k3 with h|h
    .exact h6 f (h▸hf)
    .have:=h f hf;have:=h5.1;have:=hk.1;omega
   have hg:Grow M M4:=by refine⟨Z0X (h5.trans hk).1 k2.1,λj hj _=>?_⟩;rw[k2.2 j (by have:=(h5.trans hk).1;omega) λe=>by have:=h6 j e;omega];exact(h5.trans hk).2 j hj (by simp)
   (have b:M4[M2.length]?=some (A0p.cells 110 [I k,.list 2 (A1T p) .no,S to,I i,I ((i:Int)+n)]):=k2.get hx λe=>by have:=h2.lt e;omega);simp -dsimp -implicitDefEqProofs[t0,t3,t4,A0b b]
   exact⟨⟨i+n,by omega,by omega,_,k1,by rw[h3];simp,by simp;omega,hg,d⟩,by omega⟩
 .have c':¬(i:Int)<l.length:=by omega
  rw[D5f (l:=l) (i:=i) (by omega),Z1b]at h3;simp -dsimp -implicitDefEqProofs[t0,t3,t4,c'];rw[h3];exact⟨h2,h5,h6⟩
end
open Go.Proofs TryTypes
section
variable (gl:Nat->AV)
end
section
variable (gl:Nat->AV)
end
section
variable (gl:Nat->AV)
def C7E(x y:Int)(M:Mem):A0c (WC gl) 73 [I x,I y] M (λv M'=>v=I (A5I x y)/\M'=M):=by refine A0o hB func73 ?_;by_cases h1:y=6<;>by_cases h2:x=0<;>simp -dsimp -implicitDefEqProofs[A5I,h1,h2]
end
section
variable (gl:Nat->AV)
def C2j(l:List A0C)(a b c:Nat)(n:Int)(M:Mem)(hn:n<0):A0c (WC gl) 224 [B2d l a b c,I n] M (λv M'=>A1b 159 2 A0M.row M' v [A3a]/\Grow M M'/\A1g M.length v):=by
 refine A0o (hQ [9,26]) func224 ?_
 simp -dsimp -implicitDefEqProofs[hn,B9p]
 refine⟨.inr ⟨M.length,0,[(0,1)],rfl,by simp[A0M.row,A3a],rfl⟩,A0d.app none _ _,λf hf=>by simp at hf;omega⟩
end
section
variable (gl:Nat->AV)
def D6z(F:IdD->Option A0a)(l:List A0C):∀f n,A5O F l f n≠[]
 |0,n=>by simp[A5O]
 |f+1,n=>by rw[A5O];split<;>simp
def B5L(F:IdD->Option A0a)(l:List A0C):∀f n,(A5O F l f n).length<=f+1
 |0,n=>by simp[A5O]
 |f+1,n=>by have:=B5L F l f (A2t l n);rw[A5O];split<;>simp<;>omega
def D3N(l:List A0C)(L:List (IdD×A0a))(a b c:Nat)(hl:l.length<=1000)(y:∀j,j<l.length->B3j l j):∀(f:Nat) (n:Int) (M:Mem),n<l.length->n<f->f<=2000->A2i A2R B4Z M a L->A0c (WC gl) 224 [B2d l a b c,I n] M (λv M'=>A1b 159 2 A0M.row M' v (A5O (A1V L) l f n)/\Grow M M'/\A1g M.length v):=by
 intro f
 induction f with
 |zero=>intro n M h1 h2 _ hM;exact C2j gl l a b c n M (by omega)
 |succ f ih=>
  intro n M h1 h2 a8 hM
  by_cases hn:n<0
  .rw[A5O,Z0d hn];exact C2j gl l a b c n M hn
  .refine A0o (hQ [9,26]) func224 ?_;(have d:n.toNat<l.length:=by omega);have s:0<=n/\n<l.length:=⟨by omega,h1⟩;simp -dsimp -implicitDefEqProofs[hn,s,s.1,s.2,d,A0C.row,A0l,A0m,A0e];obtain⟨x,hx⟩:∃x,x=l[n.toNat]:=⟨_,rfl⟩;rw[<-hx];obtain⟨M1,p⟩:∃M1,M1=M++[A0p.cells 69 [I x.id.act,I x.id.item,I x.id.n,I x.parent,S x.label]]:=⟨_,rfl⟩;(have g:M1[M.length]?=some (A0p.cells 69 [I x.id.act,I x.id.item,I x.id.n,I x.parent,S x.label]):=by rw[p];simp);(have u:Grow M M1:=by rw[p];exact A0d.app none _ _);have w:=hM.keep u (by simp);rw[<-p];(have a3:A2t l n=x.parent:=by simp[A2t,d,hx]);(have a7:A8V l n.toNat=x.label:=by simp[A8V,d,hx]);have a6:=y n.toNat d n.toNat d (Z0n _);rw[<-hx]at a6;(have a4:x.parent<f:=by omega);(have z:x.parent<l.length:=by omega);(have a0:A5O (A1V L) l (f+1) n=A5O (A1V L) l f x.parent++[⟨A4p (A1V L) l n,x.label⟩]:=by rw[A5O,Z0c hn,a3,a7]);have a1:=A0c.repack (enc:=A0M.row) (e:=159) (sz:=2) (λ_=>rfl) (λn x=>by simp[A0M.row,A1Y,bdd]) (D6z (A1V L) l f x.parent) (ih x.parent M1 z a4 (by omega) w);rw[a0];have hAl:=B5L (A1V L) l f x.parent;generalize hA:A5O (A1V L) l f x.parent=A at*;refine A5r (hQ [9,26]) (A0t gl) (λk=>if k=2\/k=8 then 1 else if k=3\/k=6\/k=11 then 2 else 0) (λ_=>M.length) (λ_=>false) [M.length] (by intros;simp) (by rfl) (by kernel_rfl) ?_;simp -dsimp -implicitDefEqProofs[A0b g,A1a];refine A5i (A0V func224 rfl rfl a1) ?_;obtain⟨M2,t⟩:∃M2,M2=M1++[A0p.vec 159 2 (A.flatMap A0M.row) 0 [(0,A.length)]]:=⟨_,rfl⟩;(have i:Grow M1 M2:=by rw[t];exact A0d.app none _ _);have a5:A1b 159 2 A0M.row M2 (.vref M1.length 0 2 0 A.length) A:=.inr ⟨M1.length,0,[(0,A.length)],rfl,by rw[t];simp,by simp⟩;(have o:M2[M.length]?=M1[M.length]?:=by rw[g];exact i.get g (by simp));have a2:=w.keep i (by simp);rw[<-t];refine⟨by intro r hr;simp only[Z1m]at hr;subst hr;exact o,?_⟩;simp -dsimp -implicitDefEqProofs;refine A5i (A0V func151 rfl rfl (B8i gl l L a b c n M2 a2 (by omega))) ?_;simp -dsimp -implicitDefEqProofs[o,A0b (o.trans g),A1a,A0n,A0W];refine A3p (C:=WC gl) (enc:=A0M.row) (e:=159) (sz:=2) (news:=[⟨A4p (A1V L) l n,x.label⟩]) B1U B6w B2c (λ_=>rfl) a5 (by simp[A0A,A0M.row]) (by simp;omega) rfl ?_;intro v' M3 k1 k2 k3 _;have a9:M.length<M1.length:=(Z0a.1 g).1;refine⟨by intro r hr;simp only[Z1m]at hr;subst hr;exact k2.2 _ (by have:=i.1;omega) (by simp;omega),?_⟩;simp -dsimp -implicitDefEqProofs;have m:=u.trans i;refine⟨k1,⟨Z0X m.1 k2.1,λj hj _=>?_⟩,λq hq=>?_⟩
   .rw[k2.2 j (by have:=m.1;omega) (by simp;omega)];exact m.2 j hj (by simp)
   .rcases k3 with h|h
    .rw[h]at hq;simp at hq;omega
    .have:=h q hq;have:=m.1;omega
end
end Go.Abs
