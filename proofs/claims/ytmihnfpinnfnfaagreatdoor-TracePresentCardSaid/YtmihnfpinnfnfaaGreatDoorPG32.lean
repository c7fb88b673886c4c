/- The texts EhJ, EhC, EhD, EhE. -/
import Derived.Test.YtmihnfpinnfnfaaGreatDoorPG31
import Derived.Test.YtmihnfpinnfnfaaGreatDoorPG20
import Derived.Test.YtmihnfpinnfnfaaGreatDoorPG29
import Derived.Test.YtmihnfpinnfnfaaGreatDoorPG30
import Derived.Test.YtmihnfpinnfnfaaGreatDoorPG27
set_option linter.all false
set_option maxRecDepth 1000000
namespace Go.Abs
open Go.Proofs TryTypes Tryz
def B6L{C:Ctx}{G:A0p}{M:Mem}{w:World}(hi:Inv C G M w){f h s lo len n:Nat}{ty s':Nat}{cs:List AV}{g:Nat}{c:List (Nat×Nat)}{x:Value}(hr:Rep G (.vref f h s lo len) x)
 (hM:M[f]?=some (.vec ty s cs g c))(hn:c.lookup h=some n)(d:lo+len<=n)(h0:0<len):
 ∃b off cap vs,x=.slice (some ⟨b,off,none⟩) len cap/\len<=cap/\cap<=maxLen/\A2D G f (.vec ty s cs g c) b/\w.heap[b]?=some (.cells vs ty (0,0))/\off+cap*s<=vs.size/\A0s G ((cs.drop (lo*s)).take (len*s)) ((vs.toList.drop off).take (len*s))/\(∀v∈(vs.toList.drop off).take (len*s),v.oneCell'=true)/\(∀i,G.st b i=none)/\G.keep b=none:=by
 simp only[Rep]at hr
 obtain⟨hf,hg,a,a',cap,hd,q,l,rfl,r,p,k⟩:=hr
 obtain⟨_,p2,_⟩:=hi.obj f _ hM
 have e:=A2o hn
 obtain⟨_,q0,b,o,m,vs,q1,q2,q3,q4,q5,q6,q7,q8,q9⟩:=p2 h n e
 have j:A2D G f (.vec ty s cs g c) b:=⟨h,n,_,e,congrArg Prod.fst q1,rfl⟩
 rw[hd]at q1
 simp only[Z0g,Z0b]at q1
 obtain⟨rfl,rfl⟩:=q1
 have ha:=k Q0
 subst ha
 have e1:(((vs.toList.drop o).take (n*s)).drop (lo*s)).take (len*s)=(vs.toList.drop (o+lo*s)).take (len*s):=by
  rw[Z2C,Z2l,Z1T,Z1C];have:lo*s+len*s<=n*s:=by rw[<-Z0Q];exact Z0U _ d
  omega
 have e2:((cs.take (n*s)).drop (lo*s)).take (len*s)=(cs.drop (lo*s)).take (len*s):=by
  rw[Z2C,Z1T,Z1C];have:lo*s+len*s<=n*s:=by rw[<-Z0Q];exact Z0U _ d
  omega
 have hR:=(q6.drop (lo*s)).take (len*s)
 rw[e1,e2]at hR
 refine⟨b,o+lo*s,cap-lo,vs,rfl,Q0,Q0,j,q4,?_,hR,?_,q8,q9⟩
 .have:lo*s+(cap-lo)*s=cap*s:=by rw[<-Z0Q];congr 1;omega
  omega
 .rw[<-e1];intro v hv;exact q7 v (Z1l (Z1m hv))
def C9e{C:Ctx}(hP:C.P=prog){f t lo len i f2 t2 lo2 m n n2 tm am:Nat}{a6:Nat}{cs a8:List AV}{z u:List (Nat×Nat)}{M:Mem}(hM:M[f]?=some (.vec 30 8 cs tm z))(hn:z.lookup t=some n)
 (af:M[f2]?=some (.vec a6 8 a8 am u))(ao:u.lookup t2=some n2)(a5:lo2+m<=n2)(ah:f≠f2)(ab:lo+len<=n)(a0:i<len)(hm:0<m)(hb:(len+m)*120<=140737488355328):
 A0c C 137 [.vref f t 8 lo len,.val (.int .i64 i),.vref f2 t2 8 lo2 m] M (λr M'=>r=.vref f (tm+1) 8 0 (len+m)/\M'=M.set f (.vec 30 8 (((cs.drop (lo*8)).take (len*8)).take (i*8)++(a8.drop (lo2*8)).take (m*8)++((cs.drop (lo*8)).take (len*8)).drop (i*8)) (tm+1) [(tm+1,len+m)])):=by
 intro G w vs hi hr
 rw[hP]
 simp only[A0s]at hr
 obtain⟨y1,_,rfl,h1,y2,_,rfl,h2,y3,_,rfl,h3,rfl⟩:=hr
 simp only[Rep]at h2
 subst h2
 obtain⟨b,off,cap,c,rfl,k1,k2,k3,k4,k5,k6,k7,k8,k9⟩:=B6L (s':=8) hi h1 hM hn ab Q0
 obtain⟨vb,o,y,p,rfl,l1,l2,l3,l4,l5,l6,l7,_,_⟩:=B6L (s':=8) hi h3 af ao a5 hm
 have al:vb≠b:=λe=>by subst e;exact ah (hi.apart f f2 _ _ _ hM af k3 l3)
 simp only[maxLen]at k2
 obtain⟨olds,q⟩:=ex ((c.toList.drop off).take (len*8))
 obtain⟨nv,a3⟩:=ex ((p.toList.drop o).take (m*8))
 rw[<-q]at k6 k7
 rw[<-a3]at l6 l7
 have aa:olds.length=len*8:=by rw[q,Z0s,Z0G,Z0W];omega
 have d:nv.length=m*8:=by rw[a3,Z0s,Z0G,Z0W];omega
 have ac:∀j v,nv[j]?=some v->w.cell? ⟨vb,o+j,none⟩=some v:=λj v hj=>by
  rw[a3,Z0x]at hj;split at hj
  .rw[Z0C]at hj;simp only[World.cell?,l4];simpa using hj
  .simp at hj
 have x:A0s G (((cs.drop (lo*8)).take (len*8)).take (i*8)++(a8.drop (lo2*8)).take (m*8)++((cs.drop (lo*8)).take (len*8)).drop (i*8)) (olds.take (i*8)++nv++olds.drop (i*8)):=((k6.take (i*8)).append l6).append (k6.drop (i*8))
 have a4:(olds.take (i*8)++nv++olds.drop (i*8)).length=(len+m)*8:=by simp only[Z0k,Z0s,Z0G,aa,d];omega
 have k:=x.length
 rw[a4]at k
 have a1:∀v∈olds.take (i*8)++nv++olds.drop (i*8),v.oneCell'=true:=λv hv=>by
  rcases Z0T.1 hv with hv|hv
  .rcases Z0T.1 hv with hv|hv
   .exact k7 v (Z1m hv)
   .exact l7 v hv
  .exact k7 v (Z1l hv)
 have ag:(olds.drop (i*8)).length=(len-i)*8:=by rw[Z0G,aa];omega
 by_cases hroom:len+m<=cap
 .refine Z1B (D2F b off len cap i vb o m y c p a6 olds nv w a0 hm hroom k2 al k4 k5 q k7 l4 d ac l7) ?_;rintro e w' ⟨rfl,rfl⟩;obtain⟨L1,g⟩:=ex (ow c.toList (off+(i*8+m*8)) (olds.drop (i*8)));have s:L1.length=c.size:=by rw[g,B0E (by rw[ag,Z0W];omega),Z0W]
  obtain⟨L2,l⟩:=ex (ow L1 (off+i*8) nv);have ae:L2.length=c.size:=by rw[l,B0E (by rw[d];omega),s]
  rw[<-g,<-l];have a2:(w.drew.setRow b L1.toArray).heap[b]?=some (.cells L1.toArray 30 (0,0)):=Z2E w.drew b c L1.toArray 30 (0,0) k4;have a9:((w.drew.setRow b L1.toArray).setRow b L2.toArray).heap[b]?=some (.cells L2.toArray 30 (0,0)):=Z2E _ b L1.toArray L2.toArray 30 (0,0) a2;have a:(L2.toArray.toList.drop off).take ((len+m)*8)=olds.take (i*8)++nv++olds.drop (i*8):=by rw[show(L2.toArray.toList:List Value)=L2 from rfl,l,g,show(len+m)*8=len*8+m*8 by omega];exact C2H c.toList off (i*8) (m*8) (len*8) nv olds Q0 (by rw[Z0W];omega) d q
  obtain⟨G',g1,g2,g3⟩:=hi.retime hM (w1:=(w.drew.setRow b L1.toArray).setRow b L2.toArray) (.inl k3) (λb' hlt hne'=>by rw[Z2f _ _ _ _ hne',Z2f _ _ _ _ hne'];rfl) a9 hroom (by simp only[maxLen];omega) (by simp only[Z1o];omega) a x k.symm a1 k8 k9;exact⟨_,_,G',_,rfl,⟨rfl,rfl⟩,g1,g2,g3,((Ext.drew w).trans (Ext.setRow _ _ _)).trans (Ext.setRow _ _ _)⟩
 .obtain⟨R,hR,an,a7⟩:=D1s b off len cap i vb o m y c p a6 olds nv w a0 hm k1 Q0 hb k4 k5 q k7 l4 d ac l7;refine Z1B a7 ?_;rintro e w' ⟨rfl,rfl⟩;have ai:len+m<=maxLen:=by unfold maxLen;omega
  have aj:=Z3s w (len+m) cap 30;have ap:=Z2H w (len+m) cap 30 ai;generalize grownCap w (len+m) cap 30=nc at*;obtain⟨L1,g⟩:=ex (ow R (i*8) nv);have s:L1.length=nc*8:=by rw[g,B0E (by rw[d,hR];omega),hR]
  obtain⟨L2,l⟩:=ex (ow L1 (i*8+m*8) (olds.drop (i*8)));have ae:L2.length=nc*8:=by rw[l,B0E (by rw[ag];omega),s]
  rw[<-g,<-l];have hN:(w.drew.alloc (.cells R.toArray 30)).heap[w.heap.size]?=some (.cells R.toArray 30 (0,0)):=Z1U w.drew _;have a2:((w.drew.alloc (.cells R.toArray 30)).setRow w.heap.size L1.toArray).drew.heap[w.heap.size]?=some (.cells L1.toArray 30 (0,0)):=Z2E _ w.heap.size R.toArray L1.toArray 30 (0,0) hN;have a9:(((w.drew.alloc (.cells R.toArray 30)).setRow w.heap.size L1.toArray).drew.setRow w.heap.size L2.toArray).heap[w.heap.size]?=some (.cells L2.toArray 30 (0,0)):=Z2E _ w.heap.size L1.toArray L2.toArray 30 (0,0) a2;have a:(L2.toArray.toList.drop 0).take ((len+m)*8)=olds.take (i*8)++nv++olds.drop (i*8):=by rw[show(L2.toArray.toList:List Value)=L2 from rfl,l,g,show(len+m)*8=len*8+m*8 by omega];exact C6A R nv olds (i*8) (m*8) (len*8) Q0 aa d (by rw[hR];omega) an
  have ad:∀i,G.st w.heap.size i=none:=by
   intro i;cases h:G.st w.heap.size i with
   |none=>rfl
   |some v=>have:=hi.st_lt h;simp at this
  have ak:G.keep w.heap.size=none:=by
   cases h:G.keep w.heap.size with
   |none=>rfl
   |some v=>have:=hi.keep_lt h;simp at this
  obtain⟨G',g1,g2,g3⟩:=hi.retime hM (w1:=((w.drew.alloc (.cells R.toArray 30)).setRow w.heap.size L1.toArray).drew.setRow w.heap.size L2.toArray) (.inr (Z0j _)) (λb' hlt hne'=>by rw[Z2f _ _ _ _ hne'];exact(Z2f _ _ _ _ hne').trans (A2E w.drew _ b' hlt)) a9 aj ap (by simp only[Z1o];omega) a x k.symm a1 ad ak;exact⟨_,_,G',_,rfl,⟨rfl,rfl⟩,g1,g2,g3,((((Ext.drew w).trans (Ext.alloc _ _)).trans (Ext.setRow _ _ _)).trans (Ext.drew _)).trans (Ext.setRow _ _ _)⟩
def B6Q(a c:List AV)(n:Nat)(h:n<=a.length):(A0e a n c).take n=a.take n:=by unfold A0e;rw[Z0F,Z1A (by simp;omega),Z1T,Nat.min_self]
def C2z{M:Mem}{n f g m:Nat}{ok:AV->Prop}{e g':Nat}{cs:List AV}{a:List (Nat×Nat)}{l:List A0a}(hf:n<=f)(hm:M[f]?=some (.vec e 8 cs g' a))(hl:a.lookup g=some m)(i:l.length<=m)(b:cs.take (l.length*8)=l.flatMap A0a.row) (d:∀x:A0a,∀c∈x.row,ok c):Still M n ok [.vref f g 8 0 l.length] [.list 8 (A0q l) .no]:=by
 refine .vec hf hm hl i (A9s l) (λr hr=>?_) ?_ .nil
 .rw[A2S]at hr;obtain⟨x,_,rfl⟩:=Z0H.1 hr;exact x.row_len
 .rw[b,A7M];exact Still.refl λc hc=>by obtain⟨x,_,hx⟩:=Z1Y.1 hc;exact d x c hx
section
variable (gl:Nat->AV)
set_option maxHeartbeats 1000000 in
def C9Z(l:List A0a)(i:Nat)(hi:i<l.length)(f g g':Nat)(a:List (Nat×Nat))(M:Mem)(a7:l.length<=3000)(hm:M[f]?=some (.vec 30 8 (l.flatMap A0a.row) g' a))(hl:a.lookup g=some l.length):∃cs hist',cs.take ((l.length-1)*8)=(l.eraseIdx i).flatMap A0a.row/\hist'.lookup g=some l.length/\A0c (WC gl) 223 [.vref f g 8 0 l.length,I i,I ((i:Int)+1)] M (λr M'=>r=.vref f g 8 0 (l.length-1)/\M'=M.set f (.vec 30 8 cs g' hist')):=by
 obtain⟨N,hN⟩:=ex (l.length)
 obtain⟨n,hn⟩:=ex (N-1)
 rw[<-hN]at a7 hl hi|-
 rw[<-hn]
 have a9:N=n+1:=Q0
 have a3:f<M.length:=(Z0a.1 hm).1
 have d:(l.flatMap A0a.row).length=N*8:=by rw[A1Z A0a.row_len,hN]
 obtain⟨c0,p⟩:=ex (l.flatMap A0a.row)
 obtain⟨tl,q⟩:=ex ((l.drop (i+1)).flatMap A0a.row)
 obtain⟨hd,s⟩:=ex ((l.take i).flatMap A0a.row)
 have b:tl.length=(n-i)*8:=by rw[q,A1Z A0a.row_len,Z0G];congr 1;omega
 have j:hd.length=i*8:=by rw[s,A1Z A0a.row_len,Z0s];congr 1;omega
 have a6:c0.drop ((i+1)*8)=tl:=by rw[p,q,A3x A0a.row_len]
 have u:c0.take (i*8)=hd:=by rw[p,s,A7D A0a.row_len]
 have a4:(l.eraseIdx i).flatMap A0a.row=hd++tl:=by rw[Z2r,Z1k,s,q]
 rw[a4]
 rw[<-p]at d hm
 have o:A1W prog 28 (.vref f g 8 0 N) (some (I i)) (some (I ((i:Int)+1))) (some (I N))=none:=by have h1:¬(N=i):=Q0;have h2:((i:Int)+1)<=N:=Q0;have h3:(0:Int)<=(i:Int)+1:=Q0;have h4:(i:Int)<=(i:Int)+1:=Q0;have h5:((i:Int)+1).toNat=i+1:=Q0;simp[A1W,A4y,A8s,A1s,B0l,h1,h2,h3,h4,h5]
 have m:A3L prog 28 M (.vref f g 8 0 N) (some (I i)) (some (I ((i:Int)+1))) (some (I N))=some .poison:=by have h2:((i:Int)+1)<=N:=Q0;have h3:(0:Int)<=(i:Int)+1:=Q0;have h4:(i:Int)<=(i:Int)+1:=Q0;have h5:((i:Int)+1).toNat=i+1:=Q0;simp[A3L,hm,hl,A8s,A1s,B0l,h2,h3,h4,h5]
 have v:A1W prog 28 (.vref f g 8 0 N) none (some (I i)) none=some (.vref f g 8 0 i):=by have h1:(i:Int)<=N:=Q0;simp[A1W,A4y,A8s,A1s,B0l,h1]
 have w:A1W prog 28 (.vref f g 8 0 N) (some (I ((i:Int)+1))) none none=some (.vref f g 8 (i+1) (n-i)):=by have h1:(i:Int)+1<=N:=Q0;have h2:N-(i+1)=n-i:=Q0;have h3:(0:Int)<=(i:Int)+1:=Q0;have h5:((i:Int)+1).toNat=i+1:=Q0;simp[A1W,A4y,A8s,A1s,B0l,h1,h2,h3,h5]
 have t:A0D M 8 (.vref f g 8 (i+1) (n-i))=some (tl,n-i):=by simp only[A0D,hm,hl];rw[Z0c ⟨trivial,trivial,Q0⟩,a6,Z0e Q0]
 have a2:A0D M 8 (.vref f g 8 0 i)=some (hd,i):=by simp only[A0D,hm,hl];rw[Z0c ⟨trivial,trivial,Q0⟩,Z1I,Z1x,u]
 have hb:(i+(n-i))*120<=140737488355328:=Q0
 have a0:¬((i:Int)=(i:Int)+1):=Q0
 /- behind the append -/
 have tail:∀(c1:List AV) (h1:List (Nat×Nat)) (M1:Mem),c1.length=N*8->c1.take (n*8)=hd++tl->h1.lookup g=some N->M1[f]?=some (.vec 30 8 c1 g' h1)->
  ∃c2,c2.take (n*8)=hd++tl/\(A0V 8 g (n*8) h1).lookup g=some N/\A1W prog 28 (.vref f g 8 0 n) (some (I n)) (some (I N)) none=none/\A3L prog 28 M1 (.vref f g 8 0 n) (some (I n)) (some (I N)) none=some (.vref f g 8 n 1)/\A9B prog 28 M1 (.vref f g 8 n 1)=some (.tuple [],M1.set f (.vec 30 8 c2 g' (A0V 8 g (n*8) h1))):=by
  intro c1 h1 M1 ab a5 hh z
  refine⟨A0e c1 (n*8) zU,?_,?_,?_,?_,?_⟩
  .rw[B6Q _ _ _ Q0];exact a5
  .unfold A0V;exact A3v _ hh
  .have:¬(N:Int)<=n:=Q0;simp[A1W,A4y,A8s,A1s,B0l,this]
  .have h2:N-n=1:=Q0;have h3:(n:Int)<=N:=Q0;simp[A3L,z,hh,A4y,A8s,A1s,B0l,h2,h3]
  .have h2:n+1<=N:=Q0;simp[A9B,z,hh,h2,zU]
 refine(?_:∃cs hist',_)
 by_cases h0:n=i
 .have x:tl=[]:=Z0v (by rw[b];omega);have c:A0D M 8 (.vref f g 8 (i+1) (n-i))=some ([],0):=by rw[t,x,show n-i=0 by omega]
  have aa:n-i=0:=Q0;obtain⟨c2,k1,k2,k3,k4,k5⟩:=tail c0 a M d (by rw[x,Z1g,h0,u]) hl hm;refine⟨c2,A0V 8 g (n*8) a,k1,k2,?_⟩;refine A0t hB func223 ?_;simp -dsimp[o,m,a0];refine A0Z hB (A0E gl) (λk=>if k=6 then 2 else 0) (λ_=>0) (by rfl) Q2 ?_;simp -dsimp[v,w];refine A5c (e:=30) (sz:=8) (bytes:=120) A7N B2e B0y a2 c Q0 ?_ ?_
  .simp only[A5e,c,hm,hl];rw[Z0d Q0]
  simp only[A5Y,c,hm,hl];rw[Z0c ⟨trivial,trivial,trivial,Q0⟩,Z0c trivial];rw[h0]at k3 k4 k5|-;simp -dsimp[k3,k4,k5]
 .have a8:0<n-i:=Q0;obtain⟨M1,e1⟩:=ex (M.set f (.vec 30 8 (A0e c0 (i*8) tl) g' (A0V 8 g (i*8) a)));have y:M1[f]?=some (.vec 30 8 (A0e c0 (i*8) tl) g' (A0V 8 g (i*8) a)):=by rw[e1];simp[a3]
  obtain⟨c2,k1,k2,k3,k4,k5⟩:=tail (A0e c0 (i*8) tl) (A0V 8 g (i*8) a) M1 (by unfold A0e;simp only[Z0k,Z0s,Z0G,b,d];omega) (by unfold A0e;rw[u,Z1A (by rw[Z0k,j,b];omega),Z0e (by rw[Z0k,j,b];omega)]) (by unfold A0V;exact A3v _ hl) y;have e2:∀X,M1.set f X=M.set f X:=λX=>by rw[e1,Z2h]
  rw[e2]at k5;refine⟨c2,_,k1,k2,?_⟩;refine A0t hB func223 ?_;simp -dsimp[o,m,a0];refine A0Z hB (A0E gl) (λk=>if k=6 then 2 else 0) (λ_=>0) (by rfl) Q2 ?_;simp -dsimp[v,w];have a1:A5e 30 8 (.vref f g 8 0 i) (.vref f g 8 (i+1) (n-i)) M=some (.vref f g 8 0 n,M1):=by simp only[A5e,t,hm,hl];rw[Z0c ⟨trivial,trivial,trivial,a8,Q0⟩,e1,Z0P,show i+(n-i)=n by omega]
  refine E0l (e:=30) (sz:=8) (bytes:=120) A7N B2e B0y a2 t hb a1 ?_;clear e1 y a1;simp -dsimp[k3,k4,k5]
def B9Y(x:A0a)(l:List A0a)(i:Nat)(hi:i<=l.length)(v:AV)(q:Nat)(o:List (Nat×Nat))(M:Mem)(w:l.length<=3000)(ho:A1p 30 8 A0a.row M v l)(hq:M[q]?=some (.vec 30 8 x.row 0 [(0,1)]))(k:∀f,obj v=some f->f≠q):∃v' M',A1p 30 8 A0a.row M' v' (l.take i++x::l.drop i)/\A0d (obj v) M M'/\(obj v'=obj v\/A1K M.length v')/\A0c (WC gl) 137 [v,I i,.vref q 0 8 0 1] M (λr M1=>r=v'/\M1=M'):=by
 have hx:A0D M 8 (.vref q 0 8 0 1)=some (x.row,1):=by simp only[A0D,hq];rw[show([(0,1)]:List (Nat×Nat)).lookup 0=some 1 from rfl];simp
 rcases ho with⟨rfl,rfl⟩|⟨f,g,d,rfl,hm,hl⟩
 .have z:i=0:=by simpa using hi
  subst z;refine⟨.vref M.length 0 8 0 1,M++[.vec 30 8 x.row 0 [(0,1)]],.inr ⟨M.length,0,[(0,1)],rfl,Q1,by simp[List.lookup]⟩,.app _ _ _,.inr (λf hf=>by simp at hf;omega),?_⟩;have hs:A1W prog 28 (.val (.slice none 0 0)) (some (I 0)) none none=some (.val (.slice none 0 0)):=Q2;refine A0t hV func137 ?_;simp -dsimp[hs];refine A5c (e:=30) (sz:=8) (bytes:=120) A7N B2e B0y (by rfl) hx Q0 (by simp only[A5e,hx]) ?_;simp only[A5Y,hx];simp -dsimp
 obtain⟨n,hn⟩:=ex (l.length)
 have a0:=hl
 rw[<-hn]at w hl hi|-
 have a1:(l.flatMap A0a.row).length=n*8:=by rw[A1Z A0a.row_len,hn]
 have b:f<M.length:=(Z0a.1 hm).1
 by_cases hin:i=n
 .subst hin;have y:l.take i++x::l.drop i=l++[x]:=by rw[Z0e Q0,Z1r Q0]
  rw[y];have hs:A1W prog 28 (.vref f g 8 0 i) (some (I i)) none none=some (.vref f g 8 i 0):=by simp[A1W,A4y,A8s,A1s,B0l]
  have s:A0D M 8 (.vref f g 8 0 i)=some (l.flatMap A0a.row,i):=by simp only[A0D,hm,hl];rw[Z0c ⟨trivial,trivial,Q0⟩,Z1I,Z1x,Z0e Q0]
  have u:(l.flatMap A0a.row++x.row)=(l++[x]).flatMap A0a.row:=by simp[Z1k]
  obtain⟨a,hh⟩:∃a,a=(g+1,i+1)::d.filter (λp:Nat×Nat=>decide (p.2<=i)):=⟨_,rfl⟩;obtain⟨M',c⟩:∃M',M'=M.set f (.vec 30 8 ((l++[x]).flatMap A0a.row) (g+1) a):=⟨_,rfl⟩;refine⟨.vref f (g+1) 8 0 (i+1),M',.inr ⟨f,g+1,a,by rw[Z0k,<-hn];rfl,?_,?_⟩,by rw[c];exact .set _ f _,.inl rfl,?_⟩
  rotate_left 2
  .refine A0t hV func137 ?_;simp -dsimp[hs];refine A5c (e:=30) (sz:=8) (bytes:=120) A7N B2e B0y s hx Q0 ?_ ?_
   .simp only[A5e,hx,hm,hl];rw[Z0d Q0]
   simp only[A5Y,hx,hm,hl];rw[Z0c ⟨trivial,trivial,trivial,Q0⟩,Z0d Q0,Z1I,Z1x,Z0e Q0,u];simp -dsimp[c,hh]
  .rw[c];simp[b]
  .rw[hh];simp[List.lookup,hn]
 have j:i<n:=Q0
 have key:=C9e (C:=WC gl) rfl (f:=f) (t:=g) (lo:=0) (len:=n) (i:=i) (f2:=q) (t2:=0) (lo2:=0) (m:=1) (n:=n) (n2:=1) hm hl hq rfl Q0 (k f rfl) Q0 j Q0 Q0
 have e1:((((l.flatMap A0a.row).drop (0*8)).take (n*8)).take (i*8)++(x.row.drop (0*8)).take (1*8)++(((l.flatMap A0a.row).drop (0*8)).take (n*8)).drop (i*8))=(l.take i++x::l.drop i).flatMap A0a.row:=by
  have hA:((l.flatMap A0a.row).drop (0*8)).take (n*8)=l.flatMap A0a.row:=by rw[Z1I,Z1x,Z0e Q0]
  have hB:(x.row.drop (0*8)).take (1*8)=x.row:=by rw[Z1I,Z1x,Z0e Q1]
  rw[hA,hB,A7D A0a.row_len,A3x A0a.row_len,Z1k,Z0z,Z0F]
 rw[e1]at key
 refine⟨.vref f (g+1) 8 0 (n+1),_,.inr ⟨f,g+1,[(g+1,n+1)],?_,by simp[b],?_⟩,.set _ f _,.inl rfl,key⟩
 .simp only[Z0k,Z0s,Z0q,Z0G,<-hn];congr 1;omega
 .simp only[Z0k,Z0s,Z0q,Z0G,<-hn];rw[show([(g+1,n+1)]:List (Nat×Nat)).lookup (g+1)=some (n+1)by simp[List.lookup]];congr 1;omega
end
def A5h(M:Mem)(n:Nat)(v:AV)(l:List A0a):Prop:=(v=.val (.slice none 0 0)/\l=[])\/∃f g m cs g' hist,n<=f/\v=.vref f g 8 0 l.length/\M[f]?=some (.vec 30 8 cs g' hist)/\hist.lookup g=some m/\l.length<=m/\cs.take (l.length*8)=l.flatMap A0a.row
def C8C(n:Nat)(x:A0a):∀c∈x.row,bdd n c:=by have h:=A1I n x;rw[x.row_eq]at h|-;simp only[A1l,Z1z]at h;obtain⟨h1,h2,h3,h4,h5,h6,h7,h8⟩:=h;intro c hc;simp only[Z0r,Z1F,Z2K]at hc;rcases hc with rfl|rfl|rfl|rfl|rfl|rfl|rfl|rfl<;>assumption
section
variable {M M':Mem} {n:Nat} {v:AV} {l:List A0a}
def A5h.still(h:A5h M n v l):Still M n (bdd n) [v] [.list 8 (A0q l) .no]:=by
 rcases h with⟨rfl,rfl⟩|⟨f,g,m,cs,g',a,h1,rfl,h2,h3,h4,h5⟩
 .rw[A0q];exact .nilS .nil
 .exact C2z h1 h2 h3 h4 h5 (C8C n)
def A5h.keep(h:A5h M n v l){o:Option Nat}(hk:A0d o M M')(ho:∀f,obj v=some f->o≠some f):A5h M' n v l:=by
 rcases h with⟨rfl,rfl⟩|⟨f,g,m,cs,g',a,h1,rfl,h2,h3,h4,h5⟩
 .exact .inl ⟨rfl,rfl⟩
 .exact .inr ⟨f,g,m,cs,g',a,h1,rfl,hk.get h2 (ho f rfl),h3,h4,h5⟩
def A5h.vec(h:A5h M n v l){f:Nat}(hf:obj v=some f):n<=f/\∃cs g' a,M[f]?=some (.vec 30 8 cs g' a):=by
 rcases h with⟨rfl,rfl⟩|⟨f',g,m,cs,g',a,h1,rfl,h2,h3,h4,h5⟩
 .simp at hf
 .simp at hf;subst hf;exact⟨h1,cs,g',a,h2⟩
def A5h.of(h:A1p 30 8 A0a.row M v l)(hl:A1K n v):A5h M n v l:=by
 rcases h with⟨rfl,rfl⟩|⟨f,g,a,rfl,hm,hh⟩
 .exact .inl ⟨rfl,rfl⟩
 .exact .inr ⟨f,g,l.length,_,g,a,hl f rfl,rfl,hm,hh,Z0j _,Z0e (by rw[A1Z A0a.row_len];exact Z0j _)⟩
end
def B8U(gl:Nat->AV)(u:A0a)(M:Mem)(g:FuncId)(cap:List AV)(u':A0a):Prop:=∀(n b:Nat) (kv:AV) (Mi:Mem),M.length<=n->n<=b->Grow M Mi->Mi[b]?=some (.cells 30 (A3m u kv))->A1p 30 8 A0a.row Mi kv u.kids->A1K n kv->obj kv≠some b->A3E (WC gl) g (.ptr b 0::cap) Mi (λ_ M'=>∃kv',M'[b]?=some (.cells 30 (A3m u' kv'))/\A0d (obj kv) (Mi.set b .gone) (M'.set b .gone)/\A5h M' n kv' u'.kids)
def B8U.later{gl:Nat->AV}{u u':A0a}{M M':Mem}{g:FuncId}{cap:List AV}(h:B8U gl u M g cap u')(hg:Grow M M'):B8U gl u M' g cap u':=λn b kv Mi h1 h2 h3 h4 h5 h6 h7=>h n b kv Mi (Z0L hg.1 h1) h2 (hg.trans h3) h4 h5 h6 h7
def B8H{x:IdD}{f:A0a->A0a}:∀{ks:List A0a},(∀k∈ks,A0O x k=none)->A8v x f ks=ks
 |[],_=>by rw[A8v]
 |k::ks,h=>by rw[A8v,h k Q1,B8H λq hq=>h q (by simp[hq])];rfl
def B4B{x:IdD}{f:A0a->A0a}:∀{ks:List A0a} {i:Nat} (hi:i<ks.length),(∀k∈ks.take i,A0O x k=none)->(A0O x ks[i]).isSome=true->A8v x f ks=ks.set i (A1v x f ks[i])
 |[],i,hi,_,_=>by simp at hi
 |k::ks,0,hi,_,h=>by rw[A8v,Z0c (by simpa using h)];rfl
 |k::ks,i+1,hi,h0,h=>by rw[Z1j]at h0;rw[A8v,h0 k Q1];show k::A8v x f ks=_;rw[B4B (i:=i) (by simpa using hi) (λq hq=>h0 q (by simp[hq])) h];rfl
def B8A{x:IdD}{y:A0a}:∀{ks:List A0a} {i:Nat} (hi:i<ks.length),(∀k∈ks.take i,A0O x k=none)->A0O x ks[i]=some y->A6r x ks=some y
 |[],i,hi,_,_=>by simp at hi
 |k::ks,0,hi,_,h=>by rw[A6r];simp only[Z2G]at h;rw[h]
 |k::ks,i+1,hi,h0,h=>by rw[Z1j]at h0;rw[A6r,h0 k Q1];exact B8A (by simpa using hi) (λq hq=>h0 q (by simp[hq])) h
section
variable (gl:Nat->AV)
set_option maxHeartbeats 1000000 in
def A8p:∀(u:A0a) (x:IdD) (g:FuncId) (cap:List AV) (f:A0a->A0a) (M:Mem),Fit u->(∀y,A0O x u=some y->B8U gl y M g cap (f y))->
 A0c (WC gl) 135 [.agg u.row,.agg x.row,.func (.func g) [] cap] M (λv M'=>v=.agg (A1v x f u).row/\M'=M)
 |.mk id kind lab hd ws ks,x,g,cap,f,M,hf,hd'=>by
  obtain⟨u,hu⟩:=ex (A0a.mk id kind lab hd ws ks);have ad:u.kids=ks:=by rw[hu];rfl
  have a6:u.id=id:=by rw[hu];rfl
  rw[<-hu]at hf hd'|-;refine A0c.dataX ?_;have hx:x.row=[I x.act,I x.item,I x.n]:=rfl;have he:=C1B u.id x;have b8:=A2t u.kids;have b9:A0H u.kids<A0x u:=by obtain⟨a,b,c,d,e,f⟩:=u;rw[A0x];show A0H f<_;omega
  have bi:=hf.2.2;obtain⟨b,hb⟩:=ex (M.length);obtain⟨M1,z⟩:=ex (M++[A0l.cells 30 [I u.id.act,I u.id.item,I u.id.n,I u.kind,S u.label,.list 4 (A0i u.head) .no,.list 4 (A0i u.words) .no,.list 8 (A0q u.kids) .no],z8]);have h1:M1[b]?=some (A0l.cells 30 [I u.id.act,I u.id.item,I u.id.n,I u.kind,S u.label,.list 4 (A0i u.head) .no,.list 4 (A0i u.words) .no,.list 8 (A0q u.kids) .no]):=by rw[z,hb];simp
  have h2:M1[b+1]?=some z8:=by rw[z,hb];simp[Z0Y]
  have ax:Grow M M1:=by rw[z];exact A0d.app none _ _
  have bl:M1.length=b+2:=by rw[z,hb];simp
  have b2:=C4X gl u.kids M1 Q0;rw[u.row_eq,hx];refine A0t hTr func135 ?_;by_cases hix:u.id=x
  .rw[Z0B hix]at he;(have b6:A0O x u=some u:=by rw[hu,A0O];exact Z0c (by rw[<-a6];exact hix));(have ag:A1v x f u=f u:=by rw[hu,A1v];exact Z0c (by rw[<-a6];exact hix));have hd:=hd' u b6;rw[ag];simp -dsimp[A0j];rw[<-z,<-hb];simp -dsimp[A0b h1,he];refine A4b func219 b2 ?_;rintro kv M2 ⟨ho,o,m⟩;have h3:=o.get h1 Q1;have h4:=o.get h2 Q1;(have a3:A0k (some 1) M2 (.ptr b 7) kv=some (M2.set b (.cells 30 (A3m u kv))):=by rw[A0f h3,ho.cells,Z0c ⟨ho.store,Q1,rfl⟩];rfl);simp -dsimp[a3];have ar:b<M2.length:=(Z0a.1 h3).1;have a7:Grow M (M2.set b (.cells 30 (A3m u kv))):=A0u (ax.trans o) Q0;refine A0v (hd b b kv (M2.set b (.cells 30 (A3m u kv))) Q0 (Z0j _) a7 (by simp[ar]) (ho.keep (A0d.set _ _ _) (λf hf e=>by have:=m f hf;simp at e;omega)) (λf hf=>by have:=m f hf;omega) (λe=>by have:=m b e;omega)) ?_;rintro _ M4 ⟨a5,q1,q2,q3⟩;have bj:b<M4.length:=(Z0a.1 q1).1;(have ab:M4[b+1]?=some z8:=by have be:=o.1;have:=q2.2 (b+1) (by simp;omega) (λe=>by have:=m (b+1) e;omega);rw[Z0f Q0,Z0f Q0,Z0f Q0]at this;rw[this];exact h4);(have bd:Grow M M4:=by refine⟨by have:=q2.1;have:=a7.1;simp at this q2;omega,λi hi _=>?_⟩;have h5:=q2.2 i (by have:=a7.1;simp at this|-;omega) (λe=>by have:=m i e;omega);rw[Z0f Q0,Z0f Q0]at h5;rw[h5];exact a7.2 i hi Q1);have ai:b+1<M4.length:=(Z0a.1 ab).1;(have s:A0M prog 30 M4 (.ptr b 0)=some (.agg (A3m (f u) a5)):=by rw[A0b q1];simp[A3m]);(have a4:A0k (some 8) M4 (.ptr (b+1) 0) (.agg (A3m (f u) a5))=some (M4.set (b+1) (.cells 30 (A3m (f u) a5))):=by rw[A0f ab];rfl);simp -dsimp[s,a4,A0r ai,A0g,A3m];refine⟨A0u bd Q0,.agg ?_ .nil⟩;have au:=(q3.keep (A0d.set M4 (b+1) (.cells 30 (A3m (f u) a5))) (λf hf e=>by obtain⟨_,cs,g',bf,hv⟩:=q3.vec hf;simp only[Z0b]at e;subst e;rw[ab]at hv;simp at hv)).still;rw[A0a.row_eq];rw[A3m]at au;exact .same trivial (.same trivial (.same trivial (.same trivial (.same trivial (.same (by simp only[bdd,Z1z];exact A2v _ _) (.same (by simp only[bdd,Z1z];exact A2v _ _) au))))))
  rw[Z0I hix]at he;have ag:A1v x f u=.mk id kind lab hd ws (A8v x f ks):=by rw[hu,A1v];exact Z0d (by rw[<-a6];exact hix)
  have bc:A0O x u=A6r x ks:=by rw[hu,A0O];exact Z0d (by rw[<-a6];exact hix)
  simp -dsimp[A0j];rw[<-z,<-hb];simp -dsimp[A0b h1,he];refine A4b func219 b2 ?_;rintro kv M2 ⟨ho,o,m⟩;rw[ad]at ho;have h3:=o.get h1 Q1;have h4:=o.get h2 Q1;have ae:=ho.len (P:=prog) underlying28;simp -dsimp[ae];rw[ad]at b8 b9;refine A7f (.exit 0) (λT M5=>T 3=.ptr b 0/\T 6=.ptr (b+1) 0/\T 7=kv/\Grow M M5/\M5[b]?=some (A0l.cells 30 [I u.id.act,I u.id.item,I u.id.n,I u.kind,S u.label,.list 4 (A0i u.head) .no,.list 4 (A0i u.words) .no,.list 8 (A0q u.kids) .no])/\M5[b+1]?=some z8/\Arr 30 8 A0a.row (b+2) M5 kv (A8v x f ks)) ?_ ?_
  .refine A0K hTr (λT M5=>∃i:Nat,i<=ks.length/\T 2=.func (.func g) [] cap/\T 3=.ptr b 0/\T 4=.cptr [I x.act,I x.item,I x.n]/\T 6=.ptr (b+1) 0/\T 7=kv/\T 26=kv/\T 27=I ks.length/\T 28=I i/\Grow M M5/\M5[b]?=some (A0l.cells 30 [I u.id.act,I u.id.item,I u.id.n,I u.kind,S u.label,.list 4 (A0i u.head) .no,.list 4 (A0i u.words) .no,.list 8 (A0q u.kids) .no])/\M5[b+1]?=some z8/\Arr 30 8 A0a.row (b+2) M5 kv ks/\∀k∈ks.take i,A0O x k=none) (λT M1=>match T 28 with|.val (.int _ i)=>ks.length-i.toNat|_=>0) Q2 ?_ ?_
   .exact⟨0,Q0,Q1,Q1,Q1,Q1,Q1,Q1,Q1,Q1,ax.trans o,h3,h4,⟨ho,λf hf=>by have:=m f hf;omega⟩,Q1⟩
   clear h3 h4 o ho ae;rintro T M5 ⟨i,i1,t2,t3,t4,t6,t7,r,t,t28,w,h3,h4,ha,a1⟩;by_cases hi:i<ks.length;(case neg=>have aa:¬(i:Int)<ks.length:=Q0;rw[Z0e Q0]at a1;simp -dsimp[t2,t3,t4,t6,t7,r,t,t28,aa];rw[B8H a1];exact⟨w,h3,h4,ha⟩);have aa:(i:Int)<ks.length:=Q0;have w1:=A1Y (i:=i) Q0;obtain⟨k,hk⟩:=ex (ks[i]);(have b1:k∈ks:=by rw[hk];exact Z0u hi);(have a0:k∈u.kids:=by rw[ad];exact b1);have ap:=C7k hf k a0;obtain⟨f1,g1,_,a2,s,_,_,_,_⟩:=B3j ha.own hi k;rw[<-hk]at s;have bk:b+2<=f1:=ha.lat f1 (by rw[a2];rfl);rw[a2]at t7 r;obtain⟨M6,p⟩:=ex (M5++[A0l.cells 30 [I k.id.act,I k.id.item,I k.id.n,I k.kind,S k.label,.list 4 (A0i k.head) .no,.list 4 (A0i k.words) .no,.list 8 (A0q k.kids) .no]]);(have ao:M6[M5.length]?=some (A0l.cells 30 [I k.id.act,I k.id.item,I k.id.n,I k.kind,S k.label,.list 4 (A0i k.head) .no,.list 4 (A0i k.words) .no,.list 8 (A0q k.kids) .no]):=by rw[p];simp);(have ac:Grow M5 M6:=by rw[p];exact A0d.app none _ _);have aq:=B1J gl k x M6 ap;rw[k.row_eq,hx]at aq;have aj:=k.row_eq;rw[aj]at s;simp -dsimp[t2,t3,t4,t6,t7,r,t,t28,hi,aa,s,A0j,A0k,A0e,A0o,A0n];rw[<-p];simp -dsimp[t2,t3,t4,t6,t7,r,t,t28,A0b ao];refine A0h func63 aq ?_;obtain⟨M7,ah⟩:=ex (M6++[A0l.cells 30 (A4z (A0O x k))]);(have ak:Grow M6 M7:=by rw[ah];exact A0d.app none _ _);have b5:=ak.get ao Q1;have l:=ac.trans ak;have b0:=l.get h3 Q1;have am:=l.get h4 Q1;have aw:=ha.keep l;(have b7:(A4z (A0O x k)).length=8:=by cases A0O x k<;>simp[A4z]);simp -dsimp[t2,t3,t4,t6,t7,r,t,t28,A0j,A0k,A0e,A0o,A0n,b7,Z0e];rw[<-ah];cases hfx:A0O x k with
   |none=>
    simp -dsimp[t2,t3,t4,t6,t7,r,t,t28,w1];refine⟨⟨i+1,Q3,a2.symm,rfl,w.trans l,b0,am,aw,λq hq=>?_⟩,Q3⟩;rw[Z1p hi]at hq;rcases Z0T.1 hq with hq|hq
    .exact a1 q hq
    .rw[Z0R.1 hq,<-hk];exact hfx
   |some y=>
    (have bh:SizeOf.sizeOf k<SizeOf.sizeOf (A0a.mk id kind lab hd ws ks):=by have:=A0a.kid_lt (u:=u) a0;rwa[hu]at this);have a8:=A8p k x g cap f M7 ap (λy hy=>(hd' y (by rw[bc];exact B8A hi a1 (by rw[<-hk];exact hy))).later (w.trans l))
    rw[aj,hx]at a8;obtain⟨f2,g2,M8,av,_,a3,bb,b4,a9⟩:=B3j aw.own hi (A1v x f k);have e2:=a2.symm.trans av;simp only[AV.vref.injEq]at e2;obtain⟨rfl,rfl,-⟩:=e2;(have az:A8v x f ks=ks.set i (A1v x f k):=by rw[hk];exact B4B hi a1 (by rw[<-hk,hfx];rfl));simp -dsimp[t2,t3,t4,t6,t7,r,t,t28,A0b b5];refine A0h func135 a8 ?_;simp -dsimp[t2,t3,t4,t6,t7,r,t,t28,hi,a3];rw[az];refine⟨a2.symm,⟨by rw[b4];exact((w.trans l).1),λj hj _=>?_⟩,by rw[a9 b Q0];exact b0,by rw[a9 (b+1) Q0];exact am,⟨bb,ha.lat⟩⟩;rw[a9 j Q0];exact(w.trans l).2 j hj Q1
  clear h3 h4 o ho ae;rintro T M5 ⟨t3,t6,t7,w,h3,h4,ha⟩;have ba:b<M5.length:=(Z0a.1 h3).1;have bg:b+1<M5.length:=(Z0a.1 h4).1;obtain⟨M6,p⟩:=ex (M5.set b (.cells 30 (A3m u kv)));have b3:M6[b]?=some (.cells 30 (A3m u kv)):=by rw[p];simp[ba]
  have ay:M6[b+1]?=some z8:=by rw[p,Z0f Q0];exact h4
  have af:Arr 30 8 A0a.row (b+2) M6 kv (A8v x f ks):=ha.stay λj hj=>by have:=ha.lat j hj;rw[p,Z0f Q0]
  have ac:Grow M M6:=by rw[p];exact A0u w Q0
  have a3:A0k (some 1) M5 (.ptr b 7) kv=some M6:=by rw[A0f h3,ha.own.cells,Z0c ⟨ha.own.store,Q1,rfl⟩,p];rfl
  have an:b+1<M6.length:=(Z0a.1 ay).1;have s:A0M prog 30 M6 (.ptr b 0)=some (.agg (A3m u kv)):=by rw[A0b b3];simp[A3m]
  have a4:A0k (some 8) M6 (.ptr (b+1) 0) (.agg (A3m u kv))=some (M6.set (b+1) (.cells 30 (A3m u kv))):=by rw[A0f ay];rfl
  simp -dsimp[t3,t6,t7,a3,s,a4,A0r an,A0g,A3m];refine⟨A0u ac Q0,.agg ?_ .nil⟩;have al:Still (M6.set (b+1) (.cells 30 (A3m u kv))) b (bdd b) [kv] [.list 8 (A0q (A8v x f ks)) .no]:=by rw[A2S];exact A2T A0a.row_len A1I (af.own.keep (A0d.set M6 (b+1) (.cells 30 (A3m u kv))) (λj hj e=>by have:=af.lat j hj;simp at e;omega)) (λj hj=>by have:=af.lat j hj;omega)
  rw[ag,A0a.row_eq];rw[A3m]at al;subst hu;exact .same trivial (.same trivial (.same trivial (.same trivial (.same trivial (.same (by simp only[bdd,Z1z];exact A2v _ _) (.same (by simp only[bdd,Z1z];exact A2v _ _) al))))))
termination_by u=>SizeOf.sizeOf u
decreasing_by exact bh
end
def hIn:A2j:=⟨λd=>d !=11,λ_=>false,λd=>d==11⟩
@[simp] def E2M:hIn.vec=λd=>d==11:=(rfl)
section
variable (gl:Nat->AV)
def E0q(u:A0a)(i:Nat)(hi:i<u.kids.length)(a0:u.kids.length<=3000)(q:Nat)(M:Mem)(hq:M[q]?=some (.cells 3 [I i])):B8U gl u M 222 [.ptr q 0] (B0s i u):=by
 intro n b kv Mi hn hb hg m ho o t;have a4:q<M.length:=(Z0a.1 hq).1;have x:=hg.get hq Q1;rcases ho with⟨_,h⟩|⟨f,g,r,rfl,hm,hl⟩
 .rw[h]at hi;simp at hi
 have a2:f≠b:=λe=>t (by simp[e]);have y:n<=f:=o f rfl;obtain⟨cs,a,k1,k2,d⟩:=C9Z gl u.kids i hi f g g r Mi a0 hm hl;have a1:b<Mi.length:=(Z0a.1 m).1;have w:f<Mi.length:=(Z0a.1 hm).1;refine A0m func222 rfl rfl ?_;obtain⟨M2,c⟩:=ex (Mi.set f (.vec 30 8 cs g a));rw[<-c]at d;have s:M2[b]?=some (.cells 30 (A3m u (.vref f g 8 0 u.kids.length))):=by rw[c,Z0f Q0];exact m
 have v:A0k (some 1) M2 (.ptr b 7) (.vref f g 8 0 (u.kids.length-1))=some (M2.set b (.cells 30 (A3m u (.vref f g 8 0 (u.kids.length-1))))):=by rw[A0f s];rfl
 have l:b<M2.length:=(Z0a.1 s).1;have z:A0M prog 28 Mi (.ptr b 7)=some (.vref f g 8 0 u.kids.length):=by rw[A0b m];simp[A3m]
 have w1:IntKind.i64.wrap ((i:Int)+1)=(i:Int)+1:=by rw[A0R Q0 Q0]
 refine A0t hB func222 ?_;simp -dsimp;refine A0Z hB (A0E gl) (λk=>if k=4\/k=5\/k=6 then 1 else if k=8\/k=11 then 2 else 0) (λk=>if k=4 then b else q) (by rfl) Q2 ?_;simp -dsimp[z,A0b x,A1g,A5S,w1];refine A5x (A0m func223 rfl rfl d) ?_;simp -dsimp[v];have p:(B0s i u).kids.length=u.kids.length-1:=by show(u.kids.eraseIdx i).length=_;rw[List.length_eraseIdx_of_lt hi]
 refine⟨.vref f g 8 0 (u.kids.length-1),by simp[l,B0s,B1M,A0a.id,A0a.kind,A0a.label,A0a.head,A0a.words],⟨by simp[c],λj hj ho=>?_⟩,.inr ⟨f,g,_,cs,g,a,y,by rw[p],?_,k2,Q0,by rw[p];exact k1⟩⟩
 .have a3:j≠f:=λe=>ho (by simp[e]);by_cases hib:j=b
  .subst hib;simp at hj;simp[l,hj]
  .have e1:b≠j:=Q0;have e2:f≠j:=Q0;simp only[Z0f e1,c,Z0f e2]
 .rw[Z0f Q0,c];simp[w]
def D9C(u x:A0a)(i:Nat)(hi:i<=u.kids.length)(aj:u.kids.length<=3000)(q p:Nat)(M:Mem)(hq:M[q]?=some (.cells 3 [I i]))(hp:M[p]?=some (.cells 30 x.row)):B8U gl u M 136 [.ptr q 0,.ptr p 0] (A8V i x u):=by
 intro n b kv Mi hn hb hg l ho m a0;have g:=hg.get hq Q1;have d:=hg.get hp Q1;have ap:q<M.length:=(Z0a.1 hq).1;have an:p<M.length:=(Z0a.1 hp).1;have aa:b<Mi.length:=(Z0a.1 l).1;obtain⟨r,hr⟩:=ex (Mi.length);obtain⟨M1,t⟩:=ex (Mi++[A0l.vec 30 8 x.row 0 [(0,1)]]);have a8:M1[r]?=some (.vec 30 8 x.row 0 [(0,1)]):=by rw[t,hr];simp
 have a:Grow Mi M1:=by rw[t];exact A0d.app none _ _
 have ao:r<M1.length:=(Z0a.1 a8).1;have af:=ho.keep a Q1;obtain⟨c,M2,a1,a2,a3,y⟩:=B9Y gl x u.kids i hi kv r [] M1 aj af a8 (λf hf=>by have:=ho.lt hf;omega);have s:A1K n c:=λf hf=>by
  rcases a3 with e|h
  .rw[e]at hf;exact m f hf
  .have:=h f hf;have:=hg.1;omega
 have w:=a.get l Q1;have v:M2[b]?=some (.cells 30 (A3m u kv)):=a2.get w a0;have o:b<M2.length:=(Z0a.1 v).1;have a7:∀f,obj c=some f->f≠b:=λf hf e=>by
  rcases a3 with h|h
  .rw[h]at hf;exact a0 (by rw[hf,e])
  .have:=h f hf;omega
 have ac:A0k (some 1) M2 (.ptr b 7) c=some (M2.set b (.cells 30 (A3m u c))):=by rw[A0f v,a1.cells,Z0c ⟨a1.store,by simp[A3m],rfl⟩];rfl
 have ai:A0M prog 28 Mi (.ptr b 7)=some kv:=by rw[A0b l];simp[A3m]
 have ak:A0M prog 30 Mi (.ptr p 0)=some (.agg x.row):=by rw[x.row_eq]at d|-;rw[A0b d];simp
 have ah:M1[b]?=Mi[b]?:=by rw[w,l]
 have ag:M1[q]?=Mi[q]?:=by rw[a.get g Q1,g]
 have al:M1[p]?=Mi[p]?:=by rw[a.get d Q1,d]
 have a6:M2[b]?=M1[b]?:=by rw[v,w]
 have a4:∀j,j<n->obj kv≠some j:=λj hj e=>by have:=m j e;omega
 have z:M2[q]?=M1[q]?:=by rw[a2.get (a.get g Q1) (a4 q Q0),a.get g Q1]
 have a5:M2[p]?=M1[p]?:=by rw[a2.get (a.get d Q1) (a4 p Q0),a.get d Q1]
 have am:∀X j,j<n->(M2.set b X)[j]?=M2[j]?:=λX j hj=>Z0f Q0;refine A0m func136 rfl rfl ?_;refine A0t hIn func136 ?_;simp -dsimp;refine A6S hIn (A0E gl) (λk=>if k=4\/k=5\/k=6 then 1 else if k=7\/k=8\/k=11 then 2 else 0) (λk=>if k=4 then b else if k=5 then q else p) (λi k=>k==11) (λk=>if k=11 then[]else[b,q,p]) (by intro i k _ h;by_cases h11:k=11<;>simp[h11]at h|-<;>by_cases h4:i=4<;>by_cases h5:i=5<;>simp[h4,h5]) (by rfl) Q2 ?_;have ab:A1B prog 28 1 [(0,.agg x.row)] Mi=some (.vref r 0 8 0 1,M1):=by simp[A1B,A1e,A0o,A0n,hr,t]
 simp -dsimp[ai,ak,A0b g,A1g,A5S,ab,ah,ag,al];refine A5x (A0m func137 rfl rfl y) ?_;simp -dsimp[ac,a6,z,a5];have a9:A3m (A8V i x u) c=A3m u c:=by cases u;rfl
 have ad:(A8V i x u).kids=u.kids.take i++x::u.kids.drop i:=by cases u;rfl
 refine⟨c,by simp[o,a9],⟨by simpa using Nat.le_trans a.1 a2.1,λj hj ho=>?_⟩,by rw[ad];exact A5h.of (a1.keep (A0d.set _ _ _) (λf hf e=>a7 f hf (by simpa using e.symm))) s⟩;have ae:j<Mi.length:=by simpa using hj
 by_cases hib:j=b
 .subst hib;simp[o,aa]
 .have e1:b≠j:=Q0;simp only[Z0f e1];rw[a2.2 j (by have:=a.1;omega) ho,a.2 j ae Q1]
def D9J(u x:A0a)(i:Nat)(hi:i<=u.kids.length)(ag:u.kids.length<=3000)(q:Nat)(M:Mem)(hq:M[q]?=some (.cells 3 [I i])):B8U gl u M 147 [.ptr q 0,.cptr x.row] (A8V i x u):=by
 intro n b kv Mi hn hb hg g ho l y;have d:=hg.get hq Q1;have ak:q<M.length:=(Z0a.1 hq).1;have a6:b<Mi.length:=(Z0a.1 g).1;obtain⟨r,hr⟩:=ex (Mi.length);obtain⟨M1,p⟩:=ex (Mi++[A0l.vec 30 8 x.row 0 [(0,1)]]);have a4:M1[r]?=some (.vec 30 8 x.row 0 [(0,1)]):=by rw[p,hr];simp
 have a:Grow Mi M1:=by rw[p];exact A0d.app none _ _
 have aj:r<M1.length:=(Z0a.1 a4).1;have ac:=ho.keep a Q1;obtain⟨c,M2,a1,a2,a3,v⟩:=B9Y gl x u.kids i hi kv r [] M1 ag ac a4 (λf hf=>by have:=ho.lt hf;omega);have o:A1K n c:=λf hf=>by
  rcases a3 with e|h
  .rw[e]at hf;exact l f hf
  .have:=h f hf;have:=hg.1;omega
 have t:=a.get g Q1;have s:M2[b]?=some (.cells 30 (A3m u kv)):=a2.get t y;have m:b<M2.length:=(Z0a.1 s).1;have a0:∀f,obj c=some f->f≠b:=λf hf e=>by
  rcases a3 with h|h
  .rw[h]at hf;exact y (by rw[hf,e])
  .have:=h f hf;omega
 have a9:A0k (some 1) M2 (.ptr b 7) c=some (M2.set b (.cells 30 (A3m u c))):=by rw[A0f s,a1.cells,Z0c ⟨a1.store,by simp[A3m],rfl⟩];rfl
 have af:A0M prog 28 Mi (.ptr b 7)=some kv:=by rw[A0b g];simp[A3m]
 have ah:A0M prog 30 Mi (.cptr x.row)=some (.agg x.row):=by rw[x.row_eq];simp
 have ae:M1[b]?=Mi[b]?:=by rw[t,g]
 have ad:M1[q]?=Mi[q]?:=by rw[a.get d Q1,d]
 have z:M2[b]?=M1[b]?:=by rw[s,t]
 have a8:∀j,j<n->obj kv≠some j:=λj hj e=>by have:=l j e;omega
 have w:M2[q]?=M1[q]?:=by rw[a2.get (a.get d Q1) (a8 q Q0),a.get d Q1]
 have ai:∀X j,j<n->(M2.set b X)[j]?=M2[j]?:=λX j hj=>Z0f Q0;refine A0m func147 rfl rfl ?_;refine A0t hIn func147 ?_;simp -dsimp;refine A6S hIn (A0E gl) (λk=>if k=4\/k=5 then 1 else if k=7\/k=8\/k=11 then 2 else 0) (λk=>if k=4 then b else q) (λi k=>k==11) (λk=>if k=11 then[]else[b,q]) (by intro i k _ h;by_cases h11:k=11<;>simp[h11]at h|-<;>by_cases h4:i=4<;>simp[h4]) (by rfl) Q2 ?_;have a7:A1B prog 28 1 [(0,.agg x.row)] Mi=some (.vref r 0 8 0 1,M1):=by simp[A1B,A1e,A0o,A0n,hr,p]
 simp -dsimp[af,ah,A0b d,A1g,A5S,a7,ae,ad];refine A5x (A0m func137 rfl rfl v) ?_;simp -dsimp[a9,z,w];have a5:A3m (A8V i x u) c=A3m u c:=by cases u;rfl
 have aa:(A8V i x u).kids=u.kids.take i++x::u.kids.drop i:=by cases u;rfl
 refine⟨c,by simp[m,a5],⟨by simpa using Nat.le_trans a.1 a2.1,λj hj ho=>?_⟩,by rw[aa];exact A5h.of (a1.keep (A0d.set _ _ _) (λf hf e=>a0 f hf (by simpa using e.symm))) o⟩;have ab:j<Mi.length:=by simpa using hj
 by_cases hib:j=b
 .subst hib;simp[m,a6]
 .have e1:b≠j:=Q0;simp only[Z0f e1];rw[a2.2 j (by have:=a.1;omega) ho,a.2 j ab Q1]
def E0j(u:A0a)(ws:List A0z)(q:Nat)(M:Mem)(hq:M[q]?=some (.cells 27 [.list 4 (A0i ws) .no])):B8U gl u M 140 [.ptr q 0] (B2n ws u):=by
 intro n b kv Mi hn hb hg c ho a g;have i:=hg.get hq Q1;have d:b<Mi.length:=(Z0a.1 c).1;have k:A0k (some 1) Mi (.ptr b 6) (.list 4 (A0i ws) .no)=some (Mi.set b (.cells 30 (A3m (B2n ws u) kv))):=by rw[A0f c];rfl
 refine A0m func140 rfl rfl ?_;refine A0t hB func140 ?_;simp -dsimp[A0b i,k];refine⟨kv,by simp[d],⟨Q1,λj hj ho=>?_⟩,A5h.of (l:=(B2n ws u).kids) (ho.keep (A0d.set _ _ _) (λf hf e=>by simp at e;subst e;exact g hf)) a⟩;rfl
def D9H(u:A0a)(ws:List A0z)(q:Nat)(M:Mem)(hq:M[q]?=some (.cells 27 [.list 4 (A0i ws) .no])):B8U gl u M 142 [.ptr q 0] (B2n ws u):=by
 intro n b kv Mi hn hb hg c ho a g;have i:=hg.get hq Q1;have d:b<Mi.length:=(Z0a.1 c).1;have k:A0k (some 1) Mi (.ptr b 6) (.list 4 (A0i ws) .no)=some (Mi.set b (.cells 30 (A3m (B2n ws u) kv))):=by rw[A0f c];rfl
 refine A0m func142 rfl rfl ?_;refine A0t hB func142 ?_;simp -dsimp[A0b i,k];refine⟨kv,by simp[d],⟨Q1,λj hj ho=>?_⟩,A5h.of (l:=(B2n ws u).kids) (ho.keep (A0d.set _ _ _) (λf hf e=>by simp at e;subst e;exact g hf)) a⟩;rfl
def E1g(u:A0a)(ws:List A0z)(q:Nat)(M:Mem)(hq:M[q]?=some (.cells 27 [.list 4 (A0i ws) .no])):B8U gl u M 144 [.ptr q 0] (B9s ws u):=by
 intro n b kv Mi hn hb hg c ho a g;have i:=hg.get hq Q1;have d:b<Mi.length:=(Z0a.1 c).1;have k:A0k (some 1) Mi (.ptr b 5) (.list 4 (A0i ws) .no)=some (Mi.set b (.cells 30 (A3m (B9s ws u) kv))):=by rw[A0f c];rfl
 refine A0m func144 rfl rfl ?_;refine A0t hB func144 ?_;simp -dsimp[A0b i,k];refine⟨kv,by simp[d],⟨Q1,λj hj ho=>?_⟩,A5h.of (l:=(B9s ws u).kids) (ho.keep (A0d.set _ _ _) (λf hf e=>by simp at e;subst e;exact g hf)) a⟩;rfl
def E0B(u:A0a)(d:EnD)(M:Mem):B8U gl u M 146 [.cptr d.row] (A5R d.it.h.lab u):=by
 intro n b kv Mi hn hb hg c ho a i;have g:b<Mi.length:=(Z0a.1 c).1;have k:A0k (some 1) Mi (.ptr b 4) (S d.it.h.lab)=some (Mi.set b (.cells 30 (A3m (A5R d.it.h.lab u) kv))):=by rw[A0f c];rfl
 rw[EnD.row,d.it.row_eq,A1Q.row];refine A0m func146 rfl rfl ?_;refine A0t hB func146 ?_;simp -dsimp[k];refine⟨kv,by simp[g],⟨Q1,λj hj ho=>?_⟩,A5h.of (l:=(A5R d.it.h.lab u).kids) (ho.keep (A0d.set _ _ _) (λf hf e=>by simp at e;subst e;exact i hf)) a⟩;rfl
end
end Go.Abs
