/- The texts EhJ, EhC, EhD, EhE. -/
import Derived.Test.YtjmjekcaifkboaaGreatDoorQG27
import Derived.Test.YtjmjekcaifkboaaGreatDoorQG18
import Derived.Test.YtjmjekcaifkboaaGreatDoorQG26
import Derived.Test.YtjmjekcaifkboaaGreatDoorQG25
set_option linter.all false
set_option maxRecDepth 1000000
namespace Go.Abs
open Go.Proofs TryTypes Tryz
def B7v{C:Ctx}{G:A0q}{M:Mem}{w:World}(hi:Inv C G M w){f h s lo len n:Nat}{ty s':Nat}{cs:List AV}{g:Nat}{c:List (Nat×Nat)}{x:Value}(hr:Rep G (.vref f h s lo len) x)
 (hM:M[f]?=some (.vec ty s cs g c))(hn:c.lookup h=some n)(d:lo+len<=n)(h0:0<len):
 ∃b off cap vs,x=.slice (some ⟨b,off,none⟩) len cap/\len<=cap/\cap<=maxLen/\A3p G f (.vec ty s cs g c) b/\w.heap[b]?=some (.cells vs ty (0,0))/\off+cap*s<=vs.size/\A0v G ((cs.drop (lo*s)).take (len*s)) ((vs.toList.drop off).take (len*s))/\(∀v∈(vs.toList.drop off).take (len*s),v.oneCell'=true)/\(∀i,G.st b i=none)/\G.keep b=none:=by
 simp only[Rep]at hr
 obtain⟨hf,hg,a,a',cap,hd,q,l,rfl,r,p,k⟩:=hr
 obtain⟨_,p2,_⟩:=hi.obj f _ hM
 have e:=A2S hn
 obtain⟨_,q0,b,o,m,vs,q1,q2,q3,q4,q5,q6,q7,q8,q9⟩:=p2 h n e
 have j:A3p G f (.vec ty s cs g c) b:=⟨h,n,_,e,congrArg Prod.fst q1,rfl⟩
 rw[hd]at q1
 simp only[Z0i,Z0b]at q1
 obtain⟨rfl,rfl⟩:=q1
 have ha:=k Q0
 subst ha
 have e1:(((vs.toList.drop o).take (n*s)).drop (lo*s)).take (len*s)=(vs.toList.drop (o+lo*s)).take (len*s):=by
  rw[Z2K,Z2b,Z1Y,Z1F];have:lo*s+len*s<=n*s:=by rw[<-Z0R];exact Z0V _ d
  omega
 have e2:((cs.take (n*s)).drop (lo*s)).take (len*s)=(cs.drop (lo*s)).take (len*s):=by
  rw[Z2K,Z1Y,Z1F];have:lo*s+len*s<=n*s:=by rw[<-Z0R];exact Z0V _ d
  omega
 have hR:=(q6.drop (lo*s)).take (len*s)
 rw[e1,e2]at hR
 refine⟨b,o+lo*s,cap-lo,vs,rfl,Q0,Q0,j,q4,?_,hR,?_,q8,q9⟩
 .have:lo*s+(cap-lo)*s=cap*s:=by rw[<-Z0R];congr 1;omega
  omega
 .rw[<-e1];intro v hv;exact q7 v (Z1w (Z1x hv))
def D0S{C:Ctx}(hP:C.P=prog){f t lo len i f2 t2 lo2 m n n2 tm am:Nat}{a6:Nat}{cs a8:List AV}{z u:List (Nat×Nat)}{M:Mem}(hM:M[f]?=some (.vec 31 8 cs tm z))(hn:z.lookup t=some n)
 (af:M[f2]?=some (.vec a6 8 a8 am u))(ao:u.lookup t2=some n2)(a5:lo2+m<=n2)(ah:f≠f2)(ab:lo+len<=n)(a0:i<len)(hm:0<m)(hb:(len+m)*120<=140737488355328):
 A0c C 171 [.vref f t 8 lo len,.val (.int .i64 i),.vref f2 t2 8 lo2 m] M (λr M'=>r=.vref f (tm+1) 8 0 (len+m)/\M'=M.set f (.vec 31 8 (((cs.drop (lo*8)).take (len*8)).take (i*8)++(a8.drop (lo2*8)).take (m*8)++((cs.drop (lo*8)).take (len*8)).drop (i*8)) (tm+1) [(tm+1,len+m)])):=by
 intro G w vs hi hr
 rw[hP]
 simp only[A0v]at hr
 obtain⟨y1,_,rfl,h1,y2,_,rfl,h2,y3,_,rfl,h3,rfl⟩:=hr
 simp only[Rep]at h2
 subst h2
 obtain⟨b,off,cap,c,rfl,k1,k2,k3,k4,k5,k6,k7,k8,k9⟩:=B7v (s':=8) hi h1 hM hn ab Q0
 obtain⟨vb,o,y,p,rfl,l1,l2,l3,l4,l5,l6,l7,_,_⟩:=B7v (s':=8) hi h3 af ao a5 hm
 have al:vb≠b:=λe=>by subst e;exact ah (hi.apart f f2 _ _ _ hM af k3 l3)
 simp only[maxLen]at k2
 obtain⟨olds,q⟩:=ex ((c.toList.drop off).take (len*8))
 obtain⟨nv,a3⟩:=ex ((p.toList.drop o).take (m*8))
 rw[<-q]at k6 k7
 rw[<-a3]at l6 l7
 have aa:olds.length=len*8:=by rw[q,Z0t,Z0G,Z0X];omega
 have d:nv.length=m*8:=by rw[a3,Z0t,Z0G,Z0X];omega
 have ac:∀j v,nv[j]?=some v->w.cell? ⟨vb,o+j,none⟩=some v:=λj v hj=>by
  rw[a3,Z0B]at hj;split at hj
  .rw[Z0H]at hj;simp only[World.cell?,l4];simpa using hj
  .simp at hj
 have x:A0v G (((cs.drop (lo*8)).take (len*8)).take (i*8)++(a8.drop (lo2*8)).take (m*8)++((cs.drop (lo*8)).take (len*8)).drop (i*8)) (olds.take (i*8)++nv++olds.drop (i*8)):=((k6.take (i*8)).append l6).append (k6.drop (i*8))
 have a4:(olds.take (i*8)++nv++olds.drop (i*8)).length=(len+m)*8:=by simp only[Z0k,Z0t,Z0G,aa,d];omega
 have k:=x.length
 rw[a4]at k
 have a1:∀v∈olds.take (i*8)++nv++olds.drop (i*8),v.oneCell'=true:=λv hv=>by
  rcases Z0N.1 hv with hv|hv
  .rcases Z0N.1 hv with hv|hv
   .exact k7 v (Z1x hv)
   .exact l7 v hv
  .exact k7 v (Z1w hv)
 have ag:(olds.drop (i*8)).length=(len-i)*8:=by rw[Z0G,aa];omega
 by_cases hroom:len+m<=cap
 .refine Z1E (D4w b off len cap i vb o m y c p a6 olds nv w a0 hm hroom k2 al k4 k5 q k7 l4 d ac l7) ?_;rintro e w' ⟨rfl,rfl⟩;obtain⟨L1,g⟩:=ex (ow c.toList (off+(i*8+m*8)) (olds.drop (i*8)));have s:L1.length=c.size:=by rw[g,B1h (by rw[ag,Z0X];omega),Z0X]
  obtain⟨L2,l⟩:=ex (ow L1 (off+i*8) nv);have ae:L2.length=c.size:=by rw[l,B1h (by rw[d];omega),s]
  rw[<-g,<-l];have a2:(w.drew.setRow b L1.toArray).heap[b]?=some (.cells L1.toArray 31 (0,0)):=Z2L w.drew b c L1.toArray 31 (0,0) k4;have a9:((w.drew.setRow b L1.toArray).setRow b L2.toArray).heap[b]?=some (.cells L2.toArray 31 (0,0)):=Z2L _ b L1.toArray L2.toArray 31 (0,0) a2;have a:(L2.toArray.toList.drop off).take ((len+m)*8)=olds.take (i*8)++nv++olds.drop (i*8):=by rw[show(L2.toArray.toList:List Value)=L2 from rfl,l,g,show(len+m)*8=len*8+m*8 by omega];exact C3U c.toList off (i*8) (m*8) (len*8) nv olds Q0 (by rw[Z0X];omega) d q
  obtain⟨G',g1,g2,g3⟩:=hi.retime hM (w1:=(w.drew.setRow b L1.toArray).setRow b L2.toArray) (.inl k3) (λb' hlt hne'=>by rw[Z2o _ _ _ _ hne',Z2o _ _ _ _ hne'];rfl) a9 hroom (by simp only[maxLen];omega) (by simp only[Z1r];omega) a x k.symm a1 k8 k9;exact⟨_,_,G',_,rfl,⟨rfl,rfl⟩,g1,g2,g3,((Ext.drew w).trans (Ext.setRow _ _ _)).trans (Ext.setRow _ _ _)⟩
 .obtain⟨R,hR,an,a7⟩:=D3j b off len cap i vb o m y c p a6 olds nv w a0 hm k1 Q0 hb k4 k5 q k7 l4 d ac l7;refine Z1E a7 ?_;rintro e w' ⟨rfl,rfl⟩;have ai:len+m<=maxLen:=by unfold maxLen;omega
  have aj:=Z3F w (len+m) cap 31;have ap:=Z2P w (len+m) cap 31 ai;generalize grownCap w (len+m) cap 31=nc at*;obtain⟨L1,g⟩:=ex (ow R (i*8) nv);have s:L1.length=nc*8:=by rw[g,B1h (by rw[d,hR];omega),hR]
  obtain⟨L2,l⟩:=ex (ow L1 (i*8+m*8) (olds.drop (i*8)));have ae:L2.length=nc*8:=by rw[l,B1h (by rw[ag];omega),s]
  rw[<-g,<-l];have hN:(w.drew.alloc (.cells R.toArray 31)).heap[w.heap.size]?=some (.cells R.toArray 31 (0,0)):=Z1Z w.drew _;have a2:((w.drew.alloc (.cells R.toArray 31)).setRow w.heap.size L1.toArray).drew.heap[w.heap.size]?=some (.cells L1.toArray 31 (0,0)):=Z2L _ w.heap.size R.toArray L1.toArray 31 (0,0) hN;have a9:(((w.drew.alloc (.cells R.toArray 31)).setRow w.heap.size L1.toArray).drew.setRow w.heap.size L2.toArray).heap[w.heap.size]?=some (.cells L2.toArray 31 (0,0)):=Z2L _ w.heap.size L1.toArray L2.toArray 31 (0,0) a2;have a:(L2.toArray.toList.drop 0).take ((len+m)*8)=olds.take (i*8)++nv++olds.drop (i*8):=by rw[show(L2.toArray.toList:List Value)=L2 from rfl,l,g,show(len+m)*8=len*8+m*8 by omega];exact C8f R nv olds (i*8) (m*8) (len*8) Q0 aa d (by rw[hR];omega) an
  have ad:∀i,G.st w.heap.size i=none:=by
   intro i;cases h:G.st w.heap.size i with
   |none=>rfl
   |some v=>have:=hi.st_lt h;simp at this
  have ak:G.keep w.heap.size=none:=by
   cases h:G.keep w.heap.size with
   |none=>rfl
   |some v=>have:=hi.keep_lt h;simp at this
  obtain⟨G',g1,g2,g3⟩:=hi.retime hM (w1:=((w.drew.alloc (.cells R.toArray 31)).setRow w.heap.size L1.toArray).drew.setRow w.heap.size L2.toArray) (.inr (Z0j _)) (λb' hlt hne'=>by rw[Z2o _ _ _ _ hne'];exact(Z2o _ _ _ _ hne').trans (A2N w.drew _ b' hlt)) a9 aj ap (by simp only[Z1r];omega) a x k.symm a1 ad ak;exact⟨_,_,G',_,rfl,⟨rfl,rfl⟩,g1,g2,g3,((((Ext.drew w).trans (Ext.alloc _ _)).trans (Ext.setRow _ _ _)).trans (Ext.drew _)).trans (Ext.setRow _ _ _)⟩
def C6E(a c:List AV)(n:Nat)(h:n<=a.length):(A0e a n c).take n=a.take n:=by unfold A0e;rw[Z0F,Z1D ZAB,Z1Y,Nat.min_self]
def C3J{M:Mem}{n f g m:Nat}{ok:AV->Prop}{e g':Nat}{cs:List AV}{a:List (Nat×Nat)}{l:List A0a}(hf:n<=f)(hm:M[f]?=some (.vec e 8 cs g' a))(hl:a.lookup g=some m)(i:l.length<=m)(b:cs.take (l.length*8)=l.flatMap A0a.row) (d:∀x:A0a,∀c∈x.row,ok c):Still M n ok [.vref f g 8 0 l.length] [.list 8 (A0t l) .no]:=by
 refine .vec hf hm hl i (A9Q l) (λr hr=>?_) ?_ .nil
 .rw[A3h]at hr;obtain⟨x,_,rfl⟩:=Z0C.1 hr;exact x.row_len
 .rw[b,A8k];exact Still.refl λc hc=>by obtain⟨x,_,hx⟩:=Z1M.1 hc;exact d x c hx
section
variable (gl:Nat->AV)
set_option maxHeartbeats 1000000 in
def D1O(l:List A0a)(i:Nat)(hi:i<l.length)(f g g':Nat)(a:List (Nat×Nat))(M:Mem)(a7:l.length<=3000)(hm:M[f]?=some (.vec 31 8 (l.flatMap A0a.row) g' a))(hl:a.lookup g=some l.length):∃cs hist',cs.take ((l.length-1)*8)=(l.eraseIdx i).flatMap A0a.row/\hist'.lookup g=some l.length/\A0c (WC gl) 250 [.vref f g 8 0 l.length,I i,I ((i:Int)+1)] M (λr M'=>r=.vref f g 8 0 (l.length-1)/\M'=M.set f (.vec 31 8 cs g' hist')):=by
 obtain⟨N,hN⟩:=ex (l.length)
 obtain⟨n,hn⟩:=ex (N-1)
 rw[<-hN]at a7 hl hi|-
 rw[<-hn]
 have a9:N=n+1:=Q0
 have a3:f<M.length:=(Z0a.1 hm).1
 have d:(l.flatMap A0a.row).length=N*8:=by rw[A2d A0a.row_len,hN]
 obtain⟨c0,p⟩:=ex (l.flatMap A0a.row)
 obtain⟨tl,q⟩:=ex ((l.drop (i+1)).flatMap A0a.row)
 obtain⟨hd,s⟩:=ex ((l.take i).flatMap A0a.row)
 have b:tl.length=(n-i)*8:=by rw[q,A2d A0a.row_len,Z0G];congr 1;omega
 have j:hd.length=i*8:=by rw[s,A2d A0a.row_len,Z0t];congr 1;omega
 have a6:c0.drop ((i+1)*8)=tl:=by rw[p,q,A3q A0a.row_len]
 have u:c0.take (i*8)=hd:=by rw[p,s,A7b A0a.row_len]
 have a4:(l.eraseIdx i).flatMap A0a.row=hd++tl:=by rw[Z2y,Z1n,s,q]
 rw[a4]
 rw[<-p]at d hm
 have o:A1Q prog 25 (.vref f g 8 0 N) (some (I i)) (some (I ((i:Int)+1))) (some (I N))=none:=by have h1:¬(N=i):=Q0;have h2:((i:Int)+1)<=N:=Q0;have h3:(0:Int)<=(i:Int)+1:=Q0;have h4:(i:Int)<=(i:Int)+1:=Q0;have h5:((i:Int)+1).toNat=i+1:=Q0;simp[A1Q,A4d,A7K,A1s,A8L,h1,h2,h3,h4,h5]
 have m:A3W prog 25 M (.vref f g 8 0 N) (some (I i)) (some (I ((i:Int)+1))) (some (I N))=some .poison:=by have h2:((i:Int)+1)<=N:=Q0;have h3:(0:Int)<=(i:Int)+1:=Q0;have h4:(i:Int)<=(i:Int)+1:=Q0;have h5:((i:Int)+1).toNat=i+1:=Q0;simp[A3W,hm,hl,A7K,A1s,A8L,h2,h3,h4,h5]
 have v:A1Q prog 25 (.vref f g 8 0 N) none (some (I i)) none=some (.vref f g 8 0 i):=by have h1:(i:Int)<=N:=Q0;simp[A1Q,A4d,A7K,A1s,A8L,h1]
 have w:A1Q prog 25 (.vref f g 8 0 N) (some (I ((i:Int)+1))) none none=some (.vref f g 8 (i+1) (n-i)):=by have h1:(i:Int)+1<=N:=Q0;have h2:N-(i+1)=n-i:=Q0;have h3:(0:Int)<=(i:Int)+1:=Q0;have h5:((i:Int)+1).toNat=i+1:=Q0;simp[A1Q,A4d,A7K,A1s,A8L,h1,h2,h3,h5]
 have t:A0D M 8 (.vref f g 8 (i+1) (n-i))=some (tl,n-i):=by simp only[A0D,hm,hl];rw[Z0c ⟨trivial,trivial,Q0⟩,a6,Z0e Q0]
 have a2:A0D M 8 (.vref f g 8 0 i)=some (hd,i):=by simp only[A0D,hm,hl];rw[Z0c ⟨trivial,trivial,Q0⟩,Z1S,Z1z,u]
 have hb:(i+(n-i))*120<=140737488355328:=Q0
 have a0:¬((i:Int)=(i:Int)+1):=Q0
 /- behind the append -/
 have tail:∀(c1:List AV) (h1:List (Nat×Nat)) (M1:Mem),c1.length=N*8->c1.take (n*8)=hd++tl->h1.lookup g=some N->M1[f]?=some (.vec 31 8 c1 g' h1)->
  ∃c2,c2.take (n*8)=hd++tl/\(A0Q 8 g (n*8) h1).lookup g=some N/\A1Q prog 25 (.vref f g 8 0 n) (some (I n)) (some (I N)) none=none/\A3W prog 25 M1 (.vref f g 8 0 n) (some (I n)) (some (I N)) none=some (.vref f g 8 n 1)/\A7L prog 25 M1 (.vref f g 8 n 1)=some (.tuple [],M1.set f (.vec 31 8 c2 g' (A0Q 8 g (n*8) h1))):=by
  intro c1 h1 M1 ab a5 hh z
  refine⟨A0e c1 (n*8) zU,?_,?_,?_,?_,?_⟩
  .rw[C6E _ _ _ Q0];exact a5
  .unfold A0Q;exact A3K _ hh
  .have:¬(N:Int)<=n:=Q0;simp[A1Q,A4d,A7K,A1s,A8L,this]
  .have h2:N-n=1:=Q0;have h3:(n:Int)<=N:=Q0;simp[A3W,z,hh,A4d,A7K,A1s,A8L,h2,h3]
  .have h2:n+1<=N:=Q0;simp[A7L,z,hh,h2,zU]
 refine(?_:∃cs hist',_)
 by_cases h0:n=i
 .have x:tl=[]:=Z0w (by rw[b];omega);have c:A0D M 8 (.vref f g 8 (i+1) (n-i))=some ([],0):=by rw[t,x,show n-i=0 by omega]
  have aa:n-i=0:=Q0;obtain⟨c2,k1,k2,k3,k4,k5⟩:=tail c0 a M d (by rw[x,Z1b,h0,u]) hl hm;refine⟨c2,A0Q 8 g (n*8) a,k1,k2,?_⟩;refine A0r hB func250 ?_;simp -dsimp[o,m,a0];refine A0X hB (A0B gl) (λk=>if k=6 then 2 else 0) (λ_=>0) (by rfl) Q2 ?_;simp -dsimp[v,w];refine A5n (e:=31) (sz:=8) (bytes:=120) A8p B2D B1H a2 c Q0 ?_ ?_
  .simp only[A5q,c,hm,hl];rw[Z0d Q0]
  simp only[A6u,c,hm,hl];rw[Z0c ⟨trivial,trivial,trivial,Q0⟩,Z0c trivial];rw[h0]at k3 k4 k5|-;simp -dsimp[k3,k4,k5]
 .have a8:0<n-i:=Q0;obtain⟨M1,e1⟩:=ex (M.set f (.vec 31 8 (A0e c0 (i*8) tl) g' (A0Q 8 g (i*8) a)));have y:M1[f]?=some (.vec 31 8 (A0e c0 (i*8) tl) g' (A0Q 8 g (i*8) a)):=by rw[e1];simp[a3]
  obtain⟨c2,k1,k2,k3,k4,k5⟩:=tail (A0e c0 (i*8) tl) (A0Q 8 g (i*8) a) M1 (by unfold A0e;simp only[Z0k,Z0t,Z0G,b,d];omega) (by unfold A0e;rw[u,Z1D (by rw[Z0k,j,b];omega),Z0e (by rw[Z0k,j,b];omega)]) (by unfold A0Q;exact A3K _ hl) y;have e2:∀X,M1.set f X=M.set f X:=λX=>by rw[e1,Z2q]
  rw[e2]at k5;refine⟨c2,_,k1,k2,?_⟩;refine A0r hB func250 ?_;simp -dsimp[o,m,a0];refine A0X hB (A0B gl) (λk=>if k=6 then 2 else 0) (λ_=>0) (by rfl) Q2 ?_;simp -dsimp[v,w];have a1:A5q 31 8 (.vref f g 8 0 i) (.vref f g 8 (i+1) (n-i)) M=some (.vref f g 8 0 n,M1):=by simp only[A5q,t,hm,hl];rw[Z0c ⟨trivial,trivial,trivial,a8,Q0⟩,e1,Z0P,show i+(n-i)=n by omega]
  refine E1M (e:=31) (sz:=8) (bytes:=120) A8p B2D B1H a2 t hb a1 ?_;clear e1 y a1;simp -dsimp[k3,k4,k5]
def C0R(x:A0a)(l:List A0a)(i:Nat)(hi:i<=l.length)(v:AV)(q:Nat)(k:List (Nat×Nat))(M:Mem)(u:l.length<=3000)(ho:A1r 31 8 A0a.row M v l)(hq:M[q]?=some (.vec 31 8 x.row 0 [(0,1)]))(j:∀f,obj v=some f->f≠q):∃v' M',A1r 31 8 A0a.row M' v' (l.take i++x::l.drop i)/\A0d (obj v) M M'/\(obj v'=obj v\/A1L M.length v')/\A0c (WC gl) 171 [v,I i,.vref q 0 8 0 1] M (λr M1=>r=v'/\M1=M'):=by
 have hx:A0D M 8 (.vref q 0 8 0 1)=some (x.row,1):=by simp only[A0D,hq];rw[show([(0,1)]:List (Nat×Nat)).lookup 0=some 1 from rfl];simp
 rcases ho with⟨rfl,rfl⟩|⟨f,g,d,rfl,hm,hl⟩
 .have y:i=0:=by simpa using hi
  subst y;refine⟨.vref M.length 0 8 0 1,M++[.vec 31 8 x.row 0 [(0,1)]],.inr ⟨M.length,0,[(0,1)],rfl,Q1,ZAQ⟩,.app _ _ _,.inr (λf hf=>by simp at hf;omega),?_⟩;have hs:A1Q prog 25 (.val (.slice none 0 0)) (some (I 0)) none none=some (.val (.slice none 0 0)):=Q2;refine A0r hV func171 ?_;simp -dsimp[hs];refine A5n (e:=31) (sz:=8) (bytes:=120) A8p B2D B1H (by rfl) hx Q0 (by simp only[A5q,hx]) ?_;simp only[A6u,hx];simp -dsimp
 obtain⟨n,hn⟩:=ex (l.length)
 have z:=hl
 rw[<-hn]at u hl hi|-
 have a0:(l.flatMap A0a.row).length=n*8:=by rw[A2d A0a.row_len,hn]
 have b:f<M.length:=(Z0a.1 hm).1
 by_cases hin:i=n
 .subst hin;have w:l.take i++x::l.drop i=l++[x]:=by rw[Z0e Q0,Z1u Q0]
  rw[w];have hs:A1Q prog 25 (.vref f g 8 0 i) (some (I i)) none none=some (.vref f g 8 i 0):=by simp[A1Q,A4d,A7K,A1s,A8L]
  have o:A0D M 8 (.vref f g 8 0 i)=some (l.flatMap A0a.row,i):=by simp only[A0D,hm,hl];rw[Z0c ⟨trivial,trivial,Q0⟩,Z1S,Z1z,Z0e Q0]
  have s:(l.flatMap A0a.row++x.row)=(l++[x]).flatMap A0a.row:=by simp[Z1n]
  obtain⟨a,hh⟩:∃a,a=(g+1,i+1)::d.filter (λp:Nat×Nat=>decide (p.2<=i)):=⟨_,rfl⟩;obtain⟨M',c⟩:∃M',M'=M.set f (.vec 31 8 ((l++[x]).flatMap A0a.row) (g+1) a):=⟨_,rfl⟩;refine⟨.vref f (g+1) 8 0 (i+1),M',.inr ⟨f,g+1,a,by rw[Z0k,<-hn];rfl,?_,?_⟩,by rw[c];exact .set _ f _,.inl rfl,?_⟩
  rotate_left 2
  .refine A0r hV func171 ?_;simp -dsimp[hs];refine A5n (e:=31) (sz:=8) (bytes:=120) A8p B2D B1H o hx Q0 ?_ ?_
   .simp only[A5q,hx,hm,hl];rw[Z0d Q0]
   simp only[A6u,hx,hm,hl];rw[Z0c ⟨trivial,trivial,trivial,Q0⟩,Z0d Q0,Z1S,Z1z,Z0e Q0,s];simp -dsimp[c,hh]
  .rw[c];simp[b]
  .rw[hh];simp[List.lookup,hn]
 have hlt:i<n:=Q0
 have key:=D0S (C:=WC gl) rfl (f:=f) (t:=g) (lo:=0) (len:=n) (i:=i) (f2:=q) (t2:=0) (lo2:=0) (m:=1) (n:=n) (n2:=1) hm hl hq rfl Q0 (j f rfl) Q0 hlt Q0 Q0
 have e1:((((l.flatMap A0a.row).drop (0*8)).take (n*8)).take (i*8)++(x.row.drop (0*8)).take (1*8)++(((l.flatMap A0a.row).drop (0*8)).take (n*8)).drop (i*8))=(l.take i++x::l.drop i).flatMap A0a.row:=by
  have hA:((l.flatMap A0a.row).drop (0*8)).take (n*8)=l.flatMap A0a.row:=by rw[Z1S,Z1z,Z0e Q0]
  have hB:(x.row.drop (0*8)).take (1*8)=x.row:=by rw[Z1S,Z1z,Z0e Q1]
  rw[hA,hB,A7b A0a.row_len,A3q A0a.row_len,Z1n,Z0y,Z0F]
 rw[e1]at key
 refine⟨.vref f (g+1) 8 0 (n+1),_,.inr ⟨f,g+1,[(g+1,n+1)],?_,by simp[b],?_⟩,.set _ f _,.inl rfl,key⟩
 .simp only[Z0k,Z0t,Z0r,Z0G,<-hn];congr 1;omega
 .simp only[Z0k,Z0t,Z0r,Z0G,<-hn];rw[show([(g+1,n+1)]:List (Nat×Nat)).lookup (g+1)=some (n+1)by simp[List.lookup]];congr 1;omega
end
def A5w(M:Mem)(n:Nat)(v:AV)(l:List A0a):Prop:=(v=.val (.slice none 0 0)/\l=[])\/∃f g m cs g' hist,n<=f/\v=.vref f g 8 0 l.length/\M[f]?=some (.vec 31 8 cs g' hist)/\hist.lookup g=some m/\l.length<=m/\cs.take (l.length*8)=l.flatMap A0a.row
def D0p(n:Nat)(x:A0a):∀c∈x.row,bdd n c:=by have h:=A1F n x;rw[x.row_eq]at h|-;simp only[A1i,Z1A]at h;obtain⟨h1,h2,h3,h4,h5,h6,h7,h8⟩:=h;intro c hc;simp only[Z0p,Z1H,Z2R]at hc;rcases hc with rfl|rfl|rfl|rfl|rfl|rfl|rfl|rfl<;>assumption
section
variable {M M':Mem} {n:Nat} {v:AV} {l:List A0a}
def A5w.still(h:A5w M n v l):Still M n (bdd n) [v] [.list 8 (A0t l) .no]:=by
 rcases h with⟨rfl,rfl⟩|⟨f,g,m,cs,g',a,h1,rfl,h2,h3,h4,h5⟩
 .rw[A0t];exact .nilS .nil
 .exact C3J h1 h2 h3 h4 h5 (D0p n)
def A5w.keep(h:A5w M n v l){o:Option Nat}(hk:A0d o M M')(ho:∀f,obj v=some f->o≠some f):A5w M' n v l:=by
 rcases h with⟨rfl,rfl⟩|⟨f,g,m,cs,g',a,h1,rfl,h2,h3,h4,h5⟩
 .exact .inl ⟨rfl,rfl⟩
 .exact .inr ⟨f,g,m,cs,g',a,h1,rfl,hk.get h2 (ho f rfl),h3,h4,h5⟩
def A5w.vec(h:A5w M n v l){f:Nat}(hf:obj v=some f):n<=f/\∃cs g' a,M[f]?=some (.vec 31 8 cs g' a):=by
 rcases h with⟨rfl,rfl⟩|⟨f',g,m,cs,g',a,h1,rfl,h2,h3,h4,h5⟩
 .simp at hf
 .simp at hf;subst hf;exact⟨h1,cs,g',a,h2⟩
def A5w.of(h:A1r 31 8 A0a.row M v l)(hl:A1L n v):A5w M n v l:=by
 rcases h with⟨rfl,rfl⟩|⟨f,g,a,rfl,hm,hh⟩
 .exact .inl ⟨rfl,rfl⟩
 .exact .inr ⟨f,g,l.length,_,g,a,hl f rfl,rfl,hm,hh,Z0j _,Z0e (by rw[A2d A0a.row_len];exact Z0j _)⟩
end
def B9H(gl:Nat->AV)(u:A0a)(M:Mem)(g:FuncId)(cap:List AV)(u':A0a):Prop:=∀(n b:Nat) (kv:AV) (Mi:Mem),M.length<=n->n<=b->Grow M Mi->Mi[b]?=some (.cells 31 (A3C u kv))->A1r 31 8 A0a.row Mi kv u.kids->A1L n kv->obj kv≠some b->A2Z (WC gl) g (.ptr b 0::cap) Mi (λ_ M'=>∃kv',M'[b]?=some (.cells 31 (A3C u' kv'))/\A0d (obj kv) (Mi.set b .gone) (M'.set b .gone)/\A5w M' n kv' u'.kids)
def B9H.later{gl:Nat->AV}{u u':A0a}{M M':Mem}{g:FuncId}{cap:List AV}(h:B9H gl u M g cap u')(hg:Grow M M'):B9H gl u M' g cap u':=λn b kv Mi h1 h2 h3 h4 h5 h6 h7=>h n b kv Mi (Z0J hg.1 h1) h2 (hg.trans h3) h4 h5 h6 h7
def B9u{x:IdD}{f:A0a->A0a}:∀{ks:List A0a},(∀k∈ks,A0N x k=none)->A8V x f ks=ks
 |[],_=>by rw[A8V]
 |k::ks,h=>by rw[A8V,h k Q1,B9u λq hq=>h q ZBH];rfl
def B5h{x:IdD}{f:A0a->A0a}:∀{ks:List A0a} {i:Nat} (hi:i<ks.length),(∀k∈ks.take i,A0N x k=none)->(A0N x ks[i]).isSome=true->A8V x f ks=ks.set i (A1A x f ks[i])
 |[],i,hi,_,_=>by simp at hi
 |k::ks,0,hi,_,h=>by rw[A8V,Z0c ZAJ];rfl
 |k::ks,i+1,hi,h0,h=>by rw[Z1h]at h0;rw[A8V,h0 k Q1];show k::A8V x f ks=_;rw[B5h (i:=i) ZAS (λq hq=>h0 q ZBH) h];rfl
def B9n{x:IdD}{y:A0a}:∀{ks:List A0a} {i:Nat} (hi:i<ks.length),(∀k∈ks.take i,A0N x k=none)->A0N x ks[i]=some y->A6R x ks=some y
 |[],i,hi,_,_=>by simp at hi
 |k::ks,0,hi,_,h=>by rw[A6R];simp only[Z2O]at h;rw[h]
 |k::ks,i+1,hi,h0,h=>by rw[Z1h]at h0;rw[A6R,h0 k Q1];exact B9n ZAS (λq hq=>h0 q ZBH) h
section
variable (gl:Nat->AV)
set_option maxHeartbeats 1000000 in
def A8Q:∀(u:A0a) (x:IdD) (g:FuncId) (cap:List AV) (f:A0a->A0a) (M:Mem),Fit u->(∀y,A0N x u=some y->B9H gl y M g cap (f y))->
 A0c (WC gl) 169 [.agg u.row,.agg x.row,.func (.func g) [] cap] M (λv M'=>v=.agg (A1A x f u).row/\M'=M)
 |.mk id kind lab hd ws ks,x,g,cap,f,M,hf,hd'=>by
  obtain⟨u,hu⟩:=ex (A0a.mk id kind lab hd ws ks);have ad:u.kids=ks:=by rw[hu];rfl
  have a6:u.id=id:=by rw[hu];rfl
  rw[<-hu]at hf hd'|-;refine A0c.dataX ?_;have hx:x.row=[I x.act,I x.item,I x.n]:=rfl;have he:=C2D u.id x;have b8:=A2D u.kids;have b9:A0I u.kids<A0y u:=by obtain⟨a,b,c,d,e,f⟩:=u;rw[A0y];show A0I f<_;omega
  have bh:=hf.2.2;obtain⟨b,hb⟩:=ex (M.length);obtain⟨M1,z⟩:=ex (M++[A0m.cells 31 [I u.id.act,I u.id.item,I u.id.n,I u.kind,S u.label,.list 4 (A0i u.head) .no,.list 4 (A0i u.words) .no,.list 8 (A0t u.kids) .no],z8]);have h1:M1[b]?=some (A0m.cells 31 [I u.id.act,I u.id.item,I u.id.n,I u.kind,S u.label,.list 4 (A0i u.head) .no,.list 4 (A0i u.words) .no,.list 8 (A0t u.kids) .no]):=by rw[z,hb];simp
  have h2:M1[b+1]?=some z8:=by rw[z,hb];simp[Z0Z]
  have ax:Grow M M1:=by rw[z];exact A0d.app none _ _
  have bk:M1.length=b+2:=by rw[z,hb];simp
  have b2:=C6s gl u.kids M1 Q0;rw[u.row_eq,hx];refine A0r hTr func169 ?_;by_cases hix:u.id=x
  .rw[Z0A hix]at he;(have b6:A0N x u=some u:=by rw[hu,A0N];exact Z0c (by rw[<-a6];exact hix));(have ag:A1A x f u=f u:=by rw[hu,A1A];exact Z0c (by rw[<-a6];exact hix));have hd:=hd' u b6;rw[ag];simp -dsimp[A0j];rw[<-z,<-hb];simp -dsimp[A0b h1,he];refine A3R func246 b2 ?_;rintro kv M2 ⟨ho,o,m⟩;have h3:=o.get h1 Q1;have h4:=o.get h2 Q1;(have a3:A0k (some 1) M2 (.ptr b 7) kv=some (M2.set b (.cells 31 (A3C u kv))):=by rw[A0f h3,ho.cells,Z0c ⟨ho.store,Q1,rfl⟩];rfl);simp -dsimp[a3];have ar:b<M2.length:=(Z0a.1 h3).1;have a7:Grow M (M2.set b (.cells 31 (A3C u kv))):=A0w (ax.trans o) Q0;refine A0s (hd b b kv (M2.set b (.cells 31 (A3C u kv))) Q0 (Z0j _) a7 (by simp[ar]) (ho.keep (A0d.set _ _ _) (λf hf e=>by have:=m f hf;simp at e;omega)) (λf hf=>by have:=m f hf;omega) (λe=>by have:=m b e;omega)) ?_;rintro _ M4 ⟨a5,q1,q2,q3⟩;have bi:b<M4.length:=(Z0a.1 q1).1;(have ab:M4[b+1]?=some z8:=by have be:=o.1;have:=q2.2 (b+1) ZAB (λe=>by have:=m (b+1) e;omega);rw[Z0f Q0,Z0f Q0,Z0f Q0]at this;rw[this];exact h4);(have bd:Grow M M4:=by refine⟨by have:=q2.1;have:=a7.1;simp at this q2;omega,λi hi _=>?_⟩;have h5:=q2.2 i (by have:=a7.1;simp at this|-;omega) (λe=>by have:=m i e;omega);rw[Z0f Q0,Z0f Q0]at h5;rw[h5];exact a7.2 i hi Q1);have ai:b+1<M4.length:=(Z0a.1 ab).1;(have s:A0E prog 31 M4 (.ptr b 0)=some (.agg (A3C (f u) a5)):=by rw[A0b q1];simp[A3C]);(have a4:A0k (some 8) M4 (.ptr (b+1) 0) (.agg (A3C (f u) a5))=some (M4.set (b+1) (.cells 31 (A3C (f u) a5))):=by rw[A0f ab];rfl);simp -dsimp[s,a4,A0u ai,A0h,A3C];refine⟨A0w bd Q0,.agg ?_ .nil⟩;have au:=(q3.keep (A0d.set M4 (b+1) (.cells 31 (A3C (f u) a5))) (λf hf e=>by obtain⟨_,cs,g',bf,hv⟩:=q3.vec hf;simp only[Z0b]at e;subst e;rw[ab]at hv;simp at hv)).still;rw[A0a.row_eq];rw[A3C]at au;exact .same trivial (.same trivial (.same trivial (.same trivial (.same trivial (.same ZBM (.same ZBM au))))))
  rw[Z0I hix]at he;have ag:A1A x f u=.mk id kind lab hd ws (A8V x f ks):=by rw[hu,A1A];exact Z0d (by rw[<-a6];exact hix)
  have bc:A0N x u=A6R x ks:=by rw[hu,A0N];exact Z0d (by rw[<-a6];exact hix)
  simp -dsimp[A0j];rw[<-z,<-hb];simp -dsimp[A0b h1,he];refine A3R func246 b2 ?_;rintro kv M2 ⟨ho,o,m⟩;rw[ad]at ho;have h3:=o.get h1 Q1;have h4:=o.get h2 Q1;have ae:=ho.len (P:=prog) underlying25;simp -dsimp[ae];rw[ad]at b8 b9;refine A6V (.exit 0) (λT M5=>T 3=.ptr b 0/\T 6=.ptr (b+1) 0/\T 7=kv/\Grow M M5/\M5[b]?=some (A0m.cells 31 [I u.id.act,I u.id.item,I u.id.n,I u.kind,S u.label,.list 4 (A0i u.head) .no,.list 4 (A0i u.words) .no,.list 8 (A0t u.kids) .no])/\M5[b+1]?=some z8/\Arr 31 8 A0a.row (b+2) M5 kv (A8V x f ks)) ?_ ?_
  .refine A0M hTr (λT M5=>∃i:Nat,i<=ks.length/\T 2=.func (.func g) [] cap/\T 3=.ptr b 0/\T 4=.cptr [I x.act,I x.item,I x.n]/\T 6=.ptr (b+1) 0/\T 7=kv/\T 26=kv/\T 27=I ks.length/\T 28=I i/\Grow M M5/\M5[b]?=some (A0m.cells 31 [I u.id.act,I u.id.item,I u.id.n,I u.kind,S u.label,.list 4 (A0i u.head) .no,.list 4 (A0i u.words) .no,.list 8 (A0t u.kids) .no])/\M5[b+1]?=some z8/\Arr 31 8 A0a.row (b+2) M5 kv ks/\∀k∈ks.take i,A0N x k=none) (λT M1=>match T 28 with|.val (.int _ i)=>ks.length-i.toNat|_=>0) Q2 ?_ ?_
   .exact⟨0,Q0,Q1,Q1,Q1,Q1,Q1,Q1,Q1,Q1,ax.trans o,h3,h4,⟨ho,λf hf=>by have:=m f hf;omega⟩,Q1⟩
   clear h3 h4 o ho ae;rintro T M5 ⟨i,i1,t2,t3,t4,t6,t7,r,t,t28,w,h3,h4,ha,a1⟩;by_cases hi:i<ks.length;(case neg=>have aa:¬(i:Int)<ks.length:=Q0;rw[Z0e Q0]at a1;simp -dsimp[t2,t3,t4,t6,t7,r,t,t28,aa];rw[B9u a1];exact⟨w,h3,h4,ha⟩);have aa:(i:Int)<ks.length:=Q0;have w1:=A1O (i:=i) Q0;obtain⟨k,hk⟩:=ex (ks[i]);(have b1:k∈ks:=by rw[hk];exact Z0s hi);(have a0:k∈u.kids:=by rw[ad];exact b1);have ap:=C8V hf k a0;obtain⟨f1,g1,_,a2,s,_,_,_,_⟩:=B3F ha.own hi k;rw[<-hk]at s;have bj:b+2<=f1:=ha.lat f1 (by rw[a2];rfl);rw[a2]at t7 r;obtain⟨M6,p⟩:=ex (M5++[A0m.cells 31 [I k.id.act,I k.id.item,I k.id.n,I k.kind,S k.label,.list 4 (A0i k.head) .no,.list 4 (A0i k.words) .no,.list 8 (A0t k.kids) .no]]);(have ao:M6[M5.length]?=some (A0m.cells 31 [I k.id.act,I k.id.item,I k.id.n,I k.kind,S k.label,.list 4 (A0i k.head) .no,.list 4 (A0i k.words) .no,.list 8 (A0t k.kids) .no]):=by rw[p];simp);(have ac:Grow M5 M6:=by rw[p];exact A0d.app none _ _);have aq:=B2k gl k x M6 ap;rw[k.row_eq,hx]at aq;have aj:=k.row_eq;rw[aj]at s;simp -dsimp[t2,t3,t4,t6,t7,r,t,t28,hi,aa,s,A0j,A0k,A0e,A0o,A0n];rw[<-p];simp -dsimp[t2,t3,t4,t6,t7,r,t,t28,A0b ao];refine A0g func99 aq ?_;obtain⟨M7,ah⟩:=ex (M6++[A0m.cells 31 (A4F (A0N x k))]);(have ak:Grow M6 M7:=by rw[ah];exact A0d.app none _ _);have b5:=ak.get ao Q1;have l:=ac.trans ak;have b0:=l.get h3 Q1;have am:=l.get h4 Q1;have aw:=ha.keep l;(have b7:(A4F (A0N x k)).length=8:=by cases A0N x k<;>simp[A4F]);simp -dsimp[t2,t3,t4,t6,t7,r,t,t28,A0j,A0k,A0e,A0o,A0n,b7,Z0e];rw[<-ah];cases hfx:A0N x k with
   |none=>
    simp -dsimp[t2,t3,t4,t6,t7,r,t,t28,w1];refine⟨⟨i+1,Q3,a2.symm,rfl,w.trans l,b0,am,aw,λq hq=>?_⟩,Q3⟩;rw[Z1s hi]at hq;rcases Z0N.1 hq with hq|hq
    .exact a1 q hq
    .rw[Z0L.1 hq,<-hk];exact hfx
   |some y=>
    (have hlt0:SizeOf.sizeOf k<SizeOf.sizeOf (A0a.mk id kind lab hd ws ks):=by have:=A0a.kid_lt (u:=u) a0;rwa[hu]at this);have a8:=A8Q k x g cap f M7 ap (λy hy=>(hd' y (by rw[bc];exact B9n hi a1 (by rw[<-hk];exact hy))).later (w.trans l))
    rw[aj,hx]at a8;obtain⟨f2,g2,M8,av,_,a3,bb,b4,a9⟩:=B3F aw.own hi (A1A x f k);have e2:=a2.symm.trans av;simp only[AV.vref.injEq]at e2;obtain⟨rfl,rfl,-⟩:=e2;(have az:A8V x f ks=ks.set i (A1A x f k):=by rw[hk];exact B5h hi a1 (by rw[<-hk,hfx];rfl));simp -dsimp[t2,t3,t4,t6,t7,r,t,t28,A0b b5];refine A0g func169 a8 ?_;simp -dsimp[t2,t3,t4,t6,t7,r,t,t28,hi,a3];rw[az];refine⟨a2.symm,⟨by rw[b4];exact((w.trans l).1),λj hj _=>?_⟩,by rw[a9 b Q0];exact b0,by rw[a9 (b+1) Q0];exact am,⟨bb,ha.lat⟩⟩;rw[a9 j Q0];exact(w.trans l).2 j hj Q1
  clear h3 h4 o ho ae;rintro T M5 ⟨t3,t6,t7,w,h3,h4,ha⟩;have ba:b<M5.length:=(Z0a.1 h3).1;have bg:b+1<M5.length:=(Z0a.1 h4).1;obtain⟨M6,p⟩:=ex (M5.set b (.cells 31 (A3C u kv)));have b3:M6[b]?=some (.cells 31 (A3C u kv)):=by rw[p];simp[ba]
  have ay:M6[b+1]?=some z8:=by rw[p,Z0f Q0];exact h4
  have af:Arr 31 8 A0a.row (b+2) M6 kv (A8V x f ks):=ha.stay λj hj=>by have:=ha.lat j hj;rw[p,Z0f Q0]
  have ac:Grow M M6:=by rw[p];exact A0w w Q0
  have a3:A0k (some 1) M5 (.ptr b 7) kv=some M6:=by rw[A0f h3,ha.own.cells,Z0c ⟨ha.own.store,Q1,rfl⟩,p];rfl
  have an:b+1<M6.length:=(Z0a.1 ay).1;have s:A0E prog 31 M6 (.ptr b 0)=some (.agg (A3C u kv)):=by rw[A0b b3];simp[A3C]
  have a4:A0k (some 8) M6 (.ptr (b+1) 0) (.agg (A3C u kv))=some (M6.set (b+1) (.cells 31 (A3C u kv))):=by rw[A0f ay];rfl
  simp -dsimp[t3,t6,t7,a3,s,a4,A0u an,A0h,A3C];refine⟨A0w ac Q0,.agg ?_ .nil⟩;have al:Still (M6.set (b+1) (.cells 31 (A3C u kv))) b (bdd b) [kv] [.list 8 (A0t (A8V x f ks)) .no]:=by rw[A3h];exact A3i A0a.row_len A1F (af.own.keep (A0d.set M6 (b+1) (.cells 31 (A3C u kv))) (λj hj e=>by have:=af.lat j hj;simp at e;omega)) (λj hj=>by have:=af.lat j hj;omega)
  rw[ag,A0a.row_eq];rw[A3C]at al;subst hu;exact .same trivial (.same trivial (.same trivial (.same trivial (.same trivial (.same ZBM (.same ZBM al))))))
termination_by u=>SizeOf.sizeOf u
decreasing_by exact hlt0
end
def hIn:A2r:=⟨λd=>d !=11,λ_=>false,λd=>d==11⟩
@[simp] def E4r:hIn.vec=λd=>d==11:=(rfl)
section
variable (gl:Nat->AV)
def E1T(u:A0a)(i:Nat)(hi:i<u.kids.length)(a0:u.kids.length<=3000)(q:Nat)(M:Mem)(hq:M[q]?=some (.cells 3 [I i])):B9H gl u M 249 [.ptr q 0] (B0V i u):=by
 intro n b kv Mi hn hb hg m ho o t;have a4:q<M.length:=(Z0a.1 hq).1;have x:=hg.get hq Q1;rcases ho with⟨_,h⟩|⟨f,g,r,rfl,hm,hl⟩
 .rw[h]at hi;simp at hi
 have a2:f≠b:=λe=>t (by simp[e]);have y:n<=f:=o f rfl;obtain⟨cs,a,k1,k2,d⟩:=D1O gl u.kids i hi f g g r Mi a0 hm hl;have a1:b<Mi.length:=(Z0a.1 m).1;have w:f<Mi.length:=(Z0a.1 hm).1;refine A0l func249 rfl rfl ?_;obtain⟨M2,c⟩:=ex (Mi.set f (.vec 31 8 cs g a));rw[<-c]at d;have s:M2[b]?=some (.cells 31 (A3C u (.vref f g 8 0 u.kids.length))):=by rw[c,Z0f Q0];exact m
 have v:A0k (some 1) M2 (.ptr b 7) (.vref f g 8 0 (u.kids.length-1))=some (M2.set b (.cells 31 (A3C u (.vref f g 8 0 (u.kids.length-1))))):=by rw[A0f s];rfl
 have l:b<M2.length:=(Z0a.1 s).1;have z:A0E prog 25 Mi (.ptr b 7)=some (.vref f g 8 0 u.kids.length):=by rw[A0b m];simp[A3C]
 have w1:IntKind.i64.wrap ((i:Int)+1)=(i:Int)+1:=ZBN
 refine A0r hB func249 ?_;simp -dsimp;refine A0X hB (A0B gl) (λk=>if k=4\/k=5\/k=6 then 1 else if k=8\/k=11 then 2 else 0) (λk=>if k=4 then b else q) (by rfl) Q2 ?_;simp -dsimp[z,A0b x,A1e,A5t,w1];refine A5R (A0l func250 rfl rfl d) ?_;simp -dsimp[v];have p:(B0V i u).kids.length=u.kids.length-1:=by show(u.kids.eraseIdx i).length=_;rw[List.length_eraseIdx_of_lt hi]
 refine⟨.vref f g 8 0 (u.kids.length-1),by simp[l,B0V,B2n,A0a.id,A0a.kind,A0a.label,A0a.head,A0a.words],⟨by simp[c],λj hj ho=>?_⟩,.inr ⟨f,g,_,cs,g,a,y,by rw[p],?_,k2,Q0,by rw[p];exact k1⟩⟩
 .have a3:j≠f:=λe=>ho (by simp[e]);by_cases hib:j=b
  .subst hib;simp at hj;simp[l,hj]
  .have e1:b≠j:=Q0;have e2:f≠j:=Q0;simp only[Z0f e1,c,Z0f e2]
 .rw[Z0f Q0,c];simp[w]
def E1d(u x:A0a)(i:Nat)(hi:i<=u.kids.length)(aj:u.kids.length<=3000)(q p:Nat)(M:Mem)(hq:M[q]?=some (.cells 3 [I i]))(hp:M[p]?=some (.cells 31 x.row)):B9H gl u M 170 [.ptr q 0,.ptr p 0] (A9t i x u):=by
 intro n b kv Mi hn hb hg l ho m a0;have g:=hg.get hq Q1;have d:=hg.get hp Q1;have ap:q<M.length:=(Z0a.1 hq).1;have an:p<M.length:=(Z0a.1 hp).1;have aa:b<Mi.length:=(Z0a.1 l).1;obtain⟨r,hr⟩:=ex (Mi.length);obtain⟨M1,t⟩:=ex (Mi++[A0m.vec 31 8 x.row 0 [(0,1)]]);have a8:M1[r]?=some (.vec 31 8 x.row 0 [(0,1)]):=by rw[t,hr];simp
 have a:Grow Mi M1:=ZCL
 have ao:r<M1.length:=(Z0a.1 a8).1;have af:=ho.keep a Q1;obtain⟨c,M2,a1,a2,a3,y⟩:=C0R gl x u.kids i hi kv r [] M1 aj af a8 (λf hf=>by have:=ho.lt hf;omega);have s:A1L n c:=λf hf=>by
  rcases a3 with e|h
  .rw[e]at hf;exact m f hf
  .have:=h f hf;have:=hg.1;omega
 have w:=a.get l Q1;have v:M2[b]?=some (.cells 31 (A3C u kv)):=a2.get w a0;have o:b<M2.length:=(Z0a.1 v).1;have a7:∀f,obj c=some f->f≠b:=λf hf e=>by
  rcases a3 with h|h
  .rw[h]at hf;exact a0 (by rw[hf,e])
  .have:=h f hf;omega
 have ac:A0k (some 1) M2 (.ptr b 7) c=some (M2.set b (.cells 31 (A3C u c))):=by rw[A0f v,a1.cells,Z0c ⟨a1.store,by simp[A3C],rfl⟩];rfl
 have ai:A0E prog 25 Mi (.ptr b 7)=some kv:=by rw[A0b l];simp[A3C]
 have ak:A0E prog 31 Mi (.ptr p 0)=some (.agg x.row):=by rw[x.row_eq]at d|-;rw[A0b d];simp
 have ah:M1[b]?=Mi[b]?:=by rw[w,l]
 have ag:M1[q]?=Mi[q]?:=by rw[a.get g Q1,g]
 have al:M1[p]?=Mi[p]?:=by rw[a.get d Q1,d]
 have a6:M2[b]?=M1[b]?:=by rw[v,w]
 have a4:∀j,j<n->obj kv≠some j:=λj hj e=>by have:=m j e;omega
 have z:M2[q]?=M1[q]?:=by rw[a2.get (a.get g Q1) (a4 q Q0),a.get g Q1]
 have a5:M2[p]?=M1[p]?:=by rw[a2.get (a.get d Q1) (a4 p Q0),a.get d Q1]
 have am:∀X j,j<n->(M2.set b X)[j]?=M2[j]?:=λX j hj=>Z0f Q0;refine A0l func170 rfl rfl ?_;refine A0r hIn func170 ?_;simp -dsimp;refine A7r hIn (A0B gl) (λk=>if k=4\/k=5\/k=6 then 1 else if k=7\/k=8\/k=11 then 2 else 0) (λk=>if k=4 then b else if k=5 then q else p) (λi k=>k==11) (λk=>if k=11 then[]else[b,q,p]) (by intro i k _ h;by_cases h11:k=11<;>simp[h11]at h|-<;>by_cases h4:i=4<;>by_cases h5:i=5<;>simp[h4,h5]) (by rfl) Q2 ?_;have ab:A1C prog 25 1 [(0,.agg x.row)] Mi=some (.vref r 0 8 0 1,M1):=by simp[A1C,A1g,A0o,A0n,hr,t]
 simp -dsimp[ai,ak,A0b g,A1e,A5t,ab,ah,ag,al];refine A5R (A0l func171 rfl rfl y) ?_;simp -dsimp[ac,a6,z,a5];have a9:A3C (A9t i x u) c=A3C u c:=by cases u;rfl
 have ad:(A9t i x u).kids=u.kids.take i++x::u.kids.drop i:=by cases u;rfl
 refine⟨c,by simp[o,a9],⟨by simpa using Nat.le_trans a.1 a2.1,λj hj ho=>?_⟩,by rw[ad];exact A5w.of (a1.keep (A0d.set _ _ _) (λf hf e=>a7 f hf (by simpa using e.symm))) s⟩;have ae:j<Mi.length:=ZAP
 by_cases hib:j=b
 .subst hib;simp[o,aa]
 .have e1:b≠j:=Q0;simp only[Z0f e1];rw[a2.2 j (by have:=a.1;omega) ho,a.2 j ae Q1]
def E1i(u x:A0a)(i:Nat)(hi:i<=u.kids.length)(ag:u.kids.length<=3000)(q:Nat)(M:Mem)(hq:M[q]?=some (.cells 3 [I i])):B9H gl u M 181 [.ptr q 0,.cptr x.row] (A9t i x u):=by
 intro n b kv Mi hn hb hg g ho l y;have d:=hg.get hq Q1;have ak:q<M.length:=(Z0a.1 hq).1;have a6:b<Mi.length:=(Z0a.1 g).1;obtain⟨r,hr⟩:=ex (Mi.length);obtain⟨M1,p⟩:=ex (Mi++[A0m.vec 31 8 x.row 0 [(0,1)]]);have a4:M1[r]?=some (.vec 31 8 x.row 0 [(0,1)]):=by rw[p,hr];simp
 have a:Grow Mi M1:=by rw[p];exact A0d.app none _ _
 have aj:r<M1.length:=(Z0a.1 a4).1;have ac:=ho.keep a Q1;obtain⟨c,M2,a1,a2,a3,v⟩:=C0R gl x u.kids i hi kv r [] M1 ag ac a4 (λf hf=>by have:=ho.lt hf;omega);have o:A1L n c:=λf hf=>by
  rcases a3 with e|h
  .rw[e]at hf;exact l f hf
  .have:=h f hf;have:=hg.1;omega
 have t:=a.get g Q1;have s:M2[b]?=some (.cells 31 (A3C u kv)):=a2.get t y;have m:b<M2.length:=(Z0a.1 s).1;have a0:∀f,obj c=some f->f≠b:=λf hf e=>by
  rcases a3 with h|h
  .rw[h]at hf;exact y (by rw[hf,e])
  .have:=h f hf;omega
 have a9:A0k (some 1) M2 (.ptr b 7) c=some (M2.set b (.cells 31 (A3C u c))):=by rw[A0f s,a1.cells,Z0c ⟨a1.store,by simp[A3C],rfl⟩];rfl
 have af:A0E prog 25 Mi (.ptr b 7)=some kv:=by rw[A0b g];simp[A3C]
 have ah:A0E prog 31 Mi (.cptr x.row)=some (.agg x.row):=by rw[x.row_eq];simp
 have ae:M1[b]?=Mi[b]?:=by rw[t,g]
 have ad:M1[q]?=Mi[q]?:=by rw[a.get d Q1,d]
 have z:M2[b]?=M1[b]?:=by rw[s,t]
 have a8:∀j,j<n->obj kv≠some j:=λj hj e=>by have:=l j e;omega
 have w:M2[q]?=M1[q]?:=by rw[a2.get (a.get d Q1) (a8 q Q0),a.get d Q1]
 have ai:∀X j,j<n->(M2.set b X)[j]?=M2[j]?:=λX j hj=>Z0f Q0;refine A0l func181 rfl rfl ?_;refine A0r hIn func181 ?_;simp -dsimp;refine A7r hIn (A0B gl) (λk=>if k=4\/k=5 then 1 else if k=7\/k=8\/k=11 then 2 else 0) (λk=>if k=4 then b else q) (λi k=>k==11) (λk=>if k=11 then[]else[b,q]) (by intro i k _ h;by_cases h11:k=11<;>simp[h11]at h|-<;>by_cases h4:i=4<;>simp[h4]) (by rfl) Q2 ?_;have a7:A1C prog 25 1 [(0,.agg x.row)] Mi=some (.vref r 0 8 0 1,M1):=by simp[A1C,A1g,A0o,A0n,hr,p]
 simp -dsimp[af,ah,A0b d,A1e,A5t,a7,ae,ad];refine A5R (A0l func171 rfl rfl v) ?_;simp -dsimp[a9,z,w];have a5:A3C (A9t i x u) c=A3C u c:=by cases u;rfl
 have aa:(A9t i x u).kids=u.kids.take i++x::u.kids.drop i:=by cases u;rfl
 refine⟨c,by simp[m,a5],⟨by simpa using Nat.le_trans a.1 a2.1,λj hj ho=>?_⟩,by rw[aa];exact A5w.of (a1.keep (A0d.set _ _ _) (λf hf e=>a0 f hf (by simpa using e.symm))) o⟩;have ab:j<Mi.length:=ZAP
 by_cases hib:j=b
 .subst hib;simp[m,a6]
 .have e1:b≠j:=Q0;simp only[Z0f e1];rw[a2.2 j (by have:=a.1;omega) ho,a.2 j ab Q1]
def E1K(u:A0a)(ws:List A0z)(q:Nat)(M:Mem)(hq:M[q]?=some (.cells 29 [.list 4 (A0i ws) .no])):B9H gl u M 174 [.ptr q 0] (B2L ws u):=by
 intro n b kv Mi hn hb hg c ho a g;have i:=hg.get hq Q1;have d:b<Mi.length:=(Z0a.1 c).1;have k:A0k (some 1) Mi (.ptr b 6) (.list 4 (A0i ws) .no)=some (Mi.set b (.cells 31 (A3C (B2L ws u) kv))):=by rw[A0f c];rfl
 refine A0l func174 rfl rfl ?_;refine A0r hB func174 ?_;simp -dsimp[A0b i,k];refine⟨kv,by simp[d],⟨Q1,λj hj ho=>?_⟩,A5w.of (l:=(B2L ws u).kids) (ho.keep (A0d.set _ _ _) (λf hf e=>by simp at e;subst e;exact g hf)) a⟩;rfl
def E1h(u:A0a)(ws:List A0z)(q:Nat)(M:Mem)(hq:M[q]?=some (.cells 29 [.list 4 (A0i ws) .no])):B9H gl u M 176 [.ptr q 0] (B2L ws u):=by
 intro n b kv Mi hn hb hg c ho a g;have i:=hg.get hq Q1;have d:b<Mi.length:=(Z0a.1 c).1;have k:A0k (some 1) Mi (.ptr b 6) (.list 4 (A0i ws) .no)=some (Mi.set b (.cells 31 (A3C (B2L ws u) kv))):=by rw[A0f c];rfl
 refine A0l func176 rfl rfl ?_;refine A0r hB func176 ?_;simp -dsimp[A0b i,k];refine⟨kv,by simp[d],⟨Q1,λj hj ho=>?_⟩,A5w.of (l:=(B2L ws u).kids) (ho.keep (A0d.set _ _ _) (λf hf e=>by simp at e;subst e;exact g hf)) a⟩;rfl
def E2C(u:A0a)(ws:List A0z)(q:Nat)(M:Mem)(hq:M[q]?=some (.cells 29 [.list 4 (A0i ws) .no])):B9H gl u M 178 [.ptr q 0] (C0g ws u):=by
 intro n b kv Mi hn hb hg c ho a g;have i:=hg.get hq Q1;have d:b<Mi.length:=(Z0a.1 c).1;have k:A0k (some 1) Mi (.ptr b 5) (.list 4 (A0i ws) .no)=some (Mi.set b (.cells 31 (A3C (C0g ws u) kv))):=by rw[A0f c];rfl
 refine A0l func178 rfl rfl ?_;refine A0r hB func178 ?_;simp -dsimp[A0b i,k];refine⟨kv,by simp[d],⟨Q1,λj hj ho=>?_⟩,A5w.of (l:=(C0g ws u).kids) (ho.keep (A0d.set _ _ _) (λf hf e=>by simp at e;subst e;exact g hf)) a⟩;rfl
def E2d(u:A0a)(d:EnD)(M:Mem):B9H gl u M 180 [.cptr d.row] (A6p d.it.h.lab u):=by
 intro n b kv Mi hn hb hg c ho a i;have g:b<Mi.length:=(Z0a.1 c).1;have k:A0k (some 1) Mi (.ptr b 4) (S d.it.h.lab)=some (Mi.set b (.cells 31 (A3C (A6p d.it.h.lab u) kv))):=by rw[A0f c];rfl
 rw[EnD.row,d.it.row_eq,A1W.row];refine A0l func180 rfl rfl ?_;refine A0r hB func180 ?_;simp -dsimp[k];refine⟨kv,by simp[g],⟨Q1,λj hj ho=>?_⟩,A5w.of (l:=(A6p d.it.h.lab u).kids) (ho.keep (A0d.set _ _ _) (λf hf e=>by simp at e;subst e;exact i hf)) a⟩;rfl
end
end Go.Abs
