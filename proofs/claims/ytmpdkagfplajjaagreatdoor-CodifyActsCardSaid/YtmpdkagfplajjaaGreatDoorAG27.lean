/- The texts CvR, CvT, CvU, CvV, CvW, CyJ, CyK, CyL, CyM, CyN. -/
import Derived.Test.YtmpdkagfplajjaaGreatDoorAG26
import Derived.Test.YtmpdkagfplajjaaGreatDoorAG20
import Derived.Test.YtmpdkagfplajjaaGreatDoorAG25
set_option linter.all false
set_option maxRecDepth 100000
namespace Go.Abs
open Go.Proofs TryTypes Tryz
def C1s:Option A0b->Int
 |some u=>u.kind
 |none=>0
def A4w(F:IdD->Option A0b)(l:List A0L)(n:Int):Int:=if n<0 then 0 else match l[n.toNat]? with
 |some s=>C1s (F s.id)
 |none=>0
def A4s(l:List A0L)(n:Int):Int:=match l[n.toNat]? with
 |some s=>s.parent
 |none=>-1
def A8I(l:List A0L)(n:Nat):Prop:=∀j,(h:j<l.length)->j<=n->-1<=l[j].parent/\l[j].parent<j
def A5j(l:List A0L):Nat->Int->Nat
 |0,_=>0
 |f+1,n=>if n<0 then 0 else A5j l f (A4s l n)+1
abbrev B1W(l:List A0L)(a b c:Nat):AV:=.agg [.list 5 (A1A l) .no,.mapr a,.mapr b,.mapr c]
def C4L(o:Option A0b):∃a b c d e f g,A2y o=[I a,I b,I c,I (C1s o),d,e,f,g]:=by
 cases o with
 |none=>exact⟨_,_,_,_,_,_,_,rfl⟩
 |some u=>exact⟨_,_,_,_,_,_,_,u.row_eq⟩
def C2j:A7H prog 27=some (.agg zU):=by simp[A7H];rfl
section
variable (gl:Nat->AV)
def C4p(u:A0b)(l:List A0L)(n:Int)(M:Mem)(hg:u.good)(hn:n<l.length):A0e (WC gl) 107 [.agg u.row,.list 5 (A1A l) .no,I n] M (λv M'=>v=I (A4w (λx=>A1O x u) l n)/\M'=M):=by
 refine A6Z (λ_=>trivial) ?_;have hf:=λx M=>B4Q gl u x M hg;rw[u.row_eq]at hf|-;refine A0k hB func107 ?_;by_cases h0:n<0
 .simp -dsimp -implicitDefEqProofs[h0,A4w,A0c.refl]
 obtain⟨m,rfl⟩:∃m:Nat,n=m:=⟨n.toNat,by omega⟩;have hm:m<l.length:=by omega
 have h:¬(m:Int)<0:=by omega
 have hf:=λM=>hf l[m].id M;simp only[IdD.row]at hf;obtain⟨a,b,c,d,e,f,g,hr⟩:=C4L (A1O l[m].id u);have hX:(M++[A0p.cells 27 [I a,I b,I c,I (C1s (A1O l[m].id u)),d,e,f,g]])[M.length]?=some (A0p.cells 27 [I a,I b,I c,I (C1s (A1O l[m].id u)),d,e,f,g]):=by simp
 have i:A4w (λx=>A1O x u) l m=C1s (A1O l[m].id u):=by simp[A4w,hm,h]
 rw[i];simp -dsimp -implicitDefEqProofs[h];refine A1h hB (A0w gl) (λk=>if k=10\/k=11 then 2 else 0) (λ_=>0) (by rfl) (by kernel_rfl) ?_;simp -dsimp -implicitDefEqProofs[h,hm,A0L.row];refine A1j func104 hf ?_;simp -dsimp -implicitDefEqProofs[A0o,A0l,A0d,A4q,A4d,hr];rw[A0a hX];simp -dsimp -implicitDefEqProofs[A0c.app]
def B8V(l:List A0L)(L:List (IdD×A0b))(a b c:Nat)(n:Int)(M:Mem)(hM:A1T A2O B4c M a L)(hn:n<l.length):A0e (WC gl) 151 [B1W l a b c,I n] M (λv M'=>v=I (A4w (A1B L) l n)/\M'=M):=by
 refine A0k hB func151 ?_;by_cases h0:n<0
 .simp -dsimp -implicitDefEqProofs[h0,A4w]
 obtain⟨m,rfl⟩:∃m:Nat,n=m:=⟨n.toNat,by omega⟩;have hm:m<l.length:=by omega
 have d:¬(m:Int)<0:=by omega
 have e:A1K prog 92 M (.mapr a) (.agg [I l[m].id.act,I l[m].id.item,I l[m].id.n]) false=some (.agg (A2y (A1B L l[m].id))):=by rw[show AV.agg [I l[m].id.act,I l[m].id.item,I l[m].id.n]=A2O l[m].id from rfl,hM.get (A9L 92 27 (by kernel_rfl)) l[m].id C2j false];cases A1B L l[m].id<;>rfl
 have f:A4w (A1B L) l m=C1s (A1B L l[m].id):=by simp[A4w,hm,d]
 rw[f];obtain⟨a2,b2,c2,d2,e2,f2,g2,hr⟩:=C4L (A1B L l[m].id);simp -dsimp -implicitDefEqProofs[d];refine A1h hB (A0w gl) (λk=>if k=8 then 1 else 0) (λ_=>a) (by rfl) (by kernel_rfl) ?_;simp -dsimp -implicitDefEqProofs[d,hm,A0L.row,A0y,e,hr]
def D1P(l:List A0L)(n:Int)(M:Mem)(hl:l.length<=1000)(hn:-1<=n/\n<l.length)(ho:A8I l n.toNat):A0e (WC gl) 108 [.list 5 (A1A l) .no,I n] M (λv M'=>v=I (A5j l (n+1).toNat n)/\M'=M):=by
 refine A0k hB func108 ?_;obtain⟨R,hR⟩:∃R,R=A5j l (n+1).toNat n:=⟨_,rfl⟩;rw[<-hR];simp -dsimp -implicitDefEqProofs;refine A2o hB (λT M1=>∃(m:Int) (f d:Nat),-1<=m/\m<=n/\(m+1).toNat<=f/\d+f<=1001/\T 0=.list 5 (A1A l) .no/\T 1=I m/\T 5=I d/\M1=M/\R=d+A5j l f m) (λT M1=>match T 1 with|.val (.int _ i)=>(i+1).toNat|_=>0) (by kernel_rfl) ?_ ?_
 .exact⟨n,(n+1).toNat,0,by omega,by omega,by omega,by omega,by simp,by simp,by simp,rfl,by simp[hR]⟩
 .rintro T M1 ⟨m,f,d,m1,m2,f1,d1,t0,t1,t5,rfl,hr⟩;by_cases h0:m<0
  ·(have a:¬m>=0:=by omega);have b:¬0<=m:=by omega
   (have hz:A5j l f m=0:=by cases f<;>simp[A5j,h0]);rw[hz,Z0V]at hr
   simp -dsimp -implicitDefEqProofs[t0,t1,t5,a,b,hr]
  obtain⟨k,rfl⟩:∃k:Nat,m=k:=⟨m.toNat,by omega⟩;have a:(k:Int)>=0:=by omega
  have hk:k<l.length:=by omega
  obtain⟨f,rfl⟩:∃g,f=g+1:=⟨f-1,by omega⟩;obtain⟨q1,q2⟩:=ho k hk (by omega);have hp:A4s l k=l[k].parent:=by simp[A4s,hk]
  rw[A5j,Z0e h0,hp]at hr;have w1:=A1i (i:=d) (by omega);simp -dsimp -implicitDefEqProofs[t0,t1,t5,a,hk,w1,A0L.row];exact⟨⟨_,q1,by omega,f,by omega,d+1,by omega,rfl,rfl,by omega⟩,q2⟩
def D1J(l:List A0L)(a b c:Nat)(n:Int)(M:Mem)(hl:l.length<=1000)(hn:-1<=n/\n<l.length)(ho:A8I l n.toNat):A0e (WC gl) 154 [B1W l a b c,I n] M (λv M'=>v=I (A5j l (n+1).toNat n)/\M'=M):=by
 refine A0k hB func154 ?_;obtain⟨R,hR⟩:∃R,R=A5j l (n+1).toNat n:=⟨_,rfl⟩;rw[<-hR];simp -dsimp -implicitDefEqProofs;refine A2o hB (λT M1=>∃(m:Int) (f d:Nat),-1<=m/\m<=n/\(m+1).toNat<=f/\d+f<=1001/\T 2=.cptr [.list 5 (A1A l) .no,.mapr a,.mapr b,.mapr c]/\T 1=I m/\T 5=I d/\M1=M/\R=d+A5j l f m) (λT M1=>match T 1 with|.val (.int _ i)=>(i+1).toNat|_=>0) (by kernel_rfl) ?_ ?_
 .exact⟨n,(n+1).toNat,0,by omega,by omega,by omega,by omega,by simp,by simp,by simp,rfl,by simp[hR]⟩
 .rintro T M1 ⟨m,f,d,m1,m2,f1,d1,t0,t1,t5,rfl,hr⟩;by_cases h0:m<0
  ·(have e:¬m>=0:=by omega);have h:¬0<=m:=by omega
   (have hz:A5j l f m=0:=by cases f<;>simp[A5j,h0]);rw[hz,Z0V]at hr
   simp -dsimp -implicitDefEqProofs[t0,t1,t5,e,h,hr]
  obtain⟨k,rfl⟩:∃k:Nat,m=k:=⟨m.toNat,by omega⟩;have e:(k:Int)>=0:=by omega
  have hk:k<l.length:=by omega
  obtain⟨f,rfl⟩:∃g,f=g+1:=⟨f-1,by omega⟩;obtain⟨q1,q2⟩:=ho k hk (by omega);have hp:A4s l k=l[k].parent:=by simp[A4s,hk]
  rw[A5j,Z0e h0,hp]at hr;have w1:=A1i (i:=d) (by omega);simp -dsimp -implicitDefEqProofs[t0,t1,t5,e,hk,w1,A0L.row];exact⟨⟨_,q1,by omega,f,by omega,d+1,by omega,rfl,rfl,by omega⟩,q2⟩
end
def B0W(l:List A0L)(n:Nat):ByteArray:=match l[n]? with
 |some s=>s.label
 |none=>⟨#[]⟩
def A2a(l:List A0L)(p:Int)(i:Nat):List Nat:=(List.range i).filter λk=>decide (A4s l k=p)
def B0X(F:IdD->Option A0b)(l:List A0L)(n:Nat)(lab:ByteArray)(k:Nat):Bool:=decide (B0W l k=lab)&&decide (A4w F l k=A4w F l n)
def B2A(F:IdD->Option A0b)(uid:IdD)(l:List A0L)(n:Nat):Int:=match l[n]? with
 |none=>0
 |some x=>
  if !(F x.id).isSome||decide (x.id=uid)then 4
  else if(l.take n).any λs=>decide (s.id=x.id)then 5
  else if decide (x.parent< -1)||decide ((n:Int)<=x.parent)then 12
  else if !A0K x.label then 1
  else if !A1w (A4w F l x.parent) (A4w F l n)then 9
  else if(A2a l x.parent n).any (B0X F l n x.label)then 10
  else if decide (64<=(A2a l x.parent n).length)||decide (8<A5j l (n+1) n)then 6
  else 0
def B2k(l:List A0L)(p:Int)(i:Nat):A2a l p (i+1)=A2a l p i++if A4s l i=p then[i]else[]:=by simp only[A2a,Z2Q,List.filter_append];by_cases h:A4s l i=p<;>simp[h]
def C5x{l:List A0L}{p:Int}{i k:Nat}(h:k<i)(hp:A4s l k=p):k∈A2a l p i:=by simp[A2a,h,hp]
def A6H(l:List A0L)(p:Int)(i:Nat):(A2a l p i).length<=i:=by have:=Z2Y (λk:Nat=>decide (A4s l k=p)) (List.range i);simpa[A2a]using this
def B2b{l}{p}{i k}(h:k∈A2a l p i):k<i:=by simp[A2a]at h;exact h.1
section
variable (gl:Nat->AV)
def C9A(F:IdD->Option A0b)(u:A0b)(hF:F=λx=>A1O x u)(l:List A0L)(n:Nat)(M:Mem)(hg:u.good)(hl:l.length<=1000)(hs:∀s∈l,s.good)(hn:n<l.length)(a6:∀j,j<n->A8I l j):A0e (WC gl) 48 [.agg u.row,.list 5 (A1A l) .no,I n] M (λv M'=>v=I (B2A F u.id l n)/\M'=M):=by
 refine A6Z (λ_=>trivial) ?_;obtain⟨x,hx⟩:∃x,x=l[n]:=⟨_,rfl⟩;have hf:∀M,A0e (WC gl) 104 [.agg u.row,.agg [I x.id.act,I x.id.item,I x.id.n]] M (λv M'=>v=.tuple [.agg (A2y (F x.id)),B (F x.id).isSome]/\M'=M):=λM=>by rw[hF];exact B4Q gl u x.id M hg
 have hk:∀(n:Int) M,n<l.length->A0e (WC gl) 107 [.agg u.row,.list 5 (A1A l) .no,I n] M (λv M'=>v=I (A4w F l n)/\M'=M):=λn M h=>by rw[hF];exact C4p gl u l n M hg h
 obtain⟨R,hR⟩:∃R,R=B2A F u.id l n:=⟨_,rfl⟩;rw[<-hR];have ac:l[n]?=some x:=by rw[hx];simp[hn]
 have a9:=hx.symm;simp only[B2A,ac]at hR;obtain⟨o,ho⟩:∃o,o=F x.id:=⟨_,rfl⟩;rw[<-ho]at hf hR;have af:x.good:=hs x (by rw[hx];exact Z0v hn);have a8:∀y:IdD,A1C prog .eql 23 (.agg [I x.id.act,I x.id.item,I x.id.n]) (.agg [I y.act,I y.item,I y.n])=some (B (decide (x.id=y))):=λy=>B2E x.id y;rw[u.row_eq]at hf hk|-;refine A0k hB func48 ?_;have hX:(M++[A0p.cells 69 [I x.id.act,I x.id.item,I x.id.n,I x.parent,S x.label]])[M.length]?=some (A0p.cells 69 [I x.id.act,I x.id.item,I x.id.n,I x.parent,S x.label]):=by simp
 simp -dsimp -implicitDefEqProofs[hn,a9,A0L.row,A0o,A0l,A0d,A4q,A4d];rw[A0a hX];simp -dsimp -implicitDefEqProofs;refine A0j func104 (hf _) ?_;rintro _ _ ⟨rfl,rfl⟩;obtain⟨M2,a1⟩:∃M2,M2=M++[A0p.cells 69 [I x.id.act,I x.id.item,I x.id.n,I x.parent,S x.label],A0p.cells 27 (A2y o)]:=⟨_,rfl⟩;have a:M2[M.length]?=some (A0p.cells 69 [I x.id.act,I x.id.item,I x.id.n,I x.parent,S x.label]):=by rw[a1];simp
 have b:Grow M M2:=by rw[a1];exact A0c.app none _ _
 cases o with
 |none=>simp only[Z3O,Z1j,Z1F,Z0G]at hR;simp -dsimp -implicitDefEqProofs[A0o,A0l,A0d,A4q,A4d,hR];rw[<-a1];exact b
 |some v=>
 simp only[Z2N,Z1s,Z0X,Z0o]at hR;simp -dsimp -implicitDefEqProofs[A0o,A0l,A0d,A4q,A4d];rw[<-a1];by_cases c2:x.id=u.id;case pos=>rw[Z0d c2]at hR;simp -dsimp -implicitDefEqProofs[A0a a,a8,Z0J c2,hR,b]
 rw[Z0e c2]at hR;simp -dsimp -implicitDefEqProofs[A0a a,a8,c2];refine A0s hB n 10 (λT M3=>∃i:Nat,i<=n/\T 1=.list 5 (A1A l) .no/\T 2=I n/\T 3=.cptr [I u.id.act,I u.id.item,I u.id.n,I u.kind,S u.label,.list 4 (A0g u.head) .no,.list 4 (A0g u.words) .no,.list 8 (A0O u.kids) .no]/\T 7=.ptr M.length 0/\T 10=I i/\M3=M2/\((l.take n).any λs=>decide (s.id=x.id))=(((l.take n).drop i).any λs=>decide (s.id=x.id))) ?_ ?_
 .exact⟨0,by omega,by simp,by simp,by simp,by simp,by simp,rfl,by simp⟩
 rintro T M3 ⟨i,i1,t1,t2,t3,t7,r,rfl,hb⟩;by_cases hi:i<n
 .have d:(i:Int)<n:=by omega
  have f:i<l.length:=by omega
  have w1:=A1i (i:=i) (by omega);have ae:(l.take n).drop i=l[i]::(l.take n).drop (i+1):=by rw[Z0h (by simp;omega)];simp
  rw[ae,Z1V]at hb;have a3:A1C prog .eql 23 (.agg [I l[i].id.act,I l[i].id.item,I l[i].id.n]) (.agg [I x.id.act,I x.id.item,I x.id.n])=some (B (decide (l[i].id=x.id))):=B2E _ _;simp -dsimp -implicitDefEqProofs[t1,t2,t3,t7,r,d];refine A1h hB (A0w gl) (λk=>if k=6 then 1 else 0) (λ_=>M.length) (by rfl) (by kernel_rfl) ?_;by_cases c:l[i].id=x.id
  .rw[Z0p c,Z1F]at hb;rw[Z0d hb]at hR;simp -dsimp -implicitDefEqProofs[t1,t2,t3,t7,r,f,A0L.row,A0y,A0a a,a3,Z0J c,hR,b]
  .rw[Z0k c,Z0X]at hb;simp -dsimp -implicitDefEqProofs[t1,t2,t3,t7,r,f,A0L.row,A0y,A0a a,a3,c,w1];exact⟨⟨i+1,by clear w1;omega,rfl,hb⟩,by clear w1;omega⟩
 have d:¬(i:Int)<n:=by omega
 rw[show(l.take n).drop i=[]from Z0n (by simp;omega),Z2J]at hb;rw[hb]at hR;simp only[Z0E,Z0Y]at hR;by_cases c3:x.parent< -1;case pos=>
  rw[Z0p c3,Z1F,Z0d rfl]at hR;have t:¬-1<=x.parent:=by omega
  simp -dsimp -implicitDefEqProofs[t1,t2,t3,t7,r,d,A0a a,c3,t,hR,b]
 have t:-1<=x.parent:=by omega
 rw[Z0k c3,Z0X]at hR;by_cases c4:(n:Int)<=x.parent;case pos=>rw[Z0p c4,Z0d rfl]at hR;have a4:x.parent>=n:=c4;simp -dsimp -implicitDefEqProofs[t1,t2,t3,t7,r,d,A0a a,c3,t,c4,a4,hR,b]
 rw[Z0k c4]at hR;simp only[Z0E,Z0Y]at hR;have a4:¬x.parent>=n:=c4;simp -dsimp -implicitDefEqProofs[t1,t2,t3,t7,r,d,A0a a,c3,t,c4,a4];refine A0j func105 (A7E gl _ x.label af.2.2) ?_;rintro _ M2 ⟨rfl,rfl⟩;cases c5:A0K x.label;case false=>simp only[c5,Z1j,Z0G]at hR;simp -dsimp -implicitDefEqProofs[t1,t2,t3,t7,hR,b]
 simp only[c5,Z1s,Z0E,Z0Y]at hR;have ad:x.parent<l.length:=by omega
 simp -dsimp -implicitDefEqProofs[t1,t2,t3,t7];refine A1h hB (A0w gl) (λk=>if k=3 then 1 else 0) (λ_=>M.length) (by rfl) (by kernel_rfl) ?_;simp -dsimp -implicitDefEqProofs[t1,t2,t3,t7,A0y,A0a a];refine A1j func107 (λM=>(hk x.parent M ad)) ?_;simp -dsimp -implicitDefEqProofs[t1,t2,t3,t7,A0y,A0a a];refine A1j func107 (λM=>(hk n M (by omega))) ?_;simp -dsimp -implicitDefEqProofs;refine A1j func106 (λM=>(C4I gl M (A4w F l x.parent) (A4w F l n))) ?_;cases c6:A1w (A4w F l x.parent) (A4w F l n);case false=>simp only[c6,Z1j,Z0G]at hR;simp -dsimp -implicitDefEqProofs[t1,t2,t3,t7,hR,b]
 simp only[c6,Z1s,Z0E,Z0Y]at hR;simp -dsimp -implicitDefEqProofs[t1,t2,t3,t7];refine A0s hB n 12 (λT M3=>∃i:Nat,i<=n/\T 1=.list 5 (A1A l) .no/\T 2=I n/\T 3=.cptr [I u.id.act,I u.id.item,I u.id.n,I u.kind,S u.label,.list 4 (A0g u.head) .no,.list 4 (A0g u.words) .no,.list 8 (A0O u.kids) .no]/\T 7=.ptr M.length 0/\T 12=I i/\T 11=I (A2a l x.parent i).length/\M3=M2/\∀k∈A2a l x.parent i,B0X F l n x.label k=false) ?_ ?_
 .exact⟨0,by omega,by simp[t1],by simp[t2],by simp[t3],by simp[t7],by simp,by simp[A2a],rfl,by simp[A2a]⟩
 clear t1 t2 t3 t7 r d;rintro T M3 ⟨i,i1,t1,t2,t3,t7,g,m,rfl,hb⟩;by_cases hi:i<n
 .have d:(i:Int)<n:=by omega
  have f:i<l.length:=by omega
  have w1:=A1i (i:=i) (by omega);have ah:=A6H l x.parent i;have w2:=A1i (i:=(A2a l x.parent i).length) (by omega);have ab:A4s l i=l[i].parent:=by simp[A4s,f]
  have a7:B0W l i=l[i].label:=by simp[B0W,f]
  have q:=B2k l x.parent i;rw[ab]at q;simp -dsimp -implicitDefEqProofs[t1,t2,t3,t7,g,m,d];refine A1h hB (A0w gl) (λk=>if k=6 then 1 else 0) (λ_=>M.length) (by rfl) (by kernel_rfl) ?_;by_cases c:l[i].parent=x.parent;case neg=>rw[Z0e c,Z1f]at q;simp -dsimp -implicitDefEqProofs[t1,t2,t3,t7,g,m,f,A0L.row,A0y,A0a a,c,w1];exact⟨⟨i+1,by clear w1 w2;omega,rfl,by rw[q],λk h=>hb k (by rwa[q]at h)⟩,by clear w1 w2;omega⟩
  rw[Z0d c]at q;have a2:B0X F l n x.label i=false->∀k∈A2a l x.parent (i+1),B0X F l n x.label k=false:=λh k hk=>by
   rw[q]at hk;rcases Z1b.1 hk with h1|h1
   .exact hb k h1
   .simp only[Z0F,Z1W,Z3l]at h1;subst h1;exact h
  have ai:(A2a l x.parent i).length+1=(A2a l x.parent (i+1)).length:=by rw[q];simp
  simp -dsimp -implicitDefEqProofs[t1,t2,t3,t7,g,m,f,A0L.row,A0y,A0a a,Z0J c,w1,w2];refine A1h hB (A0w gl) (λk=>if k=6 then 1 else 0) (λ_=>M.length) (by rfl) (by kernel_rfl) ?_;by_cases c7:l[i].label=x.label;case neg=>
   (have hd:B0X F l n x.label i=false:=by simp[B0X,a7,c7]);simp -dsimp -implicitDefEqProofs[t1,t2,t3,t7,g,m,f,A0L.row,A0y,A0a a,c7,w1]
   exact⟨⟨i+1,by clear w1 w2;omega,rfl,by clear w1 w2;omega,a2 hd⟩,by clear w1 w2;omega⟩
  simp -dsimp -implicitDefEqProofs[t1,t2,t3,t7,g,m,f,A0L.row,A0y,A0a a,Z0J c7];refine A1j func107 (λM=>(hk i M (by omega))) ?_;simp -dsimp -implicitDefEqProofs[t1,t2,t3,t7,g,m,f,A0L.row,A0y,A0a a,Z0J c7];refine A1j func107 (λM=>(hk n M (by omega))) ?_;by_cases c8:A4w F l i=A4w F l n;case neg=>
   (have hd:B0X F l n x.label i=false:=by simp[B0X,c8]);simp -dsimp -implicitDefEqProofs[t1,t2,t3,t7,g,m,c8,w1]
   exact⟨⟨i+1,by clear w1 w2;omega,rfl,by clear w1 w2;omega,a2 hd⟩,by clear w1 w2;omega⟩
  have hd:B0X F l n x.label i=true:=by simp[B0X,a7,c7,c8]
  have a0:(A2a l x.parent n).any (B0X F l n x.label)=true:=Z2I.2 ⟨i,C5x hi (by rw[ab,c]),hd⟩;rw[Z0d a0]at hR;simp -dsimp -implicitDefEqProofs[t1,t2,t3,t7,g,m,Z0J c8,hR,b]
 have d:¬(i:Int)<n:=by omega
 obtain rfl:i=n:=by omega
 have a0:(A2a l x.parent i).any (B0X F l i x.label)=false:=by rw[List.any_eq_false];intro k hk;simp[hb k hk]
 rw[a0]at hR;simp only[Z0E,Z0Y]at hR;have ag:A8I l ((i:Int)).toNat:=by
  intro j hj h;have h:j<=i:=by simpa using h
  by_cases e:j=i
  .subst e;rw[a9];exact⟨t,by omega⟩
  .exact a6 j (by omega) j hj (Z0u _)
 by_cases c9:64<=(A2a l x.parent i).length;case pos=>
  have w:(64:Int)<=(A2a l x.parent i).length:=by omega
  have a5:((A2a l x.parent i).length:Int)>=64:=w;rw[Z0p c9,Z1F,Z0d rfl]at hR;simp -dsimp -implicitDefEqProofs[t1,t2,t3,t7,g,m,d,w,a5,hR,b]
 have w:¬(64:Int)<=(A2a l x.parent i).length:=by omega
 have a5:¬((A2a l x.parent i).length:Int)>=64:=w;rw[Z0k c9,Z0X]at hR;have aa:=D1P gl l i M3 hl ⟨by omega,by omega⟩ ag;rw[show((i:Int)+1).toNat=i+1 by omega]at aa;simp -dsimp -implicitDefEqProofs[t1,t2,t3,t7,g,m,d,w,a5];refine A0j func108 aa ?_;rintro _ _ ⟨rfl,rfl⟩;by_cases c10:8<A5j l (i+1) i
 .have p:(8:Int)<A5j l (i+1) i:=by omega
  have z:(A5j l (i+1) i:Int)>8:=p;rw[Z0p c10,Z0d rfl]at hR;simp -dsimp -implicitDefEqProofs[p,z,hR,b]
 .have p:¬(8:Int)<A5j l (i+1) i:=by omega
  have z:¬(A5j l (i+1) i:Int)>8:=p;rw[Z0k c10]at hR;simp only[Z0E,Z0Y]at hR;simp -dsimp -implicitDefEqProofs[p,z,hR,b]
end
def A7b(E:Nat->Int):Nat->Nat->Int
 |0,_=>0
 |r+1,i=>if E i=0 then A7b E r (i+1)else E i
def D3c{F:IdD->Option A0b}{uid}{l}{n}(hn:n<l.length)(h:B2A F uid l n=0):-1<=l[n].parent/\l[n].parent<n:=by
 simp only[B2A,Z0m hn]at h;split at h
 .simp at h
 split at h
 .simp at h
 split at h
 .simp at h
 rename_i h3;simp only[Z1O,Z0o,Z2H]at h3;omega
def B8P{F:IdD->Option A0b}{uid}{l}{n}(h:∀j,j<n->B2A F uid l j=0):∀j,j<n->A8I l j:=λj hj k hk hkj=>D3c hk (h k (by omega))
def A9A(F:IdD->Option A0b)(u:A0b)(l:List A0L):Int:=
 if !B2N u then 11 else
 if A7b (B2A F u.id l) l.length 0=0 then(if(l.length:Int)=A0x u-1 then 0 else 13)else A7b (B2A F u.id l) l.length 0
section
variable (gl:Nat->AV)
def D1S(F:IdD->Option A0b)(u:A0b)(hF:F=λx=>A1O x u)(l:List A0L)(M:Mem)(a:Fit u)(hl:l.length<=1000)(hs:∀s∈l,s.good):A0e (WC gl) 13 [.agg u.row,.list 5 (A1A l) .no] M (λv M'=>v=I (A9A F u l)/\M'=M):=by
 have f:=D0S gl u M a;have b:=B5n gl u M a.1 a.2.2;have hw:=λn h1 h2=>C9A gl F u hF l n M a.1 hl hs h1 h2;have g:=A3R u;have h:=a.2.2;obtain⟨R,hR⟩:∃R,R=A9A F u l:=⟨_,rfl⟩;rw[<-hR];simp only[A9A]at hR;obtain⟨E,hE⟩:∃E,E=B2A F u.id l:=⟨_,rfl⟩;rw[<-hE]at hR hw;have d:∀n,(∀j,j<n->E j=0)->∀j,j<n->A8I l j:=by rw[hE];exactλn=>B8P
 rw[u.row_eq]at f b hw|-;refine A0k hB func13 ?_;simp -dsimp -implicitDefEqProofs;refine A0i func35 f ?_;cases c1:B2N u;case false=>simp only[c1,Z1j,Z0G]at hR;simp -dsimp -implicitDefEqProofs[hR]
 simp only[c1,Z1s,Z0E,Z0Y]at hR;simp -dsimp -implicitDefEqProofs;refine A0s hB l.length 5 (λT M3=>∃i:Nat,i<=l.length/\T 1=.list 5 (A1A l) .no/\T 2=.cptr [I u.id.act,I u.id.item,I u.id.n,I u.kind,S u.label,.list 4 (A0g u.head) .no,.list 4 (A0g u.words) .no,.list 8 (A0O u.kids) .no]/\T 5=I i/\M3=M/\A7b E l.length 0=A7b E (l.length-i) i/\∀j,j<i->E j=0) ?_ ?_
 .exact⟨0,by omega,by simp,by simp,by simp,rfl,by simp,by simp⟩
 rintro T M3 ⟨i,i1,t1,t2,t5,rfl,ho,hz⟩;by_cases hi:i<l.length
 .have c:(i:Int)<l.length:=by omega
  have w1:=A1i (i:=i) (by omega);rw[show l.length-i=(l.length-(i+1))+1 by omega,A7b]at ho;simp -dsimp -implicitDefEqProofs[t1,t2,t5,c];refine A0i func48 (hw i hi (d i hz)) ?_;by_cases c2:E i=0
  .rw[Z0d c2]at ho;simp -dsimp -implicitDefEqProofs[t1,t2,t5,Z0J c2,w1]
   exact⟨⟨i+1,by clear w1;omega,rfl,ho,λj hj=>by
    by_cases e:j=i
    .rw[e];exact c2
    .exact hz j (by clear w1;omega)⟩,by clear w1;omega⟩
  .rw[Z0e c2]at ho;rw[ho,Z0e c2]at hR;simp -dsimp -implicitDefEqProofs[t1,t2,t5,c2,hR]
 have c:¬(i:Int)<l.length:=by omega
 rw[show l.length-i=0 by omega,A7b]at ho;rw[ho,Z0d rfl]at hR;simp -dsimp -implicitDefEqProofs[t1,t2,t5,c];refine A0i func49 b ?_;have w2:IntKind.i64.wrap ((A0x u:Int)-1)=A0x u-1:=A0H (by omega) (by omega);by_cases c3:(l.length:Int)=A0x u-1
 .rw[Z0d c3]at hR;simp -dsimp -implicitDefEqProofs[w2,Z0J c3,hR]
 .rw[Z0e c3]at hR;simp -dsimp -implicitDefEqProofs[w2,c3,hR]
end
def C5U(k:Nat):List AV:=[I k]
section
variable (gl:Nat->AV)
def D4B(b:FuncId)(first cap:List AV)(p:Nat->Bool)(l:List Nat)(hl:l.length<=1000)(v:AV)(M:Mem)(hv:A1z 3 1 C5U M v l) (hf:∀k∈l,A5q (WC gl) b (first++I k::cap) M (λr M'=>r=B (p k)/\M'=M)):A0e (WC gl) 206 [v,.func (.func b) first cap] M (λr M'=>(∃z:Int,r=I z/\decide (0<=z)=l.any p)/\M'=M):=by
 refine A0k hB func206 ?_
 have c:A1H prog 130 v=some l.length:=hv.len (e':=3) (by simp)
 simp -dsimp -implicitDefEqProofs[c]
 refine A0s hB l.length 8 (λT M1=>∃i:Nat,i<=l.length/\M1=M/\T 0=v/\T 1=.func (.func b) first cap/\T 7=I l.length/\T 8=I i/\l.any p=(l.drop i).any p) ?_ ?_
 .exact⟨0,by omega,rfl,by simp,by simp,by simp,by simp,by simp⟩
 .rintro T M1 ⟨i,i1,rfl,t0,t1,t7,t8,ho⟩;by_cases hi:i<l.length
  ·(have a:(i:Int)<l.length:=by omega);have w1:=A1i (i:=i) (by omega)
   obtain⟨q,p1,p2⟩:=hv.at1 (P:=prog) (t:=3) (f:=λk:Nat=>I k) (λ_=>rfl) (by simp) (by simp) hi;rw[Z0h hi,Z1V]at ho;simp -dsimp -implicitDefEqProofs[t0,t1,t7,t8,hi,a,p1,p2];refine A6P (hf l[i] (Z0v hi)) ?_;rintro _ _ ⟨rfl,rfl⟩;cases hp:p l[i]
   .rw[hp,Z0X]at ho;simp -dsimp -implicitDefEqProofs[t0,t1,t7,t8,w1];exact⟨⟨i+1,by clear w1;omega,rfl,ho⟩,by clear w1;omega⟩
   .rw[hp,Z1F]at ho;simp -dsimp -implicitDefEqProofs[t0,t1,t7,t8,ho]
  ·(have a:¬(i:Int)<l.length:=by omega);rw[show l.drop i=[]from Z0n (by omega),Z2J]at ho
   simp -dsimp -implicitDefEqProofs[t0,t1,t7,t8,a,ho]
def D0L(a:FuncId)(first cap:List AV)(p:Nat->Bool)(l:List Nat)(hl:l.length<=1000)(v:AV)(M:Mem)(hv:A1z 3 1 C5U M v l) (hf:∀k∈l,A5q (WC gl) a (first++I k::cap) M (λr M'=>r=B (p k)/\M'=M)):A0e (WC gl) 153 [v,.func (.func a) first cap] M (λr M'=>r=B (l.any p)/\M'=M):=by
 refine A0k hB func153 ?_
 simp -dsimp -implicitDefEqProofs
 refine A0j func206 (D4B gl a first cap p l hl v M hv hf) ?_
 rintro _ _ ⟨⟨z,rfl,hz⟩,rfl⟩
 by_cases h:0<=z
 .have hg:z>=0:=h;rw[Z0p h]at hz;simp -dsimp -implicitDefEqProofs[h,hg,hz]
 .have hg:¬z>=0:=h;rw[Z0k h]at hz;simp -dsimp -implicitDefEqProofs[h,hg,hz]
def D2L(l:List A0L)(L:List (IdD×A0b))(a b c bx n k:Nat)(x:A0L)(M:Mem)(hM:A1T A2O B4c M a L)(hX:M[bx]?=some (.cells 69 [I x.id.act,I x.id.item,I x.id.n,I x.parent,S x.label]))(hk:k<l.length)(hn:n<l.length):A0e (WC gl) 150 [I k,.cptr [.list 5 (A1A l) .no,.mapr a,.mapr b,.mapr c],.ptr bx 0,.cptr [I n]] M (λr M'=>r=B (B0X (A1B L) l n x.label k)/\M'=M):=by
 refine A0k hB func150 ?_
 have e:B0W l k=l[k].label:=by simp[B0W,hk]
 have d:=λ(m:Nat) (h:m<l.length)=>B8V gl l L a b c m M hM (by omega)
 simp -dsimp -implicitDefEqProofs
 refine A1h hB (A0w gl) (λk=>if k=7 then 1 else if k=12\/k=15 then 2 else 0) (λ_=>bx) (by rfl) (by kernel_rfl) ?_
 by_cases c1:l[k].label=x.label
 case neg=>
  have hd:B0X (A1B L) l n x.label k=false:=by simp[B0X,e,c1]
  simp -dsimp -implicitDefEqProofs[hk,A0L.row,A0y,A0a hX,c1,hd]
 simp -dsimp -implicitDefEqProofs[hk,A0L.row,A0y,A0a hX,Z0J c1]
 refine A6x (A2B func151 rfl rfl (d k hk)) ?_
 simp -dsimp -implicitDefEqProofs
 refine A6x (A2B func151 rfl rfl (d n hn)) ?_
 simp -dsimp -implicitDefEqProofs[B0X,e,c1]
 rfl
def C5X:AV:=.val (.slice none 0 0)
def B4B:A7H prog 130=some C5X:=by simp[A7H];rfl
def D1z:A7H prog 3=some (I 0):=by kernel_rfl
def D2K(ap:gl 0=A4A)(u:A0b)(l:List A0L)(L:List (IdD×A0b))(IL:List (IdD×Nat))(KL:List (Int×AV))(a b c n:Nat)(M:Mem)(hM:A1T A2O B4c M a L)(hI:A1T A2O (λn:Nat=>I n) M b IL)(hK:A1T I (λv=>v) M c KL)
 (av:∀y,(A1B IL y).isSome=(l.take n).any (λs=>decide (s.id=y)))(ao:∀p,A1z 3 1 C5U M ((A1B KL p).getD C5X) (A2a l p n))(hl:l.length<=1000)(hs:∀s∈l,s.good)(hn:n<l.length)(aj:∀j,j<n->A8I l j):
 A0e (WC gl) 103 [B1W l a b c,.agg u.row,I n] M (λr M'=>r=I (B2A (A1B L) u.id l n)/\M'=M):=by
 refine A6Z (λ_=>trivial) ?_
 obtain⟨x,hx⟩:∃x,x=l[n]:=⟨_,rfl⟩
 obtain⟨R,hR⟩:∃R,R=B2A (A1B L) u.id l n:=⟨_,rfl⟩
 rw[<-hR]
 have am:l[n]?=some x:=by rw[hx];simp[hn]
 have al:=hx.symm
 simp only[B2A,am]at hR
 have ax:x.good:=hs x (by rw[hx];exact Z0v hn)
 have a3:∀y:IdD,A1C prog .eql 23 (.agg [I x.id.act,I x.id.item,I x.id.n]) (.agg [I y.act,I y.item,I y.n])=some (B (decide (x.id=y))):=λy=>B2E x.id y
 obtain⟨M1,ac⟩:∃M1,M1=M++[A0p.cells 69 [I x.id.act,I x.id.item,I x.id.n,I x.parent,S x.label]]:=⟨_,rfl⟩
 have ag:M1[M.length]?=some (A0p.cells 69 [I x.id.act,I x.id.item,I x.id.n,I x.parent,S x.label]):=by rw[ac];simp
 have a2:Grow M M1:=by rw[ac];exact A0c.app none _ _
 obtain⟨M2,aa⟩:∃M2,M2=M1++[A0p.cells 27 (A2y (A1B L x.id))]:=⟨_,rfl⟩
 have a4:Grow M1 M2:=by rw[aa];exact A0c.app none _ _
 have g:=a2.trans a4
 have q:=a4.get ag (by simp)
 have ai:A1K prog 92 M1 (.mapr a) (.agg [I x.id.act,I x.id.item,I x.id.n]) true=some (.tuple [.agg (A2y (A1B L x.id)),B (A1B L x.id).isSome]):=by rw[show AV.agg [I x.id.act,I x.id.item,I x.id.n]=A2O x.id from rfl,(hM.keep a2 (by simp)).get (A9L 92 27 (by kernel_rfl)) x.id C2j true];cases A1B L x.id<;>rfl
 have f:∃z,A1K prog 93 M2 (.mapr b) (.agg [I x.id.act,I x.id.item,I x.id.n]) true=some (.tuple [I z,B ((l.take n).any (λs=>decide (s.id=x.id)))]):=by rw[show AV.agg [I x.id.act,I x.id.item,I x.id.n]=A2O x.id from rfl,(hI.keep g (by simp)).get (A9L 93 3 (by kernel_rfl)) x.id D1z true,<-av];cases A1B IL x.id<;>exact⟨_,rfl⟩
 obtain⟨z,f⟩:=f
 have ah:A1K prog 94 M1 (.mapr c) (I x.parent) false=some ((A1B KL x.parent).getD C5X):=by rw[(hK.keep a2 (by simp)).get (B9g 94 130 (by kernel_rfl)) x.parent B4B false];cases A1B KL x.parent<;>rfl
 have a9:=(ao x.parent).keep g (by simp)
 obtain⟨sv,ar⟩:∃sv,sv=(A1B KL x.parent).getD C5X:=⟨_,rfl⟩
 rw[<-ar]at ah a9
 have af:=hM.keep g (by simp)
 have ad:=λ(m:Int) (h:m<l.length) (M:Mem) (hM:A1T A2O B4c M a L)=>B8V gl l L a b c m M hM h
 have a7:=a9.len (P:=prog) (t:=130) (e':=3) (by simp)
 obtain⟨o,ho⟩:∃o,o=A1B L x.id:=⟨_,rfl⟩
 rw[<-ho]at hR ai aa
 obtain⟨b1,an⟩:∃b1,b1=((l.take n).any (λs=>decide (s.id=x.id))):=⟨_,rfl⟩
 rw[<-an]at f hR
 rw[u.row_eq]
 refine A0k hB func103 ?_
 simp -dsimp -implicitDefEqProofs[hn,al,A0L.row,A0o,A0l,A0d,A4q,A4d]
 rw[<-ac]
 simp -dsimp -implicitDefEqProofs[A0a ag,ah,ai,A0o,A0l,A0d,A4q,A4d]
 rw[<-aa]
 cases o with
 |none=>
  simp only[Z3O,Z1j,Z1F,Z0G]at hR
  simp -dsimp -implicitDefEqProofs[A0a q,f,hR,g]
 |some v=>
 simp only[Z2N,Z1s,Z0X,Z0o]at hR
 by_cases c2:x.id=u.id
 case pos=>rw[Z0d c2]at hR;simp -dsimp -implicitDefEqProofs[A0a q,f,a3,Z0J c2,hR,g]
 rw[Z0e c2]at hR
 cases b1 with
 |true=>
  rw[Z0d rfl]at hR
  simp -dsimp -implicitDefEqProofs[A0a q,f,a3,c2,hR,g]
 |false=>
 simp only[Z0E,Z0Y]at hR
 by_cases c3:x.parent< -1
 case pos=>
  rw[Z0p c3,Z1F,Z0d rfl]at hR;have a5:¬-1<=x.parent:=by omega
  simp -dsimp -implicitDefEqProofs[A0a q,f,a3,c2,c3,a5,hR,g]
 have a5:-1<=x.parent:=by omega
 rw[Z0k c3,Z0X]at hR
 by_cases c4:(n:Int)<=x.parent
 case pos=>rw[Z0p c4,Z0d rfl]at hR;have ab:x.parent>=n:=c4;simp -dsimp -implicitDefEqProofs[A0a q,f,a3,c2,c3,a5,c4,ab,hR,g]
 rw[Z0k c4]at hR
 simp only[Z0E,Z0Y]at hR
 have ab:¬x.parent>=n:=c4
 simp -dsimp -implicitDefEqProofs[A0a q,f,a3,c2,c3,a5,c4,ab]
 refine A0j func112 (B1u gl _ x.label) ?_
 rintro _ M3 ⟨rfl,w⟩
 have ak:=w.get q (by simp)
 have a0:=af.keep w (by simp)
 have aw:=a9.keep w (by simp)
 have d:=g.trans w
 cases c5:A0K x.label
 case false=>simp only[c5,Z1j,Z0G]at hR;simp -dsimp -implicitDefEqProofs[hR,d]
 simp only[c5,Z1s,Z0E,Z0Y]at hR
 have au:x.parent<l.length:=by omega
 simp -dsimp -implicitDefEqProofs
 refine A1h hB (A0w gl) (λk=>if k=2 then 1 else if k=3\/k=6\/k=7 then 2 else 0) (λ_=>M.length) (by rfl) (by kernel_rfl) ?_
 simp -dsimp -implicitDefEqProofs[A0y,A0a ak]
 refine A6x (A2B func151 rfl rfl (ad x.parent au _ a0)) ?_
 simp -dsimp -implicitDefEqProofs
 refine A6x (A2B func151 rfl rfl (ad n (by omega) _ a0)) ?_
 simp -dsimp -implicitDefEqProofs
 refine A6x (A2B func152 rfl rfl (B2M gl M3 ap (A4w (A1B L) l x.parent) (A4w (A1B L) l n))) ?_
 cases c6:A1w (A4w (A1B L) l x.parent) (A4w (A1B L) l n)
 case false=>simp only[c6,Z1j,Z0G]at hR;simp -dsimp -implicitDefEqProofs[hR,d]
 simp only[c6,Z1s,Z0E,Z0Y]at hR
 simp -dsimp -implicitDefEqProofs
 refine A0j func153 (D0L gl 150 [] [.cptr [.list 5 (A1A l) .no,.mapr a,.mapr b,.mapr c],.ptr M.length 0,.cptr [I n]] (B0X (A1B L) l n x.label) (A2a l x.parent n) (by have:=A6H l x.parent n;omega) sv M3 aw ?_) ?_
 .intro k hk;exact A2B func150 rfl rfl (D2L gl l L a b c M.length n k x M3 a0 ak (by have:=B2b hk;omega) hn)
 rintro _ _ ⟨rfl,rfl⟩
 cases c7:(A2a l x.parent n).any (B0X (A1B L) l n x.label)
 case true=>rw[c7,Z0d rfl]at hR;simp -dsimp -implicitDefEqProofs[hR,d]
 rw[c7]at hR
 simp only[Z0E,Z0Y]at hR
 have aq:A8I l ((n:Int)).toNat:=by
  intro j hj h;have h:j<=n:=by simpa using h
  by_cases e:j=n
  .subst e;rw[al];exact⟨a5,by omega⟩
  .exact aj j (by omega) j hj (Z0u _)
 by_cases c9:64<=(A2a l x.parent n).length
 case pos=>
  have a1:(64:Int)<=(A2a l x.parent n).length:=by omega
  have a8:((A2a l x.parent n).length:Int)>=64:=a1;rw[Z0p c9,Z1F,Z0d rfl]at hR;simp -dsimp -implicitDefEqProofs[a7,a1,a8,hR,d]
 have a1:¬(64:Int)<=(A2a l x.parent n).length:=by omega
 have a8:¬((A2a l x.parent n).length:Int)>=64:=a1
 rw[Z0k c9,Z0X]at hR
 have ae:=λM=>D1J gl l a b c n M hl ⟨by omega,by omega⟩ aq
 rw[show((n:Int)+1).toNat=n+1 by omega]at ae
 simp -dsimp -implicitDefEqProofs[a7,a1,a8]
 refine A0i func154 (ae _) ?_
 by_cases c10:8<A5j l (n+1) n
 .have i:(8:Int)<A5j l (n+1) n:=by omega
  have a6:(A5j l (n+1) n:Int)>8:=i;rw[Z0p c10,Z0d rfl]at hR;simp -dsimp -implicitDefEqProofs[i,a6,hR,d]
 .have i:¬(8:Int)<A5j l (n+1) n:=by omega
  have a6:¬(A5j l (n+1) n:Int)>8:=i;rw[Z0k c10]at hR;simp only[Z0E,Z0Y]at hR;simp -dsimp -implicitDefEqProofs[i,a6,hR,d]
end
section
mutual
def B5x(x:IdD):∀u:A0b,A1O x u=(B2D u).find? λv=>decide (v.id=x)
 |.mk id k l h w ks=>by
  rw[A1O,B2D,Z3G];have a:(A0b.mk id k l h w ks).id=id:=rfl;rw[a];by_cases c:id=x
  .rw[Z0d c,Z0p c]
  .rw[Z0e c,Z0k c];exact C1A x ks
def C1A(x:IdD):∀ks:List A0b,B2G x ks=(B4H ks).find? λv=>decide (v.id=x)
 |[]=>by rw[B2G,B4H];rfl
 |k::ks=>by rw[B2G,B4H,List.find?_append,B5x x k,C1A x ks];cases(B2D k).find? (λv=>decide (v.id=x))<;>rfl
end
def B7U:∀(us:List A0b) (L:List (IdD×A0b)),(L.map (·.1)++us.map A0b.id).Nodup->A6s L us=L++us.map λu=>(u.id,u)
 |[],L,_=>by simp[A6s]
 |u::us,L,h=>by
  have hn:u.id∉L.map (·.1):=by intro hm;rw[Z2U]at h;exact h.2.2 _ hm u.id (by simp) rfl
  rw[A6s,B8D hn,B7U us]
  .simp
  .simpa using h
def C0Y(x:IdD):∀us:List A0b,A1B (us.map λu=>(u.id,u)) x=us.find? λv=>decide (v.id=x)
 |[]=>rfl
 |u::us=>by
  rw[Z0C,A1B,Z3G];by_cases c:x=u.id
  .rw[Z0d c,Z0p c.symm]
  .rw[Z0e c,Z0k (λe=>c e.symm)];exact C0Y x us
def B1n{K:Type}[DecidableEq K]:∀(r S:List K),S.Nodup->A6k r S=true->(S++r).Nodup
 |[],S,h,_=>by simpa using h
 |x::r,S,h,hd=>by
  rw[A6k,Z0f,B4m]at hd;have hx:x∉S:=by simpa using hd.1
  have:=B1n r (S++[x]) (by rw[Z2U];exact⟨h,by simp,λa ha b hb=>by simp only[Z0F,Z1W,Z3l]at hb;subst hb;rintro rfl;exact hx ha⟩) hd.2;simpa using this
def C7r(u:A0b)(h:A6k (A0X u) []=true):A1B (A6s [] (B2D u))=λx=>A1O x u:=by have hn:=B1n (A0X u) [] (by simp) h;rw[<-B1K,Z2h]at hn;funext x;rw[B7U _ _ (by simpa using hn),Z2h,C0Y,B5x]
abbrev z96:List AV:=[.val (.slice none 0 0),.val (.map none),.val (.map none),.val (.map none)]
@[simp] def E0P:A0Q prog 96 []=some (.agg z96):=by simp[A0Q,A1G]
@[simp] def D9m{l}{a b c}:A0Q prog 96 [(0,.list 5 l .no),(1,.mapr a),(2,.mapr b),(3,.mapr c)]=some (.agg [.list 5 l .no,.mapr a,.mapr b,.mapr c]):=by
 simp[A0Q,A1G,A2e,A0d,A4d]
def D6W{n}:(I n).storable=true:=rfl
def D5O{n}:(I n).cells=[I n]:=rfl
def C8B:A0S prog 130=some 3:=by kernel_rfl
def D0D:A4v prog 130:=.inl ⟨3,by kernel_rfl⟩
def D8u:A3O prog 3 1 8:=⟨_,_,type3,rfl,rfl,rfl,rfl,by decide⟩
def A8J(KL:List (Int×AV))(p:Int):AV:=(A1B KL p).getD C5X
def A1l(l:List A0L)(id:IdD):Option Nat:=l.findIdx? λs=>decide (s.id=id)
def B7Q(l:List A0L)(y:IdD):(A1l l y).isSome=l.any (λs=>decide (s.id=y)):=by simp[A1l]
def C3r(l:List A0L)(x:A0L)(y:IdD):A1l (l++[x]) y=match A1l l y with
 |some k=>some k
 |none=>if x.id=y then some l.length else none:=by
 unfold A1l
 rw[List.findIdx?_append]
 cases List.findIdx? (λs=>decide (s.id=y)) l with
 |some k=>rfl
 |none=>by_cases e:x.id=y<;>simp[e]
def D3a{F:IdD->Option A0b}{uid}{l}{n}(hn:n<l.length)(h:B2A F uid l n=0):A1l (l.take n) l[n].id=none:=by
 have h2:(l.take n).any (λs=>decide (s.id=l[n].id))=false:=by
  cases c:(l.take n).any (λs=>decide (s.id=l[n].id))with
  |false=>rfl
  |true=>
   simp only[B2A,Z0m hn,c,Z0G]at h;split at h
   .simp at h
   .simp at h
 have:=B7Q (l.take n) l[n].id;rw[h2]at this;cases e:A1l (l.take n) l[n].id with
 |none=>rfl
 |some k=>rw[e]at this;simp at this
structure C6i (M0:Mem) (l:List A0L) (L:List (IdD×A0b)) (r a b c p i:Nat) (M:Mem):Prop where
 grow:Grow M0 M
 res:M[r]?=some (.cells 96 z96)
 pl:M[p]?=some (.cells 96 [.list 5 (A1A l) .no,.mapr a,.mapr b,.mapr c])
 units:A1T A2O B4c M a L
 ix:∃IL,A1T A2O (λn:Nat=>I n) M b IL/\∀y,A1B IL y=A1l (l.take i) y
 kd:∃KL,A1T I (λv=>v) M c KL/\(∀q,A1z 3 1 C5U M (A8J KL q) (A2a l q i))/\(∀q f,obj (A8J KL q)=some f->p<f)/\∀q q' f,obj (A8J KL q)=some f->obj (A8J KL q')=some f->q=q'
structure B3r (l:List A0L) (L:List (IdD×A0b)) (a b c:Nat) (M:Mem):Prop where
 units:A1T A2O B4c M a L
 ix:∃IL,A1T A2O (λn:Nat=>I n) M b IL/\∀y,A1B IL y=A1l l y
 kd:∃KL,A1T I (λv=>v) M c KL/\∀q,A1z 3 1 C5U M (A8J KL q) (A2a l q l.length)
def B6O(R:Int)(F:IdD->Option A0b)(l:List A0L)(r:List AV)(M:Mem):Prop:=r.length=4/\(R=0->∃L a b c,r=[.list 5 (A1A l) .no,.mapr a,.mapr b,.mapr c]/\A1B L=F/\B3r l L a b c M)
def B6O.bad{R}{F:IdD->Option A0b}{l}{r}{M}(h:r.length=4)(hR:R≠0):B6O R F l r M:=⟨h,λe=>absurd e hR⟩
section
variable (gl:Nat->AV)
set_option maxHeartbeats 1000000 in
def D2D(ar:gl 0=A4A)(b2:gl 1=A4S)(F:IdD->Option A0b)(u:A0b)(hF:F=λx=>A1O x u)(l:List A0L)(M:Mem)(a1:Fit u)(hl:l.length<=1000)(hs:∀s∈l,s.good):A0e (WC gl) 47 [.agg u.row,.list 5 (A1A l) .no] M (λv M'=>(∃r,v=.tuple [.agg r,I (A9A F u l)]/\B6O (A9A F u l) F l r M')/\Grow M M'):=by
 have a6:=λM=>C8E gl ar b2 u M a1;rw[D0t]at a6;obtain⟨R,hR⟩:∃R,R=A9A F u l:=⟨_,rfl⟩;rw[<-hR];simp only[A9A]at hR;have a4:=λM=>B3Q gl u [] M.length (M++[.map [] 0]) a1.1 (A1T.new M);rw[u.row_eq]at a6 a4|-;refine A0k (hQ [52]) func47 ?_;simp -dsimp -implicitDefEqProofs[A0o];refine A0j func50 (a6 _) ?_;rintro _ M1 ⟨rfl,ai⟩;have a0:Grow M M1:=by rw[ai];exact A0c.app none _ _
 have a3:M1[M.length]?=some (.cells 96 z96):=by rw[ai];simp
 cases c1:B2N u;case false=>simp only[c1,Z1j,Z0G]at hR;have o:M.length<M1.length:=(Z0c.1 a3).1;simp -dsimp -implicitDefEqProofs[A0f a3,A4q,A4d,hR,A0C o,A0t,A9S a0];exact .bad rfl (by decide)
 simp only[c1,Z1s,Z0E,Z0Y]at hR;obtain⟨q1,q2⟩:=A7Z u [] M1.length (M1++[.map [] 0]) (A1T.new M1);simp -dsimp -implicitDefEqProofs;refine A0j func102 (a4 M1) ?_;rintro _ M2 ⟨rfl,aw⟩;rw[<-aw]at q1 q2;have ay:M1.length<M2.length:=q1.lt;have o:M.length<M1.length:=(Z0c.1 a3).1;have an:M2[M.length]?=some (.cells 96 z96):=by rw[q2.2 _ (by simp;omega) (by simp;omega),Z0j o];exact a3
 have ab:Grow M M2:=by refine⟨by omega,λj hj _=>?_⟩;rw[q2.2 j (by simp;omega) (by simp;omega),Z0j (by omega)];exact a0.2 j hj (by simp)
 obtain⟨L,hL⟩:∃L,L=A6s [] (B2D u):=⟨_,rfl⟩;rw[<-hL]at q1;have ao:A1B L=F:=by rw[hL,hF];refine C7r u ?_;simp only[B2N,Z0f]at c1;exact c1.2
 have hLn:(L.length:Int)=A0x u:=by
  have h1:=B1V (B2D u) [];rw[B1K,<-hL]at h1;have h2:(A6f [] (A0X u)).length=A0x u:=by have:=(B2m (A0X u) ([]:List IdD)).2 (by simp only[B2N,Z0f]at c1;exact c1.2);rw[A4D]at this;simpa using this
  have h3:=congrArg List.length h1;simp only[Z0L,Z1P]at h3;omega
 have bf:=A3R u;have bg:=a1.2.2;obtain⟨E,hE⟩:∃E,E=B2A F u.id l:=⟨_,rfl⟩;rw[<-hE]at hR;have ak:∀n,(∀j,j<n->E j=0)->∀j,j<n->A8I l j:=by rw[hE];exactλn=>B8P
 obtain⟨a,ha⟩:∃a,a=M1.length:=⟨_,rfl⟩;obtain⟨b,hb⟩:∃b,b=M2.length:=⟨_,rfl⟩;have am:A1T A2O (λn:Nat=>I n) (M2++[A0p.map [] 0]) b []:=by rw[hb];exact A1T.new M2
 obtain⟨M3,t⟩:∃M3,M3=M2++[A0p.map [] 0,A0p.map [] 0,A0p.cells 96 [.list 5 (A1A l) .no,.mapr a,.mapr b,.mapr (b+1)]]:=⟨_,rfl⟩;have w:C6i M l L M.length a b (b+1) (b+2) 0 M3:=by
  have z:Grow M2 M3:=by rw[t];exact A0c.app none _ _
  refine⟨ab.trans z,z.get an (by simp),?_,?_,⟨[],⟨[],0,?_,rfl⟩,λy=>by simp[A1B,A1l]⟩,⟨[],⟨[],0,?_,rfl⟩,λq=>?_,λq f hf=>by simp[A8J,A1B,C5X]at hf,λq q' f hf=>by simp[A8J,A1B,C5X]at hf⟩⟩
  .rw[t,hb];simp
  .rw[ha];exact q1.keep z (by simp)
  .rw[t,hb];simp
  .rw[t,hb];simp
  .simp only[A8J,A1B,Z3s,A2a,List.range_zero,List.filter_nil];exact .nil
 simp -dsimp -implicitDefEqProofs[A0o,A0l,A0d,A4q,A4d];rw[<-ha,<-hb,<-t];have be:M.length<a/\a<b:=by omega
 clear a6 a4 ai a0 a3 aw q1 q2 ay o an ab am t ha hb;have aa:=λIL KL n M hM hI hK hIx hKx hn hord=>D2K gl ar u l L IL KL a b (b+1) n M hM hI hK hIx hKx hl hs hn hord;rw[ao,<-hE,u.row_eq]at aa;refine A0s (hQ [52]) l.length 23 (λT M3=>∃i:Nat,i<=l.length/\T 1=.list 5 (A1A l) .no/\T 2=.cptr [I u.id.act,I u.id.item,I u.id.n,I u.kind,S u.label,.list 4 (A0g u.head) .no,.list 4 (A0g u.words) .no,.list 8 (A0O u.kids) .no]/\T 4=.ptr M.length 0/\T 6=.ptr (b+2) 0/\T 21=.list 5 (A1A l) .no/\T 22=I l.length/\T 23=I i/\C6i M l L M.length a b (b+1) (b+2) i M3/\A7b E l.length 0=A7b E (l.length-i) i/\∀j,j<i->E j=0) ?_ ?_
 .exact⟨0,by omega,by simp,by simp,by simp,by simp,by simp,by simp,by simp,w,by simp,by simp⟩
 clear w;rintro T M3 ⟨i,i1,t1,t2,t4,t6,m,g,d,w,ho,hz⟩;by_cases hi:i<l.length;case neg=>
  have a5:¬(i:Int)<l.length:=by omega
  rw[show l.length-i=0 by omega,A7b]at ho;rw[ho,Z0d rfl]at hR;have bb:B6O 0 F l [.list 5 (A1A l) .no,.mapr a,.mapr b,.mapr (b+1)] (M3.set M.length (.cells 96 [.list 5 (A1A l) .no,.mapr a,.mapr b,.mapr (b+1)])):=by
   (have b7:i=l.length:=by omega);subst b7
   obtain⟨-,-,-,g4,⟨IL,g5,g6⟩,KL,g7,g8,g9,-⟩:=w;have p:A0c (some M.length) M3 (M3.set M.length (.cells 96 [.list 5 (A1A l) .no,.mapr a,.mapr b,.mapr (b+1)])):=.set _ _ _;refine⟨rfl,λ_=>⟨L,a,b,b+1,rfl,ao,g4.keep p (by simp;omega),⟨IL,g5.keep p (by simp;omega),λy=>by rw[g6,List.take_length]⟩,KL,g7.keep p (by simp;omega),λq=>(g8 q).keep p λf hf e=>?_⟩⟩;have:=g9 q f hf;simp at e;omega
  obtain⟨h1,h2,h3,h4,-,-⟩:=w;have au:A2U prog 92 M3 (.mapr a)=some L.length:=h4.len (kt:=23) (et:=27) (by simp);have w2:IntKind.i64.wrap ((A0x u:Int)-1)=A0x u-1:=A0H (by omega) (by omega);have ac:M.length<M3.length:=(Z0c.1 h2).1;by_cases c3:(l.length:Int)=A0x u-1
  .rw[Z0d c3]at hR;simp -dsimp -implicitDefEqProofs[t1,t2,t4,t6,m,g,d,a5,A0a h3,A6n,au,hLn,w2,Z0J c3,A0f h2,A4q,A4d,A0C ac,A0t,hR,A9S h1];exact bb
  .rw[Z0e c3]at hR;simp -dsimp -implicitDefEqProofs[t1,t2,t4,t6,m,g,d,a5,A0a h3,A6n,au,hLn,w2,c3,A0f h2,A4q,A4d,A0C ac,A0t,hR,A9S h1];exact .bad rfl (by decide)
 have a5:(i:Int)<l.length:=by omega
 have w1:=A1i (i:=i) (by omega);obtain⟨x,hx⟩:∃x,x=l[i]:=⟨_,rfl⟩;have b0:=hx.symm;rw[show l.length-i=(l.length-(i+1))+1 by omega,A7b]at ho;obtain⟨M4,af⟩:∃M4,M4=M3++[A0p.cells 69 [I x.id.act,I x.id.item,I x.id.n,I x.parent,S x.label]]:=⟨_,rfl⟩;have ae:M4[M3.length]?=some (A0p.cells 69 [I x.id.act,I x.id.item,I x.id.n,I x.parent,S x.label]):=by rw[af];simp
 have c:Grow M3 M4:=by rw[af];exact A0c.app none _ _
 obtain⟨h1,h2,h3,h4,⟨IL,h5,h6⟩,KL,h7,h8,h9,ah⟩:=w;have ax:b+2<M3.length:=(Z0c.1 h3).1;have a7:∀q f,obj (A8J KL q)=some f->f<M3.length:=λq f hf=>(h8 q).lt hf;replace h1:=h1.trans c;replace h2:=c.get h2 (by simp);replace h3:=c.get h3 (by simp);replace h4:=h4.keep c (by simp);replace h5:=h5.keep c (by simp);replace h7:=h7.keep c (by simp);replace h8:=λq=>(h8 q).keep c (by simp);simp -dsimp -implicitDefEqProofs[t1,t2,t4,t6,m,g,d,hi,a5,b0,A0L.row,A0o,A0l,A0d,A4q,A4d];rw[<-af];simp -dsimp -implicitDefEqProofs[t1,t2,t4,t6,m,g,d,A0a h3];refine A0j func103 (aa IL KL i M4 h4 h5 h7 (λy=>by rw[h6 y];exact B7Q _ _) h8 hi (ak i hz)) ?_;rintro _ M4 ⟨rfl,rfl⟩;by_cases c2:E i=0;case neg=>rw[Z0e c2]at ho;rw[ho,Z0e c2]at hR;have al:=(Z0c.1 h2).1;simp -dsimp -implicitDefEqProofs[t1,t2,t4,t6,m,g,d,c2,A0f h2,A4q,A4d,A0C al,A0t,hR,A9S h1];exact .bad rfl c2
 rw[Z0d c2]at ho;obtain⟨M5,p1,p2,p3⟩:=h5.put (A9L 93 3 (by kernel_rfl)) x.id i;have b5:A1E prog 93 M4 (.mapr b) (.agg [I x.id.act,I x.id.item,I x.id.n]) (I i)=some M5:=p1;obtain⟨xo,ad⟩:∃xo,xo=M3.length:=⟨_,rfl⟩;rw[<-ad]at ae ax a7;simp -dsimp -implicitDefEqProofs[t1,t2,t4,t6,m,g,d,Z0J c2,A0a h3,<-ad];rw[A0a ae];simp -dsimp -implicitDefEqProofs[b5];replace h1:Grow M M5:=⟨Z0T h1.1 p3.1,λj hj _=>(p3.2 j (by have:=h1.1;omega) (by simp;omega)).trans (h1.2 j hj (by simp))⟩;replace h2:=p3.get h2 (by simp;omega);replace h3:=p3.get h3 (by simp);replace h4:=h4.keep p3 (by simp;omega);replace h7:=h7.keep p3 (by simp);replace h8:=λq=>(h8 q).keep p3 (by intro f hf;have:=h9 q f hf;simp;omega);have aj:=p3.get ae (by simp;omega);have b6:A1K prog 94 M5 (.mapr (b+1)) (I x.parent) false=some (A8J KL x.parent):=by rw[h7.get (B9g 94 130 (by kernel_rfl)) x.parent B4B false,A8J];cases A1B KL x.parent<;>rfl
 refine A2E (hQ [52]) (A0w gl) (λk=>if k=1\/k=3\/k=5\/k=7\/k=8 then 1 else if k=11\/k=12 then 2 else 0) (λk=>if k=1\/k=5 then b+2 else if k=8 then b+1 else xo) (λk=>k==8) [b+2,xo] ?_ (by rfl) (by kernel_rfl) ?_
 .intro k _ h;have h:¬k=8:=by simpa using h
  by_cases e:k=1\/k=5<;>simp[e,h]
 simp -dsimp -implicitDefEqProofs[t1,t2,t4,t6,m,g,d,<-ad,A0y,A0a h3,A0a aj,b6,A0h,A0J,D6W,D5O];have bd:=A6H l x.parent i;have ba:A4s l i=x.parent:=by simp[A4s,hi,hx]
 refine A3E (C:=WC gl) (enc:=C5U) (e:=3) (sz:=1) (news:=[i]) C8B D0D D8u (λ_=>rfl) (h8 x.parent) (by simp[A0B,C5U]) (by simp;omega) rfl ?_;intro v' M6 k1 k2 k3 _;have ag:M6[b+2]?=M5[b+2]?:=k2.2 _ (by have:=(Z0c.1 h3).1;exact this) (λe=>by have:=h9 _ _ e;omega);have az:M6[xo]?=M5[xo]?:=k2.2 _ (by have:=(Z0c.1 aj).1;exact this) (λe=>by have:=a7 _ _ e;omega);have b3:obj (A8J KL x.parent)≠some (b+1):=λe=>by have:=h9 _ _ e;omega
 obtain⟨M7,m1,m2,m3⟩:=(h7.keep k2 b3).put (B9g 94 130 (by kernel_rfl)) x.parent v';have b4:A1E prog 94 M6 (.mapr (b+1)) (I x.parent) v'=some M7:=m1;have aq:M7[b+2]?=M6[b+2]?:=m3.2 _ (by have:=(Z0c.1 (ag.trans h3)).1;exact this) (by simp);have b1:M7[xo]?=M6[xo]?:=m3.2 _ (by have:=(Z0c.1 (az.trans aj)).1;exact this) (by simp;omega);simp -dsimp -implicitDefEqProofs[t1,t2,t4,t6,m,g,d,ag,az,b4,aq,b1,w1];have b9:C6i M l L M.length a b (b+1) (b+2) (i+1) M7:=by
  have a2:∀q,A8J (A8n KL x.parent v') q=if q=x.parent then v' else A8J KL q:=λq=>by simp only[A8J,C1g];by_cases e:q=x.parent<;>simp[e]
  have bc:b+2<M5.length:=(Z0c.1 h3).1;have ap:∀f,obj v'=some f->b+2<f:=λf hf=>by
   rcases k3 with e|e
   .exact h9 _ f (by rw[<-e];exact hf)
   .have:=e f hf;omega
  have a8:∀j,j<b+1->M7[j]?=M5[j]?:=λj hj=>by have e6:M6[j]?=M5[j]?:=k2.2 j (by omega) (λe=>by have:=h9 _ _ e;omega);rw[m3.2 j (by have:=k2.1;omega) (by simp;omega),e6]
  have b8:∀q,A2a l q (i+1)=A2a l q i++if q=x.parent then[i]else[]:=λq=>by
   rw[B2k,ba];by_cases e:q=x.parent
   .rw[Z0d e.symm,Z0d e]
   .rw[Z0e (λh=>e h.symm),Z0e e]
  refine⟨⟨by have:=h1.1;have:=k2.1;have:=m3.1;omega,λj hj _=>(a8 j (by omega)).trans (h1.2 j hj (by simp))⟩,by rw[a8 _ (by omega)];exact h2,by rw[aq,ag];exact h3,(h4.keep k2 (λe=>by have:=h9 _ _ e;omega)).keep m3 (by simp;omega),⟨_,(p2.keep k2 (λe=>by have:=h9 _ _ e;omega)).keep m3 (by simp),λy=>?_⟩,_,m2,λq=>?_,λq f hf=>?_,λq q' f hf hf'=>?_⟩
  ·(have av:A1l (l.take i) x.id=none:=by rw[hx];exact D3a hi (by rw[<-hE];exact c2));rw[C1g,Z0A hi,C3r,b0,<-h6]
   by_cases e:y=x.id
   .rw[Z0d e,e,h6,av];simp;omega
   .rw[Z0e e];have:¬x.id=y:=λh=>e h.symm;rw[Z0e this];cases A1B IL y<;>rfl
  .rw[a2,b8];by_cases e:q=x.parent
   .rw[Z0d e,Z0d e,e];exact k1.keep m3 (λf hf=>by have:=ap f hf;simp;omega)
   .rw[Z0e e,Z0e e,Z1f];exact((h8 q).keep k2 (λf hf hs=>e (ah _ _ f hf hs))).keep m3 (λf hf=>by have:=h9 _ f hf;simp;omega)
  .rw[a2]at hf;by_cases e:q=x.parent
   .rw[Z0d e]at hf;exact ap f hf
   .rw[Z0e e]at hf;exact h9 q f hf
  .have a9:∀q,obj (A8J KL q)=some f->obj v'=some f->q=x.parent:=λq h1 h2=>by
    rcases k3 with e|e
    .exact ah _ _ f h1 (by rw[<-e];exact h2)
    .have:=e f h2;have:=(h8 q).lt h1;omega
   rw[a2]at hf hf';by_cases e:q=x.parent
   .rw[Z0d e]at hf;by_cases e':q'=x.parent
    .rw[e,e']
    .rw[Z0e e']at hf';exact absurd (a9 q' hf' hf) e'
   .rw[Z0e e]at hf;by_cases e':q'=x.parent
    .rw[Z0d e']at hf';exact absurd (a9 q hf hf') e
    .rw[Z0e e']at hf';exact ah _ _ f hf hf'
 exact⟨⟨i+1,by clear w1;omega,rfl,b9,ho,λj hj=>by
  by_cases e:j=i
  .rw[e];exact c2
  .exact hz j (by clear w1;omega)⟩,by clear w1;omega⟩
end
end
def A5v(p:List A0u):Prop:=p.length<=1000000/\∀s∈p,s.lab.size<=maxLen
section
variable (gl:Nat->AV) (M:Mem)
def C6A(s:A0u)(hs:s.lab.size<=maxLen):A0e (WC gl) 221 [s.v] M (λv M'=>v=B (A1b s)/\M'=M):=by
 refine A0k hB func221 ?_;by_cases c1:1<=s.k;case neg=>simp -dsimp -implicitDefEqProofs[A0u.row,A1b,c1]
 by_cases c2:s.k<=7;case neg=>simp -dsimp -implicitDefEqProofs[A0u.row,A1b,c1,c2]
 simp -dsimp -implicitDefEqProofs[A0u.row,A1b,c1,c2];refine A0j func105 (A7E gl M s.lab hs) ?_;rintro r M' ⟨rfl,rfl⟩;simp -dsimp -implicitDefEqProofs[A1b,c1,c2]
def A7x(p:List A0u)(o:Own)(hp:A5v p):A0e (WC gl) 174 [.list 2 (A1f p) o] M (λv M'=>v=B (p.all A1b)/\M'=M):=by
 refine A0k hB func174 ?_;have b:=hp.1;simp -dsimp -implicitDefEqProofs;refine A0s hB p.length 3 (λT M1=>∃i:Nat,i<=p.length/\M1=M/\T 0=.list 2 (A1f p) o/\T 3=I i/\(p.take i).all A1b=true) ?_ ?_
 .refine⟨0,?_⟩;simp -dsimp -implicitDefEqProofs
 .rintro T M1 ⟨i,h1,rfl,h3,h4,h5⟩;by_cases hi:i<p.length
  ·(have a:(i:Int)<p.length:=by omega);have hw:IntKind.i64.wrap ((i:Int)+1)=(i+1:Nat):=by rw[A0H (by omega) (by omega)];omega
   simp -dsimp -implicitDefEqProofs[h3,h4,hi,a];refine A0j func221 (C6A gl M1 p[i] (hp.2 _ (Z0v hi))) ?_;rintro r M' ⟨rfl,rfl⟩;cases hb:A1b p[i]
   .simp -dsimp -implicitDefEqProofs[h3,h4];exact⟨p[i],Z0v hi,hb⟩
   .simp -dsimp -implicitDefEqProofs[h3,h4,hw];refine⟨⟨i+1,?_⟩,by clear hw;omega⟩;have:=A9p hi h5 hb;simp only[Z0r]at this;exact⟨by clear hw;omega,by simp,this⟩
  ·(have a:¬(i:Int)<p.length:=by omega);rw[Z0l (by omega),Z0r]at h5
   simp -dsimp -implicitDefEqProofs[h3,h4,a];exact h5
def A8L(p:List A0u)(o:Own)(hp:A5v p):A0e (WC gl) 172 [.list 2 (A1f p) o] M (λv M'=>v=B (A1U p)/\M'=M):=by
 refine A0k hB func172 ?_;cases p with
 |nil=>simp -dsimp -implicitDefEqProofs[A1f,A1U,A6U]
 |cons s p'=>
  have a:=hp.1;simp only[Z0B]at a;have b:A5v p':=⟨by omega,λx hx=>hp.2 x (by simp[hx])⟩;by_cases c1:s.k=0
  .by_cases c2:s.lab=⟨#[]⟩
   ·(have hb:A2c s=true:=by simp[A2c,c1,c2]);have i1:(1:Int)<=p'.length+1:=by omega
    by_cases c:0<p'.length
    ·(have e:p'.all A1b=A1U (s::p'):=by simp[A1U,A6U,hb,c]);rw[<-e]
     simp -dsimp -implicitDefEqProofs[A1f,A0u.row,c1,c2,i1,c];refine A0j func174 (A7x gl M p' _ b) ?_;rintro r M2 ⟨rfl,rfl⟩;simp -dsimp -implicitDefEqProofs
    ·(have e:A1U (s::p')=false:=by simp[A1U,A6U,hb,c]);simp -dsimp -implicitDefEqProofs[A1f,A0u.row,c1,c2,i1,c,e]
   ·(have hb:A2c s=false:=by simp[A2c,c1,c2]);have e:(s::p').all A1b=A1U (s::p'):=by simp[A1U,A6U,hb]
    rw[<-e];obtain⟨k,d⟩:=s;simp only at c1 c2;subst c1;simp -dsimp -implicitDefEqProofs[A1f,A0u.row,c2];refine A0j func174 (A7x gl M (⟨0,d⟩::p') _ hp) ?_;rintro r M2 ⟨rfl,rfl⟩;simp -dsimp -implicitDefEqProofs
  ·(have hb:A2c s=false:=by simp[A2c,c1]);have e:(s::p').all A1b=A1U (s::p'):=by simp[A1U,A6U,hb]
   rw[<-e];simp -dsimp -implicitDefEqProofs[A1f,A0u.row,c1];refine A0j func174 (A7x gl M (s::p') _ hp) ?_;rintro r M2 ⟨rfl,rfl⟩;simp -dsimp -implicitDefEqProofs
end
def hR:A2I:=⟨λ_=>true,λ_=>false,λd=>d==6||d==41||d==74||d==82⟩
@[simp] def E1L:hR.imm=λ_=>true:=rfl
@[simp] def E2N:hR.own=λ_=>false:=rfl
@[simp] def E2f:hR.vec=λd=>d==6||d==41||d==74||d==82:=rfl
def A3k:List ByteArray:=A1a.drop 1
section
variable (gl:Nat->AV) (M:Mem)
def D0k(p:List A0u)(o:Own)(hp:A5v p):A0e (WC gl) 120 [C8A p o] M (λv M'=>v=B (A7L p)/\M'=M):=by
 refine A0k hB func120 ?_;by_cases c0:p=[]
 .subst c0;simp -dsimp -implicitDefEqProofs[A1f];rfl
 have h0:¬p.length=0:=λe=>c0 (Z0w e);by_cases c:p.length<=9
 .have i1:¬(p.length:Int)>9:=by omega
  have i2:¬(9:Int)<p.length:=by omega
  have i0:¬(p.length:Int)=0:=by omega
  simp -dsimp -implicitDefEqProofs[i1,i2,i0,c0];refine A0j func172 (A8L gl M p o hp) ?_;rintro r M2 ⟨rfl,rfl⟩;simp -dsimp -implicitDefEqProofs[A7L,c]
 .have i2:(9:Int)<p.length:=by omega
  simp -dsimp -implicitDefEqProofs[i2,A7L,c]
def B8N:A0e (WC gl) 175 [] M (λv M'=>v=.list 1 (A0F A3k) .full/\M'=M):=by refine A0k hB func175 ?_;simp -dsimp -implicitDefEqProofs[A0h,A0J,A0F,A3k,A1a]
def C4x(p:List A0u)(o:Own)(a6:p.length<=1000000)(r:p.all A6A=true):A0e (WC gl) 121 [C8A p o] M (A2Z M (A7t p)):=by
 refine A0k hR func121 ?_;simp -dsimp -implicitDefEqProofs;refine A0s hR p.length 4 (λT M1=>∃i:Nat,i<=p.length/\A2Z M (A7t (p.take i)) (T 3) M1/\T 1=.cptr [I 0,.list 2 (A1f p) o,S ⟨#[]⟩,I 0,I 0]/\T 4=I i) ?_ ?_
 .refine⟨0,?_⟩;simp -dsimp -implicitDefEqProofs;exact⟨B5y M,.app _ _ _,λf hf=>by simp at hf;omega⟩
 .rintro T M1 ⟨i,h1,h2,h3,h4⟩;generalize l:T 3=y at h2;by_cases hi:i<p.length
  ·(have d:(i:Int)<p.length:=by omega);have hw:IntKind.i64.wrap ((i:Int)+1)=(i+1:Nat):=by rw[A0H (by omega) (by omega)];omega
   (have a:(M1++[A0p.cells 159 [I p[i].k,S p[i].lab]])[M1.length]?=some (.cells 159 [I p[i].k,S p[i].lab]):=by simp);have hg:=Z0r.1 r p[i] (Z0v hi)
   have q:A4H 9 (M1++[A0p.cells 159 [I p[i].k,S p[i].lab]]) y ((A7t (p.take i)).map S):=h2.1.keep (.app none _ _) (by simp);have a4:=B5A (p.take i);(have a0:(p.take i).length<=p.length:=by simp;omega);cases hb:A2c p[i]
   ·(have hn:A1b p[i]=true:=by simpa[A6A,hb]using hg);simp only[A1b,Z0f,Z0o]at hn
    obtain⟨⟨n1,n2⟩,n3⟩:=hn;have hl:=C3h n3;(have g:¬p[i].k=0:=by omega);have z:IntKind.i64.wrap (p[i].k-1)=p[i].k-1:=A0H (by omega) (by omega);(have w:1<=p[i].k:=by omega);(have a2:p[i].k-1<7:=by omega);(have s:p[i].k.toNat-1<7:=by omega);have a5:A3k.length=7:=rfl;have a1:A3k.getD (p[i].k.toNat-1) ⟨#[]⟩=A1a.getD p[i].k.toNat ⟨#[]⟩:=by
     (have e:p[i].k.toNat=(p[i].k.toNat-1)+1:=by omega);generalize p[i].k.toNat-1=j at e
     rw[e,A3k];simp[Z3E]
    (have b:∀h:p[i].k.toNat-1<(A0F A3k).length,(A0F A3k)[p[i].k.toNat-1]'h=[S (A1a.getD p[i].k.toNat ⟨#[]⟩)]:=by intro h;rw[<-a1];have:p[i].k.toNat-1<A3k.length:=s;simp[A0F,this]);have u:(A0F A3k)[p[i].k.toNat-1]?.getD []=[S (A1a.getD p[i].k.toNat ⟨#[]⟩)]:=by(have h:p[i].k.toNat-1<(A0F A3k).length:=by rw[B2v];exact s);rw[Z0m h,Z1p,b h]
    (have c:A3L p[i]=[A1a.getD p[i].k.toNat ⟨#[]⟩,p[i].lab]:=by simp only[A3L,hb];rfl);generalize A1a.getD p[i].k.toNat ⟨#[]⟩=kw at u b c
    simp -dsimp -implicitDefEqProofs[h3,h4,hi,d,A0o,A0l,A0d,A0a a,g];refine A1h hR (A0w gl) (λk=>if k=3 then 1 else if k=8 then 2 else 0) (λ_=>M1.length) (by rfl) (by kernel_rfl) ?_;simp -dsimp -implicitDefEqProofs;refine A1j func175 (λM=>(B8N gl M)) ?_;simp -dsimp -implicitDefEqProofs[A0a a,z,w,u,b,a2,a5,A0h,A0J,l];refine push (C:=WC gl) (e:=9) A4X A6S B0K q (news:=[kw].map S) (m:=1) rfl rfl (by simp;omega) rfl ?_;intro v' M' q1 q2 q3 _;have hf:=A4P h2 q1 q2 q3;(have a3:=q2.get a λe=>by have:=h2.1.lt e;omega);simp -dsimp -implicitDefEqProofs[h3,h4,A0a a3,hl,A0h,A0J];refine push (C:=WC gl) (e:=9) A4X A6S B0K hf.1 (news:=[p[i].lab].map S) (m:=1) rfl rfl (by simp;omega) rfl ?_;intro v2 M2 r1 r2 r3 _;have t:=A4P (X:=[]) hf r1 (by simpa using r2) (by simpa using r3);rw[Z0O,Z1R,Z2h,<-c,<-B0n hi]at t;simp -dsimp -implicitDefEqProofs[h3,h4,hw];exact⟨⟨i+1,by clear hw;omega,t,by simp⟩,by clear hw;omega⟩
   ·(have c:A3L p[i]=[A2j]:=by simp[A3L,hb]);have g:p[i].k=0:=by simp only[A2c,Z0f,Z0o]at hb;exact hb.1
    rw[g]at a q;simp -dsimp -implicitDefEqProofs[h3,h4,hi,d,A0o,A0l,A0d,A0a a,g,A0h,A0J,l];refine push (C:=WC gl) (e:=9) A4X A6S B0K q (news:=[A2j].map S) (m:=1) rfl rfl (by simp;omega) rfl ?_;intro v' M' q1 q2 q3 _;have hf:=A4P h2 q1 q2 q3;rw[<-c,<-B0n hi]at hf;simp -dsimp -implicitDefEqProofs[h3,h4,hw];exact⟨⟨i+1,by clear hw;omega,hf,by simp⟩,by clear hw;omega⟩
  ·(have d:¬(i:Int)<p.length:=by omega);rw[Z0l (by omega)]at h2
   simp -dsimp -implicitDefEqProofs[h3,h4,d,l,h2]
def C3A(p:List A0u)(o:Own)(hp:A5v p):A0e (WC gl) 65 [.list 2 (A1f p) o] M (A2Z M (A1S p)):=by
 refine A0k hB func65 ?_;have a:∀M:Mem,(M++[A0p.cells 110 [I 0,.list 2 (A1f p) o,S ⟨#[]⟩,I 0,I 0]])[M.length]?=some (.cells 110 [I 0,.list 2 (A1f p) o,S ⟨#[]⟩,I 0,I 0]):=by simp
 simp -dsimp -implicitDefEqProofs[A0Q,A1G,A2e,A0o,A0l,A0d,A0a (a _)];refine A0j func120 (D0k gl _ p o hp) ?_;rintro r M' ⟨rfl,rfl⟩;have hg:Grow M (M++[A0p.cells 110 [I 0,.list 2 (A1f p) o,S ⟨#[]⟩,I 0,I 0]]):=.app none M _;cases hb:A7L p
 .simp -dsimp -implicitDefEqProofs[A1S,hb];exact⟨.inl ⟨rfl,rfl⟩,hg,by simp[A1n]⟩
 .simp -dsimp -implicitDefEqProofs[A0a (a _)];refine A0j func121 (C4x gl _ p o hp.1 (B5B hb)) ?_;intro v M2 h;simp -dsimp -implicitDefEqProofs[A1S,hb];exact B3L hg h
end
open Go.Proofs TryTypes
def D2b(M:Mem)(v:AV)(l:List ByteArray):Prop:=(∃o,v=.list 1 (A0F l) o)\/A4H 9 M v (l.map S)
section
variable (gl:Nat->AV) (M:Mem)
end
def A6C(a b:A0P):Bool:=decide (a.frm=b.frm/\a.at_=b.at_)
def B5a:ByteArray:=⟨#[97,110,100]⟩
def A5n(out:List ByteArray)(s:ByteArray):List ByteArray:=out.set (out.length-1) (out.getD (out.length-1) .empty++s)
section
variable (l:List ByteArray) (old:List A0P) (names:List (List A0u))
def A2P(i:Nat):Bool:=decide (0<i)&&(match old[i-1]?,old[i]? with|some a,some b=>A6C a b|_,_=>false)
def A6e(i:Nat):Bool:=decide (i+1=old.length)||(match old[i+1]?,old[i]? with|some a,some b=>!A6C a b|_,_=>false)
def A8O(i:Nat)(out:List ByteArray)(e:Int):Option (List ByteArray×Int):=match old[i]?,names[i]? with
 |some c,some p=>
  if A1S p=[]\/c.frm<0\/c.at_<=c.frm\/c.at_>l.length\/(A2P old i=false/\c.frm<e)then none else
  let out1:=(if A2P old i then out++[B5a]else out++(l.take c.frm.toNat).drop e.toNat)++A1S p
  some (if A6e old i then A5n out1 (A3V (l.getD (c.at_.toNat-1) .empty))else out1,c.at_)
 |_,_=>none
def A9y:Nat->Nat->List ByteArray->Int->List ByteArray
 |0,_,out,e=>out++l.drop e.toNat
 |n+1,i,out,e=>match A8O l old names i out e with
  |none=>l
  |some r=>A9y n (i+1) r.1 r.2
def A4m:List ByteArray:=if old.length=names.length then A9y l old names old.length 0 [] 0 else l
end
def A2K(p:List A0P):List (List AV):=p.map A0P.row
def A5f(p:List (List A0u)):List (List AV):=p.map λx=>[A5G x]
@[simp] def D7R(p:List A0P):(A2K p).length=p.length:=by simp[A2K]
@[simp] def D6o(p:List (List A0u)):(A5f p).length=p.length:=by simp[A5f]
@[simp] def D7A{p}{i}(h:i<(A2K p).length):(A2K p)[i]=(p[i]'(by simpa using h)).row:=by simp[A2K]
@[simp] def D6k{p}{i}(h:i<(A5f p).length):(A5f p)[i]=[.list 2 (A1f (p[i]'(by simpa using h))) .no]:=by simp[A5f,A1f]
@[simp] def D7q{p}{i}(h:i<(A0F p).length):(A0F p)[i]=[S (p[i]'(by simpa using h))]:=by simp[A0F]
def B3h{p}{n}:(A0F p).take n=A0F (p.take n):=by simp[A0F,Z1l]
def A8j{p}{n}:(A0F p).drop n=A0F (p.drop n):=by simp[A0F,List.map_drop]
def A5R{g n}(q:Nat×Nat->Bool):∀{b:List (Nat×Nat)},b.lookup g=some n->(b.filter λx=>x.1==g||q x).lookup g=some n
 |[],h=>by simp at h
 |a::l,h=>by
  by_cases c:a.1=g
  ·(have e:(a.1==g||q a)=true:=by simp[c]);rw[Z4e,Z0d e]
   obtain⟨a1,a2⟩:=a;simp only at c;subst c;simpa[List.lookup]using h
  ·(have hl:l.lookup g=some n:=by obtain⟨a1,a2⟩:=a;(have:(g==a1)=false:=by simpa usingλe=>c e.symm);simpa[List.lookup,this]using h);have ih:=A5R q hl;by_cases e:(a.1==g||q a)=true
   .rw[Z4e,Z0d e];obtain⟨a1,a2⟩:=a;(have:(g==a1)=false:=by simpa usingλe=>c e.symm);simpa[List.lookup,this]using ih
   .rw[Z4e,Z0e e];exact ih
def A4H.spot{e:TypeId}{M}{v}{cs}(h:A4H e M v cs){t:TypeId}(ht:A2v prog t=some false)(hs:A1e prog t=some 1){i}(hi:i<cs.length):∃p,A5O (some (some 1)) v (I i)=some p/\A2u prog t M p=some cs[i]/\∀x:AV,x.storable=true->x.cells=[x]->∃M',A0l (some 1) M p x=some M'/\A4H e M' v (cs.set i x)/\A0c (obj v) M M':=by
 rcases h with⟨rfl,hn⟩|⟨f,g,a,rfl,hf,hl⟩
 .subst hn;simp at hi
 .refine⟨_,by simp[hi];rfl,?_,?_⟩
  .simp[A2u,A3g,hf,hl,A0t,ht,hs];rw[Z0h hi,C4P]
  .intro x h1 h2;have b:f<M.length:=(Z0c.1 hf).1;refine⟨_,by simp only[A0l,hf,hl,h1,h2];simp;exact⟨by omega,rfl⟩,.inr ⟨f,g,A2q 1 g i a,by simp,?_,?_⟩,.set _ _ _⟩
   .simp[b,A0d];rw[Z3p,Z0d hi]
   .simp only[Z1C];unfold A2q;exact A5R _ hl
def B3y{C}{N}{c}{Q}{T}{M}{tg}(I:Env->Mem->Prop)(h1:wWp C N c (λe T' M'=>B6w (λT M=>I T M) (λ_ _ _=>False) e T' M' ⟨⟩) T M ⟨⟩)(h2:∀T M,I T M->Q .normal T M):wWp C N c Q T M tg:=AWp.mono h1 λe T M h=>by cases e<;>first|exact h2 T M h|exact h.elim
def D6i(M:Mem):Bld M.length M.length (M++[.cells 116 [.val (.pointer none),.val (.slice none 0 0)]]) .empty:=⟨Z0u _,_,_,by simp,.inl rfl,.inl ⟨rfl,rfl⟩,by simp,λ_=>rfl⟩
def B6t{s}(h:A0K s=true):s.size<=7:=by simp only[A0K,Z0f,Z0o]at h;omega
def B1b{p}:∀w∈A1S p,w.size<=16:=by
 intro w hw;unfold A1S at hw;split at hw
 .rename_i h;have hg:=Z0r.1 (B5B h);simp only[A7t,Z3v]at hw;obtain⟨s,hs,hw⟩:=hw;unfold A3L at hw;split at hw
  .simp only[Z0P]at hw;subst hw;decide
  .rename_i hb;(have hn:A1b s=true:=by have:=hg s hs;simpa[A6A,hb]using this);simp only[A1b,Z0f,Z0o]at hn;simp only[Z0F,Z1W,Z3l]at hw;rcases hw with rfl|rfl
   ·(have:∀k:Fin 8,(A1a.getD k.val ⟨#[]⟩).size<=16:=by decide);exact this ⟨s.k.toNat,by omega⟩
   .have:=B6t hn.2;omega
 .simp at hw
def B0O(s:ByteArray):(A3V s).size<=1:=by
 unfold A3V;split
 .decide
 .split
  .simp;omega
  .decide
def A4H.keepLow{e:TypeId}{M M'}{v}{cs}(h:A4H e M v cs){n}(hk:A0I n M M')(hn:∀f,obj v=some f->f<n):A4H e M' v cs:=by
 rcases h with⟨rfl,h⟩|⟨f',g,a,rfl,hm,hl⟩
 .exact .inl ⟨rfl,h⟩
 .exact .inr ⟨f',g,a,rfl,hk.get (hn _ rfl) hm,hl⟩
def B7r{xs ys:List ByteArray}(h:ys≠[]):(xs++ys).getD ((xs++ys).length-1) .empty∈ys:=by
 have hp:0<ys.length:=Z2i.2 h;have a:(xs++ys).length-1<(xs++ys).length:=by simp;omega
 simp only[Z1d,Z0m a,Z1p];rw[List.getElem_append_right (by simp;omega)];exact Z0v _
def B4E{out}{s}:(A5n out s).map S=(out.map S).set (out.length-1) (S (out.getD (out.length-1) .empty++s)):=by simp[A5n,List.map_set]
def hX:A2I:=⟨λ_=>true,λ_=>false,λd=>d==81||d==88||d==91||d==135⟩
@[simp] def E2d:hX.own=λ_=>false:=rfl
@[simp] def E2k:hX.vec=λd=>d==81||d==88||d==91||d==135:=rfl
section
variable (gl:Nat->AV) (M:Mem)
set_option maxHeartbeats 4000000 in
def C7d(l:List ByteArray)(old:List A0P)(names:List (List A0u))(o1 o2 o3:Own)(hl:l.length<=1000)(bt:∀s∈l,s.size<=maxLen)(ho:old.length<=20000)(hn:∀p∈names,A5v p):A0e (WC gl) 18 [.list 1 (A0F l) o1,.list 5 (A2K old) o2,.list 1 (A5f names) o3] M (A2Z M (A4m l old names)):=by
 refine A0k hX func18 ?_
 by_cases hlen:old.length=names.length
 case neg=>
  have a7:¬(old.length:Int)=names.length:=by omega
  simp -dsimp -implicitDefEqProofs[a7];refine A0j func59 (C4m gl M l o1 (by omega)) ?_;intro v M' h;simp -dsimp -implicitDefEqProofs[A4m,hlen,h]
 have a7:(old.length:Int)=names.length:=by omega
 have bu:A4m l old names=A9y l old names old.length 0 [] 0:=by rw[A4m,Z0d hlen]
 rw[bu]
 simp -dsimp -implicitDefEqProofs[a7,hlen]
 refine A0s hX old.length 23 (λT M1=>∃(i:Nat) (d:List ByteArray) (e:Int),i<=old.length/\A2Z M d (T 7) M1/\T 0=.list 1 (A0F l) o1/\T 1=.list 5 (A2K old) o2/\T 2=.list 1 (A5f names) o3/\T 8=I e/\0<=e/\e<=l.length/\T 21=.list 5 (A2K old) o2/\T 22=I old.length/\T 23=I i/\d.length<=i*1200/\A9y l old names old.length 0 [] 0=A9y l old names (old.length-i) i d e) ?_ ?_
 .refine⟨0,[],0,?_⟩;simp -dsimp -implicitDefEqProofs[A2Z,A4H,A0c.refl,A1n,hlen]
 .rintro T M1 ⟨i,d,e,h1,h2,h3,h4,h5,h6,h7,h8,h9,ad,a6,cs,b8⟩;generalize aj:T 7=ov at h2;by_cases hi:i<old.length
  ·(have az:(i:Int)<old.length:=by omega);have b7:i<names.length:=by omega
   (have be:(i:Int)<names.length:=by omega);have hw:IntKind.i64.wrap ((i:Int)+1)=(i+1:Nat):=by rw[A0H (by omega) (by omega)];omega
   (have ca:(M1++[A0p.cells 110 old[i].row])[M1.length]?=some (A0p.cells 110 old[i].row):=by simp);have hp:=hn names[i] (Z0v b7)
   (have a1:A9y l old names (old.length-i) i d e=match A8O l old names i d e with|none=>l|some r=>A9y l old names (old.length-(i+1)) (i+1) r.1 r.2:=by rw[show old.length-i=(old.length-(i+1))+1 by omega];rfl);have ai:old[i]?=some old[i]:=Z0m hi
   have bl:names[i]?=some names[i]:=Z0m b7;simp -dsimp -implicitDefEqProofs[h3,h4,h5,h6,h9,ad,a6,hi,az,b7,be,A0o,A0l,A0d,A0P.row];refine A0j func60 (C6L gl _ names[i] .no hp.1) ?_;intro w M2 a3;have a4:=a3.2.1.get ca (by simp);have ae:Grow M M2:=(h2.2.1.trans (.app none M1 _)).trans a3.2.1;have c8:A2P old i=(decide (0<i)&&(match old[i-1]?,old[i]? with|some a,some b=>A6C a b|_,_=>false)):=rfl;simp -dsimp -implicitDefEqProofs;refine B3y (λT M=>M=M2/\T 0=.list 1 (A0F l) o1/\T 1=.list 5 (A2K old) o2/\T 2=.list 1 (A5f names) o3/\T 7=ov/\T 8=I e/\T 9=I i/\T 10=.ptr M1.length 0/\T 11=w/\T 12=B (A2P old i)/\T 21=.list 5 (A2K old) o2/\T 22=I old.length/\T 23=I i) ?_ ?_
   .refine A1h hX (A0w gl) (λk=>if k=8 then 1 else 0) (λ_=>M1.length) (by rfl) (by kernel_rfl) ?_;by_cases i0:i=0
    .subst i0;simp -dsimp -implicitDefEqProofs[h3,h4,h5,h6,h9,ad,a6,aj,A2P]
    ·(have bs:(0:Int)<i:=by omega);have ap:0<i:=by omega
     (have c9:IntKind.i64.wrap ((i:Int)-1)=(i-1:Nat):=by rw[A0H (by omega) (by omega)];omega);have bm:i-1<old.length:=by omega
     (have bg:((i-1:Nat):Int)<old.length:=by omega);have cf:A2P old i=A6C old[i-1] old[i]:=by rw[c8,ai,Z0m bm];simp[ap]
     rw[cf];simp -dsimp -implicitDefEqProofs[h3,h4,h5,h6,h9,ad,a6,aj,bs,ap,c9,bm,bg,A0a a4,A0P.row];refine B0m (r:=B (A6C old[i-1] old[i])) (λM=>A2B func61 rfl rfl (C8k gl M old[i-1] old[i])) ?_;simp -dsimp -implicitDefEqProofs[h3,h4,h5,h6,h9,ad,a6,aj]
   .rintro T2 a2 ⟨rfl,k1,k2,k3,k4,k5,k6,k7,k8,k9,y,u,q⟩;(have a5:A1H prog 37 w=some (A1S names[i]).length:=by rw[a3.1.len (e:=9) (by simp)];simp);by_cases hbad:A1S names[i]=[]\/old[i].frm<0\/old[i].at_<=old[i].frm\/old[i].at_>l.length\/(A2P old i=false/\old[i].frm<e)
    ·(have bx:A8O l old names i d e=none:=by simp only[A8O,ai,bl];rw[Z0d hbad]);have bj:A9y l old names old.length 0 [] 0=l:=by rw[b8,a1,bx]
     rw[bj];(have ag:∀(K:AV->Mem->Prop) (tg:Tag K),(∀v M',A2Z M l v M'->K v M')->B8x (WC gl) 59 [.list 1 (A0F l) o1] a2 K tg:=by intro K tg hk;exact A0j func59 (C4m gl a2 l o1 (by omega)) λv M' h=>hk v M' (B3L ae h));by_cases b1:A1S names[i]=[]
     .simp -dsimp -implicitDefEqProofs[a5,b1,k1,k2,k3,k4,k5,k6,k7,k8,k9,y,u,q];refine ag _ _ λv M' h=>?_;simp -dsimp -implicitDefEqProofs[h]
     have ay:¬(A1S names[i]).length=0:=λe=>b1 (Z0w e);(have cj:¬((A1S names[i]).length:Int)=0:=by omega);by_cases b2:old[i].frm<0
     .simp -dsimp -implicitDefEqProofs[a5,b1,b2,k1,k2,k3,k4,k5,k6,k7,k8,k9,y,u,q,A0a a4,A0P.row];refine ag _ _ λv M' h=>?_;simp -dsimp -implicitDefEqProofs[h]
     by_cases b3:old[i].at_<=old[i].frm
     .simp -dsimp -implicitDefEqProofs[a5,b1,b2,b3,k1,k2,k3,k4,k5,k6,k7,k8,k9,y,u,q,A0a a4,A0P.row];refine ag _ _ λv M' h=>?_;simp -dsimp -implicitDefEqProofs[h]
     by_cases b4:old[i].at_>l.length
     .have ac:(l.length:Int)<old[i].at_:=b4;simp -dsimp -implicitDefEqProofs[a5,b1,b2,b3,b4,ac,k1,k2,k3,k4,k5,k6,k7,k8,k9,y,u,q,A0a a4,A0P.row];refine ag _ _ λv M' h=>?_;simp -dsimp -implicitDefEqProofs[h]
     have b5:A2P old i=false/\old[i].frm<e:=by
      rcases hbad with h|h|h|h|h
      .exact absurd h b1
      .exact absurd h b2
      .exact absurd h b3
      .exact absurd h b4
      .exact h
     have ac:¬(l.length:Int)<old[i].at_:=b4;simp -dsimp -implicitDefEqProofs[a5,b1,b2,b3,b4,ac,b5.1,b5.2,k1,k2,k3,k4,k5,k6,k7,k8,k9,y,u,q,A0a a4,A0P.row];refine ag _ _ λv M' h=>?_;simp -dsimp -implicitDefEqProofs[h]
    .have av:=hbad;simp only[Z2H,not_and]at hbad;obtain⟨b1,b2,b3,b4,b5⟩:=hbad;have ay:¬(A1S names[i]).length=0:=λe=>b1 (Z0w e);have ac:¬(l.length:Int)<old[i].at_:=b4;(have g2:0<=old[i].frm:=by omega);(have g3:old[i].frm<=l.length:=by omega);(have cq:old[i].frm.toNat<=l.length:=by omega);obtain⟨g,aa⟩:∃g,g=if A2P old i=true then[B5a]else(l.take old[i].frm.toNat).drop e.toNat:=⟨_,rfl⟩;have cb:A8O l old names i d e=some (if A6e old i=true then A5n (d++g++A1S names[i]) (A3V (l.getD (old[i].at_.toNat-1) .empty))else d++g++A1S names[i],old[i].at_):=by
      (have hm:(if A2P old i=true then d++[B5a]else d++(l.take old[i].frm.toNat).drop e.toNat)=d++g:=by rw[aa];split<;>rfl);simp only[A8O,ai,bl]
      rw[Z0e av,hm]
     rw[cb]at a1;simp only at a1;(have g1:1<=old[i].at_:=by omega);(have g4:0<=old[i].at_:=by omega);(have g7:old[i].at_<=l.length:=by omega);have cc:g.length<=1000:=by
      rw[aa];split
      .simp
      .simp;omega
     have bh:A4H 9 a2 w ((A1S names[i]).map S):=a3.1;have ba:A4H 9 a2 ov (d.map S):=h2.1.keep ((A0c.app none M1 _).trans a3.2.1) (by simp);(have ci:M1.length<a2.length:=by have:=a3.2.1.1;simp at this;omega);(have am:obj ov≠some M1.length:=λe=>by have:=h2.1.lt e;omega);(have ck:obj w≠some M1.length:=λe=>by have:=a3.2.2 _ e;simp at this;omega);(have b9:∀f,obj w=some f->obj ov≠some f:=λf e1 e2=>by have:=a3.2.2 _ e1;have:=h2.1.lt e2;simp at*;omega);have bc:∀f,obj w=some f->f<a2.length:=λf e1=>bh.lt e1;have mk:∀v3 M3,A4H 9 M3 v3 (d.map S++g.map S)->A0c (obj ov) a2 M3->(obj v3=obj ov\/A1n a2.length v3)->
      A2Z M (d++g) v3 M3/\A4H 9 M3 w ((A1S names[i]).map S)/\M3[M1.length]?=some (A0p.cells 110 old[i].row)/\obj v3≠some M1.length/\(∀f,obj w=some f->obj v3≠some f):=by
      intro v3 M3 q1 q2 q3
      refine⟨?_,bh.keep q2 b9,q2.get a4 am,?_,?_⟩
      .refine⟨by simpa using q1,⟨by have:=ae.1;have:=q2.1;omega,λj hj _=>?_⟩,λf hf=>?_⟩
       .rw[q2.2 j (by have:=ae.1;omega) λe=>by have:=h2.2.2 _ e;omega];exact ae.2 j hj (by simp)
       .rcases q3 with e|e
        .exact h2.2.2 f (by rw[<-e];exact hf)
        .have:=e f hf;have:=ae.1;omega
      .intro e1;rcases q3 with e|e
       .exact am (by rw[<-e];exact e1)
       .have:=e _ e1;omega
      .intro f e1 e2;rcases q3 with e|e
       .exact b9 f e1 (by rw[<-e];exact e2)
       .have:=e _ e2;have:=bc f e1;omega
     cases hA:A2P old i;case' false=>
      (have g5:e<=old[i].frm:=by have:=b5 hA;omega);have ct:0<=e/\e<=old[i].frm/\old[i].frm<=l.length:=⟨h7,g5,g3⟩
      (have g6:¬old[i].frm<e:=by omega);have hm:g=(l.take old[i].frm.toNat).drop e.toNat:=by rw[aa,hA];rfl
      rw[hA]at k9;simp -dsimp -implicitDefEqProofs[a5,b1,ay,b2,b3,b4,ac,g6,k1,k2,k3,k4,k5,k6,k7,k8,k9,y,u,q,A0a a4,A0P.row,h7,g5,g3];(have ax:List.drop e.toNat (List.take old[i].frm.toNat (A0F l))=A0F g:=by rw[B3h,A8j,hm]);rw[ax];refine push (C:=WC gl) (e:=9) A4X A6S B0K ba (news:=g.map S) (m:=g.length) (D0G _ _ _) (by simp) (by simp;omega) rfl ?_;intro v3 M3 q1 q2 q3 _;obtain⟨ar,bf,b6,bi,bo⟩:=mk v3 M3 q1 q2 q3;simp -dsimp -implicitDefEqProofs
     case' true=>
      (have hm:g=[B5a]:=by rw[aa,hA];rfl);rw[hA]at k9
      simp -dsimp -implicitDefEqProofs[a5,b1,ay,b2,b3,b4,ac,k1,k2,k3,k4,k5,k6,k7,k8,k9,y,u,q,A0a a4,A0P.row,A0h,A0J];refine push (C:=WC gl) (e:=9) A4X A6S B0K ba (news:=[B5a].map S) (m:=1) rfl rfl (by simp;omega) rfl ?_;rw[<-hm];intro v3 M3 q1 q2 q3 _;obtain⟨ar,bf,b6,bi,bo⟩:=mk v3 M3 q1 q2 q3;simp -dsimp -implicitDefEqProofs
     all_goals
      refine B9o hX (A0w gl) (λk=>if k=2 then 2 else if k=4 then 1 else 0) M1.length (by rfl) (by kernel_rfl) ?_
      have cm:=B5p names[i]
      have cg:A0B M3 1 w=some ((A1S names[i]).map S,(A1S names[i]).length):=by rw[bf.src];simp
      simp -dsimp -implicitDefEqProofs[k1,k2,k3,k4,k5,k6,k7,k8,k9,y,u,q]
      refine push (C:=WC gl) (e:=9) A4X A6S B0K ar.1 (news:=(A1S names[i]).map S) (m:=(A1S names[i]).length) cg (by simp) (by simp;omega) rfl ?_
      intro v4 M4 r1 r2 r3 _
      have z:=A4P (X:=[]) ar r1 (by simpa using r2) (by simpa using r3)
      have ab:=r2.get b6 bi
      refine⟨by rw[ab,b6],?_⟩
      simp -dsimp -implicitDefEqProofs[A0a ab,A0P.row,k1,k2,k3,k4,k5,k6,k7,k8,k9,y,u,q]
      refine B3y (λT M=>M=M4/\T 0=.list 1 (A0F l) o1/\T 1=.list 5 (A2K old) o2/\T 2=.list 1 (A5f names) o3/\T 7=v4/\T 8=I old[i].at_/\T 10=.ptr M1.length 0/\T 108=B (A6e old i)/\T 21=.list 5 (A2K old) o2/\T 22=I old.length/\T 23=I i) ?_ ?_
      .refine A1h hX (A0w gl) (λk=>if k=11 then 1 else 0) (λ_=>M1.length) (by rfl) (by kernel_rfl) ?_;by_cases il:i+1=old.length
       ·(have ak:((i+1:Nat):Int)=old.length:=by omega);have au:A6e old i=true:=by simp[A6e,il]
        simp -dsimp -implicitDefEqProofs[k1,k2,k3,k4,k5,k6,k7,k8,k9,y,u,q,hw,ak,au]
       ·(have ak:¬((i+1:Nat):Int)=old.length:=by omega);have bd:i+1<old.length:=by omega
        (have c2:((i+1:Nat):Int)<old.length:=by omega);have c6:(0:Int)<=((i+1:Nat):Int):=by omega
        (have bq:((i+1:Nat):Int).toNat=i+1:=by omega);have au:A6e old i=!A6C old[i+1] old[i]:=by simp[A6e,il,ai,Z0m bd]
        rw[au];generalize hj:((i+1:Nat):Int)=j at*;simp -dsimp -implicitDefEqProofs[k1,k2,k3,k4,k5,k6,k7,k8,k9,y,u,q,hw,ak,bd,c2,c6,bq,A0a ab,A0P.row];refine B0m (r:=B (A6C old[i+1] old[i])) (λM=>A2B func61 rfl rfl (C8k gl M old[i+1] old[i])) ?_;simp -dsimp -implicitDefEqProofs[k1,k2,k3,k4,k5,k6,k7,k8,k9,y,u,q,ak]
      .rintro T3 o ⟨rfl,j1,j2,j3,j4,j5,j6,j7,j8,j9,j10⟩;have a0:=b8.trans a1;(have bv:(d++g++A1S names[i]).length<=(i+1)*1200:=by simp;omega);cases hE:A6e old i
       .rw[hE]at j7 a0;simp -dsimp -implicitDefEqProofs[j1,j2,j3,j4,j5,j6,j7,j8,j9,j10,hw,a6,A0a ab];exact⟨⟨i+1,by clear hw;omega,_,z,g4,g7,by simp,bv,by simpa using a0⟩,by clear hw;omega⟩
       .rw[hE]at j7 a0;simp only[Z0G]at a0;have bp:((d++g++A1S names[i]).getD ((d++g++A1S names[i]).length-1) .empty).size<=16:=B1b _ (B7r b1);(have cp:0<(d++g++A1S names[i]).length:=by simp;omega);generalize d++g++A1S names[i]=c at*;(have ao:A1H prog 37 v4=some c.length:=by rw[z.1.len (e:=9) (by simp)];simp);have b0:M1.length<o.length:=(Z0c.1 ab).1;have bb:∀f,obj v4=some f->f<o.length:=λf hf=>z.1.lt hf;(have ch:c.length<=100000000:=by omega);(have aq:IntKind.i64.wrap ((c.length:Int)-1)=(c.length-1:Nat):=by rw[A0H (by omega) (by omega)];omega);have c0:=D6i o;have an:A0I o.length o (o++[A0p.cells 116 [AV.val (Value.pointer none),AV.val (Value.slice none 0 0)]]):=⟨by simp,λj hj=>Z0j hj⟩;(have bk:c.length-1<c.length:=by omega);obtain⟨sp,s1,s2,-⟩:=(z.1.keepLow an bb).spot (t:=9) D4c sz9 (i:=c.length-1) (by simp;omega);(have aw:c.getD (c.length-1) .empty=c[c.length-1]:=by simp[bk]);simp only[Z2w,<-aw]at s2;generalize c1:c.getD (c.length-1) .empty=a9 at*;simp -dsimp -implicitDefEqProofs[j1,j2,j3,j4,j5,j6,j7,j8,j9,j10,hw,A0o,ao,aq,s1,s2];refine A0j func62 (C3R gl _ o.length o.length .empty a9 c0 (by simp;omega) (by simp)) ?_;rintro r6 M6 ⟨br,c7⟩;have ah:=an.trans c7;have bw:=ah.get b0 ab;(have g8:old[i].at_.toNat-1<l.length:=by omega);(have g9:old[i].at_-1<l.length:=by omega);have cd:IntKind.i64.wrap (old[i].at_-1)=old[i].at_-1:=A0H (by omega) (by omega);(have ce:l.getD (old[i].at_.toNat-1) .empty=l[old[i].at_.toNat-1]:=by simp[g8]);simp -dsimp -implicitDefEqProofs[j1,j2,j3,j4,j5,j6,j7,j8,j9,j10,A0a bw,A0P.row,cd,g1,g9,g8];refine A0j func63 (D3N gl M6 l[old[i].at_.toNat-1] (bt _ (Z0v g8))) ?_;rintro r7 cn ⟨rfl,rfl⟩;rw[ce]at a0;have co:=B0O l[old[i].at_.toNat-1];generalize A3V l[old[i].at_.toNat-1]=af at*;simp -dsimp -implicitDefEqProofs;refine A0j func62 (C3R gl _ o.length o.length (.empty++a9) af br (by simp;omega) ah.1) ?_;rintro r7 M7 ⟨c3,c5⟩;have al:=ah.trans c5;simp -dsimp -implicitDefEqProofs[j1,j2,j3,j4,j5,j6,j7,j8,j9,j10,ao,aq];refine A0j func64 (C9J gl _ o.length o.length (.empty++a9++af) c3 (by simp;omega) al.1) ?_;rintro r8 M8 ⟨rfl,c4⟩;have a8:=al.trans c4;obtain⟨cr,t1,-,t3⟩:=(z.1.keepLow a8 bb).spot (t:=9) D4c sz9 (i:=c.length-1) (by simp;omega);obtain⟨M9,t4,t5,t6⟩:=t3 (S (a9++af)) rfl rfl;have bz:A2Z M (A5n c af) v4 M9:=by
         refine⟨by rw[B4E,c1];simpa using t5,⟨?_,λj hj _=>?_⟩,z.2.2⟩
         .have:=z.2.1.1;have:=a8.1;have:=t6.1;omega
         .have:=z.2.1.1;rw[t6.2 j (by have:=a8.1;omega) λe=>by have:=z.2.2 _ e;omega,a8.2 j (by omega)];exact z.2.1.2 j hj (by simp)
        (have bn:(A5n c af).length<=(i+1)*1200:=by simp[A5n];omega);simp -dsimp -implicitDefEqProofs[t1,t4,j1,j2,j3,j4,j5,j6,j7,j8,j9,j10,hw,a6]
        exact⟨⟨i+1,by clear hw;omega,_,bz,g4,g7,by simp,bn,by simpa using a0⟩,by clear hw;omega⟩
  ·(have az:¬(i:Int)<old.length:=by omega);rw[b8,show old.length-i=0 by omega]
   simp -dsimp -implicitDefEqProofs[h3,h6,ad,a6,az,aj,h7,h8];have ax:List.drop e.toNat (A0F l)=A0F (l.drop e.toNat):=A8j;rw[ax];refine push (C:=WC gl) (e:=9) A4X A6S B0K h2.1 (news:=(l.drop e.toNat).map S) (m:=(l.drop e.toNat).length) (D0G _ _ _) (by simp) (by simp;omega) rfl ?_;intro v' M' q1 q2 q3 _;have hf:=A4P (X:=[]) h2 q1 (by simpa using q2) (by simpa using q3);simp -dsimp -implicitDefEqProofs[A9y,hf]
end
end Go.Abs
