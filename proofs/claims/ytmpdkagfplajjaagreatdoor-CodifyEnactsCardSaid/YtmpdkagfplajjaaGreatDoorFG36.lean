/- The texts CeQ, CeR, CfA, CfB, CeS, CeT, CbX2, CbX3, CeU, CeV. -/
import Derived.Test.YtmpdkagfplajjaaGreatDoorFG35
import Derived.Test.YtmpdkagfplajjaaGreatDoorFG33
set_option linter.all false
set_option maxRecDepth 100000
namespace Go.Abs
open Go.Proofs TryTypes Tryz
def C5b{M:Mem}{n f g m:Nat}{ok:AV->Prop}{e g':Nat}{cs:List AV}{a:List (Nat×Nat)}{l:List A0a}(hf:n<=f)(hm:M[f]?=some (.vec e 8 cs g' a))(hl:a.lookup g=some m)(h:l.length<=m)(b:cs.take (l.length*8)=l.flatMap A0a.row) (d:∀x:A0a,∀c∈x.row,ok c):Still M n ok [.vref f g 8 0 l.length] [.list 8 (A0r l) .no]:=by
 refine .vec hf hm hl h (B2q l) (λr hr=>?_) ?_ .nil
 .rw[A4k]at hr;obtain⟨x,_,rfl⟩:=Z0J.1 hr;exact x.row_len
 .rw[b,B0i];exact Still.refl λc hc=>by obtain⟨x,_,hx⟩:=Z3c.1 hc;exact d x c hx
def D2v(a b:List AV):(A0e a 0 b).take b.length=b:=by unfold A0e;simp
def C8c(a c:List AV)(n:Nat)(h:n<=a.length):(A0e a n c).take n=a.take n:=by unfold A0e;rw[Z0X,Z2f (by simp;omega),Z2v,Nat.min_self]
section
variable (gl:Nat->AV)
set_option maxHeartbeats 1000000 in
def D1u(k:A0a)(ks:List A0a)(f g g':Nat)(a:List (Nat×Nat))(M:Mem)(z:ks.length<=1000)(hm:M[f]?=some (.vec 27 8 ((k::ks).flatMap A0a.row) g' a))(hl:a.lookup g=some (ks.length+1)):∃cs hist',cs.take (ks.length*8)=ks.flatMap A0a.row/\hist'.lookup g=some (ks.length+1)/\A0d (WC gl) 360 [.vref f g 8 0 (ks.length+1),I 0,I 1] M (λr M'=>r=.vref f g 8 0 ks.length/\M'=M.set f (.vec 27 8 cs g' hist')):=by
 obtain⟨n,hn⟩:∃n,n=ks.length:=⟨_,rfl⟩
 obtain⟨N,hN⟩:∃N,N=n+1:=⟨_,rfl⟩
 rw[<-hn]at z hl|-
 rw[<-hN]at hl|-
 have u:f<M.length:=(Z0b.1 hm).1
 have s:(ks.flatMap A0a.row).length=n*8:=by rw[A3C A0a.row_len,hn]
 have b:((k::ks).flatMap A0a.row).length=N*8:=by rw[A3C A0a.row_len,hN,hn];rfl
 obtain⟨c0,l⟩:∃c0,c0=(k::ks).flatMap A0a.row:=⟨_,rfl⟩
 have y:c0.drop 8=ks.flatMap A0a.row:=by rw[l,Z1f,Z3x,A0a.row_len,Z4w,Z1Z (by rw[A0a.row_len];omega)];rfl
 rw[<-l]at b hm
 have i:A2r prog 25 (.vref f g 8 0 N) (some (I 0)) (some (I 1)) (some (I N))=none:=by
  have:¬N=0:=by omega
  have h1:(1:Int)<=N:=by omega
  simp[A2r,A4X,A8U,A1v,B0U,this,h1]
 have h:A3j prog 25 M (.vref f g 8 0 N) (some (I 0)) (some (I 1)) (some (I N))=some .poison:=by
  have h1:(1:Int)<=N:=by omega
  simp[A3j,hm,hl,A8U,A1v,B0U,h1]
 have j:A2r prog 25 (.vref f g 8 0 N) none (some (I 0)) none=some (.vref f g 8 0 0):=by simp[A2r,A4X,A8U,A1v,B0U]
 have m:A2r prog 25 (.vref f g 8 0 N) (some (I 1)) none none=some (.vref f g 8 1 n):=by
  have h1:(1:Int)<=N:=by omega
  have h2:N-1=n:=by omega
  simp[A2r,A4X,A8U,A1v,B0U,h1,h2]
 have c:A0z M 8 (.vref f g 8 1 n)=some (ks.flatMap A0a.row,n):=by simp only[A0z,hm,hl];rw[Z0d ⟨trivial,trivial,by omega⟩,Nat.one_mul,y,Z0k (by omega)]
 have t:A0z M 8 (.vref f g 8 0 0)=some ([],0):=by simp only[A0z,hm,hl];rw[Z0d ⟨trivial,trivial,by omega⟩,Z2q];rfl
 have hb:(0+n)*120<=140737488355328:=by omega
 have a1:¬((0:Int)=1):=by omega
 /- behind the append -/
 have tail:∀(c1:List AV) (h1:List (Nat×Nat)) (M1:Mem),c1.length=N*8->c1.take (n*8)=ks.flatMap A0a.row->h1.lookup g=some N->M1[f]?=some (.vec 27 8 c1 g' h1)->
  ∃c2,c2.take (n*8)=ks.flatMap A0a.row/\(A1A 8 g (n*8) h1).lookup g=some N/\A2r prog 25 (.vref f g 8 0 n) (some (I n)) (some (I N)) none=none/\A3j prog 25 M1 (.vref f g 8 0 n) (some (I n)) (some (I N)) none=some (.vref f g 8 n 1)/\A5u prog 25 M1 (.vref f g 8 n 1)=some (.tuple [],M1.set f (.vec 27 8 c2 g' (A1A 8 g (n*8) h1))):=by
  intro c1 h1 M1 a2 w hh p
  refine⟨A0e c1 (n*8) zU,?_,?_,?_,?_,?_⟩
  .rw[C8c _ _ _ (by omega)];exact w
  .unfold A1A;exact A4w _ hh
  ·(have:¬(N:Int)<=n:=by omega);simp[A2r,A4X,A8U,A1v,this]
  ·(have h2:N-n=1:=by omega);have h3:(n:Int)<=N:=by omega
   simp[A3j,p,hh,A4X,A8U,A1v,B0U,h2,h3]
  ·(have h2:n+1<=N:=by omega);simp[A5u,p,hh,h2,zU]
 refine(?_:∃cs hist',_)
 by_cases h0:ks=[]
 .have d:n=0:=by rw[hn,h0];rfl
  obtain⟨c2,k1,k2,k3,k4,k5⟩:=tail c0 a M b (by rw[d,h0];simp) hl hm;refine⟨c2,A1A 8 g (n*8) a,k1,k2,?_⟩;refine A0j hB func360 ?_;simp -dsimp -implicitDefEqProofs[i,h];refine A1i hB (A0G gl) (λk=>if k=6 then 2 else 0) (λ_=>0) (by rfl) (by kernel_rfl) ?_;simp -dsimp -implicitDefEqProofs[j,m];refine A6u (e:=27) (sz:=8) (bytes:=120) A8n B2L B2H t c hb ?_ ?_
  .simp only[A3g,c,hm,hl];rw[Z0e (by omega)]
  simp only[A2L,c,hm,hl];rw[Z0d ⟨trivial,trivial,trivial,by omega⟩,Z0d d];have e0:((0:Nat):Int)=0:=rfl;rw[d]at k3 k4 k5;rw[e0]at k3 k4;simp -dsimp -implicitDefEqProofs[k3,k4,k5,d]
 .have a0:0<n:=by rw[hn];exact Z2p.2 h0
  obtain⟨M1,e1⟩:∃M1,M1=M.set f (.vec 27 8 (A0e c0 0 (ks.flatMap A0a.row)) g' (A1A 8 g 0 a)):=⟨_,rfl⟩;have o:M1[f]?=some (.vec 27 8 (A0e c0 0 (ks.flatMap A0a.row)) g' (A1A 8 g 0 a)):=by rw[e1];simp[u]
  obtain⟨c2,k1,k2,k3,k4,k5⟩:=tail (A0e c0 0 (ks.flatMap A0a.row)) (A1A 8 g 0 a) M1 (by unfold A0e;simp[-List.length_flatMap,s,b];omega) (by rw[<-s];exact D2v _ _) (by unfold A1A;exact A4w _ hl) o;have e2:∀X,M1.set f X=M.set f X:=λX=>by rw[e1,Z2h]
  rw[e2]at k5;refine⟨c2,_,k1,k2,?_⟩;refine A0j hB func360 ?_;simp -dsimp -implicitDefEqProofs[i,h];refine A1i hB (A0G gl) (λk=>if k=6 then 2 else 0) (λ_=>0) (by rfl) (by kernel_rfl) ?_;simp -dsimp -implicitDefEqProofs[j,m];have q:A3g 27 8 (.vref f g 8 0 0) (.vref f g 8 1 n) M=some (.vref f g 8 0 n,M1):=by simp only[A3g,c,hm,hl];rw[Z0d ⟨trivial,trivial,trivial,a0,by omega⟩,e1];simp
  refine E3m (e:=27) (sz:=8) (bytes:=120) A8n B2L B2H t c hb q ?_;clear e1 o q;simp -dsimp -implicitDefEqProofs[k3,k4,k5]
def D1I(x:A0a)(ks:List A0a)(v:AV)(o:Own)(M:Mem)(j:ks.length<=1000)(ho:A1n 27 8 A0a.row M v ks):∃v' M',A1n 27 8 A0a.row M' v' (ks++[x])/\A0c (obj v) M M'/\(obj v'=obj v\/A1r M.length v')/\A0d (WC gl) 290 [v,I ks.length,.list 8 [x.row] o] M (λr M1=>r=v'/\M1=M'):=by
 have hx:A0z M 8 (.list 8 [x.row] o)=some (x.row,1):=by simp[A0z]
 rcases ho with⟨rfl,rfl⟩|⟨f,g,d,rfl,hm,hl⟩
 .refine⟨.vref M.length 0 8 0 1,M++[.vec 27 8 x.row 0 [(0,1)]],.inr ⟨M.length,0,[(0,1)],rfl,by simp,by simp[List.lookup]⟩,.app _ _ _,.inr (λf hf=>by simp at hf;omega),?_⟩;have hs:A2r prog 25 (.val (.slice none 0 0)) (some (I 0)) none none=some (.val (.slice none 0 0)):=by kernel_rfl
  refine A0j hV func290 ?_;simp -dsimp -implicitDefEqProofs[hs];refine A6u (e:=27) (sz:=8) (bytes:=120) A8n B2L B2H (by rfl) hx (by omega) (by simp only[A3g,hx]) ?_;simp only[A2L,hx];simp -dsimp -implicitDefEqProofs
 .obtain⟨n,hn⟩:∃n,n=ks.length:=⟨_,rfl⟩;rw[<-hn]at j hl|-;have k:(ks.flatMap A0a.row).length=n*8:=by rw[A3C A0a.row_len,hn]
  have c:f<M.length:=(Z0b.1 hm).1;have hs:A2r prog 25 (.vref f g 8 0 n) (some (I n)) none none=some (.vref f g 8 n 0):=by simp[A2r,A4X,A8U,A1v,B0U]
  have h:A0z M 8 (.vref f g 8 0 n)=some (ks.flatMap A0a.row,n):=by simp only[A0z,hm,hl];rw[Z0d ⟨trivial,trivial,by omega⟩,Z2q,Z1q,Z0k (by omega)]
  have i:(ks.flatMap A0a.row++x.row)=(ks++[x]).flatMap A0a.row:=by simp[]
  obtain⟨a,hh⟩:∃a,a=(g+1,n+1)::d.filter (λp:Nat×Nat=>decide (p.2<=n)):=⟨_,rfl⟩;obtain⟨M',b⟩:∃M',M'=M.set f (.vec 27 8 ((ks++[x]).flatMap A0a.row) (g+1) a):=⟨_,rfl⟩;refine⟨.vref f (g+1) 8 0 (n+1),M',.inr ⟨f,g+1,a,by rw[Z0v,<-hn];rfl,?_,?_⟩,by rw[b];exact .set _ f _,.inl rfl,?_⟩
  rotate_left 2
  .refine A0j hV func290 ?_;simp -dsimp -implicitDefEqProofs[hs];refine A6u (e:=27) (sz:=8) (bytes:=120) A8n B2L B2H h hx (by omega) ?_ ?_
   .simp only[A3g,hx,hm,hl];rw[Z0e (by omega)]
   simp only[A2L,hx,hm,hl];rw[Z0d ⟨trivial,trivial,trivial,by omega⟩,Z0e (by omega),Z2q,Z1q,Z0k (by omega),i];simp -dsimp -implicitDefEqProofs[b,hh]
  .rw[b];simp[c]
  .rw[hh];simp[List.lookup,hn]
end
def A8A(M:Mem)(n:Nat)(v:AV)(l:List A0a):Prop:=(v=.val (.slice none 0 0)/\l=[])\/∃f g m cs g' hist,n<=f/\v=.vref f g 8 0 l.length/\M[f]?=some (.vec 27 8 cs g' hist)/\hist.lookup g=some m/\l.length<=m/\cs.take (l.length*8)=l.flatMap A0a.row
def D1Y(n:Nat)(x:A0a):∀c∈x.row,bdd n c:=by have h:=A2J n x;rw[x.row_eq]at h|-;simp only[A1Q,Z1N]at h;obtain⟨h1,h2,h3,h4,h5,h6,h7,h8⟩:=h;intro c hc;simp only[Z0A,Z2j,Z3y]at hc;rcases hc with rfl|rfl|rfl|rfl|rfl|rfl|rfl|rfl<;>assumption
section
variable {M M':Mem} {n:Nat} {v:AV} {l:List A0a}
def A8A.still(h:A8A M n v l):Still M n (bdd n) [v] [.list 8 (A0r l) .no]:=by
 rcases h with⟨rfl,rfl⟩|⟨f,g,m,cs,g',a,h1,rfl,h2,h3,h4,h5⟩
 .rw[A0r];exact .nilS .nil
 .exact C5b h1 h2 h3 h4 h5 (D1Y n)
def A8A.keep(h:A8A M n v l){o:Option Nat}(hk:A0c o M M')(ho:∀f,obj v=some f->o≠some f):A8A M' n v l:=by
 rcases h with⟨rfl,rfl⟩|⟨f,g,m,cs,g',a,h1,rfl,h2,h3,h4,h5⟩
 .exact .inl ⟨rfl,rfl⟩
 .exact .inr ⟨f,g,m,cs,g',a,h1,rfl,hk.get h2 (ho f rfl),h3,h4,h5⟩
def A8A.vec(h:A8A M n v l){f:Nat}(hf:obj v=some f):n<=f/\∃cs g' a,M[f]?=some (.vec 27 8 cs g' a):=by
 rcases h with⟨rfl,rfl⟩|⟨f',g,m,cs,g',a,h1,rfl,h2,h3,h4,h5⟩
 .simp at hf
 .simp at hf;subst hf;exact⟨h1,cs,g',a,h2⟩
def A8A.of(h:A1n 27 8 A0a.row M v l)(hl:A1r n v):A8A M n v l:=by
 rcases h with⟨rfl,rfl⟩|⟨f,g,a,rfl,hm,hh⟩
 .exact .inl ⟨rfl,rfl⟩
 .exact .inr ⟨f,g,l.length,_,g,a,hl f rfl,rfl,hm,hh,Z0o _,Z0k (by rw[A3C A0a.row_len];exact Z0o _)⟩
end
def A8f(u:A0a)(ks:List A0a):A0a:=.mk u.id u.kind u.label u.head u.words ks
def E0L(gl:Nat->AV)(u:A0a)(M:Mem)(g:FuncId)(cap:List AV)(ks:List A0a):Prop:=∀(b:Nat) (kv:AV) (Mi:Mem),M.length<=b->Grow M Mi->Mi[b]?=some (.cells 27 (A6T u kv))->A1n 27 8 A0a.row Mi kv u.kids->A1r M.length kv->obj kv≠some b->A4d (WC gl) g (.ptr b 0::cap) Mi (λ_ M'=>∃kv',M'[b]?=some (.cells 27 (A6T u kv'))/\A0c (obj kv) (Mi.set b .gone) (M'.set b .gone)/\A8A M' M.length kv' ks)
section
variable (gl:Nat->AV)
def E3W(u k:A0a)(ks:List A0a)(hk:u.kids=k::ks)(a0:ks.length<=1000)(q:Nat)(M:Mem)(hq:M[q]?=some (.cells 3 [I 0])):E0L gl u M 359 [.ptr q 0] ks:=by
 intro b kv Mi hb hg l ho m r;have a4:q<M.length:=(Z0b.1 hq).1;have w:=hg.get hq (by simp);rw[hk]at ho;rcases ho with⟨_,h⟩|⟨f,g,o,rfl,hm,hl⟩
 .simp at h
 have a2:f≠b:=λe=>r (by simp[e]);have y:M.length<=f:=m f rfl;obtain⟨cs,a,k1,k2,d⟩:=D1u gl k ks f g g o Mi a0 hm hl;have a1:b<Mi.length:=(Z0b.1 l).1;have t:f<Mi.length:=(Z0b.1 hm).1;refine A1Y func359 rfl rfl ?_;obtain⟨M2,c⟩:∃M2,M2=Mi.set f (.vec 27 8 cs g a):=⟨_,rfl⟩;rw[<-c]at d;have p:M2[b]?=some (.cells 27 (A6T u (.vref f g 8 0 (ks.length+1)))):=by rw[c,Z0f (by omega)];exact l
 have s:A0n (some 1) M2 (.ptr b 7) (.vref f g 8 0 ks.length)=some (M2.set b (.cells 27 (A6T u (.vref f g 8 0 ks.length)))):=by rw[A0h p];rfl
 have j:b<M2.length:=(Z0b.1 p).1;have z:A1D prog 25 Mi (.ptr b 7)=some (.vref f g 8 0 (ks.length+1)):=by rw[A0b l];simp[A6T]
 refine A0j hB func359 ?_;simp -dsimp -implicitDefEqProofs;refine A1i hB (A0G gl) (λk=>if k=4\/k=5\/k=6 then 1 else if k=8\/k=11 then 2 else 0) (λk=>if k=4 then b else q) (by rfl) (by kernel_rfl) ?_;simp -dsimp -implicitDefEqProofs[z,A0b w,A6w];rw[show IntKind.i64.wrap 1=1 by decide];refine A5f (A1Y func360 rfl rfl d) ?_;simp -dsimp -implicitDefEqProofs[s];refine⟨.vref f g 8 0 ks.length,by simp[j],⟨by simp[c],λi hi ho=>?_⟩,.inr ⟨f,g,_,cs,g,a,y,rfl,?_,k2,by omega,k1⟩⟩
 .have a3:i≠f:=λe=>ho (by simp[e]);by_cases hib:i=b
  .subst hib;simp at hi;simp[j,hi]
  ·(have e1:b≠i:=by omega);have e2:f≠i:=by omega
   simp only[Z0f e1,c,Z0f e2]
 .rw[Z0f (by omega),c];simp[t]
def E4G(u x:A0a)(z:u.kids.length<=1000)(q p:Nat)(M:Mem)(hq:M[q]?=some (.cells 3 [I u.kids.length]))(hp:M[p]?=some (.cells 27 x.row)):E0L gl u M 289 [.ptr q 0,.ptr p 0] (u.kids++[x]):=by
 intro b kv Mi hb hg d ho l m;have a6:q<M.length:=(Z0b.1 hq).1;have w:=hg.get hq (by simp);have o:=hg.get hp (by simp);have a4:b<Mi.length:=(Z0b.1 d).1;have a5:=ho.len (P:=prog) underlying25;obtain⟨a,M2,a1,a2,a3,g⟩:=D1I gl x u.kids kv .full Mi z ho;have j:A1r M.length a:=λf hf=>by
  rcases a3 with e|h
  .rw[e]at hf;exact l f hf
  .have:=h f hf;have:=hg.1;omega
 have s:M2[b]?=some (.cells 27 (A6T u kv)):=a2.get d m;have c:b<M2.length:=(Z0b.1 s).1;have r:∀f,obj a=some f->f≠b:=λf hf e=>by
  rcases a3 with h|h
  .rw[h]at hf;exact m (by rw[hf,e])
  .have:=h f hf;omega
 have t:A0n (some 1) M2 (.ptr b 7) a=some (M2.set b (.cells 27 (A6T u a))):=by rw[A0h s,a1.cells,Z0d ⟨a1.store,by simp[A6T],rfl⟩];rfl
 have y:A1D prog 25 Mi (.ptr b 7)=some kv:=by rw[A0b d];simp[A6T]
 have a0:A1D prog 27 Mi (.ptr p 0)=some (.agg x.row):=by rw[x.row_eq]at o|-;rw[A0b o];simp
 refine A1Y func289 rfl rfl ?_;refine A0j hB func289 ?_;simp -dsimp -implicitDefEqProofs;refine A1i hB (A0G gl) (λk=>if k=4\/k=5\/k=6 then 1 else if k=8\/k=11 then 2 else 0) (λk=>if k=4 then b else if k=5 then q else p) (by rfl) (by kernel_rfl) ?_;simp -dsimp -implicitDefEqProofs[y,a0,A0b w,A6w,A0p,A0Z];refine A5f (A1Y func290 rfl rfl g) ?_;simp -dsimp -implicitDefEqProofs[t];refine⟨a,by simp[c],⟨by simpa using a2.1,λi hi ho=>?_⟩,A8A.of (a1.keep (A0c.set _ _ _) (λf hf e=>r f hf (by simpa using e.symm))) j⟩;by_cases hib:i=b
 .subst hib;simp at hi;simp[c,hi]
 .have e1:b≠i:=by omega
  simp only[Z0f e1];exact a2.2 i (by simpa using hi) ho
def B8Y(u:A0a)(g:FuncId)(cap:List AV)(ks:List A0a)(M:Mem)(hf:Fit u)(hd:E0L gl u M g cap ks):A0d (WC gl) 288 [.agg u.row,.agg u.id.row,.func (.func g) [] cap] M (λv M'=>v=.agg (A8f u ks).row/\M'=M):=by
 refine A0d.dataX ?_;have hx:u.id.row=[I u.id.act,I u.id.item,I u.id.n]:=rfl;have he:=B5z u.id u.id;rw[Z0s rfl]at he;have a2:=A1O u.kids;have a4:A0u u.kids<A0o u:=by obtain⟨a,b,c,d,e,f⟩:=u;rw[A0o];show A0u f<_;omega
 have a3:=hf.2.2;obtain⟨b,hb⟩:∃b,b=M.length:=⟨_,rfl⟩;obtain⟨M1,k⟩:∃M1,M1=M++[A0l.cells 27 [I u.id.act,I u.id.item,I u.id.n,I u.kind,S u.label,.list 4 (A0g u.head) .no,.list 4 (A0g u.words) .no,.list 8 (A0r u.kids) .no],z8]:=⟨_,rfl⟩;have h1:M1[b]?=some (A0l.cells 27 [I u.id.act,I u.id.item,I u.id.n,I u.kind,S u.label,.list 4 (A0g u.head) .no,.list 4 (A0g u.words) .no,.list 8 (A0r u.kids) .no]):=by rw[k,hb];simp
 have h2:M1[b+1]?=some z8:=by rw[k,hb];simp[]
 have w:Grow M M1:=by rw[k];exact A0c.app none _ _
 rw[u.row_eq,hx];refine A0j hTr func288 ?_;simp -dsimp -implicitDefEqProofs[A0m];rw[<-k,<-hb];simp -dsimp -implicitDefEqProofs[A0b h1,he];refine A0s func52 (C7V gl u.kids M1 (by omega)) ?_;rintro kv M2 ⟨ho,l,h⟩;have h3:=l.get h1 (by simp);have h4:=l.get h2 (by simp);have a6:b+1<M1.length:=(Z0b.1 h2).1;have t:A0n (some 1) M2 (.ptr b 7) kv=some (M2.set b (.cells 27 (A6T u kv))):=by rw[A0h h3,ho.cells,Z0d ⟨ho.store,by simp,rfl⟩];rfl
 simp -dsimp -implicitDefEqProofs[t];have s:b<M2.length:=(Z0b.1 h3).1;have j:Grow M (M2.set b (.cells 27 (A6T u kv))):=A1e (w.trans l) (by omega);refine A4A (hd b kv (M2.set b (.cells 27 (A6T u kv))) (by omega) j (by simp[s]) (ho.keep (A0c.set _ _ _) (λf hf e=>by have:=h f hf;simp at e;omega)) (λf hf=>by have:=h f hf;omega) (λe=>by have:=h b e;omega)) ?_;rintro _ M4 ⟨m,q1,q2,q3⟩;have a5:b<M4.length:=(Z0b.1 q1).1;have p:M4[b+1]?=some z8:=by have a0:=l.1;have:=q2.2 (b+1) (by simp;omega) (λe=>by have:=h (b+1) e;omega);rw[Z0f (by omega),Z0f (by omega),Z0f (by omega)]at this;rw[this];exact h4
 have y:Grow M M4:=by refine⟨by have:=q2.1;have:=j.1;simp at this q2;omega,λi hi _=>?_⟩;have h5:=q2.2 i (by have:=j.1;simp at this|-;omega) (λe=>by have:=h i e;omega);rw[Z0f (by omega),Z0f (by omega)]at h5;rw[h5];exact j.2 i hi (by simp)
 have q:b+1<M4.length:=(Z0b.1 p).1;have z:A1D prog 27 M4 (.ptr b 0)=some (.agg (A6T u m)):=by rw[A0b q1];simp[A6T]
 have r:A0n (some 8) M4 (.ptr (b+1) 0) (.agg (A6T u m))=some (M4.set (b+1) (.cells 27 (A6T u m))):=by rw[A0h p];rfl
 simp -dsimp -implicitDefEqProofs[z,r,A0y q,A0k,A6T];refine⟨A1e y (by omega),.agg ?_ .nil⟩;have o:=(q3.keep (A0c.set M4 (b+1) (.cells 27 (A6T u m))) (λf hf e=>by obtain⟨_,cs,g',a1,hv⟩:=q3.vec hf;simp only[Z0a]at e;subst e;rw[p]at hv;simp at hv)).still;rw[A8f,A0a.row];rw[A6T]at o;rw[<-hb]at o;exact .same trivial (.same trivial (.same trivial (.same trivial (.same trivial (.same (by simp only[bdd,Z1N];exact A7Y _ _) (.same (by simp only[bdd,Z1N];exact A7Y _ _) o))))))
end
open Go.Proofs TryTypes
def A1P(number:Int):List A5R->Nat->List A0a
 |[],_=>[]
 |t::ts,j=>A2g number j t.1 0 0::A1P number ts (j+1)
def A6f(u:A0a)(number:Int)(ts:List A5R):A0a:=.mk u.id u.kind u.label u.head u.words (A1P number ts u.kids.length)
def B6m(a:Int):∀ts j,(A1P a ts j).length=ts.length
 |[],_=>rfl
 |t::ts,j=>by rw[A1P,Z0C,B6m a ts,Z0C]
def B6s(c:Int):∀a b j,A1P c (a++b) j=A1P c a j++A1P c b (j+a.length)
 |[],b,j=>by simp[A1P]
 |t::a,b,j=>by rw[Z1g,A1P,B6s c a b (j+1),A1P,Z1g,Z0C,show j+1+a.length=j+(a.length+1)by omega]
def B4O(a i:Int)(n c:Nat):List IdD:=(List.range' n c).map λm=>⟨a,i,((m+1:Nat):Int)⟩
def C6E(a i:Int)(n c d:Nat):B4O a i n (c+d)=B4O a i n c++B4O a i (n+c) d:=by unfold B4O;rw[<-Z0Q,<-List.range'_append_1]
def D4A(a i:Int)(n c:Nat):B4O a i n (1+c)=⟨a,i,((n+1:Nat):Int)⟩::B4O a i (n+1) c:=by rw[C6E];simp[B4O]
mutual
def A9A(a i:Int):∀(t:A0a) (n w:Nat),A0V (A2g a i t n w)=B4O a i n (A0o t)
 |.mk _ k l h ws ks,n,w=>by rw[A2g,A0V,C0j a i ks,A0o,D4A]
def C0j(a i:Int):∀(ks:List A0a) (n w:Nat),A3v (A2B a i ks n w)=B4O a i n (A0u ks)
 |[],n,w=>by rw[A2B,A3v,A0u];rfl
 |k::ks,n,w=>by rw[A2B,A3v,A0u,A9A a i k,C0j a i ks,C6E]
end
mutual
def A8N(a i:Int):∀(t:A0a) (n w:Nat),A0o (A2g a i t n w)=A0o t
 |.mk _ k l h ws ks,n,w=>by rw[A2g,A0o,B4t a i ks,A0o]
def B4t(a i:Int):∀(ks:List A0a) (n w:Nat),A0u (A2B a i ks n w)=A0u ks
 |[],n,w=>by rw[A2B]
 |k::ks,n,w=>by rw[A2B,A0u,A8N a i k,B4t a i ks,A0u]
end
mutual
def B6v(a i:Int):∀(t:A0a) (n w:Nat),A1w (A2g a i t n w)=A1w t
 |.mk _ k l h ws ks,n,w=>by rw[A2g,A1w,B3R a i ks,A1w]
def B3R(a i:Int):∀(ks:List A0a) (n w:Nat),A2v (A2B a i ks n w)=A2v ks
 |[],n,w=>by rw[A2B]
 |k::ks,n,w=>by rw[A2B,A2v,B6v a i k,B3R a i ks,A2v]
end
def C8q(a i:Int)(n c:Nat):(B4O a i n c).Nodup:=by unfold B4O List.Nodup;rw[Z3V];refine List.Pairwise.imp ?_ (List.nodup_range' (s:=n) (n:=c) (step:=1));intro x y h e;simp only[IdD.mk.injEq,Z2t]at e;omega
def B3V{a i:Int}{n c:Nat}{x:IdD}(h:x∈B4O a i n c):x.act=a/\x.item=i:=by unfold B4O at h;obtain⟨m,_,rfl⟩:=Z0J.1 h;exact⟨rfl,rfl⟩
def B5Y(c:Int):∀ts j,(A3v (A1P c ts j)).Nodup/\∀x∈A3v (A1P c ts j),x.act=c/\(j:Int)<=x.item
 |[],j=>by rw[A1P,A3v];simp
 |t::ts,j=>by
  obtain⟨h1,h2⟩:=B5Y c ts (j+1);rw[A1P,A3v,A9A];refine⟨Z2a.2 ⟨C8q _ _ _ _,h1,λa ha b hb e=>?_⟩,λx hx=>?_⟩
  .have:=(B3V ha).2;have:=(h2 b hb).2;rw[e]at*;omega
  .rcases Z0Y.1 hx with hx|hx
   .have:=B3V hx;exact⟨this.1,by omega⟩
   .have:=h2 x hx;exact⟨this.1,by omega⟩
def A5M(a:Int):∀ts j,A0u (A1P a ts j)=A0u (ts.map (·.1))
 |[],j=>rfl
 |t::ts,j=>by rw[A1P,A0u,A8N,A5M a ts,Z0B,A0u]
def C0o{k v:A0a}(hv:v∈A5G k):∀{ks:List A0a},k∈ks->v∈A6B ks
 |b::bs,hk=>by
  rw[A6B];rcases Z0A.1 hk with rfl|hk
  .exact Z2x _ hv
  .exact Z3a _ (C0o hv hk)
section
variable (F:IdD->Option A0a) (l:List A0S) (s:List A1R) (D:Nat->IdD)
end
section
variable {F:IdD->Option A0a} {l:List A0S} {s:List A1R} {D:Nat->IdD}
end
section
def C6Q{α β:Type}[DecidableEq β](f:α->β):∀{L:List α} {y:α},(L.map f).Nodup->y∈L->L.find? (λv=>decide (f v=f y))=some y
 |x::L,y,hn,hy=>by
  simp only[Z0B,Z1U]at hn;rw[Z3G];rcases Z0A.1 hy with rfl|hy
  .simp
  .have:f x≠f y:=λe=>hn.1 (e▸Z0J.2 ⟨y,hy,rfl⟩);rw[Z0w this];exact C6Q f hn.2 hy
def D7L{u y:A0a}(hn:(A0V u).Nodup)(hy:y∈A5G u):A1k y.id u=some y:=by rw[A9O];exact C6Q A0a.id (by rw[A7u];exact hn) hy
def C9m{x:IdD}{u:A0a}(h:x∉A0V u):A2w x u=[]:=by
 have h1:=A8r x u;cases hr:A2w x u with
 |nil=>rfl
 |cons r rs=>
  rw[hr]at h1;cases hl:(r::rs).getLast? with
  |none=>simp at hl
  |some v=>rw[hl]at h1;obtain⟨e1,e2⟩:=B0Q h1;exact absurd (by rw[<-A7u,<-e1];exact Z0J.2 ⟨v,e2,rfl⟩) h
def B4g{k:A0a}{x:IdD}(hx:x∈A0V k):∀{ks:List A0a},k∈ks->x∈A3v ks
 |b::bs,hk=>by
  rw[A3v];rcases Z0A.1 hk with rfl|hk
  .exact Z2x _ hx
  .exact Z3a _ (B4g hx hk)
def B5U{x:IdD}:∀{ks:List A0a} {k:A0a},(A3v ks).Nodup->k∈ks->x∈A0V k->A2w x k≠[]->A4R x ks=A2w x k
 |a::ks,k,hn,hk,hx,hne=>by
  rw[A3v]at hn;obtain⟨n1,n2,n3⟩:=Z2a.1 hn;rw[A4R];rcases Z0A.1 hk with rfl|hk
  .cases hr:A2w x k with
   |nil=>exact absurd hr hne
   |cons r rs=>rfl
  ·(have:x∉A0V a:=λh=>by refine n3 x h x ?_ rfl;exact B4g hx hk);rw[C9m this];exact B5U n2 hk hx hne
def B9z(u:A0a):u.id∈A0V u:=by obtain⟨a,b,c,d,e,f⟩:=u;rw[A0V];simp[A0a.id]
def B9k{k:A0a}:∀{ks:List A0a},(A3v ks).Nodup->k∈ks->(A0V k).Nodup
 |b::bs,hn,hk=>by
  rw[A3v]at hn;obtain⟨n1,n2,n3⟩:=Z2a.1 hn;rcases Z0A.1 hk with rfl|hk
  .exact n1
  .exact B9k n2 hk
def C7A{q:A0a}:∀{ks:List A0a},q∈A6B ks->∃k∈ks,q∈A5G k
 |[],h=>by rw[A6B]at h;simp at h
 |b::bs,h=>by
  rw[A6B]at h;rcases Z0Y.1 h with h|h
  .exact⟨b,by simp,h⟩
  .obtain⟨k,hk,hq⟩:=C7A h;exact⟨k,by simp[hk],hq⟩
def B4M(u:A0a):u∈A5G u:=by obtain⟨a,b,c,d,e,f⟩:=u;rw[A5G];simp
mutual
def B9X:∀(u v:A0a),v∈A5G u->∀k∈v.kids,k∈A5G u
 |.mk a b c d e ks,v,hv,k,hk=>by
  rw[A5G]at hv|-;rcases Z0A.1 hv with rfl|hv
  .exact Z1W _ (C0o (B4M k) hk)
  .exact Z1W _ (B5w ks v hv k hk)
def B5w:∀(ks:List A0a) (v:A0a),v∈A6B ks->∀k∈v.kids,k∈A6B ks
 |[],v,hv,_,_=>by rw[A6B]at hv;simp at hv
 |a::ks,v,hv,k,hk=>by
  rw[A6B]at hv|-;rcases Z0Y.1 hv with hv|hv
  .exact Z2x _ (B9X a v hv k hk)
  .exact Z3a _ (B5w ks v hv k hk)
end
def B7S(y:A0a):A2w y.id y=[y]:=by obtain⟨a,b,c,d,e,f⟩:=y;rw[A2w];exact Z0d rfl
def C6G(y:A0a):∀(u q:A0a),(A0V u).Nodup->q∈A5G u->y∈q.kids->∃b,A2w y.id u=b++[q,y]
 |.mk id k l h w ks,q,hn,hq,hy=>by
  rw[A0V]at hn;rw[A5G]at hq;obtain⟨n1,n2⟩:=Z1U.1 hn;have f:y∈A6B ks:=by
   rcases Z0A.1 hq with rfl|hq
   .exact C0o (B4M y) hy
   .exact B5w ks q hq y hy
  have g:id≠y.id:=λe=>n1 (by rw[e,<-B8V];exact Z0J.2 ⟨y,f,rfl⟩);rw[A2w,Z0e g];rcases Z0A.1 hq with rfl|hq
  .have hy:y∈ks:=hy;rw[B5U n2 hy (B9z y) (by rw[B7S];simp),B7S];exact⟨[],rfl⟩
  .obtain⟨c,hc,d⟩:=C7A hq;have:=A0a.kid_lt (u:=.mk id k l h w ks) hc;obtain⟨b,hp⟩:=C6G y c q (B9k n2 hc) d hy;(have i:y.id∈A0V c:=by rw[<-A7u];exact Z0J.2 ⟨y,B9X c q d y hy,rfl⟩);rw[B5U n2 hc i (by rw[hp];simp),hp];cases b with
   |nil=>exact⟨[_],rfl⟩
   |cons a b=>exact⟨_::a::b,rfl⟩
termination_by u=>SizeOf.sizeOf u
def D9K{u q y:A0a}(hn:(A0V u).Nodup)(hq:q∈A5G u)(hy:y∈q.kids):D7I y.id u=some q:=by obtain⟨a,hp⟩:=C6G y u q hn hq hy;rw[D7I,hp,show a++[q,y]=(a++[q])++[y]by simp,List.dropLast_concat];simp
def C1s(a:Int):∀(ts:List A5R) (j:Nat),(∀t∈ts,A0o t.1=t.2.1.length)->(A5N a (ts.map (·.2.1)) j).map (·.2)=A3v (A1P a ts j)
 |[],j,_=>by rw[A1P,A3v];rfl
 |t::ts,j,h=>by rw[Z0B,A5N,A1P,A3v,Z0Q,C1s a ts (j+1) λq hq=>h q (by simp[hq]),A9A,h t (by simp)];congr 1;unfold B4O;rw[Z1O];have e:=List.zipIdx_map_snd 0 t.2.1;rw[<-e,Z1O];rfl
section
variable {u:A0a} {l:List A0S} {s:List A1R}
def B5f(u:A0a)(l:List A0S)(s:List A1R)(number:Int)(x:IdD):IdD:=(A1L (A8q number u (A2n (λy=>A1k y u) l s)) x).getD idZ
def C7d(hS:A7z u l)(a:Int):((A8q a u (A2n (λy=>A1k y u) l s)).map (·.1)).Nodup:=by rw[B3y];exact(B2n (s:=s) hS).1
def B6R(hS:A7z u l):∀t∈A2n (λy=>A1k y u) l s,A0o t.1=t.2.1.length:=by intro t ht;obtain⟨n,hn,rfl⟩:=Z0J.1 ht;exact B1E hS.ord l.length n (A9c hn) (by omega)
def D1T(hS:A7z u l)(a:Int):(A8q a u (A2n (λy=>A1k y u) l s)).map (·.2)=A3v (A1P a (A2n (λy=>A1k y u) l s) u.kids.length):=C1s a _ _ (B6R hS)
def C5Z(hS:A7z u l)(a:Int){x:IdD}(hx:x∈(A0V u).tail):(x,B5f u l s a x)∈A8q a u (A2n (λy=>A1k y u) l s):=by have h1:=((B2n (s:=s) hS).2 x).2 hx;rw[<-B3y (u:=u) a]at h1;obtain⟨y,hy,rfl⟩:=Z0J.1 h1;have:=B8u _ (C7d hS a) y hy;rw[B5f,this];exact hy
def C1r{α β:Type}(f:α->β):∀{L:List α} {a b:α},(L.map f).Nodup->a∈L->b∈L->f a=f b->a=b
 |x::L,a,b,hn,ha,hb,e=>by
  simp only[Z0B,Z1U]at hn;rcases Z0A.1 ha with h1|h1<;>rcases Z0A.1 hb with h2|h2
  .rw[h1,h2]
  .rw[h1]at e;exact absurd (Z0J.2 ⟨b,h2,e.symm⟩) hn.1
  .rw[h2]at e;exact absurd (Z0J.2 ⟨a,h1,e⟩) hn.1
  .exact C1r f hn.2 h1 h2 e
def D5k(hS:A7z u l)(a:Int){x y:IdD}(hx:x∈(A0V u).tail)(hy:y∈(A0V u).tail)(e:B5f u l s a x=B5f u l s a y):x=y:=by
 have h1:=C5Z (s:=s) hS a hx;have h2:=C5Z (s:=s) hS a hy;have hn:((A8q a u (A2n (λy=>A1k y u) l s)).map (·.2)).Nodup:=by rw[D1T hS];exact(B5Y a _ _).1
 have:=C1r (λq:IdD×IdD=>q.2) hn h1 h2 e;simpa using congrArg Prod.fst this
def C9T(hS:A7z u l)(a:Int):A7i a u (A2n (λy=>A1k y u) l s)=(A0V u).tail.map λx=>(x,B5f u l s a x):=C0g hS a
def C1c(hS:A7z u l)(a:Int):A0o (A6f u a (A2n (λy=>A1k y u) l s))=l.length+1:=by
 have h1:∀ts:List A5R,(∀t∈ts,A0o t.1=t.2.1.length)->A0u (ts.map (·.1))=(ts.flatMap (·.2.1)).length:=by
  intro ts;induction ts with
  |nil=>intro _;rfl
  |cons t ts ih=>intro h;rw[Z0B,A0u,Z1f,Z0v,ih λq hq=>h q (by simp[hq]),h t (by simp)]
 have hp:∀j,j<l.length->-1<=A3w l j/\A3w l j<j:=λj hj=>by have:=hS.ord j hj j hj (Z0o _);simpa[A3w,hj]using this
 obtain⟨h2,h3⟩:=B6M (par:=λk=>A3w l k) (N:=l.length) hp;have hl:(B0o (λk=>A3w l k) l.length).length=l.length:=by have e1:=Z3J h2 (l₂:=List.range l.length) λx hx=>Z1i.2 ((h3 x).1 hx);have e2:=Z3J List.nodup_range (l₂:=B0o (λk=>A3w l k) l.length) λx hx=>(h3 x).2 (Z1i.1 hx);simp at e1 e2;omega
 rw[A6f,A0o,A5M,h1 _ (B6R hS),C1R,Z0V,hl];omega
end
end
def D1A{u k:A0a}{ks:List A0a}(hk:u.kids=k::ks)(hn:(A0V u).Nodup):D7W k.id u=.tuple [.agg u.id.row,I 0,B true]:=by
 have h1:=D9K (u:=u) (q:=u) (y:=k) hn (B4M u) (by rw[hk];simp);have h2:A1k k.id k=some k:=by obtain⟨a,b,c,d,e,f⟩:=k;rw[A1k];exact Z0d rfl
 rw[D7W,h1];simp only[hk,A3R,h2,Z3m,Z0H];rfl
def enR(number:Int)(i:Nat)(day:Int)(it:A0W):List AV:=[I number,I i,I day]++it.row
@[simp] def D7p(a:Int)(i:Nat)(b:Int)(it:A0W):(enR a i b it).length=28:=by simp[enR]
section
variable (gl:Nat->AV)
def C0N(u k:A0a)(ks:List A0a)(M:Mem)(hk:u.kids=k::ks)(hf:Fit u)(hn:(A0V u).Nodup):A0d (WC gl) 291 [.agg u.row,.agg k.id.row] M (λv M'=>v=.agg (A8f u ks).row/\M'=M):=by
 refine A0d.dataX ?_;have hx:k.id.row=[I k.id.act,I k.id.item,I k.id.n]:=rfl;have j:u.id.row=[I u.id.act,I u.id.item,I u.id.n]:=rfl;have q:=A1O u.kids;have s:A0u u.kids<A0o u:=by obtain⟨a,b,c,d,e,f⟩:=u;rw[A0o];show A0u f<_;omega
 have r:=hf.2.2;have l:ks.length<=1000:=by have:=congrArg List.length hk;rw[Z0C]at this;omega
 obtain⟨b,hb⟩:∃b,b=M.length:=⟨_,rfl⟩;obtain⟨M1,i⟩:∃M1,M1=M++[z8]:=⟨_,rfl⟩;have h1:M1[b]?=some z8:=by rw[i,hb];simp
 have p:Grow M M1:=by rw[i];exact A0c.app none _ _
 have g:=D3m gl u k.id M1 hf;rw[D1A hk hn,hx,j]at g;obtain⟨M2,h⟩:∃M2,M2=M1++[A0l.cells 23 [I u.id.act,I u.id.item,I u.id.n],A0l.cells 3 [I 0]]:=⟨_,rfl⟩;have hq:M2[M1.length+1]?=some (A0l.cells 3 [I 0]):=by rw[h];simp[]
 have hp:M2[M1.length]?=some (A0l.cells 23 [I u.id.act,I u.id.item,I u.id.n]):=by rw[h];simp
 have m:Grow M1 M2:=by rw[h];exact A0c.app none _ _
 have hw:=B8Y gl u 359 [.ptr (M1.length+1) 0] ks M2 hf (E3W gl u k ks hk l _ M2 hq);rw[j]at hw;have h2:=m.get h1 (by simp);have o:b<M2.length:=(Z0b.1 h2).1;rw[u.row_eq]at g hw;rw[u.row_eq,hx];refine A0j hB func291 ?_;simp -dsimp -implicitDefEqProofs[A0m];rw[<-i,<-hb];refine A0f func34 g ?_;simp -dsimp -implicitDefEqProofs[A0m,A0n,A0e];rw[<-h];simp -dsimp -implicitDefEqProofs[A0b hp];refine A0f func288 hw ?_;simp -dsimp -implicitDefEqProofs[A0h h2,A0y o,A0k];exact⟨A1e (p.trans m) (by omega),.same (by simp only[bdd];exact A2J _ _) .nil⟩
def C4m(u k:A0a)(ks:List A0a)(d:List AV)(M:Mem)(hk:u.kids=k::ks)(hf:Fit u)(hn:(A0V u).Nodup):A0d (WC gl) 233 [.agg u.row,.agg k.row,.agg d] M (λv M'=>v=.tuple [.agg (A8f u ks).row,I 0]/\M'=M):=by
 refine A0d.dataX ?_;have hx:k.id.row=[I k.id.act,I k.id.item,I k.id.n]:=rfl;obtain⟨b,hb⟩:∃b,b=M.length:=⟨_,rfl⟩;obtain⟨M1,a⟩:∃M1,M1=M++[z8]:=⟨_,rfl⟩;have h1:M1[b]?=some z8:=by rw[a,hb];simp
 have e:Grow M M1:=by rw[a];exact A0c.app none _ _
 have c:b<M1.length:=(Z0b.1 h1).1;have hw:=C0N gl u k ks M1 hk hf hn;rw[hx]at hw;rw[u.row_eq]at hw|-;rw[k.row_eq];refine A0j hB func233 ?_;simp -dsimp -implicitDefEqProofs[A0m];rw[<-a,<-hb];refine A0f func291 hw ?_;simp -dsimp -implicitDefEqProofs[A0h h1,A0y c,A0k];exact⟨A1e e (by omega),.tuple (.same (by simp only[bdd];exact A2J _ _) (.same trivial .nil)) .nil⟩
end
abbrev fnV(g:FuncId):AV:=.func (.func g) [] []
def C4e:List AV:=[fnV 399,fnV 402,fnV 404,fnV 406]
def B4P(x:IdD)(n:Nat):List AV:=[I x.act,I x.item,I x.n,I n]
abbrev z4:A0l:=.cells 335 [I 0,I 0,I 0,I 0]
def C6g:A0D prog 366 [(0,fnV 399),(1,fnV 402),(2,fnV 404),(3,fnV 406)]=none:=by kernel_rfl
def E0h:B4h prog 366 [(0,fnV 399),(1,fnV 402),(2,fnV 404),(3,fnV 406)]=some (.agg C4e):=by kernel_rfl
section
variable (gl:Nat->AV)
def C1z(M:Mem):A0d (WC gl) 240 [A0i] M (λv M'=>v=B true/\M'=M):=by
 refine A0j hB func240 ?_;simp -dsimp -implicitDefEqProofs;refine A0v hB 0 7 (λT M1=>T 0=A0i/\T 5=A0i/\T 6=I 0/\T 7=I 0/\M1=M) ?_ ?_
 .exact⟨by simp,by simp,by simp,by simp,rfl⟩
 rintro T M1 ⟨t0,t5,t6,t7,rfl⟩;simp -dsimp -implicitDefEqProofs[t0,t6,t7]
def D0T(u:A0a)(M:Mem):A0d (WC gl) 328 [.agg u.row,A0i] M (λv M'=>v=.list 8 (A0r [u]) .no/\M'=M):=by
 refine A0d.dataX ?_;have hv:=λM=>C1z gl M;have a:A0r [u]=[u.row]:=by rw[A0r,A0r]
 have hb:=C1K M.length [u];rw[a]at hb|-;rw[u.row_eq]at hb|-;refine A0j (hQ [58]) func328 ?_;simp -dsimp -implicitDefEqProofs;refine A0f func240 (hv M) ?_;simp -dsimp -implicitDefEqProofs[A0m,A0p,A0Z,AV.storable,AV.cells];exact⟨A0c.app none _ _,.dis hb .nil⟩
def C5r(M:Mem):A0d (WC gl) 384 [] M (λv M'=>v=.agg C4e/\M'=M):=by
 refine A0d.dataX ?_;obtain⟨M1,a⟩:∃M1,M1=M++[A0l.cells 366 [.val .nilFunc,.val .nilFunc,.val .nilFunc,.val .nilFunc]]:=⟨_,rfl⟩;have h1:M1[M.length]?=some (A0l.cells 366 [.val .nilFunc,.val .nilFunc,.val .nilFunc,.val .nilFunc]):=by rw[a];simp
 have c:M.length<M1.length:=(Z0b.1 h1).1;have b:Grow M M1:=by rw[a];exact A0c.app none _ _
 refine A0j hB func384 ?_;simp -dsimp -implicitDefEqProofs[A0m,C6g];rw[<-a];simp -dsimp -implicitDefEqProofs[A0A,A0q,A0U,A0Q,A0E,E0h,A0h h1,C4e,A0y c,A0k];exact⟨A1e b (Z0o _),.same (by simp[bdd,A1Q]) .nil⟩
def C8f(u:A0a)(M:Mem)(hf:Fit u):A0d (WC gl) 400 [.agg u.row,.agg u.id.row,fnV 403] M (λv M'=>v=.tuple [.agg (B4P u.id u.kids.length),I 0]/\M'=M):=by
 refine A0d.dataX ?_;have hx:u.id.row=[I u.id.act,I u.id.item,I u.id.n]:=rfl;have p:A1k u.id u=some u:=by obtain⟨a,b,c,d,e,f⟩:=u;rw[A1k];exact Z0d rfl
 obtain⟨b,hb⟩:∃b,b=M.length:=⟨_,rfl⟩;obtain⟨M1,h⟩:∃M1,M1=M++[z4]:=⟨_,rfl⟩;have h1:M1[b]?=some z4:=by rw[h,hb];simp
 have o:Grow M M1:=by rw[h];exact A0c.app none _ _
 have i:=B7t gl u u.id M1 hf;rw[p,hx]at i;obtain⟨M2,g⟩:∃M2,M2=M1++[A0l.cells 27 u.row]:=⟨_,rfl⟩;have hp:M2[M1.length]?=some (A0l.cells 27 [I u.id.act,I u.id.item,I u.id.n,I u.kind,S u.label,.list 4 (A0g u.head) .no,.list 4 (A0g u.words) .no,.list 8 (A0r u.kids) .no]):=by rw[g,u.row_eq];simp
 have j:Grow M1 M2:=by rw[g];exact A0c.app none _ _
 have h2:=j.get h1 (by simp);have l:b<M2.length:=(Z0b.1 h2).1;have m:A0D prog 335 [(0,.agg [I u.id.act,I u.id.item,I u.id.n]),(1,I u.kids.length)]=some (.agg (B4P u.id u.kids.length)):=by simp[A0D,A1l,A1H,AV.cells,AV.storable,B4P]
 rw[hx];rw[u.row_eq]at i g|-;refine A0j hB func400 ?_;simp -dsimp -implicitDefEqProofs[A0m];rw[<-h,<-hb];refine A0f func32 i ?_;simp -dsimp -implicitDefEqProofs[A0m,A2j,u.row_eq,A0n,A0e];rw[<-g];refine A1i hB (A0G gl) (λk=>if k=3 then 1 else if k=7 then 2 else 0) (λ_=>M1.length) (by rfl) (by kernel_rfl) ?_;simp -dsimp -implicitDefEqProofs[A0b hp,A6w];refine A1M func403 (λM=>D3T gl M u.kids.length) ?_;simp -dsimp -implicitDefEqProofs[m,A0h h2,B4P,A0y l,A0k];exact⟨A1e (o.trans j) (by omega),.same (by simp[bdd,A1Q]) .nil⟩
def C7R(u:A0a)(M:Mem)(hf:Fit u):A0d (WC gl) 402 [.agg u.row,.agg u.id.row] M (λv M'=>v=.tuple [.agg (B4P u.id u.kids.length),I 0]/\M'=M):=by
 refine A0d.dataX ?_;have hx:u.id.row=[I u.id.act,I u.id.item,I u.id.n]:=rfl;obtain⟨b,hb⟩:∃b,b=M.length:=⟨_,rfl⟩;obtain⟨M1,c⟩:∃M1,M1=M++[z4]:=⟨_,rfl⟩;have h1:M1[b]?=some z4:=by rw[c,hb];simp
 have e:Grow M M1:=by rw[c];exact A0c.app none _ _
 have d:b<M1.length:=(Z0b.1 h1).1;have a:=C8f gl u M1 hf;rw[hx]at a|-;rw[u.row_eq]at a|-;refine A0j hB func402 ?_;simp -dsimp -implicitDefEqProofs[A0m];rw[<-c,<-hb];refine A0f func400 a ?_;simp -dsimp -implicitDefEqProofs[A0h h1,B4P,A0y d,A0k];exact⟨A1e e (by omega),.same (by simp[bdd,A1Q]) .nil⟩
def C5H(u:A0a)(M:Mem)(hf:Fit u):A0d (WC gl) 350 [.agg u.row,A0i,I 1] M (λv M'=>v=.tuple [.agg u.id.row,I u.kids.length,I 0]/\M'=M):=by
 refine A0d.dataX ?_;have hx:u.id.row=[I u.id.act,I u.id.item,I u.id.n]:=rfl;obtain⟨b,hb⟩:∃b,b=M.length:=⟨_,rfl⟩;obtain⟨M1,e⟩:∃M1,M1=M++[A0l.cells 23 [I 0,I 0,I 0]]:=⟨_,rfl⟩;have h1:M1[b]?=some (A0l.cells 23 [I 0,I 0,I 0]):=by rw[e,hb];simp
 have p:Grow M M1:=by rw[e];exact A0c.app none _ _
 have f:=B3c gl u u A0i M1 (λM=>D0T gl u M);obtain⟨M2,c⟩:∃M2,M2=M1++[A0l.cells 23 [I u.id.act,I u.id.item,I u.id.n]]:=⟨_,rfl⟩;have hp:M2[M1.length]?=some (A0l.cells 23 [I u.id.act,I u.id.item,I u.id.n]):=by rw[c];simp
 have g:Grow M1 M2:=by rw[c];exact A0c.app none _ _
 have a:=λM=>C7R gl u M hf;obtain⟨M3,d⟩:∃M3,M3=M2++[A0l.cells 335 (B4P u.id u.kids.length)]:=⟨_,rfl⟩;have hq:M3[M2.length]?=some (A0l.cells 335 [I u.id.act,I u.id.item,I u.id.n,I u.kids.length]):=by rw[d];simp[B4P]
 have i:Grow M2 M3:=by rw[d];exact A0c.app none _ _
 have h3:=i.get (g.get h1 (by simp)) (by simp);have m:b<M3.length:=(Z0b.1 h3).1;have j:C8m prog (some (.array 4 365)) (.agg C4e) (I 1)=some (fnV 402):=by kernel_rfl
 rw[hx]at f a|-;rw[u.row_eq]at f a|-;refine A0j hB func350 ?_;simp -dsimp -implicitDefEqProofs[A0m];rw[<-e,<-hb];refine A0f func351 (C0T gl M1 1) ?_;simp -dsimp -implicitDefEqProofs;refine A0f func191 f ?_;simp -dsimp -implicitDefEqProofs[A0m,A0n,A0e];rw[<-c];have h:M1.length<M2.length:=(Z0b.1 hp).1;have l:∀X,(M2++[A0l.cells 335 X])[M1.length]?=M2[M1.length]?:=λX=>by rw[Z0h h]
 refine A5r hB (A0G gl) (λk=>if k=4 then 1 else if k=9\/k=10 then 2 else 0) (λ_=>M1.length) (λ_=>false) [M1.length] (by intros;simp) (by rfl) (by kernel_rfl) ?_;simp -dsimp -implicitDefEqProofs;refine A1M func384 (λM=>C5r gl M) ?_;simp -dsimp -implicitDefEqProofs[j,A0b hp,A6w];refine A1M func402 a ?_;simp -dsimp -implicitDefEqProofs[A0m,A0n,A0e,B4P,l];rw[show M2++[A0l.cells 335 [I u.id.act,I u.id.item,I u.id.n,I u.kids.length]]=M3 by rw[d];rfl];have q:b<M2.length:=(Z0b.1 (g.get h1 (by simp))).1;have o:∀X,(M3.set b X)[M2.length]?=M3[M2.length]?:=λX=>Z0f (by omega);refine A5r hB (A0G gl) (λk=>if k=1\/k=3 then 1 else if k=4 then 2 else 0) (λ_=>M2.length) (λ_=>false) [M2.length] (by intros;simp) (by rfl) (by kernel_rfl) ?_;simp -dsimp -implicitDefEqProofs[A0b hq,A6w,o,A0h h3,A0y m,A0k];exact⟨A1e ((p.trans g).trans i) (by omega),.same (by simp[bdd,A1Q]) .nil⟩
def C8b(u x:A0a)(M:Mem)(hf:Fit u):A0d (WC gl) 282 [.agg u.row,.agg (A0W.ins x).row] M (λv M'=>v=.tuple [.agg u.id.row,I u.kids.length,I 0]/\M'=M):=by
 refine A0d.dataX ?_;have hx:u.id.row=[I u.id.act,I u.id.item,I u.id.n]:=rfl;obtain⟨b,hb⟩:∃b,b=M.length:=⟨_,rfl⟩;obtain⟨M1,a⟩:∃M1,M1=M++[A0l.cells 23 [I 0,I 0,I 0]]:=⟨_,rfl⟩;have h1:M1[b]?=some (A0l.cells 23 [I 0,I 0,I 0]):=by rw[a,hb];simp
 have e:Grow M M1:=by rw[a];exact A0c.app none _ _
 have d:b<M1.length:=(Z0b.1 h1).1;have c:=C5H gl u M1 hf;rw[hx]at c|-;rw[u.row_eq]at c|-;refine A0j hB func282 ?_;simp -dsimp -implicitDefEqProofs[A0m,A0W.row];rw[<-a,<-hb];refine A0f func350 c ?_;simp -dsimp -implicitDefEqProofs[A0h h1,A0y d,A0k];exact⟨A1e e (by omega),.same (by simp[bdd,A1Q]) .nil⟩
end
section
variable (gl:Nat->AV)
def D5P(x:IdD)(n:Int)(M:Mem):A0d (WC gl) 69 [.agg x.row,.cptr [I n]] M (λv M'=>v=B (decide (x.act=n))/\M'=M):=by refine A0j hB func69 ?_;simp -dsimp -implicitDefEqProofs[IdD.row];rfl
def D6Q(s:List IdD)(o:Own)(n:Int)(M:Mem)(hl:s.length<=1000):A0d (WC gl) 123 [.list 3 (A4y s) o,.func (.func 69) [] [.cptr [I n]]] M (λv M'=>v=I (A3R (λx:IdD=>decide (x.act=n)) s 0)/\M'=M):=by
 refine A0j hB func123 ?_;simp -dsimp -implicitDefEqProofs;refine A0v hB s.length 8 (λT M1=>∃i:Nat,M1=M/\i<=s.length/\T 0=.list 3 (A4y s) o/\T 1=.func (.func 69) [] [.cptr [I n]]/\T 7=I s.length/\T 8=I i/\A3R (λx:IdD=>decide (x.act=n)) s 0=A3R (λx:IdD=>decide (x.act=n)) (s.drop i) i) ?_ ?_
 .exact⟨0,rfl,by omega,by simp,by simp,by simp,by simp,by simp⟩
 rintro T M1 ⟨i,rfl,h1,t0,t1,t7,t8,h2⟩;by_cases hi:i<s.length
 .have a:(i:Int)<s.length:=by omega
  have w1:=A1y (i:=i) (by omega);have h3:=C2M hi h2;have hm:=D5P gl s[i] n M1;simp only[IdD.row]at hm;simp -dsimp -implicitDefEqProofs[t0,t1,t7,t8,hi,a,IdD.row];refine A0f func69 hm ?_;by_cases c:s[i].act=n
  .rw[Z0d (by simpa using c)]at h3;simp -dsimp -implicitDefEqProofs[c,h3]
  .rw[Z0e (by simpa using c)]at h3;simp -dsimp -implicitDefEqProofs[t0,t1,t7,t8,c,w1];exact⟨⟨i+1,by clear w1;omega,rfl,h3⟩,by clear w1;omega⟩
 .have a:¬(i:Int)<s.length:=by omega
  rw[Z0n (by omega)]at h2;simp -dsimp -implicitDefEqProofs[t7,t8,a,h2,A3R]
def C1D(s:List IdD)(o:Own)(n:Int)(M:Mem)(hl:s.length<=1000):A0d (WC gl) 68 [.list 3 (A4y s) o,.func (.func 69) [] [.cptr [I n]]] M (λv M'=>v=B (s.any λx=>decide (x.act=n))/\M'=M):=by refine A0j hB func68 ?_;have he:=A8z (λx:IdD=>decide (x.act=n)) s 0;simp -dsimp -implicitDefEqProofs;refine A0f func123 (D6Q gl s o n M hl) ?_;generalize A3R (λx:IdD=>decide (x.act=n)) s 0=k at*;simp -dsimp -implicitDefEqProofs[<-he]
end
abbrev D2k:A0l:=.cells 49 [I 0,eS,I 0,I 0,I 0,eS,A0i]
abbrev C4g(number day:Int)(iv:AV):A0l:=.cells 49 [I number,S A3t,I day,I 1,I day,eS,iv]
def A5y:A0D prog 49 []=some A5Z:=by simp[A0D,A1l,A5Z]
def C8J{d}:A0D prog 46 [(0,I 1),(1,I d)]=some (.agg [I 1,I d,eS]):=by simp[A0D,A1l,A1H,AV.cells,AV.storable]
def C8N{n d}:A0D prog 49 [(0,I n),(1,S ⟨#[99,111,100,105,102,105,99,97,116,105,111,110]⟩),(2,I d),(3,.agg [I 1,I d,eS])]=some (.agg [I n,S A3t,I d,I 1,I d,eS,A0i]):=by simp[A0D,A1l,A1H,AV.cells,AV.storable,A3t]
def C8H{p}:A0D prog 128 [(0,I 1),(1,A6X p)]=some (.agg (A0W.rep p).row):=by simp[A0D,A1l,A1H,AV.cells,AV.storable,A0W.row]
def C8E{x}:A0D prog 128 [(0,I 0),(3,I 1),(5,.agg x.row)]=some (.agg (A0W.ins x).row):=by rw[x.row_eq];simp[A0D,A1l,A1H,AV.cells,AV.storable,A0W.row]
def C4X{a b c}:A0D prog 23 [(0,I a),(1,I b),(2,I c)]=some (.agg [I a,I b,I c]):=by simp[A0D,A1l,A1H,AV.cells,AV.storable]
def D7E:A7I prog 23=some (.agg [I 0,I 0,I 0]):=by kernel_rfl
def D5U(n:Nat)(x:A0W):A1Q n x.row:=by
 cases x with
 |rep p=>have:=B3Q n p;simp[A0W.row,A1Q,bdd]at this|-;exact this
 |ins u=>have:=A2J n u;rw[u.row_eq]at this;simp[A0W.row,A1Q,bdd]at this|-;exact this
def D0d{x y}:A0D prog 79 [(0,.agg [I x.act,I x.item,I x.n]),(1,.agg [I y.act,I y.item,I y.n])]=some (.agg (A4W (x,y))):=by simp[A0D,A1l,A1H,AV.cells,AV.storable,A4W]
def A5b(number:Int)(s:List A1R)(u:A0a)(io:Own)(r p q:Nat)(T:Env):Prop:=T 2=.list 5 (A3P s) .no/\T 5=.cptr [I u.id.act,I u.id.item,I u.id.n,I u.kind,S u.label,.list 4 (A0g u.head) .no,.list 4 (A0g u.words) .no,.list 8 (A0r u.kids) .no]/\T 8=.cptr [I number]/\T 10=.ptr r 0/\T 13=.ptr p 0/\T 15=.list 3 (A4y (A0V u).tail) io/\T 16=.ptr q 0
def A6j(number day:Int)(q:Nat)(Mc M:Mem)(items:List A0W):Prop:=A1a q Mc M/\∃iv,M[q]?=some (C4g number day iv)/\Fm 25 A0W.row (q+1) M iv items
def A6j.app{number day}{q}{Mc M}{items}(h:A6j number day q Mc M items)(hq:q<Mc.length)(X:Mem):A6j number day q Mc (M++X) items:=by obtain⟨h1,iv,h2,h3⟩:=h;have hk:Grow M (M++X):=A0c.app none M X;exact⟨h1.trans (hk.low (n:=q) (by have:=h1.1;omega) (by simp)),iv,hk.get h2 (by simp),h3.keep hk⟩
def A6j.push{number day}{q}{Mc M M'}{iv v'}{items items'}(hk:A1a q Mc M)(ho:M[q]?=some (C4g number day iv))(hf:Fm 25 A0W.row (q+1) M iv items)
 (k1:A9V 25 A0W.row M' v' items')(k2:A0c (A7D iv) M M')(k3:A7D v'=A7D iv\/∀f,A7D v'=some f->M.length<=f):
 A0n (some 1) M' (.ptr q 6) v'=some (M'.set q (C4g number day v'))/\A6j number day q Mc (M'.set q (C4g number day v')) items':=by
 have hl:q+1<=M.length:=(Z0b.1 ho).1
 have a:=hf.cells k2 ho
 have b:=hf.push hl k1 k3
 have c:q<M'.length:=(Z0b.1 a).1
 refine⟨by rw[A0h a,k1.cells,Z0d ⟨k1.store,by simp,rfl⟩];rfl,(hk.trans ((hf.low hl k2).le (by omega))).setq (Z0o _),v',by simp[c],b.setq (by omega)⟩
def C4f{K V:Type}{d:K->AV}{a:V->AV}{α:Type}{sz n}{enc:α->List AV}{M M'}{v}{items}{b}{L}(h:A2a d a M b L)(hf:Fm sz enc n M v items)(hk:A0c (A7D v) M M'):A2a d a M' b L:=by
 refine h.keep hk λe=>?_;obtain⟨es,c,h1,_⟩:=h;rcases hf.fam with⟨rfl,_⟩|rfl|⟨f,rfl,hm⟩
 .simp at e
 .simp at e
 .simp only[C6F,Z0a]at e;subst e;rw[hm]at h1;simp at h1
section
variable (gl:Nat->AV)
def B3s(u:A0a)(M:Mem)(hg:u.good)(hc:A0o u<=1000):A0d (WC gl) 67 [.agg u.row] M (λv M'=>v=.list 3 (A4y (A0V u)) .no/\M'=M):=A0d.still (enc:=IdD.row) (λ_=>rfl) C8M (D5i gl u M hg hc)
set_option maxHeartbeats 1000000 in
def D5s(d4:gl 0=A2z)(d9:gl 1=A2S)(u:A0a)(l:List A0S)(s:List A1R)(g a7:Int)(M:Mem)(ag:Fit u)(hl:l.length<=1000)(cq:∀s∈l,s.good)(hs:s.length<=1000)(ht:∀m∈s,m.to.length<=40):A0d (WC gl) 20 [.agg u.row,.list 5 (A2C l) .no,.list 5 (A3P s) .no,I g,I a7] M (λv M'=>v=D8i u l s g a7/\M'=M):=by
 refine A0d.dataX ?_
 obtain⟨F,hF⟩:∃F,F=λx=>A1k x u:=⟨_,rfl⟩
 obtain⟨A,hA⟩:∃A,A=D8i u l s g a7:=⟨_,rfl⟩
 rw[<-hA]
 obtain⟨r,hr⟩:∃r,r=M.length:=⟨_,rfl⟩
 have e5:∀e,bdd r (A5A e):=λe=>by simp[A5A,A5Z,bdd,A1Q]
 obtain⟨Ma,bx⟩:∃Ma,Ma=M++[D2k]:=⟨_,rfl⟩
 have cm:Grow M Ma:=by rw[bx];exact A0c.app none _ _
 have bz:Ma[r]?=some D2k:=by rw[bx,hr];simp
 have ap:=D3E gl d4 d9 F u hF l Ma ag hl cq
 obtain⟨R,hR⟩:∃R,R=A8c F u l:=⟨_,rfl⟩
 rw[<-hR]at ap
 have bp:=u.row_eq
 rw[bp]at ap|-
 have ac:A=if R≠0 then A5A R else if B6Z g a7=true then A5A 1
  else if((A0V u).tail.any λx=>decide (x.act=g))=true then A5A 5
  else if C5S u (A2n F l s)≠0 then A5A (C5S u (A2n F l s))
  else .tuple [C0S g a7 (A1U u++A2u (A2n F l s)),.list 6 ((A7i g u (A2n F l s)).map A4W) .no,I 0]:=by rw[hA,hR,hF];rfl
 have ad:∀(M5:Mem) e,Grow Ma M5->A=A5A e->r<M5.length/\(Grow M (M5.set r D2k)/\Still (M5.set r D2k) r (bdd r) [A5A e] [A]):=λM5 e h he=>by have h1:=h.get bz (by simp);refine⟨(Z0b.1 h1).1,⟨by simpa using(cm.trans h).1,λj hj _=>by rw[Z0f (by omega)];exact(cm.trans h).2 j hj (by simp)⟩,?_⟩;rw[he];exact .same (e5 e) .nil
 have ah:∀M5:Mem,Grow Ma M5->A0n (some 7) M5 (.ptr r 0) A5Z=some (M5.set r D2k):=λM5 h=>by rw[A0h (h.get bz (by simp))];simp[A5Z,AV.storable,AV.cells,A0e]
 refine A0j hB func20 ?_
 simp -dsimp -implicitDefEqProofs[A0m]
 rw[<-bx,<-hr]
 clear bx
 refine A0s func47 ap ?_
 rintro _ M1 ⟨⟨pr,rfl,di,ec⟩,cc⟩
 obtain⟨M2,au⟩:∃M2,M2=M1++[A0l.cells 96 pr]:=⟨_,rfl⟩
 have ab:Grow Ma M2:=by rw[au];exact cc.trans (A0c.app none _ _)
 obtain⟨p,hp⟩:∃p,p=M1.length:=⟨_,rfl⟩
 have dk:M2[p]?=some (.cells 96 pr):=by rw[au,hp];simp
 obtain⟨y0,y1,y2,y3,rfl⟩:∃a b c d,pr=[a,b,c,d]:=by
  match pr,di with
  |[a,b,c,d],_=>exact⟨a,b,c,d,rfl⟩
 by_cases hR0:R=0
 case neg=>rw[Z0d hR0]at ac;simp -dsimp -implicitDefEqProofs[A0m,A0n,A0e,AV.storable,AV.cells];rw[<-au];obtain⟨q1,q2⟩:=ad M2 R ab ac;simp -dsimp -implicitDefEqProofs[hR0,A5y,ah M2 ab,A0y,q1];exact q2
 rw[Z0e (by simpa using hR0)]at ac
 subst hR0
 by_cases a1:g<1
 .have af:A=A5A 1:=by rw[ac,Z0d (by simp[B6Z,a1])]
  have bc:¬1<=g:=by omega
  obtain⟨q1,q2⟩:=ad M2 1 ab af;simp -dsimp -implicitDefEqProofs[A0m,A0n,A0e,AV.storable,AV.cells];rw[<-au];simp -dsimp -implicitDefEqProofs[a1,bc,A5y,ah M2 ab,A0y,q1];exact q2
 have bc:1<=g:=by omega
 by_cases a2:1048576<g
 .have af:A=A5A 1:=by rw[ac,Z0d (by simp[B6Z,a2])]
  have bd:g>1048576:=a2;obtain⟨q1,q2⟩:=ad M2 1 ab af;simp -dsimp -implicitDefEqProofs[A0m,A0n,A0e,AV.storable,AV.cells];rw[<-au];simp -dsimp -implicitDefEqProofs[a1,bc,a2,A5y,ah M2 ab,A0y,q1];exact q2
 have bd:¬g>1048576:=a2
 by_cases a3:a7<0
 .have af:A=A5A 1:=by rw[ac,Z0d (by simp[B6Z,a3])]
  have c5:¬0<=a7:=by omega
  obtain⟨q1,q2⟩:=ad M2 1 ab af;simp -dsimp -implicitDefEqProofs[A0m,A0n,A0e,AV.storable,AV.cells];rw[<-au];simp -dsimp -implicitDefEqProofs[a1,bc,a2,a3,A5y,ah M2 ab,A0y,q1];exact q2
 have c5:0<=a7:=by omega
 by_cases a4:1048576<a7
 .have af:A=A5A 1:=by rw[ac,Z0d (by simp[B6Z,a4])]
  have cw:a7>1048576:=a4;obtain⟨q1,q2⟩:=ad M2 1 ab af;simp -dsimp -implicitDefEqProofs[A0m,A0n,A0e,AV.storable,AV.cells];rw[<-au];simp -dsimp -implicitDefEqProofs[a1,bc,a2,a3,a4,A5y,ah M2 ab,A0y,q1];exact q2
 have cw:¬a7>1048576:=a4
 have c8:=B3s gl u M2 ag.1 ag.2.2
 have bl:(A0V u).tail.length<=1000:=by have:=A5o u;have:=ag.2.2;simp;omega
 rw[Z0e (by simp[B6Z];omega)]at ac
 have df:=C1D gl (A0V u).tail .no g M2 bl
 rw[bp]at c8
 simp -dsimp -implicitDefEqProofs[A0m,A0n,A0e,AV.storable,AV.cells]
 rw[<-au,<-hp]
 simp -dsimp -implicitDefEqProofs[a1,bc,a2,a3,a4]
 refine A0f func67 c8 ?_
 have e8:(1:Int)<=(A0V u).length:=by have:=A5o u;have:=A4P u;omega
 have ej:(A4y (A0V u)).tail=A4y (A0V u).tail:=by simp[A4y,List.map_tail]
 simp -dsimp -implicitDefEqProofs[e8]
 rw[ej]
 generalize A9X _ _ _ _ _=io
 refine A0f func68 (C1D gl (A0V u).tail io g M2 bl) ?_
 cases hany:(A0V u).tail.any λx=>decide (x.act=g)
 case true=>
  have af:A=A5A 5:=by rw[ac,Z0d hany]
  obtain⟨q1,q2⟩:=ad M2 5 ab af;simp -dsimp -implicitDefEqProofs[A5y,ah M2 ab,A0y,q1];exact q2
 rw[Z0e (by rw[hany];simp)]at ac
 obtain⟨q,hq⟩:∃q,q=M2.length:=⟨_,rfl⟩
 obtain⟨Mc,cg⟩:∃Mc,Mc=M2++[C4g g a7 A0i]:=⟨_,rfl⟩
 have ct:Mc[q]?=some (C4g g a7 A0i):=by rw[cg,hq];simp
 have d5:Grow M2 Mc:=by rw[cg];exact A0c.app none _ _
 have c3:q<Mc.length:=(Z0b.1 ct).1
 have c9:A6j g a7 q Mc Mc []:=⟨A1a.refl _ _,A0i,ct,.nil⟩
 have ex:=A1O u.kids
 have ew:=A6q u
 have du:=ag.2.2
 simp -dsimp -implicitDefEqProofs[C8J,C8N,A0m,A0n,A0e,AV.storable,AV.cells]
 rw[<-cg,<-hq]
 refine A9j (.exit 0) (λT M5=>A5b g s u io r p q T/\T 14=I 0/\A6j g a7 q Mc M5 (A1U u)) ?_ ?_
 .refine A0v hB u.kids.length 74 (λT M5=>∃i:Nat,i<=u.kids.length/\A5b g s u io r p q T/\T 14=I 0/\T 72=.list 8 (A0r u.kids) .no/\T 73=I u.kids.length/\T 74=I i/\A6j g a7 q Mc M5 ((A1U u).take i)) ?_ ?_
  .exact⟨0,by omega,by simp[A5b],by simp,by simp,by simp,by simp,by simpa using c9⟩
  rintro T M5 ⟨i,i1,⟨t2,t5,t8,y,a0,z,w⟩,a5,t72,be,bs,hm⟩;by_cases hi:i<u.kids.length;case neg=>
   (have aj:¬(i:Int)<u.kids.length:=by omega);rw[Z0k (by simp[A1U];omega)]at hm
   simp -dsimp -implicitDefEqProofs[t2,t5,t8,y,a0,z,w,a5,be,bs,aj,A5b];exact hm
  have aj:(i:Int)<u.kids.length:=by omega
  have w1:=A1y (i:=i) (by omega);obtain⟨X,hX⟩:∃X,X=u.kids[i]:=⟨_,rfl⟩;have dz:u.kids[i].row=[I X.id.act,I X.id.item,I X.id.n,I X.kind,S X.label,.list 4 (A0g X.head) .no,.list 4 (A0g X.words) .no,.list 8 (A0r X.kids) .no]:=by rw[<-hX];exact X.row_eq
  have bv:=λM=>D7e gl u X.id M ag.1 ag.2.2;rw[bp]at bv;obtain⟨M6,b4⟩:∃M6,M6=M5++[A0l.cells 27 [I X.id.act,I X.id.item,I X.id.n,I X.kind,S X.label,.list 4 (A0g X.head) .no,.list 4 (A0g X.words) .no,.list 8 (A0r X.kids) .no]]:=⟨_,rfl⟩;have e3:M6[M5.length]?=some (A0l.cells 27 [I X.id.act,I X.id.item,I X.id.n,I X.kind,S X.label,.list 4 (A0g X.head) .no,.list 4 (A0g X.words) .no,.list 8 (A0r X.kids) .no]):=by rw[b4];simp
  obtain⟨dc,iv,cn,cu⟩:=hm.app c3 [A0l.cells 27 [I X.id.act,I X.id.item,I X.id.n,I X.kind,S X.label,.list 4 (A0g X.head) .no,.list 4 (A0g X.words) .no,.list 8 (A0r X.kids) .no]];rw[<-b4]at dc cn cu;have ax:(A1U u).take (i+1)=(A1U u).take i++[.rep ((B3X u X.id).getD [])]:=by rw[Z0E (by simpa[A1U]using hi)];simp[A1U,hX]
  simp -dsimp -implicitDefEqProofs[t5,t72,be,bs,hi,aj,dz,A0m,A0n,A0e,AV.storable,AV.cells];rw[<-b4];simp -dsimp -implicitDefEqProofs[A0b e3];refine A0f func70 (bv M6) ?_;simp -dsimp -implicitDefEqProofs[w,A0b cn,C8H,A0p,A0Z,AV.storable,AV.cells];refine B8U (C:=WC gl) (enc:=A0W.row) (e:=128) (sz:=25) (news:=[.rep ((B3X u X.id).getD [])]) (o:=.full) D4F D8O D4C cu.fam (by simp[A1U];omega) rfl rfl ?_;intro v' M7 k1 k2 k3;obtain⟨bj,ci⟩:=A6j.push dc cn cu k1 k2 k3;simp -dsimp -implicitDefEqProofs[t2,t5,t8,y,a0,z,w,a5,t72,be,bs,bj,w1,A5b];refine⟨⟨i+1,by clear w1;omega,rfl,?_⟩,by clear w1;omega⟩;rw[ax];exact ci
 clear c9 ct df
 rintro T M5 ⟨⟨t2,t5,t8,y,a0,z,w⟩,a5,cj⟩
 obtain⟨L,a,b,c,he,ed,hP⟩:=ec rfl
 simp only[Z1e,Z1N]at he
 obtain⟨rfl,rfl,rfl,rfl⟩:=he
 have hS:A7z u l:=C5h ag (hF▸hR.symm)
 obtain⟨ts,bo⟩:∃ts,ts=A2n F l s:=⟨_,rfl⟩
 obtain⟨K,hK⟩:∃K,K=A3m l:=⟨_,rfl⟩
 have cb:ts=K.map (A2N F l s l.length):=by rw[bo,hK];rfl
 rw[<-bo]at ac
 have c1:∀M6,A1a q Mc M6->Grow M1 M6:=λM6 h=>by
  have h1:Grow M1 M2:=by rw[au];exact A0c.app none _ _
  exact h.grow (h1.trans d5) (by have:=h1.1;omega)
 have dn:∀M6,A1a q Mc M6->M6[p]?=some (.cells 96 [.list 5 (A2C l) .no,.mapr a,.mapr b,.mapr c]):=λM6 h=>by have di:p<M2.length:=(Z0b.1 dk).1;rw[h.2 p (by omega)];exact d5.get dk (by simp)
 obtain⟨KL,d2,d7⟩:=hP.kd
 have b9:=d7 (-1)
 rw[show A4m l (-1) l.length=K from hK.symm]at b9
 have db:∀M6,A1a q Mc M6->A1J prog 94 M6 (.mapr c) (I (-1)) false=some (A8J KL (-1)):=λM6 h=>by rw[(d2.keep (c1 M6 h) (by simp)).get (C0c 94 130 (by kernel_rfl)) (-1:Int) B4V false];unfold A8J;cases A1L KL (-1:Int)<;>rfl
 obtain⟨b1,dl⟩:∃b1,b1=A8J KL (-1):=⟨_,rfl⟩
 rw[<-dl]at db b9
 have et:K.length<=l.length:=by rw[hK];exact B1e _ _ _
 have cz:∀M6,A1a q Mc M6->A1Z prog 130 b1=some K.length:=λM6 h=>b9.len (e':=3) (by simp)
 obtain⟨m,dp⟩:∃m,m=M5.length:=⟨_,rfl⟩
 obtain⟨M6,b4⟩:∃M6,M6=M5++[A0l.map [] 0]:=⟨_,rfl⟩
 have az:=cj.app c3 [.map [] 0]
 have ay:A2a A2M A2M M6 m ([]:List (IdD×IdD)):=by rw[dp,b4];exact A2a.new M5
 have er:q<m:=by have:=cj.1.1;omega
 rw[<-b4]at az
 have dr:=B2n (s:=s) hS
 rw[<-hF,<-bo]at dr
 have e7:∀n (h:n<l.length),∃x,F l[n].id=some x/\x.good/\x.words.length<=300/\x.head.length<=300:=by rw[hF];exact hS.fd
 have ds:=C5c (s:=s) hS hl
 rw[<-hF,<-bo]at ds
 have eo:ts.length=K.length:=by rw[cb,Z0V]
 have ch:∀n,(A5N g ((ts.take n).map (·.2.1)) u.kids.length).map (·.1)=(ts.take n).flatMap (·.2.1):=λn=>by rw[B3a,Z3w];rfl
 simp -dsimp -implicitDefEqProofs[a0]
 rw[<-b4,<-dp]
 simp -dsimp -implicitDefEqProofs[A0b (dn M6 az.1),db M6 az.1,cz M6 az.1]
 refine A9j (.exit 2) (λT M7=>A5b g s u io r p q T/\T 14=I (A7J ts 0)/\T 21=.mapr m/\A6j g a7 q Mc M7 (A1U u++A2u ts)/\A2a A2M A2M M7 m (A8q g u ts)) ?_ ?_
 .refine A0v hB K.length 98 (λT M7=>∃j:Nat,j<=K.length/\A5b g s u io r p q T/\T 14=I (A7J (ts.take j) 0)/\T 21=.mapr m/\T 96=b1/\T 97=I K.length/\T 98=I j/\A6j g a7 q Mc M7 (A1U u++A2u (ts.take j))/\A2a A2M A2M M7 m (A5N g ((ts.take j).map (·.2.1)) u.kids.length)) ?_ ?_
  .exact⟨0,by omega,by simp[A5b,t2,t5,t8,y,a0,z,w],by simp[a5,A7J],by simp,by simp,by simp,by simp,by simpa[A2u]using az,by simpa[A5N]using ay⟩
  clear t2 t5 t8 y a0 z w a5 az ay;rintro T M7 ⟨j,j1,⟨t2,t5,t8,y,a0,z,w⟩,a5,a6,a9,aa,a8,hm,an⟩;have dq:=a8;by_cases hj:j<K.length;case neg=>
   (have cx:¬(j:Int)<K.length:=by omega);rw[Z0k (by omega)]at hm an a5
   simp -dsimp -implicitDefEqProofs[t2,t5,t8,y,a0,z,w,a5,a6,aa,a8,cx,A5b];exact⟨hm,an⟩
  have cx:(j:Int)<K.length:=by omega
  have w1:=A1y (i:=j) (by omega);have en:=b9.keep (c1 M7 hm.1) (by simp);obtain⟨pt,eg,ee⟩:=en.at1 (P:=prog) (t:=3) (f:=λk:Nat=>I k) (λ_=>rfl) E4g sz3 hj;have dg:K[j]∈A4m l (-1) l.length:=by have dy:K=A4m l (-1) l.length:=hK;rw[<-dy];exact Z0u hj
  have cd:K[j]<l.length:=A9c dg;obtain⟨t,c6⟩:∃t,t=A2N F l s l.length K[j]:=⟨_,rfl⟩;have dj:ts[j]'(by omega)=t:=by rw[c6];simp[cb]
  have aq:=D8A gl F s l L ed a b c hl cq hs ht hS.ord e7 l.length K[j] M7 cd (by omega) (hP.keep (c1 M7 hm.1));rw[<-c6]at aq;have cr:Fit t.1:=by rw[c6,hF];exact B4Z hS hl cq ht cd (by omega)
  have el:A2P t.1:=by rw[c6];exact B3e F l s _ _
  have cs:t∈ts:=by rw[<-dj];exact Z0u _
  have ep:=ds t cs;have ax:ts.take (j+1)=ts.take j++[t]:=by rw[Z0E (by omega),dj]
  obtain⟨M8,bk⟩:∃M8,M8=M7++[A0l.cells 27 t.1.row]:=⟨_,rfl⟩;have bq:M8[M7.length]?=some (A0l.cells 27 t.1.row):=by rw[bk];simp
  have c7:=hm.app c3 [A0l.cells 27 t.1.row];have bb:=an.keep (A0c.app none M7 [A0l.cells 27 t.1.row]) (by simp);rw[<-bk]at c7 bb;obtain⟨xt,dm⟩:∃xt,xt=M7.length:=⟨_,rfl⟩;rw[<-dm]at bq;have ey:q<xt:=by have:=hm.1.1;omega
  have eu:m≠xt:=by have:=an.lt;omega
  simp -dsimp -implicitDefEqProofs[t2,a0,a9,aa,a8,cx,eg,ee,A0b (dn M7 hm.1)];refine A0f func71 aq ?_;simp -dsimp -implicitDefEqProofs[D0H,A0m,A0n,A0e,AV.storable,AV.cells];rw[<-bk,<-dm];simp -dsimp -implicitDefEqProofs[A0b bq];refine A0s func72 (C1q gl d4 d9 t.1 M8 cr el) ?_;rintro _ M8 ⟨⟨tx,rfl⟩,rfl⟩;simp -dsimp -implicitDefEqProofs[-B3S];refine C2W (λT M9=>M9=M8/\A5b g s u io r p q T/\T 14=I (A7J (ts.take j) 0)/\T 21=.mapr m/\T 24=.ptr xt 0/\T 25=.list 3 (A4y t.2.1) .no/\T 26=I (C7K t)/\T 96=b1/\T 97=I K.length/\T 98=I j) ?_ ?_
  .by_cases hfe:A7C t.1=0
   .simp -dsimp -implicitDefEqProofs[t2,t5,t8,y,a0,z,w,a5,a6,a9,aa,a8,hfe,C7K,A5b]
   .simp -dsimp -implicitDefEqProofs[t2,t5,t8,y,a0,z,w,a5,a6,a9,aa,a8,hfe,C7K,A5b]
  clear t2 t5 t8 y a0 z w a5 a6 a9 aa a8;rintro T _ ⟨rfl,⟨t2,t5,t8,y,a0,z,w⟩,a5,a6,ai,bw,c0,a9,aa,a8⟩;simp -dsimp -implicitDefEqProofs[a5,c0];refine A0f func73 (C7f gl _ _ _) ?_;have d1:A9z (A7J (ts.take j) 0) (C7K t)=A7J (ts.take (j+1)) 0:=by rw[ax,A7J,A7J,Z2X];rfl
  rw[d1];simp -dsimp -implicitDefEqProofs[bw];refine A9j (.exit 4) (λT M9=>A5b g s u io r p q T/\T 14=I (A7J (ts.take (j+1)) 0)/\T 21=.mapr m/\T 24=.ptr xt 0/\T 96=b1/\T 97=I K.length/\T 98=I j/\M9[xt]?=some (A0l.cells 27 t.1.row)/\A6j g a7 q Mc M9 (A1U u++A2u (ts.take j))/\A2a A2M A2M M9 m (A5N g ((ts.take (j+1)).map (·.2.1)) u.kids.length)) ?_ ?_
  .refine A0v hB t.2.1.length 122 (λT M9=>∃i:Nat,i<=t.2.1.length/\A5b g s u io r p q T/\T 14=I (A7J (ts.take (j+1)) 0)/\T 21=.mapr m/\T 24=.ptr xt 0/\T 96=b1/\T 97=I K.length/\T 98=I j/\T 120=.list 3 (A4y t.2.1) .no/\T 121=I t.2.1.length/\T 122=I i/\M9[xt]?=some (A0l.cells 27 t.1.row)/\A6j g a7 q Mc M9 (A1U u++A2u (ts.take j))/\A2a A2M A2M M9 m (A5N g ((ts.take j).map (·.2.1)) u.kids.length++(t.2.1.zipIdx.take i).map λx=>(x.1,(⟨g,(u.kids.length+j:Nat),(x.2:Int)+1⟩:IdD)))) ?_ ?_
   .exact⟨0,by omega,by simp[A5b,t2,t5,t8,y,a0,z,w],by simp,by simp[a6],by simp[ai],by simp[a9],by simp[aa],by simp[a8],by simp,by simp,by simp,bq,c7,by simpa using bb⟩
   clear t2 t5 t8 y a0 z w a5 a6 ai bw c0 a9 aa a8 hm an c7 bb bq bk aq;rintro T M9 ⟨i,i1,⟨t2,t5,t8,y,a0,z,w⟩,a5,a6,ai,a9,aa,a8,bu,bg,bi,av,d3,ak⟩;(have eb:A5N g ((ts.take (j+1)).map (·.2.1)) u.kids.length=A5N g ((ts.take j).map (·.2.1)) u.kids.length++t.2.1.zipIdx.map λx=>(x.1,(⟨g,(u.kids.length+j:Nat),(x.2:Int)+1⟩:IdD)):=by rw[ax,Z0Q,C0Y];simp[A5N,Z1E (show j<=ts.length by omega)]);by_cases hi:i<t.2.1.length;case neg=>
    (have aj:¬(i:Int)<t.2.1.length:=by omega);have cy:t.2.1.zipIdx.take i=t.2.1.zipIdx:=Z0k (by simp;omega)
    rw[cy,<-eb]at ak;simp -dsimp -implicitDefEqProofs[t2,t5,t8,y,a0,z,w,a5,a6,ai,a9,aa,a8,bg,bi,aj,A5b];refine⟨av,d3,?_⟩;rw[<-Z1v];exact ak
   (have aj:(i:Int)<t.2.1.length:=by omega);have w2:=A1y (i:=i) (by omega)
   obtain⟨x,hx⟩:∃x,x=t.2.1[i]:=⟨_,rfl⟩;(have cv:t.2.1[i].row=[I x.act,I x.item,I x.n]:=by rw[<-hx];rfl);obtain⟨am,b7⟩:∃am,am=M9++[A0l.cells 23 [I x.act,I x.item,I x.n]]:=⟨_,rfl⟩;(have ca:Grow M9 am:=by rw[b7];exact A0c.app none _ _);(have bn:am[M9.length]?=some (A0l.cells 23 [I x.act,I x.item,I x.n]):=by rw[b7];simp);obtain⟨b3,iv,b2,ae⟩:=d3.app c3 [A0l.cells 23 [I x.act,I x.item,I x.n]];have al:=ak.keep ca (by simp);rw[<-b7]at b3 b2 ae;have cf:=ca.get av (by simp);(have bh:A1Z prog 47 iv=some (u.kids.length+j):=by rw[ae.fam.len (e':=128) (by simp)];simp[A1U,A2u,Z1E (show j<=ts.length by omega)]);obtain⟨kj,e0⟩:∃kj,kj=u.kids.length+j:=⟨_,rfl⟩;rw[<-e0]at bh al;have eh:x∉(A5N g ((ts.take j).map (·.2.1)) u.kids.length++(t.2.1.zipIdx.take i).map λx=>(x.1,(⟨g,(kj:Nat),(x.2:Int)+1⟩:IdD))).map (·.1):=by
    (have h1:(ts.take (j+1)).flatMap (·.2.1)=(ts.take j).flatMap (·.2.1)++t.2.1:=by rw[ax,Z1z];simp);have h2:((ts.take (j+1)).flatMap (·.2.1)).Nodup:=by have h:=dr.1;rw[<-Z0U (j+1) ts,Z1z]at h;exact(Z2a.1 h).1
    rw[h1]at h2;(have h3:(t.2.1.zipIdx.take i).map (λx=>x.1)=t.2.1.take i:=by rw[Z1v];congr 1;exact C3r _ 0);rw[Z0Q,ch,Z1O];rw[show((λx:IdD×IdD=>x.1)∘λx:IdD×Nat=>(x.1,(⟨g,(kj:Nat),(x.2:Int)+1⟩:IdD)))=λx=>x.1 from rfl,h3];intro ek;(have h4:(ts.take j).flatMap (·.2.1)++t.2.1=((ts.take j).flatMap (·.2.1)++t.2.1.take i)++x::t.2.1.drop (i+1):=by rw[hx,Z0X,<-Z0j hi,Z0U]);rw[h4]at h2;exact(Z2a.1 h2).2.2 x ek x (by simp) rfl
   obtain⟨de,q1,q2,q3⟩:=al.put (A8Z 129 23 (by kernel_rfl)) x (⟨g,(kj:Nat),(i:Int)+1⟩:IdD);rw[B8w eh]at q2;have e9:A1u prog 129 am (.mapr m) (.agg [I x.act,I x.item,I x.n]) (.agg [I g,I kj,I ((i:Int)+1)])=some de:=q1;(have cy:t.2.1.zipIdx.take (i+1)=t.2.1.zipIdx.take i++[(x,i)]:=by rw[Z0E (by simpa using hi),hx];simp);have eq:q<am.length:=(Z0b.1 b2).1;have dh:A6j g a7 q Mc de (A1U u++A2u (ts.take j)):=⟨b3.trans (q3.low (n:=q) (by omega) (λf hf=>by simp at hf;omega)),iv,q3.get b2 (by simp;omega),ae.fam.keep q3 (λf hf e=>by simp at e;have:=ae.fam;obtain⟨es,cl,h1,_⟩:=al;rcases ae.fam with⟨rfl,_⟩|rfl|⟨f',rfl,hm⟩<;>simp at hf;subst hf;rw[e,hm]at h1;simp at h1),ae.lat⟩;simp -dsimp -implicitDefEqProofs[a6,bu,bg,bi,hi,aj,cv,A0m,A0n,A0e,AV.storable,AV.cells];rw[<-b7];simp -dsimp -implicitDefEqProofs[t2,t5,t8,y,a0,z,w,a5,a6,ai,a9,aa,a8,bu,bg,bi,A0b bn,A0b b2,bh,w2,C4X,e9,A5b];(have ea:((kj:Nat):Int)=(u.kids.length:Int)+(j:Int):=by omega);rw[ea]at q2;refine⟨⟨i+1,by clear w2;omega,by simp,q3.get cf (by simp;omega),dh,?_⟩,by clear w2;omega⟩;rw[<-Z1v,<-Z1v,cy,Z0Q,<-Z0X];exact q2
  clear t2 t5 t8 y a0 z w a5 a6 ai bw c0 a9 aa a8 hm an c7 bb bq bk aq;rintro T M9 ⟨⟨t2,t5,t8,y,a0,z,w⟩,a5,a6,ai,a9,aa,a8,av,⟨b3,iv,b2,ae⟩,ak⟩;simp -dsimp -implicitDefEqProofs[w,ai,A0b b2,A0b av,C8E,A0p,A0Z,AV.storable,AV.cells];refine B8U (C:=WC gl) (enc:=A0W.row) (e:=128) (sz:=25) (news:=[.ins t.1]) (o:=.full) D4F D8O D4C ae.fam (by simp[A1U,A2u];omega) rfl rfl ?_;intro v' am k1 k2 k3;obtain⟨bj,bt⟩:=A6j.push b3 b2 ae k1 k2 k3;have al:=(C4f ak ae k2).keep (A0c.set am q (C4g g a7 v')) (by simp;omega);simp -dsimp -implicitDefEqProofs[t2,t5,t8,y,a0,z,w,a5,a6,a9,aa,a8,dq,bj,w1,A5b];refine⟨⟨j+1,Nat.succ_le_of_lt hj,rfl,by simp,?_,?_⟩,Nat.sub_lt_sub_left hj (Nat.lt_succ_self j)⟩
  .rw[ax];simpa[A2u]using bt
  .rw[<-Z1v];exact al
 clear t2 t5 t8 y a0 z w a5 az ay cj
 rintro T M7 ⟨⟨t2,t5,t8,y,a0,z,w⟩,a5,a6,⟨dx,iv,c4,cp⟩,an⟩
 have b0:Grow Ma M7:=cc.trans (c1 M7 dx)
 have ar:A1Z prog 47 iv=some (u.kids.length+ts.length):=by rw[cp.fam.len (e':=128) (by simp)];simp[A1U,A2u]
 obtain⟨kt,da⟩:∃kt,kt=u.kids.length+ts.length:=⟨_,rfl⟩
 rw[<-da]at ar
 have aw:C5S u ts=if 32<kt then 6 else A7J ts 0:=by rw[C5S,da]
 by_cases h32:32<kt
 .have ao:(32:Int)<kt:=by omega
  have b5:(kt:Int)>32:=ao;rw[Z0d h32]at aw;have af:A=A5A 6:=by rw[ac,aw];rfl
  obtain⟨q1,q2⟩:=ad M7 6 b0 af;simp -dsimp -implicitDefEqProofs[y,w,A0b c4,ar,ao,A5y,ah M7 b0,A0y,q1];exact q2
 have ao:¬(32:Int)<kt:=by omega
 have b5:¬(kt:Int)>32:=ao
 rw[Z0e h32]at aw
 by_cases he0:A7J ts 0=0
 case neg=>
  have af:A=A5A (A7J ts 0):=by rw[ac,aw,Z0d he0]
  obtain⟨q1,q2⟩:=ad M7 _ b0 af;simp -dsimp -implicitDefEqProofs[y,w,a5,A0b c4,ar,ao,he0,A5y,ah M7 b0,A0y,q1];exact q2
 rw[Z0e (by rw[aw,he0];simp)]at ac
 have br:=C0g (s:=s) hS g
 rw[<-hF,<-bo]at br
 rw[br]at ac
 simp -dsimp -implicitDefEqProofs[z,w,a5,A0b c4,ar,ao,he0]
 obtain⟨W,hW⟩:∃W,W=A8q g u ts:=⟨_,rfl⟩
 rw[<-hW]at an ac
 obtain⟨I1,c2⟩:∃I1,I1=(A0V u).tail:=⟨_,rfl⟩
 rw[<-c2]at ac bl
 rw[<-c2]at z
 obtain⟨n7,em⟩:∃n7,n7=M7.length:=⟨_,rfl⟩
 have ci:m<n7:=by rw[em];exact an.lt
 have ei:q<n7:=by omega
 have e6:r<n7:=by have:=(Z0b.1 (b0.get bz (by simp))).1;omega
 refine A0v hB I1.length 155 (λT M8=>∃i:Nat,i<=I1.length/\T 10=.ptr r 0/\T 16=.ptr q 0/\T 21=.mapr m/\T 153=.list 3 (A4y I1) io/\T 154=I I1.length/\T 155=I i/\A1a n7 M7 M8/\Fm 6 A4W n7 M8 (T 31) ((I1.take i).map λx=>(x,(A1L W x).getD idZ))) ?_ ?_
 .refine⟨0,by omega,by simp[y],by simp[w],by simp[a6],by simp[c2],by simp[c2],by simp,A1a.refl _ _,?_⟩;simp -dsimp -implicitDefEqProofs;exact .nil
 clear t2 t5 t8 y a0 z w a5 a6
 rintro T M8 ⟨i,i1,y,w,a6,b8,b6,ba,bm,ck⟩
 generalize ce:T 31=dv at*
 by_cases hi:i<I1.length
 case neg=>
  have aj:¬(i:Int)<I1.length:=by omega
  rw[Z0k (by omega)]at ck;have dw:M8[q]?=some (C4g g a7 iv):=(bm.2 q ei).trans c4;have d8:M8[r]?=some D2k:=(bm.2 r e6).trans (b0.get bz (by simp));have dt:Grow M M8:=bm.grow (cm.trans b0) (by omega);have e4:r<M8.length:=(Z0b.1 d8).1;have bj:A0n (some 7) M8 (.ptr r 0) (.agg [I g,S A3t,I a7,I 1,I a7,eS,iv])=some (M8.set r (C4g g a7 iv)):=by rw[A0h d8];simp[AV.storable,AV.cells,A0e]
  simp -dsimp -implicitDefEqProofs[y,w,b6,ba,aj,ce,A0b dw,bj,A0y,e4];rw[ac];refine⟨⟨by simpa using dt.1,λj hj _=>by rw[Z0f (by omega)];exact dt.2 j hj (by simp)⟩,?_⟩;exact .tuple (.agg (.same trivial (.same trivial (.same trivial (.same trivial (.same trivial (.same trivial (cp.data (A7U (D5U _) _) .nil))))))) (ck.data (A7U (λx=>by simp[A4W,A1Q,bdd]) _) (.same trivial .nil))) .nil
 have aj:(i:Int)<I1.length:=by omega
 have w1:=A1y (i:=i) (by omega)
 obtain⟨x,hx⟩:∃x,x=I1[i]:=⟨_,rfl⟩
 have cv:I1[i].row=[I x.act,I x.item,I x.n]:=by rw[<-hx];rfl
 obtain⟨xa,dd⟩:∃xa,xa=M8.length:=⟨_,rfl⟩
 obtain⟨M9,co⟩:∃M9,M9=M8++[A0l.cells 23 [I x.act,I x.item,I x.n]]:=⟨_,rfl⟩
 have b3:Grow M8 M9:=by rw[co];exact A0c.app none _ _
 have av:M9[xa]?=some (A0l.cells 23 [I x.act,I x.item,I x.n]):=by rw[co,dd];simp
 have ae:=ck.keep b3
 have bf:=bm.trans (b3.low (n:=n7) (by have:=bm.1;omega) (by simp))
 have ak:A2a A2M A2M M9 m W:=by obtain⟨es,cl,e1,e2⟩:=an;exact⟨es,cl,(bf.2 m ci).trans e1,e2⟩
 have d6:A1J prog 129 M9 (.mapr m) (.agg [I x.act,I x.item,I x.n]) false=some (.agg [I ((A1L W x).getD idZ).act,I ((A1L W x).getD idZ).item,I ((A1L W x).getD idZ).n]):=by rw[show AV.agg [I x.act,I x.item,I x.n]=A2M x from rfl,ak.get (A8Z 129 23 (by kernel_rfl)) x D7E false];cases A1L W x<;>rfl
 have d0:n7<=M9.length:=by have:=bf.1;omega
 have ax:(I1.take (i+1)).map (λx=>(x,(A1L W x).getD idZ))=(I1.take i).map (λx=>(x,(A1L W x).getD idZ))++[(x,(A1L W x).getD idZ)]:=by rw[Z0E hi,Z0Q,hx];rfl
 simp -dsimp -implicitDefEqProofs[b8,b6,ba,hi,aj,cv,A0m,A0n,A0e,AV.storable,AV.cells]
 rw[<-co,<-dd]
 refine A5r hB (A0G gl) (λk=>if k=1\/k=3\/k=4 then 1 else if k=7 then 2 else 0) (λk=>if k=4 then m else xa) (λ_=>false) [xa,m] (by intro j _ _;by_cases h:j=4<;>simp[h]) (by rfl) (by kernel_rfl) ?_
 simp -dsimp -implicitDefEqProofs[a6,ce,A0M,A6w,A0b av,d6,D0d,A0p,A0Z,AV.storable,AV.cells]
 refine⟨rfl,B8U (C:=WC gl) (enc:=A4W) (e:=79) (sz:=6) (news:=[(x,(A1L W x).getD idZ)]) (o:=.full) D9X E4K E3h ae.fam (by simp;omega) rfl rfl ?_⟩
 intro v' am k1 k2 k3
 have bn:=ae.cells k2 av
 have bt:am[m]?=M9[m]?:=by refine k2.2 m (by omega) λe=>?_;have:=ae.lat m e;omega
 simp -dsimp -implicitDefEqProofs[y,w,a6,b8,b6,ba,av,bn,bt,w1]
 refine⟨⟨i+1,by clear w1;omega,by simp,bf.trans ((ae.low d0 k2).le (Z0o _)),?_⟩,by clear w1;omega⟩
 rw[<-Z1v,ax]
 exact ae.push d0 k1 k3
end
section
variable (gl:Nat->AV)
set_option maxHeartbeats 1000000 in
def C4s(ay:gl 0=A2z)(u t:A0a)(g:Int)(i:Nat)(b3:Int)(M:Mem)(hf:Fit u)(b8:Fit t)(hw:wcU t<=1000000000)(hx:Fit (A2g g i t 0 0))(be:u.kids.length<64)(bd:A1w t<8)
 (b9:A0o u+A0o t<=1024)(aq:B5C u (A2g g i t 0 0)=0)(a7:((A0V (A2g g i t 0 0)).any λy=>(A0V u).any λz=>decide (z=y))=false):
 A0d (WC gl) 232 [.agg u.row,.agg u.row,.agg (enR g i b3 (.ins t))] M (λv M'=>v=.tuple [.agg (A8f u (u.kids++[A2g g i t 0 0])).row,I 0]/\M'=M):=by
 refine A0d.dataX ?_
 obtain⟨x,aj⟩:∃x,x=A2g g i t 0 0:=⟨_,rfl⟩
 have bf:A0o x=A0o t:=by rw[aj,A8N]
 have ar:A1w x=A1w t:=by rw[aj,B6v]
 have a2:=λM=>D5I gl t g i M b8 hw
 rw[<-aj]at hx aq a7 a2|-
 have b7:u.id.row=[I u.id.act,I u.id.item,I u.id.n]:=rfl
 have b0:A1k u.id u=some u:=by obtain⟨a,b,c,d,e,f⟩:=u;rw[A1k];exact Z0d rfl
 have ac:∀l:List IdD,l=A0V u->((A0V x).any λy=>l.any λz=>decide (z=y))=false:=λl h=>by rw[h];exact a7
 obtain⟨b,hb⟩:∃b,b=M.length:=⟨_,rfl⟩
 obtain⟨M1,ah⟩:∃M1,M1=M++[z8]:=⟨_,rfl⟩
 have h1:M1[b]?=some z8:=by rw[ah,hb];simp
 have b5:Grow M M1:=by rw[ah];exact A0c.app none _ _
 have af:=C8b gl u t M1 hf
 obtain⟨M2,a4⟩:∃M2,M2=M1++[A0l.cells 23 [I u.id.act,I u.id.item,I u.id.n],A0l.cells 3 [I u.kids.length]]:=⟨_,rfl⟩
 obtain⟨p,hp⟩:∃p,p=M1.length:=⟨_,rfl⟩
 have ai:M2[p]?=some (A0l.cells 23 [I u.id.act,I u.id.item,I u.id.n]):=by rw[a4,hp];simp
 have au:M2[p+1]?=some (A0l.cells 3 [I u.kids.length]):=by rw[a4,hp];simp[]
 have b6:Grow M1 M2:=by rw[a4];exact A0c.app none _ _
 have w:=B7t gl u u.id M2 hf
 rw[b0]at w
 obtain⟨q,hq⟩:∃q,q=M2.length:=⟨_,rfl⟩
 obtain⟨M3,ak⟩:∃M3,M3=M2++[A0l.cells 27 [I u.id.act,I u.id.item,I u.id.n,I u.kind,S u.label,.list 4 (A0g u.head) .no,.list 4 (A0g u.words) .no,.list 8 (A0r u.kids) .no]]:=⟨_,rfl⟩
 have b1:M3[q]?=some (A0l.cells 27 [I u.id.act,I u.id.item,I u.id.n,I u.kind,S u.label,.list 4 (A0g u.head) .no,.list 4 (A0g u.words) .no,.list 8 (A0r u.kids) .no]):=by rw[ak,hq];simp
 have a3:Grow M2 M3:=by rw[ak];exact A0c.app none _ _
 obtain⟨r,hr⟩:∃r,r=M3.length:=⟨_,rfl⟩
 obtain⟨M4,ad⟩:∃M4,M4=M3++[A0l.cells 27 [I x.id.act,I x.id.item,I x.id.n,I x.kind,S x.label,.list 4 (A0g x.head) .no,.list 4 (A0g x.words) .no,.list 8 (A0r x.kids) .no]]:=⟨_,rfl⟩
 have a1:M4[r]?=some (A0l.cells 27 [I x.id.act,I x.id.item,I x.id.n,I x.kind,S x.label,.list 4 (A0g x.head) .no,.list 4 (A0g x.words) .no,.list 8 (A0r x.kids) .no]):=by rw[ad,hr];simp
 have a0:Grow M3 M4:=by rw[ad];exact A0c.app none _ _
 have bb:=A1O u.kids
 have ba:A0u u.kids<A0o u:=by obtain⟨a,b,c,d,e,f⟩:=u;rw[A0o];show A0u f<_;omega
 have bc:=hf.2.2
 have m:=λM=>D4x gl ay u x M (by omega)
 rw[aq]at m
 have j:=λM=>D7g gl u x M hf hx
 rw[ar,Z0w (by omega)]at j
 have a6:=λM=>B4K gl u M hf.1 hf.2.2
 have a8:=λM=>B4K gl x M hx.1 hx.2.2
 obtain⟨s,hs⟩:∃s,s=M4.length:=⟨_,rfl⟩
 obtain⟨iu,ag⟩:∃iu,iu=A0V u:=⟨_,rfl⟩
 obtain⟨M5,al⟩:∃M5,M5=M4++[A0l.cells 85 [.list 3 (A4y iu) .no]]:=⟨_,rfl⟩
 have av:M5[s]?=some (A0l.cells 85 [.list 3 (A4y iu) .no]):=by rw[al,hs];simp
 have a5:Grow M4 M5:=by rw[al];exact A0c.app none _ _
 have o:=λM=>B3s gl u M hf.1 hf.2.2
 have a9:=λM=>B3s gl x M hx.1 hx.2.2
 rw[<-ag]at o
 have an:iu.length<=1000:=by rw[ag,A5o];exact hf.2.2
 have aa:=D7V gl (λy=>iu.any λz=>decide (z=y)) 286 [.ptr s 0] (A0V x) .no M5 (by rw[A5o];exact hx.2.2) (λy _=>A1Y func286 rfl rfl (C8B gl iu y s M5 an av))
 rw[ac iu ag]at aa
 have p1:=(a3.trans (a0.trans a5)).get ai (by simp)
 have p2:=(a3.trans (a0.trans a5)).get au (by simp)
 have r1:=a5.get a1 (by simp)
 have ab:=B8Y gl u 289 [.ptr (p+1) 0,.ptr r 0] (u.kids++[x]) M5 hf (E4G gl u x (by omega) (p+1) r M5 p2 (by rw[x.row_eq];exact r1))
 have am:Grow M1 M5:=b6.trans (a3.trans (a0.trans a5))
 have h5:=am.get h1 (by simp)
 have b4:b<M5.length:=(Z0b.1 h5).1
 have az:=a3.get ai (by simp)
 have ap:=a0.get az (by simp)
 have ao:=a0.get b1 (by simp)
 have aw:¬(u.kids.length:Int)>=64:=by omega
 have w1:IntKind.i64.wrap ((A0o u:Int)+A0o x)=(A0o u:Int)+A0o x:=by rw[A0T (by omega) (by omega)]
 have ae:¬(A0o u:Int)+A0o x>1024:=by omega
 have b2:=x.row_eq
 have ax:=t.row_eq
 rw[b7]at af w j ab
 rw[A2j]at w
 rw[b2]at a2 m j a8 a9
 rw[ax]at a2
 rw[u.row_eq]at af w m j a6 o ab|-
 refine A0j hB func232 ?_
 simp -dsimp -implicitDefEqProofs[A0m,enR,A0W.row]
 rw[<-ah,<-hb]
 refine A0f func282 af ?_
 simp -dsimp -implicitDefEqProofs[A0m,A0n,A0e]
 rw[<-a4,<-hp]
 simp -dsimp -implicitDefEqProofs[A0b ai]
 refine A0f func32 w ?_
 simp -dsimp -implicitDefEqProofs[A0m,A0n,A0e]
 rw[<-ak,<-hq]
 refine A0f func283 (a2 M3) ?_
 simp -dsimp -implicitDefEqProofs[A0m,A0n,A0e]
 rw[<-ad,<-hr]
 simp -dsimp -implicitDefEqProofs[A0b ao,A0b a1]
 refine A0f func284 (m M4) ?_
 simp -dsimp -implicitDefEqProofs
 refine A1i hB (A0G gl) (λk=>if k=1\/k=6\/k=7\/k=13 then 1 else 0) (λk=>if k=1 then q else if k=6 then p else r) (by rfl) (by kernel_rfl) ?_
 simp -dsimp -implicitDefEqProofs[A0b ao,A0b a1,A0b ap,A6w,aw]
 refine A1M func285 j ?_
 simp -dsimp -implicitDefEqProofs
 refine A1M func30 a6 ?_
 simp -dsimp -implicitDefEqProofs[A0b a1,A6w]
 refine A1M func30 a8 ?_
 simp -dsimp -implicitDefEqProofs[w1,ae]
 refine A0f func67 (o M4) ?_
 simp -dsimp -implicitDefEqProofs[A0m,A0n,A0e,AV.storable,AV.cells]
 rw[<-al,<-hs]
 simp -dsimp -implicitDefEqProofs[A0b r1]
 refine A0f func67 (a9 M5) ?_
 simp -dsimp -implicitDefEqProofs
 refine A0f func68 aa ?_
 simp -dsimp -implicitDefEqProofs[A0b p1]
 refine A0f func288 ab ?_
 simp -dsimp -implicitDefEqProofs[A0h h5,A0y b4,A0k]
 exact⟨A1e (b5.trans am) (by omega),.tuple (.same (by simp only[bdd];exact A2J _ _) (.same trivial .nil)) .nil⟩
end
section
mutual
def C0p:∀(u:A0a),(A4G (λ_=>true) (λ(_:Unit) _=>()) u ()).1=true
 |.mk id k l h w ks=>by rw[A4G,Z0d rfl];exact B6J ks
def B6J:∀(ks:List A0a),(A3I (λ_=>true) (λ(_:Unit) _=>()) ks ()).1=true
 |[]=>by rw[A3I]
 |k::ks=>by rw[A3I,Z0d (C0p k)];exact B6J ks
end
section
variable (gl:Nat->AV)
def C4L(u:A0a)(M:Mem)(hf:Fit u)(hb:A2P u):A0d (WC gl) 86 [.agg u.row,fnV 389] M (λv M'=>v=B true/\M'=M):=by
 refine A4j (λ_=>trivial) ?_;have h:=A9P gl 389 [] [] (λ_=>true) (λ(_:Unit) _=>()) (λM1 _=>Grow M M1) (λ_ u=>A2P u/\u.lims) (λ_ ks=>B2F ks/\A6W ks) ?_ ?_ ?_ ?_ ?_ u () M hf.1 ⟨hb,hf.2.1⟩ (A0c.refl _ _)
 .rw[C0p]at h;exact h
 .intro a u h;exact⟨by have:=((A6v u).1 h.1);obtain⟨a,b,c,d,e,f⟩:=u;rw[A2P]at h;exact h.1.2.2.2,(A3f u h.2).2⟩
 .intro a k ks h;rw[B2F,A6W]at h;exact⟨h.1.1,h.2.1⟩
 .intro a k ks h _;rw[B2F,A6W]at h;exact⟨h.1.2,h.2.2⟩
 .intro M1 a X h;exact h.trans (A0c.app none _ _)
 .intro u a M1 hg hk hj;refine(A1Y func389 rfl rfl (D0e gl M1 u hk.1 hk.2)).mono ?_;rintro _ _ ⟨rfl,rfl⟩;exact⟨rfl,hj⟩
def C4n(b:gl 0=A2z)(a:gl 1=A2S)(u:A0a)(M:Mem)(hf:Fit u)(hb:A2P u)(hv:A5k u=true):A0d (WC gl) 364 [.agg u.row] M (λv M'=>v=B true/\M'=M):=by have h1:=λM=>B4y gl b a u M hf;have h2:=λM=>C4L gl u M hf hb;rw[B3E hb,hv]at h1;rw[u.row_eq]at h1 h2|-;refine A0j hB func364 ?_;simp -dsimp -implicitDefEqProofs;refine A0f func109 (h1 M) ?_;simp -dsimp -implicitDefEqProofs;refine A0f func86 (h2 M) ?_;simp -dsimp -implicitDefEqProofs
def C3E(c:gl 0=A2z)(b:gl 1=A2S)(u:A0a)(M:Mem)(hf:Fit u)(hb:A2P u)(hk:u.kind≠0)(hv:A7C u=0)(a:A0d (WC gl) 72 [.agg u.row] M (λv M'=>(∃t,v=.tuple [S t,I (A7C u)])/\M'=M)):A0d (WC gl) 303 [.agg u.row] M (λv M'=>v=B true/\M'=M):=by
 have d:A5k u=true:=by
  unfold A7C at hv;split at hv
  .assumption
  .simp at hv
 have h2:=C4n gl c b u M hf hb d;rw[hv]at a;rw[u.row_eq]at h2 a|-;refine A0j hB func303 ?_;simp -dsimp -implicitDefEqProofs;refine A0s func72 a ?_;rintro _ M1 ⟨⟨t,rfl⟩,rfl⟩;simp -dsimp -implicitDefEqProofs;refine A0f func364 h2 ?_;simp -dsimp -implicitDefEqProofs[hk]
def D2S(c:gl 0=A2z)(b:gl 1=A2S)(u:A0a)(M:Mem)(hf:Fit u)(hb:A2P u)(hk:u.kind≠0)(hv:A7C u=0)(a:A0d (WC gl) 72 [.agg u.row] M (λv M'=>(∃t,v=.tuple [S t,I (A7C u)])/\M'=M)):A0d (WC gl) 301 [.agg (A0W.ins u).row] M (λv M'=>v=B true/\M'=M):=by have h2:=C3E gl c b u M hf hb hk hv a;rw[u.row_eq]at h2;refine A0j hB func301 ?_;simp -dsimp -implicitDefEqProofs[A0W.row];refine A0f func302 (C6W gl M 1) ?_;simp -dsimp -implicitDefEqProofs;refine A0f func303 h2 ?_;simp -dsimp -implicitDefEqProofs
end
end
end Go.Abs
