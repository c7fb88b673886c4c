/- The texts CbB, CbC, CbH, CbI, CbK0, CbL, CbM, CeA, CeB, CeC, CeD. -/
import Derived.Test.YtmpdkagfplajjaaGreatDoorHG35
import Derived.Test.YtmpdkagfplajjaaGreatDoorHG34
import Derived.Test.YtmpdkagfplajjaaGreatDoorHG33
import Derived.Test.YtmpdkagfplajjaaGreatDoorHG21
set_option linter.all false
set_option maxRecDepth 100000
namespace Go.Abs
open Go.Proofs TryTypes Tryz
def C9f{M:Mem}{f g:Nat}{w:List ByteArray}{a:List (Nat×Nat)}(hm:M[f]?=some (.vec 9 1 (w.flatMap A4M) g a))(hl:a.lookup g=some w.length){j:Nat}(hj:j<w.length)(s:ByteArray):∃hist',A0i (some 1) M (.vptr f g j) (S s)=some (M.set f (.vec 9 1 ((w.set j s).flatMap A4M) g hist'))/\hist'.lookup g=some w.length:=by
 refine⟨A0Y 1 g j a,?_,?_⟩
 .rw[<-B2J]at hm|-;simp only[A0i,hm,hl];rw[Z0e (by simp;omega)];congr 3;simp only[A0d,AV.cells];rw[List.map_set,Z2R,Z0e (by simpa using hj)];simp
 .unfold A0Y;exact A2v _ hl
def C6n{s}{B}(h:s.size<=B):(A7t s).size<=B:=by
 unfold A7t;split
 .exact h
 .split
  .rw[ByteArray.size_extract];omega
  .exact h
def C4N(o:Option (Cq×Nat))(a:Nat):List AV:=match o with
 |some (c,n)=>[I c.1,A5y c.2.1,S c.2.2,I a,I ((a+n:Nat):Int)]
 |none=>[I 0,A5y [],S ⟨#[]⟩,I 0,I 0]
section
variable (gl:Nat->AV)
set_option maxHeartbeats 1000000 in
def E3b(l:List ByteArray)(b8:l.length<=1000000000)(ax:∀s∈l,s.size<=maxLen)(o:Own)(a:Nat)(ha:a<=l.length)(M:Mem):A0e (WC gl) 146 [.list 1 (A0W l) o,I a] M (λv M'=>v=.tuple [.agg (C4N (A6v (l.drop a) (l.length-a)) a),B (A6v (l.drop a) (l.length-a)).isSome]/\M'=M):=by
 refine A0e.dataX ?_
 refine A0n (hQ [21,26]) func146 ?_
 generalize hR:A6v (l.drop a) (l.length-a)=R
 simp -dsimp[A0k,A0i,A0d]
 refine A2P (hQ [21,26]) (λT M1=>∃e:Nat,a<=e/\e<=l.length/\T 0=.list 1 (A0W l) o/\T 1=I a/\T 4=.ptr M.length 0/\T 6=I e/\M1[M.length]?=some (.cells 110 [I 0,A0G,S ⟨#[]⟩,I 0,I 0])/\Grow M M1/\R=A6v (l.drop a) (e-a)) (λT M1=>match T 6 with|.val (.int _ e)=>e.toNat|_=>0) (by kernel_rfl) ?_ ?_
 .exact⟨l.length,ha,by omega,by simp,by simp,by simp,by simp,by simp,A0c.app none _ _,hR.symm⟩
 rintro T M1 ⟨e,e1,e2,t0,t1,t4,t6,k,hg,hr⟩
 have aa:M.length<M1.length:=(Z0a.1 k).1
 by_cases he:a<e
 case neg=>
  have a2:¬(a:Int)<e:=by omega
  rw[show e-a=0 from by omega,A6v]at hr;subst hr;have b3:∀X,Grow M (M1.set M.length X):=λX=>⟨by have:=hg.1;simpa using this,λj hj _=>by rw[Z0c (by omega)];exact hg.2 j hj (by simp)⟩;simp -dsimp[t0,t1,t4,t6,a2,B5C,A0f k,A0s aa];exact⟨b3 _,.tuple (.agg (.same trivial (.nilS (.same trivial (.same trivial (.same trivial .nil))))) (.same trivial .nil)) .nil⟩
 have a2:(a:Int)<e:=by omega
 have ws:IntKind.i64.wrap ((e:Int)-a)=(e-a:Nat):=by rw[A0L (by omega) (by omega)];omega
 have wm:IntKind.i64.wrap ((e:Int)-1)=(e-1:Nat):=by rw[A0L (by omega) (by omega)];omega
 obtain⟨n,hn⟩:∃n,e-a=n+1:=⟨e-a-1,by omega⟩
 have ai:e-1-a=n:=by omega
 rw[hn,A6v]at hr
 by_cases h23:23<n+1
 .rw[Z0e h23]at hr;have x:(23:Int)<(e-a:Nat):=by omega
  simp -dsimp[t0,t1,t4,t6,a2,ws,x,wm];exact⟨⟨e-1,by omega,by omega,rfl,k,hg,by rw[ai];exact hr⟩,by clear ws wm;omega⟩
 rw[Z0d h23]at hr
 have x:¬(23:Int)<(e-a:Nat):=by omega
 obtain⟨W,hW⟩:=ex ((l.take e).drop a)
 have b2:(l.drop a).take (n+1)=W:=by rw[hW,Z2T,hn]
 have ao:W.length=n+1:=by rw[hW,Z1c,Z0D];omega
 have a3:∀s∈W,s.size<=maxLen:=λs hs=>by rw[hW]at hs;exact ax s (Z1k (Z1m hs))
 rw[b2]at hr
 have am:(List.drop a (List.take e (A0W l)))=A0W W:=by rw[B8E,B3K,hW]
 have b1:(0:Int)<=a:=by omega
 have b0:(a:Int)<=e:=by omega
 have av:(e:Int)<=l.length:=by omega
 simp -dsimp[t0,t1,t4,t6,a2,ws,x,b1,b0,av,am,C9s]
 have ah:A1g 9 1 A4M (M1++[.vec 9 1 [] 0 [(0,0)]]) (.vref M1.length 0 1 0 0) []:=.inr ⟨M1.length,0,[(0,0)],by simp,by simp,by simp[List.lookup]⟩
 refine A3B (C:=WC gl) (enc:=A4M) (e:=9) (sz:=1) (news:=W) A7g A9M B6h (λ_=>rfl) ah (by simp[A0D,A0W,List.flatMap]) (by simp;omega) rfl ?_
 intro v2 M2 q1 q2 q3 _
 rw[Z1F]at q1
 have af:Grow M M2:=⟨by have:=hg.1;have:=q2.1;simp at this;omega,λj hj _=>by rw[q2.2 j (by have:=hg.1;simp;omega) (by have:=hg.1;simp;omega),Z0i (by have:=hg.1;omega)];exact hg.2 j hj (by simp)⟩
 have i:M2[M.length]?=some (.cells 110 [I 0,A0G,S ⟨#[]⟩,I 0,I 0]):=by rw[q2.2 _ (by simp;omega) (by simp;omega),Z0i aa];exact k
 have a9:A1m M1.length v2:=λf hf=>by
  rcases q3 with h|h
  .rw[h]at hf;simp at hf;omega
  .have:=h f hf;simp at this;omega
 clear q2 q3 ah
 rcases q1 with⟨rfl,h0⟩|⟨f,g,ak,rfl,hm,hl⟩
 .rw[h0]at ao;simp at ao
 have b6:M1.length<=f:=a9 f rfl
 have z:=C5E gl W (by omega) (by omega) a3 f g ak M2 hm hl
 clear a9 k hg
 have b5:M.length<M2.length:=(Z0a.1 i).1
 simp -dsimp[t0,t1,t4,t6]
 refine A0h func197 z ?_
 obtain⟨q,hq⟩:=ex (M2.length)
 have ad:IntKind.i64.wrap ((W.length:Int)-1)=(W.length-1:Nat):=by rw[A0L (by omega) (by omega)];omega
 have a7:∀(c:Cq) (M4:Mem),M4[M.length]?=some (.cells 110 [I 0,A0G,S ⟨#[]⟩,I 0,I 0])->Grow M M4->∀X,Grow M (M4.set M.length X):=λc M4 _ h X=>⟨by have:=h.1;simpa using this,λj hj _=>by rw[Z0c (by omega)];exact h.2 j hj (by simp)⟩
 have a6:((a+(n+1):Nat):Int)=e:=by omega
 cases hr1:A1G W with
 |some c=>
  have y:R=some (c,n+1):=by rw[hr,B3t,hr1]
  subst y
  obtain⟨M3,m⟩:=ex (M2++[A0m.cells 110 [I c.1,A5y c.2.1,S c.2.2,I a,I e]])
  have a1:M3[q]?=some (A0m.cells 110 [I c.1,A5y c.2.1,S c.2.2,I a,I e]):=by rw[m,hq];simp
  have u:Grow M2 M3:=by rw[m];exact A0c.app none _ _
  have b:=u.get i (by simp)
  have a0:=af.trans u
  have b7:q<M3.length:=(Z0a.1 a1).1
  have ab:M.length<M3.length:=by omega
  simp -dsimp[t0,t1,t4,t6,C1w,A0k,A0i,A0d]
  rw[<-m,<-hq]
  simp -dsimp[t0,t1,t4,t6,A0b a1,A0f b,A0s,ab]
  refine⟨a7 c _ b a0 _,?_⟩
  rw[C4N,a6]
  exact .tuple (.agg (.same trivial (.same (A9O _ _) (.same trivial (.same trivial (.same trivial .nil))))) (.same trivial .nil)) .nil
 |none=>
  obtain⟨M3,m⟩:=ex (M2++[A0m.cells 110 [I 0,A5y [],S ⟨#[]⟩,I 0,I 0]])
  have a1:M3[q]?=some (A0m.cells 110 [I 0,A5y [],S ⟨#[]⟩,I 0,I 0]):=by rw[m,hq];simp
  have u:Grow M2 M3:=by rw[m];exact A0c.app none _ _
  have b:=u.get i (by simp)
  have a0:=af.trans u
  have a4:=u.get hm (by simp)
  have b4:f<M2.length:=(Z0a.1 hm).1
  have p:W.length-1<W.length:=by omega
  have a5:((W.length-1:Nat):Int)<W.length:=by omega
  have ll:=A3E a4 hl p
  obtain⟨r,ae,ap⟩:=C9f a4 hl p (A7t (wd W (W.length-1)))
  have au:W.set (W.length-1) (A7t (wd W (W.length-1)))=A3N W:=rfl
  rw[au]at ae
  have a8:(A3N W).length=W.length:=by simp[A3N]
  rw[<-a8]at ap
  have aj:∀s∈A3N W,s.size<=maxLen:=λs hs=>by
   rcases Z3n hs with h|h
   .exact a3 s h
   .rw[h];refine C6n ?_;rw[Z1O,Z0l p];exact a3 _ (Z0o p)
  have ar:(wd W (W.length-1)).size<=maxLen:=by rw[<-B3I p];exact a3 _ (Z0o p)
  obtain⟨M4,t⟩:=ex (M3.set f (.vec 9 1 ((A3N W).flatMap A4M) g r))
  have az:f<M3.length:=(Z0a.1 a4).1
  have aw:M4[f]?=some (.vec 9 1 ((A3N W).flatMap A4M) g r):=by rw[t];simp[az]
  have ag:M4[q]?=some (A0m.cells 110 [I 0,A5y [],S ⟨#[]⟩,I 0,I 0]):=by rw[t,Z0c (by omega)];exact a1
  have w:M4[M.length]?=some (.cells 110 [I 0,A0G,S ⟨#[]⟩,I 0,I 0]):=by rw[t,Z0c (by omega)];exact b
  have an:Grow M M4:=⟨by rw[t];have:=a0.1;simpa using this,λj hj _=>by rw[t,Z0c (by omega)];exact a0.2 j hj (by simp)⟩
  have d:=C5E gl (A3N W) (by omega) (by omega) aj f g r M4 aw ap
  rw[a8]at d
  simp -dsimp[t0,t1,t4,t6,C1w,A0k,A0i,A0d]
  rw[<-m,<-hq]
  simp -dsimp[t0,t1,t4,t6,ad,p,a5,ll]
  refine A0h func198 (D3O gl _ M3 ar) ?_
  simp -dsimp[t0,t1,t4,t6,ad,p,a5,ae]
  rw[<-t]
  refine A0h func197 d ?_
  clear t m a4 a1 b a0 ae ll u i hm af z d
  have ay:q<M4.length:=(Z0a.1 ag).1
  have al:∀X,(M4.set q X)[q]?=some X:=λX=>by simp[ay]
  have ac:∀X,(M4.set q X)[M.length]?=M4[M.length]?:=λX=>Z0c (by omega)
  have aq:∀X,Grow M (M4.set q X):=λX=>⟨by have:=an.1;simpa using this,λj hj _=>by rw[Z0c (by omega)];exact an.2 j hj (by simp)⟩
  have ab:M.length<M4.length:=by omega
  cases hr2:A1G (A3N W)with
  |some c=>
   have y:R=some (c,n+1):=by rw[hr,B3t,hr1];simp only;rw[hr2]
   subst y
   simp -dsimp[t0,t1,t4,t6,C1w,A0f ag,A0f (al _),A0b (al _),Z2J,A0f ((ac _).trans w),A0s,ab]
   refine⟨a7 c _ ((ac _).trans w) (aq _) _,?_⟩
   rw[C4N,a6]
   exact .tuple (.agg (.same trivial (.same (A9O _ _) (.same trivial (.same trivial (.same trivial .nil))))) (.same trivial .nil)) .nil
  |none=>
   have y:R=A6v (l.drop a) n:=by rw[hr,B3t,hr1];simp only;rw[hr2]
   simp -dsimp[t0,t1,t4,t6,C1w,A0f ag,wm]
   exact⟨⟨e-1,by omega,by omega,rfl,(ac _).trans w,aq _,by rw[ai];exact y⟩,by clear ws wm ad;omega⟩
def D4m(l:List ByteArray)(o:Own)(hl:l.length<=1000000000)(m:∀s∈l,s.size<=maxLen)(M:Mem):A0e (WC gl) 97 [.list 1 (A0W l) o] M (λv M'=>v=.list 5 (A3U (A2d l 0)) .no/\M'=M):=by
 refine A0e.dataX ?_
 refine A0n (hQ [7,22]) func97 ?_
 simp -dsimp[A2m,A0M]
 refine A0B (hQ [7,22]) l.length 4 (λT M1=>∃(i:Nat) (q:List A1e) (vq:AV),T 0=.list 1 (A0W l) o/\T 3=vq/\T 4=I i/\i<=l.length/\Arr 110 5 A1e.row M.length M1 vq q/\A2d l 0=q++A2d l i/\q.length<=i/\Grow M M1) ?_ ?_
 .refine⟨0,[],.vref M.length 0 5 0 0,by simp,by simp,by simp,by omega,⟨.inr ⟨M.length,0,[(0,0)],rfl,by simp,by simp[List.lookup]⟩,λf hf=>by simp at hf;omega⟩,rfl,by simp,A0c.app none _ _⟩
 rintro T M1 ⟨i,q,vq,t0,t3,t4,h1,h2,h3,h4,h5⟩
 by_cases c:i<l.length
 case neg=>
  have c':¬(i:Int)<l.length:=by omega
  rw[C6q (l:=l) (i:=i) (by omega),Z1d]at h3;simp -dsimp[t0,t3,t4,c'];rw[h3];exact⟨h5,A2V (enc:=A1e.row) (λ_=>rfl) B4s h2.own h2.lat⟩
 have c':(i:Int)<l.length:=by omega
 have j:IntKind.i64.wrap ((i:Int)+1)=(i+1:Nat):=by rw[A0L (by omega) (by omega)];omega
 have b:=E3b gl l hl m o i (by omega) M1
 rw[show l.length-i=(l.drop i).length from Z1c.symm,D4a]at b
 simp -dsimp[t0,t3,t4,c']
 refine A0q func146 b ?_
 rintro _ M2 ⟨rfl,rfl⟩
 cases hc:A9a (A5z (l.drop i))with
 |none=>
  rw[C1O c hc]at h3
  have hk:Grow M2 (M2++[A0m.cells 110 [I 0,A5y [],S ⟨#[]⟩,I 0,I 0]]):=A0c.app none _ _
  simp -dsimp[t0,t3,t4,C4N,A0k,A0i,A0d,j]
  exact⟨⟨i+1,by omega,by omega,q,h2.keep hk,h3,by omega,h5.trans hk⟩,by omega⟩
 |some g=>
  obtain⟨⟨k,p,to⟩,n⟩:=g
  rw[C2M c hc]at h3
  obtain⟨b1,b2,b3,b4⟩:=B0j hc
  have hn:=A9Y (l.drop i)
  rw[Z1c]at hn
  obtain⟨M3,a⟩:=ex (M2++[A0m.cells 110 [I k,A5y p,S to,I i,I ((i+n:Nat):Int)]])
  have hk:Grow M2 M3:=by rw[a];exact A0c.app none _ _
  have hx:M3[M2.length]?=some (A0m.cells 110 [I k,A5y p,S to,I i,I ((i+n:Nat):Int)]):=by rw[a];simp
  have ho:=h2.keep hk
  have d:((i+n:Nat):Int)=(i:Int)+n:=by omega
  rw[d]at a hx
  simp -dsimp[t0,t3,t4,C4N,A0k,A0i,A0d,d]
  rw[<-a]
  simp -dsimp[t0,t3,t4,A0b hx,A0l,A0M]
  refine A3B (C:=WC gl) (enc:=A1e.row) (e:=110) (sz:=5) (news:=[⟨k,p,to,i,(i:Int)+n⟩]) B8c C6y B9y (λ_=>rfl) ho.own (by simp[A0D,A1e.row]) (by simp;omega) rfl ?_
  intro v' M4 k1 k2 k3 _
  have hg:=ho.grow (h5.trans hk) k2
  have h:=ho.cells k2 hx
  simp -dsimp[t0,t3,t4,A0b h]
  exact⟨⟨i+n,by omega,by omega,_,⟨k1,ho.later (h5.trans hk).1 k3⟩,by rw[h3];simp,by simp;omega,hg⟩,by omega⟩
def D4Y(ws:List A0Q)(o:Own)(hl:ws.length<=300)(hs:∀w∈ws,w.text.size<=maxLen)(M:Mem):A0e (WC gl) 40 [.list 4 (A0g ws) o] M (λv M'=>v=.list 5 (A3U (A2d (A0z ws) 0)) .no/\M'=M):=by
 refine A0n hB func40 ?_
 have ht:=λM=>A0e.still (enc:=A4M) (sz:=1) (e:=9) (λ_=>rfl) B5v (C2K gl M ws o (by omega))
 simp -dsimp
 refine A0h func33 (ht M) ?_
 simp -dsimp
 refine A0q func97 (D4m gl (A0z ws) .no (by simp[A0z];omega) (by simpa[A0z]using hs) M) ?_
 rintro _ M ⟨rfl,rfl⟩
 simp -dsimp
end
section
variable (gl:Nat->AV)
def E6U(l:List A0J)(id:IdD)(M:Mem)(hl:l.length<=1000):A0e (WC gl) 184 [.list 5 (A1L l) .no,.agg id.row] M (λv M'=>v=I (C6G l id)/\M'=M):=by
 refine A0n hB func184 ?_;simp -dsimp[IdD.row];refine A0B hB l.length 5 (λT M1=>∃i:Nat,M1=M/\i<=l.length/\T 0=.list 5 (A1L l) .no/\T 3=.cptr [I id.act,I id.item,I id.n]/\T 5=I i/\A1U l id=(A1U (l.drop i) id).map (·+i)) ?_ ?_
 .exact⟨0,rfl,by omega,by simp,by simp,by simp,by simp⟩
 rintro T M1 ⟨i,rfl,h1,t0,t3,t5,h2⟩;by_cases hi:i<l.length
 .have a:(i:Int)<l.length:=by omega
  have w1:=A1H (i:=i) (by omega);have h3:=C5j hi h2;have he:=B4S l[i].id id;simp -dsimp[t0,t3,t5,a];refine A0Z hB (A0u gl) (λ_=>0) (λ_=>0) (by rfl) (by kernel_rfl) ?_;by_cases c:l[i].id=id
  .rw[Z0e c]at h3;rw[Z0w c]at he;(have hr:C6G l id=i:=by simp[C6G,h3]);simp -dsimp[t0,t3,t5,hi,a,A0J.row,he,hr]
  .rw[Z0d c]at h3;rw[Z0r c]at he;simp -dsimp[t0,t3,t5,hi,a,A0J.row,he,w1];exact⟨⟨i+1,by clear w1;omega,rfl,h3⟩,by clear w1;omega⟩
 .have a:¬(i:Int)<l.length:=by omega
  rw[Z0v (by omega)]at h2;have hn:A1U l id=none:=by rw[h2];rfl
  have hr:C6G l id=-1:=by simp[C6G,hn]
  simp -dsimp[t0,t3,t5,a,hr]
def E2N(s:List A1v)(id:IdD)(n:Int)(M:Mem)(hl:s.length<=1000):A0e (WC gl) 42 [.list 5 (A2e s) .no,.agg id.row,I n] M (λv M'=>v=.list 3 (A1l (A8L s id n)) .no/\M'=M):=by
 refine A0e.dataX ?_;refine A0n hB func42 ?_;simp -dsimp[IdD.row];refine A0B hB s.length 7 (λT M1=>∃i:Nat,M1=M/\i<=s.length/\T 0=.list 5 (A2e s) .no/\T 2=I n/\T 4=.cptr [I id.act,I id.item,I id.n]/\T 7=I i/\s.find? (λm=>decide (m.at_=id)&&decide (m.n=n))=(s.drop i).find? (λm=>decide (m.at_=id)&&decide (m.n=n))) ?_ ?_
 .exact⟨0,rfl,by omega,by simp,by simp,by simp,by simp,by simp⟩
 rintro T M1 ⟨i,rfl,h1,t0,t2,t4,t7,h2⟩;by_cases hi:i<s.length
 .have a:(i:Int)<s.length:=by omega
  have w1:=A1H (i:=i) (by omega);have h3:=D1p hi h2;have he:=B4S s[i].at_ id;simp -dsimp[t0,t2,t4,t7,a];refine A0Z hB (A0u gl) (λ_=>0) (λ_=>0) (by rfl) (by kernel_rfl) ?_;by_cases c:s[i].at_=id;case neg=>rw[Z0r c]at he h3;rw[Z0d (by simp)]at h3;simp -dsimp[t0,t2,t4,t7,hi,a,A1v.row,he,w1];exact⟨⟨i+1,by clear w1;omega,rfl,h3⟩,by clear w1;omega⟩
  rw[Z0w c]at he h3;by_cases c2:s[i].n=n
  .rw[Z0e (by simp[c2])]at h3;(have hr:A8L s id n=s[i].to:=by simp[A8L,h3]);simp -dsimp[t0,t2,t4,t7,hi,a,A1v.row,he,c2];rw[hr];exact⟨Grow.refl _,.same (A6G (B2c _) _) .nil⟩
  .rw[Z0d (by simp[c2])]at h3;simp -dsimp[t0,t2,t4,t7,hi,a,A1v.row,he,c2,w1];exact⟨⟨i+1,by clear w1;omega,rfl,h3⟩,by clear w1;omega⟩
 .have a:¬(i:Int)<s.length:=by omega
  rw[Z0v (by omega)]at h2;have hr:A8L s id n=[]:=by simp[A8L,h2]
  simp -dsimp[t0,t2,t4,t7,a];rw[hr];exact⟨Grow.refl _,B6q⟩
end
open Go.Proofs TryTypes
section
variable (gl:Nat->AV)
end
def A6Q(n:Nat)(w:A0Q):A1I n w.row:=by simp[A0Q.row,A1I,bdd]
@[simp] def D7w{k}{t}{r1 r2}{o1 o2}:A0x prog 27 [(1,I k),(2,S t),(3,.list 4 r1 o1),(4,.list 4 r2 o2)]=some (.agg [I 0,I 0,I 0,I k,S t,.list 4 r1 o1,.list 4 r2 o2,A0G]):=by
 simp[A0x,A1b,A1o,A0d,AV.cells,AV.storable]
section
variable (gl:Nat->AV)
end
def B1C(w:A0Q):Prop:=w.act=0/\w.item=0/\w.at_=0
mutual
def A3A:A0a->Prop
 |.mk id _ _ h w ks=>id=idZ/\(∀x∈h,B1C x)/\(∀x∈w,B1C x)/\B3i ks
def B3i:List A0a->Prop
 |[]=>True
 |k::ks=>A3A k/\B3i ks
end
def B6w:∀{ks:List A0a},B3i ks<->∀k∈ks,A3A k
 |[]=>by simp[B3i]
 |k::ks=>by simp[B3i,B6w (ks:=ks)]
def A7i(u:A0a):A3A u<->u.id=idZ/\(∀x∈u.head,B1C x)/\(∀x∈u.words,B1C x)/\∀k∈u.kids,A3A k:=by obtain⟨a,b,c,d,e,f⟩:=u;rw[A3A,B6w];rfl
def C2e{w}(h:B1C w):w.row=[S w.text,I 0,I 0,I 0]:=by obtain⟨h1,h2,h3⟩:=h;simp[A0Q.row,h1,h2,h3]
def B3C(F:IdD->Option A0a)(l:List A0J)(s:List A1v):∀f n,A3A (A2x F l s f n).1
 |0,n=>by rw[A2x,D0Y,A3A];exact⟨rfl,by simp,by simp,trivial⟩
 |f+1,n=>by
  rw[A2x,A3A,B6w];refine⟨rfl,λx hx=>?_,λx hx=>?_,λk hk=>?_⟩
  .obtain⟨y,_,rfl⟩:=Z0C.1 hx;exact⟨rfl,rfl,rfl⟩
  .obtain⟨y,_,rfl⟩:=Z0C.1 hx;exact⟨rfl,rfl,rfl⟩
  .rw[Z1K]at hk;obtain⟨y,_,rfl⟩:=Z0C.1 hk;exact B3C F l s f y
mutual
def C6r:∀u:A0a,A3A u->∀x∈A0R u,x=idZ
 |.mk id _ _ _ _ ks,h,x,hx=>by
  rw[A3A]at h;rw[A0R]at hx;rcases Z0s.1 hx with rfl|hx
  .exact h.1
  .exact C2S ks h.2.2.2 x hx
def C2S:∀ks:List A0a,B3i ks->∀x∈A3J ks,x=idZ
 |[],_,x,hx=>by rw[A3J]at hx;simp at hx
 |k::ks,h,x,hx=>by
  rw[B3i]at h;rw[A3J]at hx;rcases Z0S.1 hx with hx|hx
  .exact C6r k h.1 x hx
  .exact C2S ks h.2 x hx
end
def D3b{u}(h:A3A u):C3z u=true:=by rw[C4M];unfold D6f;rw[show(A0R u).all (λx=>decide (x=idZ))=true from Z0p.2 λx hx=>Z0w (C6r u h x hx)];rfl
def B1v(u:A0a):Bool:=A3u u&&decide (A2i u<=8)&&decide (A0r u<=1024)
def B4h{u}(h:A3A u):B1d u=B1v u:=by rw[B1d,D3b h,Z3z,B2B];rfl
def A6O:A0a->A0a
 |.mk _ k l h w _=>.mk idZ k l h w []
def D1s{u}(h:A6b u=true):B1v (A6O u)=true:=by
 obtain⟨a,b,c,d,e,f⟩:=u;have h2:A6b (.mk idZ b c d e [])=true:=by unfold A6b at h|-;simp only[Z0f,Z0k]at h|-;exact⟨⟨⟨⟨h.1.1.1.1,by simp[A0a.kids]⟩,h.1.1.2⟩,h.1.2⟩,h.2⟩
 simp only[A6O,B1v,A3u,A6F,h2,A2i,A3H,A0r,A0A];rfl
def B0Y(u:A0a):Int:=if B1v u=true then if 16384<A6M (A6e 0 u)then 6 else 0 else 1
def A4i{α:Type}(e sz:Nat)(enc:α->List AV)(n:Nat)(M:Mem)(v:AV)(l:List α):Prop:=(v=.list sz [] .no/\l=[])\/Arr e sz enc n M v l
section
variable {α:Type} {e sz n:Nat} {enc:α->List AV} {M M':Mem} {v:AV} {l:List α}
def A4i.store(h:A4i e sz enc n M v l):v.storable=true:=by
 rcases h with⟨rfl,rfl⟩|h
 .rfl
 .exact h.own.store
def A4i.cells(h:A4i e sz enc n M v l):v.cells=[v]:=by
 rcases h with⟨rfl,rfl⟩|h
 .rfl
 .exact h.own.cells
def A4i.len(h:A4i e sz enc n M v l){P}{t e':TypeId}(ht:P.underlying t=some (.slice e')):A2y P t v=some l.length:=by
 rcases h with⟨rfl,rfl⟩|h
 .simp[A2y,ht]
 .exact h.own.len ht
def A4i.keep(h:A4i e sz enc n M v l)(hk:Grow M M'):A4i e sz enc n M' v l:=by
 rcases h with h|h
 .exact .inl h
 .exact .inr (h.keep hk)
def A4i.stay(h:A4i e sz enc n M v l)(hk:∀f,obj v=some f->M'[f]?=M[f]?):A4i e sz enc n M' v l:=by
 rcases h with h|⟨h1,h2⟩
 .exact .inl h
 .refine .inr ⟨?_,h2⟩;rcases h1 with h1|⟨f,g,a,rfl,hm,hl⟩
  .exact .inl h1
  .exact .inr ⟨f,g,a,rfl,by rw[hk f rfl];exact hm,hl⟩
def A4i.still(h:A4i e sz enc n M v l)(he:∀x,(enc x).length=sz)(hb:∀n x,A1I n (enc x)){cs ds}(hr:Still M n (bdd n) cs ds):Still M n (bdd n) (v::cs) (.list sz (l.map enc) .no::ds):=by
 rcases h with⟨rfl,rfl⟩|h
 .exact .same (by simp[bdd,A7H]) hr
 .exact Still.append (a:=[v]) (b:=[.list sz (l.map enc) .no]) (A2V he hb h.own h.lat) hr
end
def A4i.lat{α:Type}{e sz n}{enc:α->List AV}{M}{v}{l}(h:A4i e sz enc n M v l):A1m n v:=by
 rcases h with⟨rfl,rfl⟩|h
 .intro f hf;simp[obj]at hf
 .exact h.lat
def A4i.lt{α:Type}{e sz n}{enc:α->List AV}{M}{v}{l}(h:A4i e sz enc n M v l){f}(hf:obj v=some f):f<M.length:=by
 rcases h with⟨rfl,rfl⟩|h
 .simp[obj]at hf
 .exact h.own.lt hf
def A4i.weak{α:Type}{e sz n m}{enc:α->List AV}{M}{v}{l}(h:A4i e sz enc n M v l)(hm:m<=n):A4i e sz enc m M v l:=by
 rcases h with h|⟨h1,h2⟩
 .exact .inl h
 .exact .inr ⟨h1,λf hf=>by have:=h2 f hf;omega⟩
def Arr.stay{α:Type}{e sz n}{enc:α->List AV}{M M'}{v}{l}(h:Arr e sz enc n M v l)(hk:∀f,obj v=some f->M'[f]?=M[f]?):Arr e sz enc n M' v l:=by
 obtain⟨h1,h2⟩:=h;refine⟨?_,h2⟩;rcases h1 with h1|⟨f,g,a,rfl,hm,hl⟩
 .exact .inl h1
 .exact .inr ⟨f,g,a,rfl,by rw[hk f rfl];exact hm,hl⟩
def D0t{cs part}{off}(h:(cs.drop off).take part.length=part):A0d cs off part=cs:=by
 unfold A0d;rw[<-h,Z0D,Z0F];have e:(cs.drop off).take part.length++cs.drop (off+min part.length (cs.drop off).length)=cs.drop off:=by
  rcases Nat.le_total part.length (cs.drop off).length with hl|hl
  .rw[Z1A hl,<-Z2c,Z1b]
  .rw[Nat.min_eq_right hl,<-Z2c,List.drop_length,Z1d,Z0g hl]
 rw[e,Z1b]
abbrev A6R(u:A0a)(kv:AV):List AV:=[I u.id.act,I u.id.item,I u.id.n,I u.kind,S u.label,.list 4 (A0g u.head) .no,.list 4 (A0g u.words) .no,kv]
def C0H(ks:List A0a)(kv:AV):Prop:=kv=.list 8 (A0p ks) .no\/(ks=[]/\kv=A0G)
def C0H.len{ks}{kv}(h:C0H ks kv):A2y prog 25 kv=some ks.length:=by rcases h with rfl|⟨rfl,rfl⟩<;>simp
def C0H.store{ks}{kv}(h:C0H ks kv):kv.storable=true:=by rcases h with rfl|⟨rfl,rfl⟩<;>rfl
def C0H.cells{ks}{kv}(h:C0H ks kv):kv.cells=[kv]:=by rcases h with rfl|⟨rfl,rfl⟩<;>rfl
structure D4s (M:Mem) (u:A0a) (hv wv kv:AV) (M':Mem):Prop where
 grow:Grow M M'
 h:A4i 152 4 A0Q.row M.length M' hv u.head
 w:A4i 152 4 A0Q.row M.length M' wv u.words
 k:Arr 27 8 A0a.row M.length M' kv u.kids
 a12:A8A hv wv
 a13:A8A hv kv
 a23:A8A wv kv
abbrev D5d(u:A0a)(hv wv kv:AV):List AV:=[I u.id.act,I u.id.item,I u.id.n,I u.kind,S u.label,hv,wv,kv]
def D4s.still{M M'}{u}{hv wv kv}(h:D4s M u hv wv kv M'):Grow M M'/\Still M' M.length (bdd M.length) [.agg (D5d u hv wv kv)] [.agg u.row]:=by refine⟨h.grow,?_⟩;rw[u.row_eq,A3t];exact .agg (.same trivial (.same trivial (.same trivial (.same trivial (.same trivial (h.h.still (λ_=>rfl) A6Q (h.w.still (λ_=>rfl) A6Q (A2V A0a.row_len A3d h.k.own h.k.lat)))))))) .nil
def hCp:A2u:=⟨λd=>d !=1,λ_=>false,λd=>d==25⟩
@[simp] def E6W:hCp.imm=λd=>d !=1:=(rfl)
@[simp] def E5C:hCp.own=λ_=>false:=(rfl)
@[simp] def E6w:hCp.vec=λd=>d==25:=(rfl)
section
variable (gl:Nat->AV)
def C2P(l:List A0Q)(M:Mem)(hl:l.length<=1000000000):A0e (WC gl) 141 [.list 4 (A0g l) .no] M (λv M'=>A1g 152 4 A0Q.row M' v l/\Grow M M'/\A1m M.length v):=by
 refine A0n hW func141 ?_;have tail:∀(K:AV->Mem->Prop) (tg:Tag K),(∀v M',(A1g 152 4 A0Q.row M' v l/\Grow M M'/\A1m M.length v)->K v M')->A4Q (WC gl) (A2t hW.own (some 7)) (A2t hW.vec (some 7)) 24 24 (.vref M.length 0 4 0 0) (.list 4 (A0g l) .no) (M++[.vec 152 4 [] 0 [(0,0)]]) K tg:=by intro K tg hk;have ho:A1g 152 4 A0Q.row (M++[.vec 152 4 [] 0 [(0,0)]]) (.vref M.length 0 4 0 0) []:=.inr ⟨M.length,0,[(0,0)],rfl,by simp,by simp[List.lookup]⟩;refine A3B (C:=WC gl) (enc:=A0Q.row) (e:=152) (sz:=4) (news:=l) B7Z C7G C0B (λ_=>rfl) ho (by simp[A0D,A0g,List.flatMap]) (by simp;omega) rfl ?_;intro v' M' h1 h2 h3 _;obtain⟨r1,r2⟩:=A2T (X:=[]) (A0c.app none M [.vec 152 4 [] 0 [(0,0)]]) (v:=.vref M.length 0 4 0 0) (λf hf=>by simp at hf;omega) (by simpa using h2) (by simpa using h3);exact hk _ _ ⟨h1,r1,r2⟩
 cases l with
 |nil=>
  simp -dsimp[A0g];rw[A7j (.inl rfl) underlying24];intro b;cases b
  .simp -dsimp[A2m,A0M];refine tail _ _ λv M' h=>?_;simp -dsimp;exact h
  .simp -dsimp;exact⟨.nil,A0c.refl _ _,λf h=>by simp at h⟩
 |cons a l=>simp -dsimp[A0g,A2m,A0M];refine tail _ _ λv M' h=>?_;simp -dsimp;exact h
def B8K(l:List A0Q)(M:Mem)(hl:l.length<=1000000000):∃r M1,A0e (WC gl) 141 [.list 4 (A0g l) .no] M (λv M'=>v=r/\M'=M1)/\Grow M M1/\A4i 152 4 A0Q.row M.length M1 r l/\M1.length<=M.length+1:=by
 by_cases h:l=[]
 .exact⟨_,_,A0e.still (enc:=A0Q.row) (λ_=>rfl) A6Q (C2P gl l M hl),Grow.refl _,.inl ⟨by rw[h];rfl,h⟩,by omega⟩
 .exact⟨_,_,A0e.repack (enc:=A0Q.row) (λ_=>rfl) A6Q h (C2P gl l M hl),A0c.app none _ _,.inr ⟨.inr ⟨M.length,0,[(0,l.length)],rfl,by simp,by simp[List.lookup]⟩,λf hf=>by simp at hf;omega⟩,by simp⟩
set_option maxHeartbeats 1000000 in
def B6v:∀(u:A0a) (kv:AV) (M:Mem),C0H u.kids kv->u.good->u.lims->A0r u<=1000->
 A0e (WC gl) 89 [.agg (A6R u kv)] M (λv M'=>∃hv wv kw,v=.agg (D5d u hv wv kw)/\D4s M u hv wv kw M')
 |.mk id kind lab hd ws ks,kv,M,t,hg,hlm,hc=>by
  obtain⟨_,_,bm,_,be,_,bg,bc,ae⟩:=(A0a.good_iff _).1 hg;have ae:∀k∈ks,k.good:=ae;obtain⟨⟨aq,al,bn,-⟩,ag⟩:=A3R _ hlm;have aq:hd.length<=100000000:=aq;have al:ws.length<=100000000:=al;have ag:=A3Y.1 ag;have bk:1+A0A ks<=1000:=by rwa[A0r]at hc
  have au:=A1Z ks;have t:C0H ks kv:=t;have b1:A6R (.mk id kind lab hd ws ks) kv=[I id.act,I id.item,I id.n,I kind,S lab,.list 4 (A0g hd) .no,.list 4 (A0g ws) .no,kv]:=rfl;have b2:∀a b c,D5d (.mk id kind lab hd ws ks) a b c=[I id.act,I id.item,I id.n,I kind,S lab,a,b,c]:=λ_ _ _=>rfl;rw[b1];simp only[b2];refine A0n hCp func89 ?_;obtain⟨b,hb⟩:=ex (M.length);obtain⟨M1,r⟩:=ex (M++[A0m.cells 27 [I id.act,I id.item,I id.n,I kind,S lab,.list 4 (A0g hd) .no,.list 4 (A0g ws) .no,kv],z8]);have a4:M1[b]?=some (A0m.cells 27 [I id.act,I id.item,I id.n,I kind,S lab,.list 4 (A0g hd) .no,.list 4 (A0g ws) .no,kv]):=by rw[r,hb];simp
  have an:M1[b+1]?=some z8:=by rw[r,hb];simp[Z0W]
  have a3:Grow M M1:=by rw[r];exact A0c.app none _ _
  have b7:M1.length=b+2:=by rw[r,hb];simp
  have bi:=t.store;have bj:=t.cells;simp -dsimp[A0k];rw[<-r,<-hb];clear r;obtain⟨hv,M2,b0,l,d,b8⟩:=B8K gl hd M1 (by omega);obtain⟨wv,M3,ax,s,o,ba⟩:=B8K gl ws M2 (by omega);have a2:=l.get a4 (by simp);have a5:=s.get a2 (by simp);have aa:M2[b]?=M1[b]?:=by rw[a4,a2]
  have a9:M3[b]?=M2[b]?:=by rw[a2,a5]
  have a8:b<M3.length:=(Z0a.1 a5).1;have ab:A0i (some 1) M3 (.ptr b 5) hv=some (M3.set b (.cells 27 [I id.act,I id.item,I id.n,I kind,S lab,hv,.list 4 (A0g ws) .no,kv])):=by rw[A0f a5,d.cells,Z0e ⟨d.store,by simp,rfl⟩];rfl
  have ac:(M3.set b (.cells 27 [I id.act,I id.item,I id.n,I kind,S lab,hv,.list 4 (A0g ws) .no,kv]))[b]?=some (.cells 27 [I id.act,I id.item,I id.n,I kind,S lab,hv,.list 4 (A0g ws) .no,kv]):=by simp[a8]
  have ad:A0i (some 1) (M3.set b (.cells 27 [I id.act,I id.item,I id.n,I kind,S lab,hv,.list 4 (A0g ws) .no,kv])) (.ptr b 6) wv=some (M3.set b (.cells 27 [I id.act,I id.item,I id.n,I kind,S lab,hv,wv,kv])):=by rw[A0f ac,o.cells,Z0e ⟨o.store,by simp,rfl⟩,Z2J];rfl
  refine B4A hCp (A0u gl) (λk=>if k=1\/k=4 then 1 else if k=2\/k=5\/k=7\/k=9 then 2 else 0) (λ_=>b) (λ_ k=>k==7||k==9) (λk=>if k=7\/k=9 then[]else[b]) (by intro i k _ h;simp at h;simp[h]) (by rfl) (by kernel_rfl) ?_;simp -dsimp[A0b a4,A0F,A2Y];refine A4S (A1a func141 rfl rfl b0) ?_;refine⟨by simpa using aa,?_⟩;simp -dsimp[A0b a2,A0F,A2Y];refine A4S (A1a func141 rfl rfl ax) ?_;refine⟨by simpa using a9,?_⟩;simp -dsimp[ab,ad];obtain⟨M4,w⟩:=ex (M3.set b (.cells 27 [I id.act,I id.item,I id.n,I kind,S lab,hv,wv,kv]));have p:∀f,f≠b->M4[f]?=M3[f]?:=λf hf=>by rw[w,Z0c (λe=>hf e.symm)]
  have ay:M4[b]?=some (.cells 27 [I id.act,I id.item,I id.n,I kind,S lab,hv,wv,kv]):=by rw[w];simp[a8]
  have b5:M4[b+1]?=some z8:=by rw[p _ (by omega)];exact s.get (l.get an (by simp)) (by simp)
  have bf:M4.length=M3.length:=by rw[w];simp
  have e1:=((d.keep s).stay (M':=M4) (λf hf=>p f (by have:=d.lat f hf;omega))).weak (m:=M.length) (by have:=a3.1;omega);have e2:=(o.stay (M':=M4) (λf hf=>p f (by have:=o.lat f hf;have:=l.1;omega))).weak (m:=M.length) (by have:=a3.1;have:=l.1;omega);have ap:A8A hv wv:=λf h1 h2=>by have:=d.lt h1;have:=o.lat f h2;omega
  have a1:Grow M M4:=⟨by have:=a3.1;have:=l.1;have:=s.1;omega,λj hj _=>by rw[p j (by omega)];exact((a3.trans l).trans s).2 j hj (by simp)⟩;have a6:=d.lat;have a7:=o.lat;have bd:=d.store;have bb:=l.1;have b9:b+2<=M4.length:=by have:=s.1;omega
  rw[<-w];clear w ab ad ac a5 a2 aa a9 a4 an b0 ax d o;have au:=t.len;simp -dsimp[A0b ay,au];refine A0B hCp ks.length 17 (λT M5=>∃i:Nat,i<=ks.length/\T 1=.ptr b 0/\T 2=.ptr (b+1) 0/\T 15=kv/\T 16=I ks.length/\T 17=I i/\Grow M4 M5/\Arr 27 8 A0a.row M4.length M5 (T 3) (ks.take i)) ?_ ?_
  .refine⟨0,by omega,by simp,by simp,by simp,by simp,by simp,A0c.refl _ _,?_⟩;simp -dsimp;exact .nil
  rintro T M5 ⟨i,i1,t1,t2,y,x,a0,g,hf⟩;generalize am:T 3=ov at*;by_cases hi:i<ks.length;case neg=>
   (have af:¬(i:Int)<ks.length:=by omega);rw[Z0g (by omega)]at hf
   have av:=g.get ay (by simp);have ak:=g.get b5 (by simp);have ao:b<M5.length:=(Z0a.1 av).1;have aw:b+1<M5.length:=(Z0a.1 ak).1;(have az:A0i (some 1) M5 (.ptr b 7) ov=some (M5.set b (.cells 27 [I id.act,I id.item,I id.n,I kind,S lab,hv,wv,ov])):=by rw[A0f av,hf.own.cells,Z0e ⟨hf.own.store,by simp,rfl⟩];rfl);(have b3:(M5.set b (.cells 27 [I id.act,I id.item,I id.n,I kind,S lab,hv,wv,ov]))[b]?=some (.cells 27 [I id.act,I id.item,I id.n,I kind,S lab,hv,wv,ov]):=by simp[ao]);(have b6:(M5.set b (.cells 27 [I id.act,I id.item,I id.n,I kind,S lab,hv,wv,ov]))[b+1]?=some z8:=by rw[Z0c (by omega)];exact ak);simp -dsimp[t1,t2,y,x,a0,af,am,az,A0b b3,A0f b6,A0s,aw];refine⟨hv,wv,ov,⟨rfl,rfl,rfl⟩,?_⟩;(have hs:∀X Y f,f≠b->f≠b+1->((M5.set b X).set (b+1) Y)[f]?=M5[f]?:=λX Y f h1 h2=>by rw[Z0c (by omega),Z0c (by omega)]);refine⟨⟨by have:=a1.1;have:=g.1;simp;omega,λj hj _=>by rw[hs _ _ j (by omega) (by omega)];exact(a1.trans g).2 j hj (by simp)⟩,?_,?_,?_,ap,?_,?_⟩
   .exact(e1.keep g).stay λf h=>hs _ _ f (by have:=a6 f h;omega) (by have:=a6 f h;omega)
   .exact(e2.keep g).stay λf h=>hs _ _ f (by have:=a7 f h;omega) (by have:=a7 f h;omega)
   .have ar:=hf.stay (M':=(M5.set b (.cells 27 [I id.act,I id.item,I id.n,I kind,S lab,hv,wv,ov])).set (b+1) (.cells 27 [I id.act,I id.item,I id.n,I kind,S lab,hv,wv,ov])) (λf h=>hs _ _ f (by have:=hf.lat f h;omega) (by have:=hf.lat f h;omega));exact⟨ar.own,λf h=>by have:=ar.lat f h;have:=a1.1;omega⟩
   .intro f h1 h2;have:=e1.lt h1;have:=hf.lat f h2;omega
   .intro f h1 h2;have:=e2.lt h1;have:=hf.lat f h2;omega
  have af:(i:Int)<ks.length:=by omega
  have w1:=A1H (i:=i) (by omega);have q:ks[i]∈ks:=Z0o hi;have bh:=A4v q;rcases t with rfl|⟨rfl,_⟩;case inr=>simp at hi
  obtain⟨M6,aj⟩:=ex (M5++[A0m.cells 27 ks[i].row]);have ai:Grow M5 M6:=by rw[aj];exact A0c.app none _ _
  have b4:M6[M5.length]?=some (A0m.cells 27 ks[i].row):=by rw[aj];simp
  have:=A0a.kid_lt (u:=.mk id kind lab hd ws ks) q;have z:=A0e.dataX ((B6v ks[i] (.list 8 (A0p ks[i].kids) .no) M6 (.inl rfl) (ae _ q) (ag _ q) (by omega)).mono λv M' ⟨hv,wv,kw,e,h⟩=>by subst e;exact h.still);rw[show A6R ks[i] (.list 8 (A0p ks[i].kids) .no)=ks[i].row from(ks[i].row_eq).symm]at z;have ah:=hf.keep ai;simp -dsimp[t1,t2,y,x,a0,hi,af,A0k,A0i,A0d,AV.storable,AV.cells];rw[<-aj];simp -dsimp[t1,t2,y,x,a0,A0b b4];refine A0h func89 z ?_;simp -dsimp[t1,t2,y,x,a0,am,A0l,A0M,AV.storable,AV.cells];refine A3B (C:=WC gl) (enc:=A0a.row) (e:=27) (sz:=8) (news:=[ks[i]]) A7G B2i B1T A0a.row_len ah.own (by simp[A0D]) (by simp;omega) rfl ?_;intro v' M7 q1 q2 q3 _;simp -dsimp[t1,t2,y,x,a0,w1];refine⟨⟨i+1,by clear w1;omega,rfl,ah.grow (g.trans ai) q2,?_⟩,by clear w1;omega⟩;rw[Z0A hi];exact⟨q1,ah.later (g.trans ai).1 q3⟩
termination_by u=>SizeOf.sizeOf u
end
def hSt:A2u:=⟨λd=>d !=1,λ_=>false,λ_=>false⟩
@[simp] def E5q:hSt.imm=λd=>d !=1:=(rfl)
@[simp] def E5r:hSt.vec=λ_=>false:=(rfl)
def D1j:A1f prog 256=some 24:=by kernel_rfl
attribute [simp] underlying256 D1j
def D3P{n m}{M}{hv wv}{a b}(h:A4i 152 4 A0Q.row n M hv a)(w:A4i 152 4 A0Q.row m M wv b):A0l prog 256 2 [(0,hv),(1,wv)]=some (.list 1 [[hv],[wv]] .full):=by rcases h with⟨rfl,_⟩|⟨⟨rfl,_⟩|⟨f,g,hist,rfl,_,_⟩,_⟩<;>rcases w with⟨rfl,_⟩|⟨⟨rfl,_⟩|⟨f2,g2,c,rfl,_,_⟩,_⟩<;>simp[A0l,D1j,A0M]
def C5U:A0x prog 150 []=some (.agg [I 0,I 0,I 0]):=by simp[A0x,A1b]
def D1N{n}{M}{v}{l}(h:Arr 152 4 A0Q.row n M v l){i}(hi:i<l.length)(hb:B1C l[i]):∃f g M',v=.vref f g 4 0 l.length/\A0i (some 3) M (.vptr f g (i*4+1)) (.agg [I 0,I 0,I 0])=some M'/\Arr 152 4 A0Q.row n M' v l/\M'.length=M.length/\∀j,j≠f->M'[j]?=M[j]?:=by
 obtain⟨h1,h2⟩:=h
 rcases h1 with⟨rfl,rfl⟩|⟨f,g,a,rfl,hm,hl⟩
 .simp at hi
 have b:f<M.length:=(Z0a.1 hm).1
 have c:A0d (l.flatMap A0Q.row) (i*4+1) [I 0,I 0,I 0]=l.flatMap A0Q.row:=by refine D0t ?_;rw[<-Z2c,A7Z (enc:=A0Q.row) (sz:=4) (λ_=>rfl),Z0j hi,Z0Y,C2e hb];rfl
 refine⟨f,g,M.set f (.vec 152 4 (l.flatMap A0Q.row) g (A0Y 4 g (i*4+1) a)),rfl,?_,⟨.inr ⟨f,g,A0Y 4 g (i*4+1) a,rfl,by simp[b],?_⟩,h2⟩,by simp,λj hj=>Z0c (by omega)⟩
 .simp only[A0i,hm,hl];rw[Z0e (by simp;omega)];simp only[AV.cells];rw[c]
 .unfold A0Y;exact A2v _ hl
def D2n{n}{M}{v}{l}(h:Arr 27 8 A0a.row n M v l){i}(hi:i<l.length):∃f g M',v=.vref f g 8 0 l.length/\A1y prog 27 M (.vptr f g (i*8))=some (.agg l[i].row)/\A0i (some 8) M (.vptr f g (i*8)) (.agg l[i].row)=some M'/\Arr 27 8 A0a.row n M' v l/\M'.length=M.length/\∀j,j≠f->M'[j]?=M[j]?:=by
 obtain⟨h1,h2⟩:=h
 have c:=h1.at_ (P:=prog) (t:=27) A0a.row_len D4y D7G hi
 rcases h1 with⟨rfl,rfl⟩|⟨f,g,a,rfl,hm,hl⟩
 .simp at hi
 have b:f<M.length:=(Z0a.1 hm).1
 have d:A0d (l.flatMap A0a.row) (i*8) l[i].row=l.flatMap A0a.row:=by refine D0t ?_;rw[A7Z A0a.row_len,Z0j hi,Z0Y,A0a.row_len,Z1T (by simp)];simp
 refine⟨f,g,M.set f (.vec 27 8 (l.flatMap A0a.row) g (A0Y 8 g (i*8) a)),rfl,?_,?_,⟨.inr ⟨f,g,A0Y 8 g (i*8) a,rfl,by simp[b],?_⟩,h2⟩,by simp,λj hj=>Z0c (by omega)⟩
 .obtain⟨p,e1,_,e2,_⟩:=c;simp[hi]at e1;rw[<-e1]at e2;exact e2
 .simp only[A0i,hm,hl];rw[Z0e (by simp[AV.storable,AV.cells];omega)];simp only[AV.cells];rw[d]
 .unfold A0Y;exact A2v _ hl
section
variable (gl:Nat->AV)
set_option maxHeartbeats 1000000 in
def B9B:∀(u:A0a) (kv:AV) (M:Mem),C0H u.kids kv->u.good->u.lims->A0r u<=1000->A3A u->
 A0e (WC gl) 180 [.agg (A6R u kv)] M (λv M'=>v=.agg u.row/\M'=M)
 |.mk id kind lab hd ws ks,kv,M,ad,hg,hlm,hc,hbt=>by
  obtain⟨_,_,c0,_,br,_,bs,bp,al⟩:=(A0a.good_iff _).1 hg;have al:∀k∈ks,k.good:=al;obtain⟨⟨b7,b2,c1,-⟩,ar⟩:=A3R _ hlm;have b7:hd.length<=100000000:=b7;have b2:ws.length<=100000000:=b2;have ar:=A3Y.1 ar;have bz:1+A0A ks<=1000:=by rwa[A0r]at hc
  have bv:=A1Z ks;have ad:C0H ks kv:=ad;obtain⟨aw,be,bc,ay⟩:=(A7i _).1 hbt;have aw:id=idZ:=aw;have be:∀x∈hd,B1C x:=be;have bc:∀x∈ws,B1C x:=bc;have ay:∀k∈ks,A3A k:=ay;subst aw;refine A0e.dataX ?_;have b0:A6R (.mk idZ kind lab hd ws ks) kv=[I 0,I 0,I 0,I kind,S lab,.list 4 (A0g hd) .no,.list 4 (A0g ws) .no,kv]:=rfl;have bh:∀a b c,D5d (.mk idZ kind lab hd ws ks) a b c=[I 0,I 0,I 0,I kind,S lab,a,b,c]:=λ_ _ _=>rfl;rw[b0];refine A0n hSt func180 ?_;obtain⟨b,hb⟩:=ex (M.length);obtain⟨M1,a5⟩:=ex (M++[A0m.cells 27 [I 0,I 0,I 0,I kind,S lab,.list 4 (A0g hd) .no,.list 4 (A0g ws) .no,kv],z8]);have a8:M1[b]?=some (A0m.cells 27 [I 0,I 0,I 0,I kind,S lab,.list 4 (A0g hd) .no,.list 4 (A0g ws) .no,kv]):=by rw[a5,hb];simp
  have b6:M1[b+1]?=some z8:=by rw[a5,hb];simp[Z0W]
  have ba:Grow M M1:=by rw[a5];exact A0c.app none _ _
  have bn:M1.length=b+2:=by rw[a5,hb];simp
  have bw:=ad.store;have bx:=ad.cells;have ag:=B6v gl (.mk idZ kind lab hd ws ks) kv M1 ad hg hlm hc;rw[b0]at ag;simp only[bh]at ag;simp -dsimp[A0k];rw[<-a5,<-hb];clear a5;simp -dsimp[A0b a8];refine A0q func89 ag ?_;rintro _ M2 ⟨hv,wv,kw,rfl,ae,e1,e2,e3,b8,bg,b9⟩;have e1:A4i 152 4 A0Q.row M1.length M2 hv hd:=e1;have e2:A4i 152 4 A0Q.row M1.length M2 wv ws:=e2;have e3:Arr 27 8 A0a.row M1.length M2 kw ks:=e3;have a9:=ae.get a8 (by simp);have b1:=ae.get b6 (by simp);have bd:b<M2.length:=(Z0a.1 a9).1;obtain⟨M3,ab⟩:=ex (M2.set b (.cells 27 [I 0,I 0,I 0,I kind,S lab,hv,wv,kw]));have a4:∀f,f≠b->M3[f]?=M2[f]?:=λf hf=>by rw[ab,Z0c (λe=>hf e.symm)]
  have y:M3[b]?=some (.cells 27 [I 0,I 0,I 0,I kind,S lab,hv,wv,kw]):=by rw[ab];simp[bd]
  have ax:M3[b+1]?=some z8:=by rw[a4 _ (by omega)];exact b1
  have bo:M3.length=M2.length:=by rw[ab];simp
  have f1:=e1.stay (M':=M3) (λf h=>a4 f (by have:=e1.lat f h;omega));have f2:=e2.stay (M':=M3) (λf h=>a4 f (by have:=e2.lat f h;omega));have f3:=e3.stay (M':=M3) (λf h=>a4 f (by have:=e3.lat f h;omega));have a7:M3.set b (.cells 27 [I 0,I 0,I 0,I kind,S lab,hv,wv,kw])=M3:=List.set_eq_of_getElem? y;simp -dsimp[A0f a9];rw[<-ab];have az:=D3P f1 f2;simp -dsimp[D0v,A0f y,a7,A0b y,az];have b4:∀M5,(∀j,j<b->M5[j]?=M3[j]?)->M3.length<=M5.length->Grow M M5:=λM5 h1 h2=>⟨by have:=ba.1;have:=ae.1;omega,λj hj _=>by rw[h1 j (by omega),a4 j (by omega)];exact(ba.trans ae).2 j hj (by simp)⟩;have bq:b+2<=M3.length:=by have:=ae.1;omega
  clear az a7 ab a4 a9 b1 ag a8 b6;refine A4B (.exit 0) (λT M5=>T 1=.ptr b 0/\T 2=.ptr (b+1) 0/\M5[b]?=some (.cells 27 [I 0,I 0,I 0,I kind,S lab,hv,wv,kw])/\M5[b+1]?=some z8/\M5.length=M3.length/\(∀j,j<b->M5[j]?=M3[j]?)/\A4i 152 4 A0Q.row M1.length M5 hv hd/\A4i 152 4 A0Q.row M1.length M5 wv ws/\Arr 27 8 A0a.row M1.length M5 kw ks) ?_ ?_
  .refine A0B hSt 2 17 (λT M5=>∃k:Nat,k<=2/\T 1=.ptr b 0/\T 2=.ptr (b+1) 0/\T 15=.list 1 [[hv],[wv]] .full/\T 16=I 2/\T 17=I k/\M5[b]?=some (.cells 27 [I 0,I 0,I 0,I kind,S lab,hv,wv,kw])/\M5[b+1]?=some z8/\M5.length=M3.length/\(∀j,j<b->M5[j]?=M3[j]?)/\A4i 152 4 A0Q.row M1.length M5 hv hd/\A4i 152 4 A0Q.row M1.length M5 wv ws/\Arr 27 8 A0a.row M1.length M5 kw ks) ?_ ?_
   .exact⟨0,by omega,by simp,by simp,by simp,by simp,by simp,y,ax,rfl,λ_ _=>rfl,f1,f2,f3⟩
   clear y ax f1 f2 f3;rintro T M5 ⟨k,k1,t1,t2,w,s,r,d,l,o,n,f1,f2,f3⟩;by_cases hk:k<2;case neg=>
    (have am:¬(k:Int)<2:=by omega);simp -dsimp[t1,t2,w,s,r,am]
    exact⟨d,l,o,n,f1,f2,f3⟩
   (have am:(k:Int)<2:=by omega);have w1:=A1H (i:=k) (by omega)
   obtain⟨xv,ai⟩:=ex (if k=0 then hv else wv);obtain⟨xs,ac⟩:=ex (if k=0 then hd else ws);(have bm:∀x∈xs,B1C x:=by rw[ac];split<;>assumption);(have bu:xs.length<=100000000:=by rw[ac];split<;>assumption);(have af:∀M6:Mem,A4i 152 4 A0Q.row M1.length M6 hv hd->A4i 152 4 A0Q.row M1.length M6 wv ws->A4i 152 4 A0Q.row M1.length M6 xv xs:=λM6 h1 h2=>by rw[ai,ac];by_cases c:k=0<;>simp only[c,Z0T,Z1i]<;>assumption);have aq:∀(M6 M7:Mem) (f:Nat),obj xv=some f->A4i 152 4 A0Q.row M1.length M7 xv xs->(∀j,j≠f->M7[j]?=M6[j]?)->A4i 152 4 A0Q.row M1.length M6 hv hd->A4i 152 4 A0Q.row M1.length M6 wv ws->Arr 27 8 A0a.row M1.length M6 kw ks->A4i 152 4 A0Q.row M1.length M7 hv hd/\A4i 152 4 A0Q.row M1.length M7 wv ws/\Arr 27 8 A0a.row M1.length M7 kw ks:=λM6 M7 f hf hx hj g1 g2 g3=>by
    by_cases c:k=0
    .rw[ai,Z0e c]at hf hx;rw[ac,Z0e c]at hx;exact⟨hx,g2.stay λq hq=>hj q λe=>b8 f hf (e▸hq),g3.stay λq hq=>hj q λe=>bg f hf (e▸hq)⟩
    .rw[ai,Z0d c]at hf hx;rw[ac,Z0d c]at hx;exact⟨g1.stay λq hq=>hj q λe=>b8 f (e▸hq) hf,hx,g3.stay λq hq=>hj q λe=>b9 f hf (e▸hq)⟩
   have a3:([[hv],[wv]]:List (List AV))[k]?=some [xv]:=by rw[ai];(have:k=0\/k=1:=by omega);rcases this with rfl|rfl<;>rfl
   (have a2:([[hv],[wv]]:List (List AV)).getD k []=[xv]:=by rw[Z1O,a3];rfl);have au:=(af M5 f1 f2).len (P:=prog) (t:=24) (e':=152) (by simp)
   simp -dsimp[t1,t2,w,s,r,am,a3,a2,au];refine A4B (.exit 2) (λT M6=>T 1=.ptr b 0/\T 2=.ptr (b+1) 0/\T 15=.list 1 [[hv],[wv]] .full/\T 16=I 2/\T 17=I k/\M6[b]?=some (.cells 27 [I 0,I 0,I 0,I kind,S lab,hv,wv,kw])/\M6[b+1]?=some z8/\M6.length=M3.length/\(∀j,j<b->M6[j]?=M3[j]?)/\A4i 152 4 A0Q.row M1.length M6 hv hd/\A4i 152 4 A0Q.row M1.length M6 wv ws/\Arr 27 8 A0a.row M1.length M6 kw ks) ?_ ?_
   .refine A0B hSt xs.length 23 (λT M6=>∃i:Nat,i<=xs.length/\T 1=.ptr b 0/\T 2=.ptr (b+1) 0/\T 15=.list 1 [[hv],[wv]] .full/\T 16=I 2/\T 17=I k/\T 4=xv/\T 22=I xs.length/\T 23=I i/\M6[b]?=some (.cells 27 [I 0,I 0,I 0,I kind,S lab,hv,wv,kw])/\M6[b+1]?=some z8/\M6.length=M3.length/\(∀j,j<b->M6[j]?=M3[j]?)/\A4i 152 4 A0Q.row M1.length M6 hv hd/\A4i 152 4 A0Q.row M1.length M6 wv ws/\Arr 27 8 A0a.row M1.length M6 kw ks) ?_ ?_
    .exact⟨0,by omega,by simp[t1],by simp[t2],by simp[w],by simp[s],by simp[r],by simp,by simp,by simp,d,l,o,n,f1,f2,f3⟩
    clear d l o n f1 f2 f3 t1 t2 w s r au a3 a2;rintro T M5 ⟨i,i1,t1,t2,w,s,r,t4,b5,bf,d,l,o,n,f1,f2,f3⟩;by_cases hi:i<xs.length;case neg=>
     (have z:¬(i:Int)<xs.length:=by omega);simp -dsimp[t1,t2,w,s,r,t4,b5,bf,z]
     exact⟨d,l,o,n,f1,f2,f3⟩
    (have z:(i:Int)<xs.length:=by omega);have w2:IntKind.i64.wrap ((i:Int)+1)=((i+1:Nat):Int):=by rw[A0L (by omega) (by omega)];omega
    have hx:Arr 152 4 A0Q.row M1.length M5 xv xs:=by
     rcases af M5 f1 f2 with⟨_,h⟩|h
     .rw[h]at hi;simp at hi
     .exact h
    obtain⟨f,g,M6,a1,ap,ao,bj,p⟩:=D1N hx hi (bm _ (Z0o hi));(have a6:obj xv=some f:=by rw[a1];rfl);have bi:=hx.lat f a6;obtain⟨g1,g2,g3⟩:=aq M5 M6 f a6 (.inr ao) p f1 f2 f3;(have an:M6[b]?=some (.cells 27 [I 0,I 0,I 0,I kind,S lab,hv,wv,kw]):=by rw[p b (by omega)];exact d);(have av:M6[b+1]?=some z8:=by rw[p (b+1) (by omega)];exact l);rw[a1]at t4;simp -dsimp[t1,t2,w,s,r,t4,b5,bf,z,hi,C5U,ap,w2];refine⟨⟨i+1,by clear w2;omega,a1.symm,rfl,an,av,by omega,λj hj=>by rw[p j (by omega)];exact n j hj,g1,g2,g3⟩,by clear w2;omega⟩
   have b3:=r;clear d l o n f1 f2 f3 t1 t2 w s r au a3 a2;rintro T M5 ⟨t1,t2,w,s,r,d,l,o,n,f1,f2,f3⟩;simp -dsimp[t1,t2,w,s,r,b3,w1];refine⟨⟨k+1,by clear w1;omega,rfl,d,l,o,n,f1,f2,f3⟩,by clear w1;omega⟩
  clear y ax f1 f2 f3;rintro T M5 ⟨t1,t2,d,l,o,n,f1,f2,f3⟩;have ak:=f3.own.len (P:=prog) (t:=25) (e:=27) underlying25;simp -dsimp[t1,t2,A0b d,ak];refine A0B hSt ks.length 36 (λT M6=>∃i:Nat,i<=ks.length/\T 1=.ptr b 0/\T 2=.ptr (b+1) 0/\T 35=I ks.length/\T 36=I i/\M6[b]?=some (.cells 27 [I 0,I 0,I 0,I kind,S lab,hv,wv,kw])/\M6[b+1]?=some z8/\M3.length<=M6.length/\(∀j,j<b->M6[j]?=M3[j]?)/\A4i 152 4 A0Q.row M1.length M6 hv hd/\A4i 152 4 A0Q.row M1.length M6 wv ws/\Arr 27 8 A0a.row M1.length M6 kw ks) ?_ ?_
  .exact⟨0,by omega,by simp[t1],by simp[t2],by simp,rfl,d,l,by omega,n,f1,f2,f3⟩
  clear d l o n f1 f2 f3 t1 t2 ak;rintro T M5 ⟨i,i1,t1,t2,ah,aj,d,l,o,n,f1,f2,f3⟩;by_cases hi:i<ks.length;case neg=>
   (have z:¬(i:Int)<ks.length:=by omega);have bb:b+1<M5.length:=(Z0a.1 l).1
   (have hs:∀X f,f≠b+1->(M5.set (b+1) X)[f]?=M5[f]?:=λX f h1=>by rw[Z0c (by omega)]);simp -dsimp[t1,t2,ah,aj,z,A0b d,A0f l,A0s,bb]
   refine⟨b4 _ (λj hj=>by rw[hs _ j (by omega)];exact n j hj) (by simpa using o),?_⟩;rw[A0a.row_eq,A3t];have l1:=f1.lat;have l2:=f2.lat;have l3:=f3.lat;have g1:=(f1.stay (M':=M5.set (b+1) (.cells 27 [I 0,I 0,I 0,I kind,S lab,hv,wv,kw])) (λf h=>hs _ f (by have:=l1 f h;omega))).weak (m:=b) (by omega);have g2:=(f2.stay (M':=M5.set (b+1) (.cells 27 [I 0,I 0,I 0,I kind,S lab,hv,wv,kw])) (λf h=>hs _ f (by have:=l2 f h;omega))).weak (m:=b) (by omega);have g3:=f3.stay (M':=M5.set (b+1) (.cells 27 [I 0,I 0,I 0,I kind,S lab,hv,wv,kw])) (λf h=>hs _ f (by have:=l3 f h;omega));exact .agg (.same trivial (.same trivial (.same trivial (.same trivial (.same trivial (g1.still (λ_=>rfl) A6Q (g2.still (λ_=>rfl) A6Q (A2V A0a.row_len A3d g3.own (λf h=>by have:=l3 f h;omega))))))))) .nil
  have z:(i:Int)<ks.length:=by omega
  have w1:=A1H (i:=i) (by omega);have a0:ks[i]∈ks:=Z0o hi;have bt:=A4v a0;have:=A0a.kid_lt (u:=.mk idZ kind lab hd ws ks) a0;have aa:=λM=>B9B ks[i] (.list 8 (A0p ks[i].kids) .no) M (.inl rfl) (al _ a0) (ar _ a0) (by omega) (ay _ a0);rw[show A6R ks[i] (.list 8 (A0p ks[i].kids) .no)=ks[i].row from(ks[i].row_eq).symm]at aa;obtain⟨f,g,M6,a1,bk,ap,ao,bj,p⟩:=D2n f3 hi;have a6:obj kw=some f:=by rw[a1];rfl
  have bi:=f3.lat f a6;simp -dsimp[t1,t2,ah,aj,z];refine B4A hSt (A0u gl) (λk=>if k=1\/k=4\/k=7 then 1 else if k=10 then 2 else 0) (λk=>if k=7 then f else b) (λi k=>i==7&&k==10) (λk=>if k=10 then[b]else[b,f]) (by intro i k _ h;by_cases h7:i=7<;>by_cases h10:k=10<;>simp[h7,h10]at h|-) (by rfl) (by kernel_rfl) ?_;rw[a1]at d;simp -dsimp[t1,t2,ah,aj,A0b d,A0F,A2Y,bk];refine⟨hi,A1p func180 aa ?_⟩;simp -dsimp[t1,t2,ah,aj,z,hi,ap,w1];have an:M6[b]?=some (.cells 27 [I 0,I 0,I 0,I kind,S lab,hv,wv,kw]):=by rw[p b (by omega),a1];exact d
  have av:M6[b+1]?=some z8:=by rw[p (b+1) (by omega)];exact l
  exact⟨p b (by omega),⟨i+1,by clear w1;omega,by simp,an,av,by omega,λj hj=>by rw[p j (by omega)];exact n j hj,f1.stay λq hq=>p q λe=>bg q hq (e▸a6),f2.stay λq hq=>p q λe=>b9 q hq (e▸a6),ao⟩,by clear w1;omega⟩
termination_by u=>SizeOf.sizeOf u
end
mutual
def A2a(x:IdD):A0a->List A0a
 |.mk id k l h w ks=>if id=x then[.mk id k l h w ks]else match A3I x ks with
  |[]=>[]
  |r::rs=>.mk id k l h w ks::r::rs
def A3I(x:IdD):List A0a->List A0a
 |[]=>[]
 |k::ks=>match A2a x k with
  |[]=>A3I x ks
  |r::rs=>r::rs
end
def A5q:List A0a->AV
 |[]=>A0G
 |u::r=>.list 8 (A0p (u::r)) .no
mutual
def A6Y(x:IdD):∀u:A0a,(A2a x u).length<=A0r u
 |.mk id k l h w ks=>by
  have:=B8M x ks;rw[A2a,A0r];split
  .simp
  .split
   .simp
   .rename_i r rs e;rw[e]at this;simp at this|-;omega
def B8M(x:IdD):∀ks:List A0a,(A3I x ks).length<=A0A ks
 |[]=>by rw[A3I];simp
 |k::ks=>by
  have h1:=A6Y x k;have h2:=B8M x ks;rw[A3I,A0A];split
  .omega
  .rename_i r rs e;rw[e]at h1;omega
end
mutual
def A6f(x:IdD):∀u:A0a,A0E x u=(A2a x u).getLast?
 |.mk id k l h w ks=>by
  have:=B6M x ks;rw[A2a,A0E];split
  .rfl
  .rw[this];cases A3I x ks with
   |nil=>rfl
   |cons r rs=>simp
def B6M(x:IdD):∀ks:List A0a,A9X x ks=(A3I x ks).getLast?
 |[]=>by rw[A3I,A9X];rfl
 |k::ks=>by
  have h1:=A6f x k;have h2:=B6M x ks;rw[A3I,A9X,h1,h2];cases A2a x k with
  |nil=>rfl
  |cons r rs=>
   cases h:(r::rs).getLast? with
   |none=>simp at h
   |some v=>simp[h]
end
def B6U{x:IdD}{u:A0a}(h:A2a x u≠[]):A5q (A2a x u)=.list 8 (A0p (A2a x u)) .no:=by
 cases e:A2a x u with
 |nil=>exact absurd e h
 |cons r rs=>rfl
def B2M(n:Nat)(l:List A0a):bdd n (.list 8 (A0p l) .no):=by simp only[bdd,Z1D];exact B5U n l
def B0E(l:List A0a):(A0p l).flatten=l.flatMap A0a.row:=by rw[A3t];simp[List.flatMap]
def B2f{M:Mem}{n:Nat}{v:AV}{l:List A0a}(h:A1g 27 8 A0a.row M v l)(hn:A1m n v):Still M n (bdd n) [v] [.list 8 (A0p l) .no]:=by rw[A3t];exact A2V A0a.row_len A3d h hn
section
variable (gl:Nat->AV)
def B0l:∀(u:A0a) (x:IdD) (M:Mem),u.good->A0r u<=1000->A0e (WC gl) 88 [.agg u.row,.agg x.row] M (λv M'=>v=A5q (A2a x u)/\M'=M)
 |.mk id kind lab hd ws ks,x,M,hg,hc=>by
  obtain⟨_,_,a3,_,a1,_,a4,z,o⟩:=(A0a.good_iff _).1 hg;have o:∀k∈ks,k.good:=o;have a2:1+A0A ks<=1000:=by rwa[A0r]at hc
  have a0:=A1Z ks;obtain⟨u,hu⟩:=ex (A0a.mk id kind lab hd ws ks);have g:(A0a.mk id kind lab hd ws ks).row=[I id.act,I id.item,I id.n,I kind,S lab,.list 4 (A0g hd) .no,.list 4 (A0g ws) .no,.list 8 (A0p ks) .no]:=by rw[A0a.row]
  have hx:x.row=[I x.act,I x.item,I x.n]:=rfl;have he:=B4S id x;refine A0e.dataX ?_;rw[g,hx];refine A0n (hQ [27,29]) func88 ?_;by_cases h0:id=x
  .rw[Z0w h0]at he;(have hr:A2a x (.mk id kind lab hd ws ks)=[.mk id kind lab hd ws ks]:=by rw[A2a,Z0e h0]);rw[hr];simp -dsimp[he,A0l,A0M,AV.storable,AV.cells];refine⟨Grow.refl _,?_⟩;have hb:=B2M M.length [.mk id kind lab hd ws ks];simp only[A5q];rw[A0p,A0p,g]at hb|-;exact .dis hb .nil
  rw[Z0r h0]at he;have hr:A2a x (.mk id kind lab hd ws ks)=match A3I x ks with
   |[]=>[]
   |r::rs=>.mk id kind lab hd ws ks::r::rs:=by rw[A2a,Z0d h0]
  rw[hr];generalize hR:A3I x ks=R;simp -dsimp[he];refine A0B (hQ [27,29]) ks.length 17 (λT M1=>∃i:Nat,Grow M M1/\i<=ks.length/\T 2=.cptr [I id.act,I id.item,I id.n,I kind,S lab,.list 4 (A0g hd) .no,.list 4 (A0g ws) .no,.list 8 (A0p ks) .no]/\T 3=.cptr [I x.act,I x.item,I x.n]/\T 15=.list 8 (A0p ks) .no/\T 16=I ks.length/\T 17=I i/\R=A3I x (ks.drop i)) ?_ ?_
  .exact⟨0,Grow.refl _,by omega,by simp,by simp,by simp,by simp,by simp,by simp[hR]⟩
  rintro T M1 ⟨i,j,i1,t2,t3,c,a,b,ho⟩;by_cases hi:i<ks.length;case neg=>
   (have p:¬(i:Int)<ks.length:=by omega);rw[show ks.drop i=[]from Z0v (by omega),A3I]at ho
   subst ho;simp -dsimp[t2,t3,c,a,b,p];exact⟨j,.same trivial .nil⟩
  have p:(i:Int)<ks.length:=by omega
  have w1:=A1H (i:=i) (by omega);have d:ks[i]∈ks:=Z0o hi;have a5:=A4v d;rw[Z0j hi,A3I]at ho;obtain⟨M2,q⟩:=ex (M1++[A0m.cells 27 ks[i].row]);have m:Grow M1 M2:=by rw[q];exact A0c.app none _ _
  have t:M2[M1.length]?=some (A0m.cells 27 ks[i].row):=by rw[q];simp
  have:=A0a.kid_lt (u:=.mk id kind lab hd ws ks) d;have h:=B0l ks[i] x M2 (o _ d) (by omega);have l:=A6Y x ks[i];rw[hx]at h;simp -dsimp[t2,t3,c,a,b,hi,p,A0k,A0i,A0d,AV.storable,AV.cells];rw[<-q];simp -dsimp[t2,t3,c,a,b,A0b t];refine A0h func88 h ?_;cases hw:A2a x ks[i]with
  |nil=>rw[hw]at ho;simp -dsimp[t2,t3,c,a,b,w1,A5q];exact⟨⟨j.trans m,i+1,by clear w1;omega,rfl,ho⟩,by clear w1;omega⟩
  |cons r rs=>rw[hw]at ho l;subst ho;(have w:A2m prog 25 1 [(0,.agg [I id.act,I id.item,I id.n,I kind,S lab,.list 4 (A0g hd) .no,.list 4 (A0g ws) .no,.list 8 (A0p ks) .no])] M2=some (.vref M2.length 0 8 0 1,M2++[.vec 27 8 [I id.act,I id.item,I id.n,I kind,S lab,.list 4 (A0g hd) .no,.list 4 (A0g ws) .no,.list 8 (A0p ks) .no] 0 [(0,1)]]):=by simp[A2m,A0M,AV.storable,AV.cells]);(have s:A0p (r::rs)=r.row::A0p rs:=by rw[A0p]);simp -dsimp[t2,t3,c,a,b,A5q,s,w];rw[<-s,<-g];have y:A1g 27 8 A0a.row (M2++[.vec 27 8 (A0a.mk id kind lab hd ws ks).row 0 [(0,1)]]) (.vref M2.length 0 8 0 1) [.mk id kind lab hd ws ks]:=.inr ⟨M2.length,0,[(0,1)],rfl,by simp,by simp[List.lookup]⟩;refine A3B (C:=WC gl) (enc:=A0a.row) (e:=27) (sz:=8) (news:=r::rs) A7G B2i B1T A0a.row_len y (by simp only[A0D,B0E,B2U];simp) (by simp at l|-;omega) rfl ?_;intro v' M3 q1 q2 q3 _;obtain⟨r1,r2⟩:=A2T (X:=[]) ((j.trans m).trans (A0c.app none _ [.vec 27 8 (A0a.mk id kind lab hd ws ks).row 0 [(0,1)]])) (v:=.vref M2.length 0 8 0 1) (λf hf=>by simp at hf;have:=(j.trans m).1;omega) (by simpa using q2) (by simpa using q3);simp -dsimp;exact⟨r1,B2f q1 r2⟩
termination_by u=>SizeOf.sizeOf u
end
section
def A3F(l:List A0a)(i:Nat)(h:i<l.length):(A0p l)[i]?=some (l[i]).row:=by rw[A3t];simp[h]
def C3O{x:IdD}{u v:A0a}(h:(A2a x u).getLast?=some v):v.id=x/\v∈A2R u:=by rw[<-A6f]at h;rw[B0a]at h;exact⟨by have:=Z4h h;simpa using this,Z2A h⟩
mutual
def A7V:∀u:A0a,Fit u->∀v∈A2R u,Fit v
 |.mk a b c d e ks,h,v,hv=>by
  rw[A2R]at hv;rcases Z0s.1 hv with rfl|hv
  .exact h
  .refine C5M ks (λk hm=>?_) v hv;have h1:=((A0a.good_iff _).1 h.1).2.2.2.2.2.2.2.2;have h2:=A3Y.1 (A3R _ h.2.1).2;have h3:=h.2.2;have h4:=A4v hm;rw[A0r]at h3;exact⟨h1 k hm,h2 k hm,by omega⟩
def C5M:∀ks:List A0a,(∀k∈ks,Fit k)->∀v∈A4s ks,Fit v
 |[],_,v,hv=>by rw[A4s]at hv;simp at hv
 |k::ks,h,v,hv=>by
  rw[A4s]at hv;rcases Z0S.1 hv with hv|hv
  .exact A7V k (h k (by simp)) v hv
  .exact C5M ks (λq hq=>h q (by simp[hq])) v hv
end
section
variable (gl:Nat->AV)
def A7p(u:A0a)(x:IdD)(M:Mem)(hf:Fit u):A0e (WC gl) 32 [.agg u.row,.agg x.row] M (λv M'=>v=.tuple [.agg (A1z (A0E x u)),B (A0E x u).isSome]/\M'=M):=by
 refine A0e.dataX ?_;have hx:x.row=[I x.act,I x.item,I x.n]:=rfl;obtain⟨Ma,c⟩:=ex (M++[z8]);have q:Grow M Ma:=by rw[c];exact A0c.app none _ _
 have d:Ma[M.length]?=some z8:=by rw[c];simp
 have b:=B0l gl u x Ma hf.1 hf.2.2;have o:=A6Y x u;have a5:=hf.2.2;have a2:=A6f x u;rw[u.row_eq,hx]at b|-;rw[a2];refine A0n hB func32 ?_;simp -dsimp[A0k];rw[<-c];refine A0h func88 b ?_;generalize hr:A2a x u=r at*;rcases Z3g r with rfl|⟨rs,w,rfl⟩
 .have t:M.length<Ma.length:=(Z0a.1 d).1;simp -dsimp[A5q,A0f d,A0y,A0v,A0s t,A0j];exact⟨A0V q (Z0n _),.tuple (.same (B5Y _ none) (.same trivial .nil)) .nil⟩
 .rw[Z4u]at*;have hw:=C3O (x:=x) (u:=u) (v:=w) (by rw[hr];simp);have g:=A7V u hf w hw.2;have z:A5q (rs++[w])=.list 8 (A0p (rs++[w])) .no:=by rw[<-hr];exact B6U (by rw[hr];simp)
  have hi:rs.length<(rs++[w]).length:=by simp
  have a0:(A0p (rs++[w]))[rs.length]?=some w.row:=by rw[A3F _ _ hi];simp
  have w1:IntKind.i64.wrap (rs.length:Int)=rs.length:=by rw[A0L (by omega) (by simp at o;omega)]
  have y:¬(rs.length:Int)+1=0:=by omega
  have l:(rs.length:Int)<rs.length+1:=by omega
  have i:=B6v gl w (.list 8 (A0p w.kids) .no) Ma (.inl rfl) g.1 g.2.1 g.2.2;rw[show A6R w (.list 8 (A0p w.kids) .no)=w.row from(w.row_eq).symm]at i;rw[z];simp -dsimp[y,w1,a0,l];refine A0q func89 i ?_;rintro _ M2 ⟨hv,wv,kw,rfl,a⟩;obtain⟨p,a4⟩:=a.still;have j:=p.get d (by simp);have s:M.length<M2.length:=(Z0a.1 j).1;simp -dsimp[A0f j,A0y,A0v,A0s s,A0j];have a3:Ma.length=M.length+1:=by rw[c];simp
  obtain⟨M3,e⟩:=ex (M2.set M.length (A0m.cells 27 (D5d w hv wv kw)));have hs:∀f,f≠M.length->M3[f]?=M2[f]?:=λf h1=>by rw[e,Z0c (by omega)]
  have l1:=a.h.lat;have l2:=a.w.lat;have l3:=a.k.lat;have g1:=(a.h.stay (M':=M3) (λf h=>hs f (by have:=l1 f h;omega))).weak (m:=M.length) (by omega);have g2:=(a.w.stay (M':=M3) (λf h=>hs f (by have:=l2 f h;omega))).weak (m:=M.length) (by omega);have g3:=a.k.stay (M':=M3) (λf h=>hs f (by have:=l3 f h;omega));have a1:Grow M M3:=by rw[e];exact A0V (q.trans p) (Z0n _)
  rw[<-e];refine⟨a1,.tuple ?_ .nil⟩;rw[A1z,w.row_eq,A3t];exact .agg (.same trivial (.same trivial (.same trivial (.same trivial (.same trivial (g1.still (λ_=>rfl) A6Q (g2.still (λ_=>rfl) A6Q (A2V A0a.row_len A3d g3.own (λf h=>by have:=l3 f h;omega))))))))) (.same trivial .nil)
def B7K(p:A0a->Bool)(g:FuncId)(cap:List AV)(l:List A0a)(o:Own)(M:Mem)(hl:l.length<=1000)(hp:∀u∈l,A4r (WC gl) g (.agg u.row::cap) M (λv M'=>v=B (p u)/\M'=M)):
 A0e (WC gl) 90 [.list 8 (A0p l) o,.func (.func g) [] cap] M (λv M'=>v=I (A3i p l 0)/\M'=M):=by
 refine A0n hB func90 ?_
 simp -dsimp
 refine A0B hB l.length 8 (λT M1=>∃i:Nat,i<=l.length/\M1=M/\T 0=.list 8 (A0p l) o/\T 1=.func (.func g) [] cap/\T 7=I l.length/\T 8=I i/\A3i p l 0=A3i p (l.drop i) i) ?_ ?_
 .exact⟨0,by omega,rfl,by simp,by simp,by simp,by simp,by simp⟩
 .rintro T M1 ⟨i,i1,rfl,t0,t1,t7,t8,ho⟩;by_cases hi:i<l.length
  ·(have a:(i:Int)<l.length:=by omega);have w1:=A1H (i:=i) (by omega)
   have hd:l.drop i=l[i]::l.drop (i+1):=Z0j hi;rw[hd,A3i]at ho;have b:=A3F l i hi;simp -dsimp[t0,t1,t7,t8,hi,a,b];refine A1W (hp l[i] (Z0o hi)) ?_;rintro _ _ ⟨rfl,rfl⟩;cases hq:p l[i]
   .rw[hq,Z0d (by simp)]at ho;simp -dsimp[t0,t1,t7,t8,w1];exact⟨⟨i+1,by clear w1;omega,rfl,ho⟩,by clear w1;omega⟩
   .rw[hq,Z0e rfl]at ho;simp -dsimp[t0,t1,t7,t8,ho]
  ·(have a:¬(i:Int)<l.length:=by omega);rw[show l.drop i=[]from Z0v (by omega)]at ho
   simp -dsimp[t0,t1,t7,t8,a,ho,A3i]
def D8v(p:A0a->Bool)(g:FuncId)(cap:List AV)(l:List A0a)(o:Own)(M:Mem)(hl:l.length<=1000)(hp:∀u∈l,A4r (WC gl) g (.agg u.row::cap) M (λv M'=>v=B (p u)/\M'=M)):
 A0e (WC gl) 354 [.list 8 (A0p l) o,.func (.func g) [] cap] M (λv M'=>v=B (l.any p)/\M'=M):=by
 refine A0n hB func354 ?_
 simp -dsimp
 refine A0h func90 (B7K gl p g cap l o M hl hp) ?_
 rw[<-A8x _ l 0]
 simp -dsimp
def D8l(u:A0a)(x:IdD)(M:Mem)(hf:Fit u):A0e (WC gl) 91 [.agg u.row,.cptr [I x.act,I x.item,I x.n]] M (λv M'=>v=B (A0E x u).isSome/\M'=M):=by
 have a:=B0l gl u x M hf.1 hf.2.2;have hx:x.row=[I x.act,I x.item,I x.n]:=rfl;have c:=A6f x u;rw[u.row_eq,hx]at a;rw[u.row_eq,c];refine A0n hB func91 ?_;simp -dsimp;refine A0h func88 a ?_;cases hr:A2a x u with
 |nil=>simp -dsimp[A5q]
 |cons r rs=>
  have b:A0p (r::rs)=r.row::A0p rs:=by rw[A0p]
  have hs:((r::rs).getLast?).isSome=true:=by simp
  simp -dsimp[A5q,b,hs]
end
end
section
def D5j{α:Type}(r:List α):r=[]\/(∃w,r=[w])\/∃rs p w,r=rs++[p,w]:=by
 rcases Z3g r with rfl|⟨q,w,rfl⟩
 .exact .inl rfl
 .rcases Z3g q with rfl|⟨rs,p,rfl⟩
  .exact .inr (.inl ⟨w,rfl⟩)
  .exact .inr (.inr ⟨rs,p,w,by simp⟩)
def B7A(x:IdD)(u:A0a):Option A0a:=(A2a x u).dropLast.getLast?
def C9B(x:IdD)(u:A0a):AV:=match B7A x u with
 |none=>.tuple [.agg [I 0,I 0,I 0],I (-1),B false]
 |some p=>.tuple [.agg p.id.row,I (A3i (λk=>(A0E x k).isSome) p.kids 0),B true]
mutual
def A8e(x:IdD):∀u:A0a,∀v∈A2a x u,v∈A2R u
 |.mk id k l h w ks,v,hv=>by
  rw[A2a]at hv;rw[A2R];split at hv
  .simp only[Z0I]at hv;subst hv;simp
  .split at hv
   .simp at hv
   .rename_i r rs e;rcases Z0s.1 hv with rfl|hv
    .simp
    .exact Z1v _ (B9w x ks v (by rw[e];exact hv))
def B9w(x:IdD):∀ks:List A0a,∀v∈A3I x ks,v∈A4s ks
 |[],v,hv=>by rw[A3I]at hv;simp at hv
 |k::ks,v,hv=>by
  rw[A3I]at hv;rw[A4s];split at hv
  .exact Z2z _ (B9w x ks v hv)
  .rename_i r rs e;exact Z1P _ (A8e x k v (by rw[e];exact hv))
end
section
variable (gl:Nat->AV)
def C2Q(u:A0a)(x:IdD)(M:Mem)(hf:Fit u):A0e (WC gl) 34 [.agg u.row,.agg x.row] M (λv M'=>v=C9B x u/\M'=M):=by
 refine A0e.dataX ?_;have hx:x.row=[I x.act,I x.item,I x.n]:=rfl;obtain⟨z3,a2⟩:=ex (A0m.cells 23 [I 0,I 0,I 0]);obtain⟨Ma,j⟩:=ex (M++[z3]);have m:Grow M Ma:=by rw[j];exact A0c.app none _ _
 have h:Ma[M.length]?=some (A0m.cells 23 [I 0,I 0,I 0]):=by rw[j,a2];simp
 have q:M.length<Ma.length:=(Z0a.1 h).1;have g:=B0l gl u x Ma hf.1 hf.2.2;have z:=A6Y x u;have ae:=hf.2.2;have a1:=A8e x u;unfold C9B B7A;rw[u.row_eq,hx]at g|-;refine A0n hB func34 ?_;simp -dsimp[A0k];rw[<-a2,<-j];refine A0h func88 g ?_;generalize hr:A2a x u=r at*;rcases D5j r with rfl|⟨w,rfl⟩|⟨rs,p,w,rfl⟩
 .simp -dsimp[A5q,A0f h,A0y,A0v,A0s q,A0j];exact⟨A0V m (Z0n _),.same (by simp[bdd,A1I]) .nil⟩
 .have a9:A0p [w]=[w.row]:=by rw[A0p,A0p]
  simp -dsimp[A5q,a9,A0f h,A0y,A0v,A0s q,A0j];exact⟨A0V m (Z0n _),.same (by simp[bdd,A1I]) .nil⟩
 .have a5:A5q (rs++[p,w])=.list 8 (A0p (rs++[p,w])) .no:=by rw[<-hr];exact B6U (by rw[hr];simp)
  have hi:rs.length<(rs++[p,w]).length:=by simp
  have aa:(A0p (rs++[p,w]))[rs.length]?=some p.row:=by rw[A3F _ _ hi];simp
  have w1:IntKind.i64.wrap (rs.length:Int)=rs.length:=by rw[A0L (by omega) (by simp at z;omega)]
  have a4:¬(rs.length:Int)+2<2:=by omega
  have y:(rs.length:Int)<rs.length+2:=by omega
  have i:=A7V u hf p (a1 p (by simp));obtain⟨M2,o⟩:=ex (Ma++[A0m.cells 27 p.row]);have a0:Grow Ma M2:=by rw[o];exact A0c.app none _ _
  have l:M2[Ma.length]?=some (A0m.cells 27 p.row):=by rw[o];simp
  have s:=a0.get h (by simp);have a3:M.length<M2.length:=(Z0a.1 s).1;have ab:=A1Z p.kids;have ad:A0A p.kids<A0r p:=by obtain⟨a,b,c,d,e,f⟩:=p;rw[A0r];show A0A f<_;omega
  have ac:=i.2.2;have a7:=((A0a.good_iff _).1 i.1).2.2.2.2.2.2.2.2;have a6:=A3Y.1 (A3R _ i.2.1).2;have t:=B7K gl (λk=>(A0E x k).isSome) 91 [.cptr [I x.act,I x.item,I x.n]] p.kids .no M2 (by omega) (λk hk=>A1a func91 rfl rfl (D8l gl k x M2 ⟨a7 k hk,a6 k hk,by have:=A4v hk;omega⟩));rw[a5];simp -dsimp[a4,w1,aa,y,A0k,A0i,A0d,A0y,A0v];rw[<-o];rw[A0a.row_eq]at l;simp -dsimp[A0b l];refine A0h func90 t ?_;have a8:p.id.row=[I p.id.act,I p.id.item,I p.id.n]:=rfl;simp -dsimp[A0b l,A0f s,A0y,A0v,A0s a3,A0j,a8];exact⟨A0V (m.trans a0) (Z0n _),.same (by simp[bdd,A1I]) .nil⟩
end
end
def kl2(x k:A0a):Bool:=decide (k.kind=x.kind)&&decide (k.label=x.label)
def D9S:IntKind.i64.wrap (-1)=-1:=by decide
def B6l(p x:A0a):Int:=if A4E p.kind x.kind=false then 9 else if p.kids.any (kl2 x)=true then 10 else 0
section
variable (gl:Nat->AV)
def D3n(k x:A0a)(M:Mem):A0e (WC gl) 355 [.agg k.row,.cptr x.row] M (λv M'=>v=B (kl2 x k)/\M'=M):=by
 rw[k.row_eq,x.row_eq];refine A0n hB func355 ?_;by_cases h1:k.kind=x.kind
 .by_cases h2:k.label=x.label
  .simp -dsimp[kl2,h1,h2]
  .have h3:¬x.label=k.label:=λh=>h2 h.symm;simp -dsimp[kl2,h1,h2,h3]
 .have h3:¬x.kind=k.kind:=λh=>h1 h.symm;simp -dsimp[kl2,h1,h3]
def D4A(a:gl 0=A2z)(p x:A0a)(M:Mem)(hp:p.kids.length<=1000):A0e (WC gl) 284 [.agg p.row,.agg x.row] M (λv M'=>v=I (B6l p x)/\M'=M):=by
 have h2:=D8v gl (kl2 x) 355 [.cptr x.row] p.kids .no M hp (λk _=>A1a func355 rfl rfl (D3n gl k x M));rw[x.row_eq]at h2|-;rw[p.row_eq];refine A0n hB func284 ?_;simp -dsimp;refine A0h func152 (A9B gl M a p.kind x.kind) ?_;unfold B6l;cases h:A4E p.kind x.kind
 .simp -dsimp
 .simp -dsimp;refine A0h func354 h2 ?_;cases p.kids.any (kl2 x)<;>simp -dsimp
def E1e(u:A0a)(x:IdD)(M:Mem)(hf:Fit u)(i:u.id=x):A0e (WC gl) 334 [.agg u.row,.agg x.row] M (λv M'=>v=A0G/\M'=M):=by
 have hx:x.row=[I x.act,I x.item,I x.n]:=rfl;have g:=B0l gl u x M hf.1 hf.2.2;have hr:A2a x u=[u]:=by obtain⟨a,b,c,d,e,f⟩:=u;rw[A2a];exact Z0e i
 have h:A0p [u]=[u.row]:=by rw[A0p,A0p]
 rw[hr]at g;rw[u.row_eq,hx]at g|-;refine A0n hB func334 ?_;simp -dsimp;refine A0h func88 g ?_;simp -dsimp[A5q,h];refine A0B hB 0 7 (λT M1=>M1=M/\T 5=A0G/\T 7=I (-1)) ?_ ?_
 .simp[D9S]
 .rintro T M1 ⟨rfl,t5,t7⟩;simp -dsimp[t5,t7]
def D7D(u x:A0a)(M:Mem)(hf:Fit u)(c:Fit x):A0e (WC gl) 285 [.agg u.row,.agg u.id.row,.agg x.row] M (λv M'=>v=B (decide (8<A2i x+1))/\M'=M):=by
 have hx:u.id.row=[I u.id.act,I u.id.item,I u.id.n]:=rfl;have a:=λM=>E1e gl u u.id M hf rfl;have b:=λM=>(B9c gl x M c.1 c.2.2).mono (Q':=λv M'=>v=I (A2i x)/\M'=M) (λv M' h=>by obtain⟨⟨_,rfl,rfl⟩,rfl⟩:=h;exact⟨rfl,rfl⟩);have e:=C0l x;have d:=c.2.2;rw[u.row_eq,hx]at a|-;rw[x.row_eq]at b|-;refine A0n hB func285 ?_;simp -dsimp;refine A0Z hB (A0u gl) (λ_=>0) (λ_=>0) (by rfl) (by kernel_rfl) ?_;simp -dsimp;refine A1p func334 a ?_;simp -dsimp;refine A1p func157 b ?_;have w1:IntKind.i64.wrap (1+(A2i x:Int))=1+A2i x:=by rw[A0L (by omega) (by omega)]
 simp -dsimp[w1];rw[show IntKind.i64.wrap 1=1 by decide,w1];omega
def D7l(p:IdD->Bool)(g:FuncId)(cap:List AV)(l:List IdD)(o:Own)(M:Mem)(hl:l.length<=1000)(hp:∀x∈l,A4r (WC gl) g (.agg x.row::cap) M (λv M'=>v=B (p x)/\M'=M)):
 A0e (WC gl) 123 [.list 3 (A1l l) o,.func (.func g) [] cap] M (λv M'=>v=I (A3i p l 0)/\M'=M):=by
 refine A0n hB func123 ?_
 simp -dsimp
 refine A0B hB l.length 8 (λT M1=>∃i:Nat,i<=l.length/\M1=M/\T 0=.list 3 (A1l l) o/\T 1=.func (.func g) [] cap/\T 7=I l.length/\T 8=I i/\A3i p l 0=A3i p (l.drop i) i) ?_ ?_
 .exact⟨0,by omega,rfl,by simp,by simp,by simp,by simp,by simp⟩
 .rintro T M1 ⟨i,i1,rfl,t0,t1,t7,t8,ho⟩;by_cases hi:i<l.length
  ·(have a:(i:Int)<l.length:=by omega);have w1:=A1H (i:=i) (by omega)
   have hd:l.drop i=l[i]::l.drop (i+1):=Z0j hi;(have b:(A1l l)[i]?=some l[i].row:=by simp[A1l,hi]);rw[hd,A3i]at ho;simp -dsimp[t0,t1,t7,t8,hi,a,b];refine A1W (hp l[i] (Z0o hi)) ?_;rintro _ _ ⟨rfl,rfl⟩;cases hq:p l[i]
   .rw[hq,Z0d (by simp)]at ho;simp -dsimp[t0,t1,t7,t8,w1];exact⟨⟨i+1,by clear w1;omega,rfl,ho⟩,by clear w1;omega⟩
   .rw[hq,Z0e rfl]at ho;simp -dsimp[t0,t1,t7,t8,ho]
  ·(have a:¬(i:Int)<l.length:=by omega);rw[show l.drop i=[]from Z0v (by omega)]at ho
   simp -dsimp[t0,t1,t7,t8,a,ho,A3i]
def D8t(p:IdD->Bool)(g:FuncId)(cap:List AV)(l:List IdD)(o:Own)(M:Mem)(hl:l.length<=1000)(hp:∀x∈l,A4r (WC gl) g (.agg x.row::cap) M (λv M'=>v=B (p x)/\M'=M)):
 A0e (WC gl) 68 [.list 3 (A1l l) o,.func (.func g) [] cap] M (λv M'=>v=B (l.any p)/\M'=M):=by
 refine A0n hB func68 ?_
 simp -dsimp
 refine A0h func123 (D7l gl p g cap l o M hl hp) ?_
 rw[<-A8x _ l 0]
 simp -dsimp
def C5g(l:List IdD)(o:Own)(x:IdD)(M:Mem)(hl:l.length<=1000):A0e (WC gl) 356 [.list 3 (A1l l) o,.agg x.row] M (λv M'=>v=I (A3i (λy:IdD=>decide (y=x)) l 0)/\M'=M):=by
 have hx:x.row=[I x.act,I x.item,I x.n]:=rfl;rw[hx];refine A0n hB func356 ?_;simp -dsimp;refine A0B hB l.length 8 (λT M1=>∃i:Nat,i<=l.length/\M1=M/\T 0=.list 3 (A1l l) o/\T 3=.cptr [I x.act,I x.item,I x.n]/\T 7=I l.length/\T 8=I i/\A3i (λy:IdD=>decide (y=x)) l 0=A3i (λy:IdD=>decide (y=x)) (l.drop i) i) ?_ ?_
 .exact⟨0,by omega,rfl,by simp,by simp,by simp,by simp,by simp⟩
 .rintro T M1 ⟨i,i1,rfl,t0,t3,t7,t8,ho⟩;by_cases hi:i<l.length
  ·(have a:(i:Int)<l.length:=by omega);have w1:=A1H (i:=i) (by omega)
   have hd:l.drop i=l[i]::l.drop (i+1):=Z0j hi;(have b:(A1l l)[i]?=some l[i].row:=by simp[A1l,hi]);have hy:l[i].row=[I l[i].act,I l[i].item,I l[i].n]:=rfl;have he:=B4S x l[i];rw[hd,A3i]at ho;simp -dsimp[t0,t3,t7,t8,hi,a];refine A0Z hB (A0u gl) (λ_=>0) (λ_=>0) (by rfl) (by kernel_rfl) ?_;simp -dsimp[t0,t3,t7,t8,hi,a,b,hy,he];by_cases hq:l[i]=x
   .rw[Z0w hq,Z0e rfl]at ho;simp -dsimp[t0,t3,t7,t8,ho,hq]
   .rw[Z0r hq,Z0d (by simp)]at ho;have c:¬x=l[i]:=λh=>hq h.symm;simp -dsimp[t0,t3,t7,t8,w1,c];exact⟨⟨i+1,by clear w1;omega,rfl,ho⟩,by clear w1;omega⟩
  ·(have a:¬(i:Int)<l.length:=by omega);rw[show l.drop i=[]from Z0v (by omega)]at ho
   simp -dsimp[t0,t3,t7,t8,a,ho,A3i]
def C9L(l:List IdD)(o:Own)(x:IdD)(M:Mem)(hl:l.length<=1000):A0e (WC gl) 287 [.list 3 (A1l l) o,.agg x.row] M (λv M'=>v=B (l.any λy=>decide (y=x))/\M'=M):=by have hx:x.row=[I x.act,I x.item,I x.n]:=rfl;have a:=C5g gl l o x M hl;rw[hx]at a|-;refine A0n hB func287 ?_;simp -dsimp;refine A0h func356 a ?_;rw[<-A8x _ l 0];simp -dsimp
def C8W(l:List IdD)(x:IdD)(b:Nat)(M:Mem)(hl:l.length<=1000)(hb:M[b]?=some (.cells 85 [.list 3 (A1l l) .no])):A0e (WC gl) 286 [.agg x.row,.ptr b 0] M (λv M'=>v=B (l.any λy=>decide (y=x))/\M'=M):=by have hx:x.row=[I x.act,I x.item,I x.n]:=rfl;have a:=C9L gl l .no x M hl;rw[hx]at a|-;refine A0n hB func286 ?_;simp -dsimp[A0b hb];refine A0h func287 a ?_;simp -dsimp
end
end Go.Abs
