/- The texts CaK, CaL, CaO, CaP, CaQ, CaR, CaS, CbU, CbT, CbD, CbE, CbF, CbG0, CbG, CbA0. -/
import Derived.Test.YtmpdkagfplajjaaGreatDoorAG28
import Derived.Test.YtmpdkagfplajjaaGreatDoorAG20
import Derived.Test.YtmpdkagfplajjaaGreatDoorAG22
import Derived.Test.YtmpdkagfplajjaaGreatDoorAG25
set_option linter.all false
set_option maxRecDepth 100000
namespace Go.Abs
open Go.Proofs TryTypes Tryz
def C9K{C}{f}{args}{M}{r}(hb:∀n,bdd n r)(h:A0e C f args M (λv M'=>v=r/\Grow M M')):A0e C f args M (λv M'=>v=r/\M'=M):=by refine h.cut ?_;rintro _ M' ⟨rfl,hg⟩;obtain⟨X,hX⟩:=hg.tail;exact⟨X,hX,hb _,rfl,rfl⟩
def C8W(n:Nat)(p:List A0u):A9W n (A1f p):=by
 induction p with
 |nil=>simp[A1f,A9W]
 |cons s p ih=>simp only[A1f,Z0C,A9W];exact⟨by simp[A0u.row,A2l,bdd],ih⟩
def hL:A2I:=⟨λd=>!(d==20),λ_=>true,λ_=>false⟩
@[simp] def E2w:hL.imm=λd=>!(d==20):=rfl
def A7N(g:Option (Cq×Nat))(a:Nat):List AV:=match g with
 |some ((k,p,to),n)=>[I k,.list 2 (A1f p) .no,S to,I a,I (a+n:Nat)]
 |none=>[I 0,A0Z,S ⟨#[]⟩,I 0,I 0]
@[simp] def C8I(g:Option (Cq×Nat))(a:Nat):(A7N g a).length=5:=by cases g<;>rfl
def C3g(g:Option (Cq×Nat))(a:Nat):∃x y z u,A7N g a=[x,y,z,u,I (if g.isSome then a+B3d g else 0:Nat)]:=by
 match g with
 |none=>exact⟨_,_,_,_,rfl⟩
 |some ((k,p,to),n)=>exact⟨_,_,_,_,rfl⟩
def D1r(g:Option (Cq×Nat))(a n:Nat):A2l n (A7N g a):=by
 match g with
 |none=>simp[A7N,A2l,bdd]
 |some ((k,p,to),m)=>simp only[A7N,A2l,bdd,Z2e,Z2u];exact C8W n p
def C7m{k}{w}{c}{n}(h:A2J k w=some (c,n)):0<n:=by
 have:=B4C w;unfold A2J at h;split at h
 .exact absurd h (by simp)
 .simp only[Z0a,Z0b]at h;omega
def C9G{i}{w}{c}{n}(h:A1W i w=some (c,n)):0<n:=by
 unfold A1W at h;split at h
 .exact C7m h
 .split at h
  .split at h
   .simp only[Z0a,Z0b]at h;omega
   .exact absurd h (by simp)
  .exact absurd h (by simp)
 .split at h
  .split at h
   .cases hb:A2x _ with
    |none=>rw[hb]at h;exact absurd h (by simp)
    |some y=>rw[hb]at h;simp at h;omega
   .exact absurd h (by simp)
  .exact absurd h (by simp)
 .split at h
  .split at h
   .cases hb:A2x _ with
    |none=>rw[hb]at h;exact absurd h (by simp)
    |some y=>rw[hb]at h;simp at h;omega
   .exact absurd h (by simp)
  .exact absurd h (by simp)
 .split at h
  .split at h
   .cases hb:A2J 4 _ with
    |none=>rw[hb]at h;exact absurd h (by simp)
    |some y=>rw[hb]at h;simp at h;omega
   .exact absurd h (by simp)
  .exact absurd h (by simp)
def B2z(w:List ByteArray):∀i,(A4E w i).isSome=true->0<B3d (A4E w i)
 |0,h=>by simp[A4E]at h
 |i+1,h=>by
  rw[A4E]at h|-;cases hf:A1W i w with
  |none=>rw[hf]at h;simp only[A5Y]at h|-;exact B2z w i h
  |some y=>
   obtain⟨c,n⟩:=y;rw[hf]at h;simp only[A5Y]at h|-;by_cases e:B3d (A4E w i)<n
   .rw[Z0d e];simp only[B3d];omega
   .rw[Z0e e]at h|-;exact B2z w i h
def D0o{w}{i}{k}{p}{to}{a a'}(h:A1W i w=if A2D k p to=true then some ((k,p,to),a'-a)else none):A7N (A4E w (i+1)) a=if A2D k p to=true/\(if(A4E w i).isSome then a+B3d (A4E w i)else 0)<a' then[I k,.list 2 (A1f p) .no,S to,I a,I a']else A7N (A4E w i) a:=by
 rw[A4E,h]
 by_cases c:A2D k p to=true
 .rw[Z0d c]at h|-;have hp:=C9G h;have hn:=B2z w i;simp only[A5Y,c,Z2u];cases hb:A4E w i with
  |none=>simp only[Z3O,Z0E,Z0Y];rw[Z0d (show B3d none<a'-a from hp),Z0d (by omega)];simp only[A7N,show a+(a'-a)=a' from by omega]
  |some y=>
   rw[hb]at hn;simp only[Z2N,Z0G];by_cases e:B3d (some y)<a'-a
   .rw[Z0d e,Z0d (by omega)];simp only[A7N,show a+(a'-a)=a' from by omega]
   .rw[Z0e e,Z0e (by omega)]
 .rw[Z0e c];simp[A5Y,c]
section
variable (gl:Nat->AV)
@[simp] def D8r{rows}{o}{x}:A0Q prog 240 [(0,.list 1 rows o),(1,I x)]=some (.agg [.list 1 rows o,I x,B false]):=by
 simp[A0Q,A1G,A2e,A0d,AV.cells,AV.storable]
def C5Q(l:List ByteArray)(o:Own)(hl:l.length<=1000000000)(ao:∀s∈l,s.size<=maxLen)(a:Nat)(M:Mem):A0e (WC gl) 147 [.list 1 (A0F l) o,I a] M (λv M'=>v=.tuple [.agg (A7N (A8P (A5B (l.drop a))) a),B (A8P (A5B (l.drop a))).isSome]/\M'=M):=by
 obtain⟨w,hw⟩:∃w,w=A1c l a false:=⟨_,rfl⟩
 have am:A5B (l.drop a)=w:=by rw[hw];rfl
 rw[am,<-C6n]
 refine C9K (λn=>by simp only[bdd,A2l,Z2e];exact D1r _ _ _) ?_
 refine A0k hL func147 ?_
 simp -dsimp -implicitDefEqProofs[A0o]
 refine A0j func199 (D1k gl _) ?_
 rintro _ M1 ⟨rfl,rfl⟩
 simp -dsimp -implicitDefEqProofs[A0o]
 refine A0s hL 5 13 (λT M1=>∃i:Nat,i<=5/\T 0=.list 1 (A0F l) o/\T 1=I a/\T 4=.ptr M.length 0/\T 6=.ptr (M.length+1) 0/\T 11=.list 1 (B0a.map λg=>[.func (.func g) [] []]) .full/\T 12=I 5/\T 13=I i/\Grow M M1/\M1[M.length]?=some zC/\M1[M.length+1]?=some (.cells 110 (A7N (A4E w i) a))) ?_ ?_
 .refine⟨0,by omega,by simp,by simp,by simp,by simp,by simp,by simp[B0a],by simp,⟨by simp,λi hi _=>?_⟩,?_,?_⟩
  .simp[Z1B,hi]
  .simp[Z1B]
  .simp[Z1B,A4E,A7N]
 rintro T M1 ⟨i,hi,t0,t1,t4,t6,e,d,f,h1,h2,h3⟩
 by_cases c:i<5
 .have c':(i:Int)<5:=by omega
  have af:i<B0a.length:=c;have au:M.length+1<M1.length:=(Z0c.1 h3).1;obtain⟨M2,a5⟩:∃M2,M2=M1++[A0p.cells 240 (A1r l o a false)]:=⟨_,rfl⟩;have ae:Rd M2 M1.length l o a false:=by rw[a5];simp[Rd]
  have m:Grow M1 M2:=by rw[a5];exact A0c.app none _ _
  simp -dsimp -implicitDefEqProofs[t0,t1,t4,t6,e,d,f,c',af,A0o];rw[<-a5];refine A6P (D4s gl l o hl ao M1.length a false M2 ae i af) ?_;rintro v M3 ⟨k,p,to,a',ap,rfl,f1,f2,f3,f4⟩;rw[<-hw]at f4;have q:=D0o f4 (a:=a);have z:Grow M M3:=⟨by have:=h1.1;have:=m.1;have:=f3.1;omega,λj hj _=>by rw[f3.2 j (by have:=h1.1;have:=m.1;omega) (by omega) (by simp),m.2 j (by have:=h1.1;omega) (by simp)];exact h1.2 j hj (by simp)⟩;have a4:M3[M.length]?=some zC:=by rw[f3.2 _ (by have:=m.1;omega) (by omega) (by simp)];exact m.get h2 (by simp)
  have y:M3[M.length+1]?=some (.cells 110 (A7N (A4E w i) a)):=by rw[f3.2 _ (by have:=m.1;omega) (by omega) (by simp)];exact m.get h3 (by simp)
  obtain⟨x,hx⟩:∃x,x=M3.length:=⟨_,rfl⟩;have aw:M.length+1<x:=by have:=(Z0c.1 y).1;omega
  have ar:M1.length<x:=by have:=(Z0c.1 f2).1;omega
  generalize ax:M1.length=r at*;clear a5 ae m f3 h1 h2 h3 f4;obtain⟨M4,a1⟩:∃M4,M4=M3++[A0p.cells 110 [I k,.list 2 (A1f p) .no,S to,I 0,I 0]]:=⟨_,rfl⟩;have aa:M4[x]?=some (A0p.cells 110 [I k,.list 2 (A1f p) .no,S to,I 0,I 0]):=by rw[a1,hx];simp
  have u:Grow M3 M4:=by rw[a1];exact A0c.app none _ _
  have ai:M4[r]?=some (.cells 240 (A1r l o a' ap)):=u.get f2 (by simp);replace a4:=u.get a4 (by simp);replace y:=u.get y (by simp);replace z:=z.trans u;simp -dsimp -implicitDefEqProofs[t0,t1,t4,t6,e,d,f,A0o,A0l,A0d];rw[<-hx,<-a1];clear a1 u;have a8:∀X,(M4.set x X)[r]?=M4[r]?:=λX=>Z0g (by omega);have ah:x<M4.length:=(Z0c.1 aa).1;have ac:∀X,(M4.set x X)[x]?=some X:=λX=>by simp[ah]
  refine A2E hL (A0w gl) (λk=>if k=4 then 1 else if k=6\/k=8 then 2 else 0) (λ_=>r) (λ_=>false) [r] (by intros;simp) (by rfl) (by kernel_rfl) ?_;simp -dsimp -implicitDefEqProofs[t0,t1,t4,t6,e,d,f,A0a ai,A0f aa,A0d,A0y];refine⟨a8 _,?_⟩;simp -dsimp -implicitDefEqProofs[A0f (ac _),A0d,Z3D,a8];obtain⟨M5,t⟩:∃M5,M5=M4.set x (A0p.cells 110 [I k,.list 2 (A1f p) .no,S to,I a,I a']):=⟨_,rfl⟩;have a9:M5[x]?=some (A0p.cells 110 [I k,.list 2 (A1f p) .no,S to,I a,I a']):=by rw[t];exact ac _
  have a0:M5[M.length]?=some zC:=by rw[t,Z0g (by omega)];exact a4
  have a6:M5[M.length+1]?=some (.cells 110 (A7N (A4E w i) a)):=by rw[t,Z0g (by omega)];exact y
  have a3:Grow M M5:=⟨by rw[t];simpa using z.1,λj hj _=>by rw[t,Z0g (by omega)];exact z.2 j hj (by simp)⟩;rw[<-t];clear t a4 y z a8 ac ah aa ai f2;simp -dsimp -implicitDefEqProofs[t0,t1,t4,t6,e,d,f,A0a a9];refine A0j func116 (C9Z gl k p .no to _ _ M5 (by omega)) ?_;rintro _ M6 ⟨rfl,rfl⟩;have a7:IntKind.i64.wrap ((i:Int)+1)=(i+1:Nat):=by rw[A0H (by omega) (by omega)];omega
  have ag:M.length<M6.length:=(Z0c.1 a0).1;have aq:M.length+1<M6.length:=(Z0c.1 a6).1;obtain⟨y1,y2,y3,y4,a2⟩:=C3g (A4E w i) a;generalize av:(if(A4E w i).isSome=true then a+B3d (A4E w i)else 0)=nb at*;cases c2:A2D k p to with
  |false=>rw[c2]at q;simp only[Z0E,Z4g,Z0Y]at q;simp -dsimp -implicitDefEqProofs[t0,t1,t4,t6,e,d,f,a7];exact⟨⟨i+1,by omega,rfl,a3,a0,by rw[q];exact a6⟩,by omega⟩
  |true=>
   rw[c2]at q;have b:=a6;rw[a2]at b;by_cases c3:nb<a'
   ·(have ab:(nb:Int)<a':=by omega);rw[Z0d ⟨rfl,c3⟩]at q
    simp -dsimp -implicitDefEqProofs[t0,t1,t4,t6,e,d,f,A0a a9,A0a b,ab,A0f b,A0d,a7];refine⟨⟨i+1,by omega,rfl,⟨by simpa using a3.1,λj hj _=>?_⟩,?_,?_⟩,by omega⟩
    .rw[Z0g (by omega)];exact a3.2 j hj (by simp)
    .exact a0
    .rw[q];simp[aq]
   ·(have ab:¬(nb:Int)<a':=by omega);rw[Z0e λh=>c3 h.2]at q
    simp -dsimp -implicitDefEqProofs[t0,t1,t4,t6,e,d,f,A0a a9,A0a b,ab,a7];exact⟨⟨i+1,by omega,rfl,a3,a0,by rw[q];exact a6⟩,by omega⟩
 .have c':¬(i:Int)<5:=by omega
  have al:i=5:=by omega
  subst al;have ag:M.length<M1.length:=(Z0c.1 h2).1;simp -dsimp -implicitDefEqProofs[t0,t1,t4,t6,e,d,f,c'];refine A2E hL (A0w gl) (λk=>if k=0\/k=2 then 1 else if k=4 then 2 else 0) (λ_=>M.length+1) (λ_=>false) [M.length+1] (by intros;simp) (by rfl) (by kernel_rfl) ?_;obtain⟨y1,y2,y3,y4,a2⟩:=C3g (A4E w 5) a;have ad:=B2z w 5;have b:=h3;rw[a2]at b;have ak:∀X,(M1.set M.length X)[M.length+1]?=M1[M.length+1]?:=λX=>Z0g (by omega);have an:∀X,Grow M (M1.set M.length X):=λX=>⟨by simpa using h1.1,λj hj _=>by rw[Z0g (by omega)];exact h1.2 j hj (by simp)⟩;simp -dsimp -implicitDefEqProofs[t0,t1,t4,t6,e,d,f,A0a b,A0f h2,A0d,A0y,ak];have aj:decide (0<if(A4E w 5).isSome=true then a+B3d (A4E w 5)else 0)=(A4E w 5).isSome:=by
   cases hs:(A4E w 5).isSome with
   |false=>simp
   |true=>have:=ad hs;simp;omega
  rw[aj,<-a2];simp -dsimp -implicitDefEqProofs[A0C,ag,A0t,C8I,an];exact Z0l (by simp)
end
section
variable (gl:Nat->AV)
def C3m(l:List ByteArray)(o:Own)(hl:l.length<=1000000000)(d:∀s∈l,s.size<=maxLen)(M:Mem):A0e (WC gl) 98 [.list 1 (A0F l) o] M (λv M'=>A1z 110 5 A0P.row M' v (A2z l 0)/\Grow M M'/\A1n M.length v):=by
 refine A0k (hQ [24]) func98 ?_
 simp -dsimp -implicitDefEqProofs
 refine A0s (hQ [24]) l.length 4 (λT M1=>∃(i:Nat) (q:List A0P) (vq:AV),T 0=.list 1 (A0F l) o/\T 3=vq/\T 4=I i/\i<=l.length/\A1z 110 5 A0P.row M1 vq q/\A2z l 0=q++A2z l i/\q.length<=i/\Grow M M1/\A1n M.length vq) ?_ ?_
 .exact⟨0,[],A0Z,by simp,by simp,by simp,by omega,.nil,rfl,by simp,A0c.refl _ _,λf hf=>by simp at hf⟩
 rintro T M1 ⟨i,q,vq,t0,t3,t4,h1,h2,h3,h4,h5,h6⟩
 by_cases c:i<l.length
 .have c':(i:Int)<l.length:=by omega
  have m:IntKind.i64.wrap ((i:Int)+1)=(i+1:Nat):=by rw[A0H (by omega) (by omega)];omega
  simp -dsimp -implicitDefEqProofs[t0,t3,t4,c'];refine A0j func147 (C5Q gl l o hl d i M1) ?_;rintro _ M2 ⟨rfl,rfl⟩;cases hc:A8P (A5B (l.drop i))with
  |none=>rw[C1r c hc]at h3;have hk:Grow M2 (M2++[A0p.cells 110 (A7N none i)]):=A0c.app none _ _;simp -dsimp -implicitDefEqProofs[t0,t3,t4,A0o,A0l,A0d,m];exact⟨⟨i+1,by omega,by omega,q,h2.keep hk (by simp),h3,by omega,h5.trans hk,h6⟩,by omega⟩
  |some g=>
   obtain⟨⟨k,p,to⟩,n⟩:=g;rw[C0k c hc]at h3;obtain⟨b1,b2,b3,b4⟩:=A9K hc;have hn:=A9t (l.drop i);rw[Z1e]at hn;obtain⟨M3,a⟩:∃M3,M3=M2++[A0p.cells 110 [I k,.list 2 (A1f p) .no,S to,I i,I ((i:Int)+n)]]:=⟨_,rfl⟩;(have hk:Grow M2 M3:=by rw[a];exact A0c.app none _ _);(have hx:M3[M2.length]?=some (A0p.cells 110 [I k,.list 2 (A1f p) .no,S to,I i,I ((i:Int)+n)]):=by rw[a];simp);have ho:=h2.keep hk (by simp);simp -dsimp -implicitDefEqProofs[t0,t3,t4,A0o,A0l,A0d,A7N];rw[<-a];simp -dsimp -implicitDefEqProofs[t0,t3,t4,A0a hx,A0h,A0J];refine A3E (C:=WC gl) (enc:=A0P.row) (e:=110) (sz:=5) (news:=[⟨k,p,to,i,(i:Int)+n⟩]) B1k B5L B1U (λ_=>rfl) ho (by simp[A0B,A0P.row,A1f]) (by simp;omega) rfl ?_;intro v' M4 k1 k2 k3 _;have b:A1n M.length v':=λf hf=>by
    rcases k3 with h|h
    .exact h6 f (h▸hf)
    .have:=h f hf;have:=h5.1;have:=hk.1;omega
   have hg:Grow M M4:=by refine⟨Z0T (h5.trans hk).1 k2.1,λj hj _=>?_⟩;rw[k2.2 j (by have:=(h5.trans hk).1;omega) λe=>by have:=h6 j e;omega];exact(h5.trans hk).2 j hj (by simp)
   (have r:M4[M2.length]?=some (A0p.cells 110 [I k,.list 2 (A1f p) .no,S to,I i,I ((i:Int)+n)]):=k2.get hx λe=>by have:=h2.lt e;omega);simp -dsimp -implicitDefEqProofs[t0,t3,t4,A0a r]
   exact⟨⟨i+n,by omega,by omega,_,k1,by rw[h3];simp,by simp;omega,hg,b⟩,by omega⟩
 .have c':¬(i:Int)<l.length:=by omega
  rw[C3T (l:=l) (i:=i) (by omega),Z1f]at h3;simp -dsimp -implicitDefEqProofs[t0,t3,t4,c'];rw[h3];exact⟨h2,h5,h6⟩
end
def A5u:List ByteArray:=A2w.drop 1
def D6D(w:ByteArray):(if w=⟨#[]⟩then 0 else max (A9Y A3k w 1) 0)=kS w:=by
 unfold kS A2s;by_cases c:w=⟨#[]⟩
 .rw[Z0d c,Z0d c]
 .rw[Z0e c,Z0e c,show A1a=⟨#[]⟩::A3k from rfl,A9Y,Z0e (Z2k c)]
def D6K(w:ByteArray):(if w=⟨#[]⟩then 0 else max (A9Y A5u w 1) 0)=kP w:=by
 unfold kP A2s;by_cases c:w=⟨#[]⟩
 .rw[Z0d c,Z0d c]
 .rw[Z0e c,Z0e c,show A2w=⟨#[]⟩::A5u from rfl,A9Y,Z0e (Z2k c)]
section
variable (gl:Nat->AV)
def B1E(M:Mem):A0e (WC gl) 173 [] M (λv M'=>v=.list 1 (A0F A5u) .full/\M'=M):=by refine A0k hB func173 ?_;simp -dsimp -implicitDefEqProofs[A0h,A0J,A0F,A5u,A2w]
def C1t(l:List ByteArray)(o:Own)(w:ByteArray)(M:Mem)(hl:l.length<=1000000):A0e (WC gl) 246 [.list 1 (A0F l) o,S w] M (λv M'=>v=I (if w=⟨#[]⟩then 0 else max (A9Y l w 1) 0)/\M'=M):=by
 refine A0k hB func246 ?_;simp -dsimp -implicitDefEqProofs;refine A0s hB l.length 5 (λT M1=>∃i:Nat,M1=M/\i<=l.length/\T 0=.list 1 (A0F l) o/\T 1=S w/\T 5=I i/\(w≠⟨#[]⟩->A9Y l w 1=A9Y (l.drop i) w (i+1))) ?_ ?_
 .exact⟨0,rfl,by omega,by simp,by simp,by simp,λ_=>by simp⟩
 rintro T M1 ⟨i,rfl,h1,t0,t1,t5,h2⟩;by_cases hi:i<l.length
 .have a:(i:Int)<l.length:=by omega
  have hw:IntKind.i64.wrap ((i:Int)+1)=(i+1:Nat):=by rw[A0H (by omega) (by omega)];omega
  rw[Z0h hi,A9Y]at h2;by_cases ce:w=⟨#[]⟩
  .simp -dsimp -implicitDefEqProofs[t0,t1,t5,a,hi,ce,hw];exact⟨⟨i+1,by omega,rfl⟩,by omega⟩
  have h2:=h2 ce;by_cases c:l[i]=w
  .rw[Z0d c]at h2;(have hm:max (A9Y l w 1) 0=(i:Int)+1:=by rw[h2];omega);simp -dsimp -implicitDefEqProofs[t0,t1,t5,a,hi,ce,c,hw,hm]
  .rw[Z0e c]at h2;simp -dsimp -implicitDefEqProofs[t0,t1,t5,a,hi,ce,c,hw];exact⟨⟨i+1,by omega,rfl,h2⟩,by omega⟩
 .have a:¬(i:Int)<l.length:=by omega
  rw[Z0n (by omega),A9Y]at h2;by_cases ce:w=⟨#[]⟩
  .simp -dsimp -implicitDefEqProofs[t0,t1,t5,a,ce]
  .simp -dsimp -implicitDefEqProofs[t0,t1,t5,a,ce,h2 ce];rfl
def D2c(s:ByteArray)(M:Mem)(hs:s.size<=maxLen):A0e (WC gl) 198 [S s] M (λv M'=>v=S (A7s s)/\M'=M):=by
 refine A0k hB func198 ?_;have a:s.size<=9223372036854775807:=hs;by_cases c:s.size=0
 .have e:s=⟨#[]⟩:=by apply Z4y;exact Z3F c
  subst e;simp -dsimp -implicitDefEqProofs[show A7s ⟨#[]⟩=⟨#[]⟩from rfl]
 have ce:¬s=⟨#[]⟩:=λe=>c (by rw[e];rfl);have hw:IntKind.i64.wrap ((s.size:Int)-1)=(s.size-1:Nat):=by rw[A0H (by omega) (by omega)];omega
 have i1:((s.size-1:Nat):Int)<s.size:=by omega
 have i2:s.size-1<s.size:=by omega
 have i3:((s.size-1:Nat):Int)<=s.size:=by omega
 have hb:A7s s=if A3q (A0T s (s.size-1))=true then s.extract 0 (s.size-1)else s:=by unfold A7s;rw[Z0e c]
 rw[hb];by_cases c1:A0T s (s.size-1)=44
 .simp -dsimp -implicitDefEqProofs[ce,hw,i1,i2,i3,c1,A3q]
 by_cases c2:A0T s (s.size-1)=59
 .simp -dsimp -implicitDefEqProofs[ce,hw,i1,i2,i3,c1,c2,A3q]
 by_cases c3:A0T s (s.size-1)=46
 .simp -dsimp -implicitDefEqProofs[ce,hw,i1,i2,i3,c1,c2,c3,A3q]
 by_cases c4:A0T s (s.size-1)=58
 .simp -dsimp -implicitDefEqProofs[ce,hw,i1,i2,i3,c1,c2,c3,c4,A3q]
 by_cases c5:A0T s (s.size-1)=41
 .simp -dsimp -implicitDefEqProofs[ce,hw,i1,i2,i3,c1,c2,c3,c4,c5,A3q]
 simp -dsimp -implicitDefEqProofs[ce,hw,i1,i2,i3,c1,c2,c3,c4,c5,A3q]
end
section
variable (gl:Nat->AV)
def C7x{p}(h:A1U p=true)(hp:0<p.length):1<=(p[p.length-1]).k/\(p[p.length-1]).k<=7:=by
 have hr:0<(A6U p).length/\(A6U p).all A1b=true:=by simpa[A1U]using h
 have hn:A1b (p[p.length-1])=true:=by
  cases p with
  |nil=>simp at hp
  |cons s p'=>
   have a:A6U (s::p')=if A2c s=true then p' else s::p':=rfl;rw[a]at hr;by_cases c:A2c s=true
   .rw[Z0d c]at hr;cases p' with
    |nil=>simp at hr
    |cons t p''=>exact Z0r.1 hr.2 _ (by simp only[Z0B,Z2O,Z2S];exact Z0v _)
   .rw[Z0e c]at hr;exact Z0r.1 hr.2 _ (Z0v _)
 simp only[A1b,Z0f,Z0o]at hn;exact⟨hn.1.1,hn.1.2⟩
def C3o(k:Int)(p:List A0u)(o:Own)(to:ByteArray)(x y:Int)(M:Mem)(hp:A5v p)(ht:to.size<=maxLen):A0e (WC gl) 120 [.agg [I k,.list 2 (A1f p) o,S to,I x,I y]] M (λv M'=>v=B (A2D k p to)/\M'=M):=by
 refine A0k hB func120 ?_;by_cases c0:p=[]
 .subst c0;simp -dsimp -implicitDefEqProofs[A1f,C2P]
 have h0:0<p.length:=Z2i.2 c0;by_cases c9:p.length<=9;case neg=>
  have i2:(9:Int)<p.length:=by omega
  simp -dsimp -implicitDefEqProofs[i2,A2D,c9]
 have i1:¬(p.length:Int)>9:=by omega
 have i2:¬(9:Int)<p.length:=by omega
 have i0:¬(p.length:Int)=0:=by omega
 by_cases k04:k=0\/k=4
 .have hm:A2D k p to=(decide (to=⟨#[]⟩)&&A1U p):=by unfold A2D;rw[Z0d k04];simp[c9]
  rw[hm];by_cases ct:to=⟨#[]⟩
  .rcases k04 with rfl|rfl
   .simp -dsimp -implicitDefEqProofs[i1,i2,i0,c0,ct];refine A0j func172 (A8L gl M p o hp) ?_;rintro r M2 ⟨rfl,rfl⟩;simp -dsimp -implicitDefEqProofs
    exactλ_=>ct
   .simp -dsimp -implicitDefEqProofs[i1,i2,i0,c0,ct];refine A0j func172 (A8L gl M p o hp) ?_;rintro r M2 ⟨rfl,rfl⟩;simp -dsimp -implicitDefEqProofs
    exactλ_=>ct
  .rcases k04 with rfl|rfl
   .simp -dsimp -implicitDefEqProofs[i1,i2,i0,c0,ct]
   .simp -dsimp -implicitDefEqProofs[i1,i2,i0,c0,ct]
 simp only[Z2H]at k04;by_cases k1:k=1
 .have hm:A2D k p to=(A0K to&&A1U p&&decide (B4I p≠6)):=by simp[A2D,k1,c9]
  rw[hm];subst k1;simp -dsimp -implicitDefEqProofs[i1,i2,i0,c0];refine A1h hB (A0w gl) (λ_=>0) (λ_=>0) (by rfl) (by kernel_rfl) ?_;simp -dsimp -implicitDefEqProofs[i1,i2,i0,c0];refine B0m (r:=B (A0K to)) (λM=>A2B func105 rfl rfl (A7E gl M to ht)) ?_;cases hlb:A0K to with
  |false=>simp -dsimp -implicitDefEqProofs
  |true=>
   simp -dsimp -implicitDefEqProofs;refine B0m (r:=B (A1U p)) (λM=>A2B func172 rfl rfl (A8L gl M p o hp)) ?_;cases hpl:A1U p with
   |false=>simp -dsimp -implicitDefEqProofs
   |true=>have h:=C7x hpl h0;(have j2:p.length-1<p.length:=by omega);(have j1:((p.length-1:Nat):Int)<p.length:=by omega);(have hw:IntKind.i64.wrap ((p.length:Int)-1)=(p.length-1:Nat):=by rw[A0H (by omega) (by omega)];omega);(have b:B4I p=(p[p.length-1]).k:=by unfold B4I;rw[Z3Z,Z0m j2]);simp -dsimp -implicitDefEqProofs;refine B0m (r:=.list 1 (A0F A5u) .full) (λM=>A2B func173 rfl rfl (B1E gl M)) ?_;rw[b];generalize hq:(p[p.length-1]).k=q at*;have g:IntKind.i64.wrap (q-1)=q-1:=A0H (by omega) (by omega);simp -dsimp -implicitDefEqProofs[hw,j1,j2,hq,g];(have c:q=1\/q=2\/q=3\/q=4\/q=5\/q=6\/q=7:=by omega);clear b hq g;rcases c with rfl|rfl|rfl|rfl|rfl|rfl|rfl<;>simp -dsimp -implicitDefEqProofs[A5u,A2w,A0F]
 by_cases k23:k=2\/k=3
 .have hm:A2D k p to=(decide (to=⟨#[]⟩)&&A5x p):=by unfold A2D;rw[Z0e (by simp[k04]),Z0e k1,Z0d k23];simp[c9]
  rw[hm];obtain⟨s,p',rfl⟩:∃s p',p=s::p':=by
   cases p with
   |nil=>exact absurd rfl c0
   |cons s p'=>exact⟨s,p',rfl⟩
  have f:A5v p':=⟨by have:=hp.1;simp at this;omega,λx hx=>hp.2 x (by simp[hx])⟩;rcases k23 with rfl|rfl
  .skip
   (have n9:¬(9:Int)<(p'.length:Int)+1:=by simp at c9;omega);have n8:(p'.length:Int)+1<=9:=by omega
   (have n0:¬(p'.length:Int)+1=0:=by omega);have n1:(1:Int)<=(p'.length:Int)+1:=by omega
   (have n2:(0:Int)<=(p'.length:Int):=by omega);by_cases ct:to=⟨#[]⟩
   (case neg=>simp -dsimp -implicitDefEqProofs[n9,n8,n0,A1f,A0u.row,ct]);by_cases d1:1<=s.k
   (case neg=>have e:¬s.k>=1:=d1;(have a:s.k<1:=by omega);simp -dsimp -implicitDefEqProofs[n9,n8,n0,A1f,A0u.row,ct,d1,e,a,A5x]);by_cases d2:s.k<=7;case neg=>(have d:7<s.k:=by omega);simp -dsimp -implicitDefEqProofs[n9,n8,n0,A1f,A0u.row,ct,d1,d2,d,A5x]
   by_cases d3:s.lab=⟨#[]⟩;(case neg=>simp -dsimp -implicitDefEqProofs[n9,n8,n0,A1f,A0u.row,ct,d1,d2,d3,A5x]);simp -dsimp -implicitDefEqProofs[n9,n8,n0,n1,n2,A1f,A0u.row,ct,d1,d2,d3];refine A0j func174 (A7x gl M p' _ f) ?_;rintro r M2 ⟨rfl,rfl⟩;simp -dsimp -implicitDefEqProofs[A5x,d1,d2,d3,ct]
  .skip
   (have n9:¬(9:Int)<(p'.length:Int)+1:=by simp at c9;omega);have n8:(p'.length:Int)+1<=9:=by omega
   (have n0:¬(p'.length:Int)+1=0:=by omega);have n1:(1:Int)<=(p'.length:Int)+1:=by omega
   (have n2:(0:Int)<=(p'.length:Int):=by omega);by_cases ct:to=⟨#[]⟩
   (case neg=>simp -dsimp -implicitDefEqProofs[n9,n8,n0,A1f,A0u.row,ct]);by_cases d1:1<=s.k
   (case neg=>have e:¬s.k>=1:=d1;(have a:s.k<1:=by omega);simp -dsimp -implicitDefEqProofs[n9,n8,n0,A1f,A0u.row,ct,d1,e,a,A5x]);by_cases d2:s.k<=7;case neg=>(have d:7<s.k:=by omega);simp -dsimp -implicitDefEqProofs[n9,n8,n0,A1f,A0u.row,ct,d1,d2,d,A5x]
   by_cases d3:s.lab=⟨#[]⟩;(case neg=>simp -dsimp -implicitDefEqProofs[n9,n8,n0,A1f,A0u.row,ct,d1,d2,d3,A5x]);simp -dsimp -implicitDefEqProofs[n9,n8,n0,n1,n2,A1f,A0u.row,ct,d1,d2,d3];refine A0j func174 (A7x gl M p' _ f) ?_;rintro r M2 ⟨rfl,rfl⟩;simp -dsimp -implicitDefEqProofs[A5x,d1,d2,d3,ct]
 .have hm:A2D k p to=false:=by unfold A2D;rw[Z0e (by simp[k04]),Z0e k1,Z0e k23,Z1H]
  rw[hm];simp only[Z2H]at k23;simp -dsimp -implicitDefEqProofs[i1,i2,i0,c0,k04.1,k04.2,k1,k23.1,k23.2]
end
section
variable (gl:Nat->AV)
def C4q(x y:Int)(M:Mem):A0e (WC gl) 73 [I x,I y] M (λv M'=>v=I (A4r x y)/\M'=M):=by refine A0k hB func73 ?_;by_cases h1:y=6<;>by_cases h2:x=0<;>simp -dsimp -implicitDefEqProofs[A4r,h1,h2]
end
section
variable (gl:Nat->AV)
def C1y(l:List A0L)(a b c:Nat)(n:Int)(M:Mem)(hn:n<0):A0e (WC gl) 224 [B1W l a b c,I n] M (λv M'=>A1z 159 2 A0u.row M' v [A3N]/\Grow M M'/\A1n M.length v):=by
 refine A0k (hQ [9,26]) func224 ?_
 simp -dsimp -implicitDefEqProofs[hn,B3n]
 refine⟨.inr ⟨M.length,0,[(0,1)],rfl,by simp[A0u.row,A3N],rfl⟩,A0c.app none _ _,λf hf=>by simp at hf;omega⟩
end
section
variable (gl:Nat->AV)
def C4Z(F:IdD->Option A0b)(l:List A0L):∀f n,A4i F l f n≠[]
 |0,n=>by simp[A4i]
 |f+1,n=>by rw[A4i];split<;>simp
def B2o(F:IdD->Option A0b)(l:List A0L):∀f n,(A4i F l f n).length<=f+1
 |0,n=>by simp[A4i]
 |f+1,n=>by have:=B2o F l f (A4s l n);rw[A4i];split<;>simp<;>omega
def D1o(l:List A0L)(L:List (IdD×A0b))(a b c:Nat)(hl:l.length<=1000)(y:∀j,j<l.length->A8I l j):∀(f:Nat) (n:Int) (M:Mem),n<l.length->n<f->f<=2000->A1T A2O B4c M a L->A0e (WC gl) 224 [B1W l a b c,I n] M (λv M'=>A1z 159 2 A0u.row M' v (A4i (A1B L) l f n)/\Grow M M'/\A1n M.length v):=by
 intro f
 induction f with
 |zero=>intro n M h1 h2 _ hM;exact C1y gl l a b c n M (by omega)
 |succ f ih=>
  intro n M h1 h2 a9 hM
  by_cases hn:n<0
  .rw[A4i,Z0d hn];exact C1y gl l a b c n M hn
  .refine A0k (hQ [9,26]) func224 ?_;(have g:n.toNat<l.length:=by omega);have t:0<=n/\n<l.length:=⟨by omega,h1⟩;simp -dsimp -implicitDefEqProofs[hn,t,t.1,t.2,g,A0L.row,A0o,A0l,A0d];obtain⟨x,hx⟩:∃x,x=l[n.toNat]:=⟨_,rfl⟩;rw[<-hx];obtain⟨M1,s⟩:∃M1,M1=M++[A0p.cells 69 [I x.id.act,I x.id.item,I x.id.n,I x.parent,S x.label]]:=⟨_,rfl⟩;(have d:M1[M.length]?=some (A0p.cells 69 [I x.id.act,I x.id.item,I x.id.n,I x.parent,S x.label]):=by rw[s];simp);(have u:Grow M M1:=by rw[s];exact A0c.app none _ _);have w:=hM.keep u (by simp);rw[<-s];(have a6:A4s l n=x.parent:=by simp[A4s,g,hx]);(have a0:B0W l n.toNat=x.label:=by simp[B0W,g,hx]);have a7:=y n.toNat g n.toNat g (Z0u _);rw[<-hx]at a7;(have a1:x.parent<f:=by omega);(have z:x.parent<l.length:=by omega);(have a4:A4i (A1B L) l (f+1) n=A4i (A1B L) l f x.parent++[⟨A4w (A1B L) l n,x.label⟩]:=by rw[A4i,Z0e hn,a6,a0]);have a3:=A0e.repack (enc:=A0u.row) (e:=159) (sz:=2) (λ_=>rfl) (λn x=>by simp[A0u.row,A2l,bdd]) (C4Z (A1B L) l f x.parent) (ih x.parent M1 z a1 (by omega) w);rw[a4];have a8:=B2o (A1B L) l f x.parent;generalize hA:A4i (A1B L) l f x.parent=A at*;refine A2E (hQ [9,26]) (A0w gl) (λk=>if k=2\/k=8 then 1 else if k=3\/k=6\/k=11 then 2 else 0) (λ_=>M.length) (λ_=>false) [M.length] (by intros;simp) (by rfl) (by kernel_rfl) ?_;simp -dsimp -implicitDefEqProofs[A0a d,A0y];refine A6x (A2B func224 rfl rfl a3) ?_;obtain⟨M2,p⟩:∃M2,M2=M1++[A0p.vec 159 2 (A.flatMap A0u.row) 0 [(0,A.length)]]:=⟨_,rfl⟩;(have m:Grow M1 M2:=by rw[p];exact A0c.app none _ _);have a2:A1z 159 2 A0u.row M2 (.vref M1.length 0 2 0 A.length) A:=.inr ⟨M1.length,0,[(0,A.length)],rfl,by rw[p];simp,by simp⟩;(have o:M2[M.length]?=M1[M.length]?:=by rw[d];exact m.get d (by simp));have a5:=w.keep m (by simp);rw[<-p];refine⟨by intro r hr;simp only[Z0P]at hr;subst hr;exact o,?_⟩;simp -dsimp -implicitDefEqProofs;refine A6x (A2B func151 rfl rfl (B8V gl l L a b c n M2 a5 (by omega))) ?_;simp -dsimp -implicitDefEqProofs[o,A0a (o.trans d),A0y,A0h,A0J];refine A3E (C:=WC gl) (enc:=A0u.row) (e:=159) (sz:=2) (news:=[⟨A4w (A1B L) l n,x.label⟩]) A7K B0S A7J (λ_=>rfl) a2 (by simp[A0B,A0u.row]) (by simp;omega) rfl ?_;intro v' M3 k1 k2 k3 _;have aa:M.length<M1.length:=(Z0c.1 d).1;refine⟨by intro r hr;simp only[Z0P]at hr;subst hr;exact k2.2 _ (by have:=m.1;omega) (by simp;omega),?_⟩;simp -dsimp -implicitDefEqProofs;have i:=u.trans m;refine⟨k1,⟨Z0T i.1 k2.1,λj hj _=>?_⟩,λq hq=>?_⟩
   .rw[k2.2 j (by have:=i.1;omega) (by simp;omega)];exact i.2 j hj (by simp)
   .rcases k3 with h|h
    .rw[h]at hq;simp at hq;omega
    .have:=h q hq;have:=i.1;omega
end
open Go.Proofs TryTypes
def A0e.dataX{C}{f}{args}{M}{X}(h:A0e C f args M (λv M'=>Grow M M'/\Still M' M.length (bdd M.length) [v] [X])):A0e C f args M (λd M'=>d=X/\M'=M):=A0e.data (Q:=λd=>d=X) (h.mono λ_ _ h=>⟨h.1,X,h.2,rfl⟩)
def C5j{α:Type}{f:α->List AV}{n}(h:∀x,A2l n (f x)):∀l:List α,A9W n (l.map f)
 |[]=>by simp[A9W]
 |x::l=>by simp only[Z0C,A9W];exact⟨h x,C5j h l⟩
def A3C{α:Type}{f:α->List AV}{n sz}(h:∀x,A2l n (f x))(l:List α):bdd n (.list sz (l.map f) .no):=by simp only[bdd,Z2e];exact C5j h l
def B1N(n:Nat)(x:A0u):A2l n x.row:=by simp[A0u.row,A2l,bdd]
def B7G(n:Nat)(x:IdD):A2l n x.row:=by simp[IdD.row,A2l,bdd]
def A8w(n:Nat)(p:List A0u):bdd n (A5G p):=A3C (B1N n) p
def B7k(n:Nat)(c:A0P):A2l n c.row:=by simp only[A0P.row,A2l,Z2e];exact⟨trivial,A8w n _,trivial,trivial,trivial⟩
def B5D{M}{n sz}{ok:AV->Prop}:Still M n ok [.val (.slice none 0 0)] [.list sz [] .no]:=.nilS .nil
def A4u{α:Type}{M}{n e sz}{enc:α->List AV}{v}{l}(he:∀x,(enc x).length=sz)(hb:∀n x,A2l n (enc x))(h:A1z e sz enc M v l)(hn:A1n n v):Still M n (bdd n) [v] [.list sz (l.map enc) .no]:=Still.rows he (λx c hc=>bddL_mem (hb n x) hc) h hn .nil
where
 bddL_mem {n:Nat}:∀{cs:List AV} {c:AV},A2l n cs->c∈cs->bdd n c
  |d::cs,c,h,hc=>by
   simp only[A2l]at h;rcases Z0F.1 hc with rfl|hc
   .exact h.1
   .exact bddL_mem h.2 hc
abbrev A4L(l:List IdD):List (List AV):=l.map IdD.row
def A2p(s:List A2k):List (List AV):=s.map A2k.row
@[simp] def D7r(l:List A2k):(A2p l).length=l.length:=by simp[A2p]
@[simp] def D7S{p}{i}(h:i<(A2p p).length):(A2p p)[i]=(p[i]'(by simpa using h)).row:=by simp[A2p]
def C4T{l}{id}{i}(hi:i<l.length)(h:A1l l id=(A1l (l.drop i) id).map (·+i)):A1l l id=if l[i].id=id then some i else(A1l (l.drop (i+1)) id).map (·+(i+1)):=by
 rw[h,Z0h hi,A1l,List.findIdx?_cons];by_cases c:l[i].id=id
 .simp[c]
 .rw[Z0e c,Z0k c];simp only[Z0E,Z0Y];show Option.map _ (Option.map _ (A1l (l.drop (i+1)) id))=_;cases A1l (l.drop (i+1)) id with
  |none=>rfl
  |some q=>simp only[Z0M];congr 1;omega
def B4F(l:List A0L)(id:IdD):Int:=match A1l l id with
 |some k=>k
 |none=>-1
def D0d{s:List A2k}{p:A2k->Bool}{i:Nat}(hi:i<s.length)(h:s.find? p=(s.drop i).find? p):s.find? p=if p s[i]=true then some s[i]else(s.drop (i+1)).find? p:=by rw[h,Z0h hi,Z3G];cases p s[i]<;>rfl
def A8v(a b:AV):Prop:=∀f,obj a=some f->obj b≠some f
def A8v.symm{a b}(h:A8v a b):A8v b a:=λf h1 h2=>h f h2 h1
def A8v.nil{b}:A8v (.val (.slice none 0 0)) b:=λf h=>by simp at h
structure Arr {α:Type} (e sz:Nat) (enc:α->List AV) (n:Nat) (M:Mem) (v:AV) (l:List α):Prop where
 own:A1z e sz enc M v l
 lat:A1n n v
section
variable {α β:Type} {e e2 sz sz2 n:Nat} {enc:α->List AV} {enc2:β->List AV} {M M':Mem} {v v' u:AV} {l news:List α} {r:List β}
def Arr.nil:Arr e sz enc n M (.val (.slice none 0 0)) []:=⟨.nil,λf h=>by simp at h⟩
def Arr.keep(h:Arr e sz enc n M v l)(hk:Grow M M'):Arr e sz enc n M' v l:=⟨h.own.keep hk (by simp),h.lat⟩
def Arr.beside(h:Arr e2 sz2 enc2 n M u r)(ha:A8v v u)(hk:A0c (obj v) M M'):Arr e2 sz2 enc2 n M' u r:=⟨h.own.keep hk (λf hf hv=>ha f hv hf),h.lat⟩
def Arr.later(h:Arr e sz enc n M v l)(hn:n<=M.length)(h3:obj v'=obj v\/A1n M.length v'):A1n n v':=λf hf=>by
 rcases h3 with h3|h3
 .exact h.lat f (h3▸hf)
 .have:=h3 f hf;omega
def Arr.apart(h:Arr e2 sz2 enc2 n M u r)(ha:A8v v u)(h3:obj v'=obj v\/A1n M.length v'):A8v v' u:=λf hf hu=>by
 rcases h3 with h3|h3
 .exact ha f (h3▸hf) hu
 .have:=h3 f hf;have:=h.own.lt hu;omega
def Arr.grow{M0}(h:Arr e sz enc M0.length M v l)(hg:Grow M0 M)(hk:A0c (obj v) M M'):Grow M0 M':=⟨Z0T hg.1 hk.1,λi hi _=>by rw[hk.2 i (by have:=hg.1;omega) (λe=>by have:=h.lat _ e;omega)];exact hg.2 i hi (by simp)⟩
end
def Arr.cells{α:Type}{e sz n q t:Nat}{enc:α->List AV}{M M':Mem}{v:AV}{l:List α}{xs:List AV}(h:Arr e sz enc n M v l)(hk:A0c (obj v) M M')(hq:M[q]?=some (.cells t xs)):M'[q]?=some (.cells t xs):=hk.get hq λe=>by
 rcases h.own with⟨rfl,_⟩|⟨f,g,a,rfl,hm,_⟩
 .simp at e
 .simp only[D1W,Z0a]at e;subst e;rw[hm]at hq;simp at hq
abbrev C2m(p:List A0u):List AV:=[A5G p]
structure Tri (M M1:Mem) (v1 v2 v3:AV) (A B:List A0P) (C:List (List A0u)):Prop where
 grow:Grow M M1
 h1:Arr 110 5 A0P.row M.length M1 v1 A
 h2:Arr 110 5 A0P.row M.length M1 v2 B
 h3:Arr 40 1 C2m M.length M1 v3 C
 a12:A8v v1 v2
 a13:A8v v1 v3
 a23:A8v v2 v3
section
variable {M M1 M2:Mem} {v1 v2 v3 v':AV} {A B A' B':List A0P} {C C':List (List A0u)}
def Tri.keep(h:Tri M M1 v1 v2 v3 A B C)(hk:Grow M1 M2):Tri M M2 v1 v2 v3 A B C:=⟨h.grow.trans hk,h.h1.keep hk,h.h2.keep hk,h.h3.keep hk,h.a12,h.a13,h.a23⟩
def Tri.push1(h:Tri M M1 v1 v2 v3 A B C)(q1:A1z 110 5 A0P.row M2 v' A')(q2:A0c (obj v1) M1 M2)(q3:obj v'=obj v1\/A1n M1.length v'):Tri M M2 v' v2 v3 A' B C:=⟨h.h1.grow h.grow q2,⟨q1,h.h1.later h.grow.1 q3⟩,h.h2.beside h.a12 q2,h.h3.beside h.a13 q2,h.h2.apart h.a12 q3,h.h3.apart h.a13 q3,h.a23⟩
def Tri.push2(h:Tri M M1 v1 v2 v3 A B C)(q1:A1z 110 5 A0P.row M2 v' B')(q2:A0c (obj v2) M1 M2)(q3:obj v'=obj v2\/A1n M1.length v'):Tri M M2 v1 v' v3 A B' C:=⟨h.h2.grow h.grow q2,h.h1.beside h.a12.symm q2,⟨q1,h.h2.later h.grow.1 q3⟩,h.h3.beside h.a23 q2,(h.h1.apart h.a12.symm q3).symm,h.a13,h.h3.apart h.a23 q3⟩
def Tri.push3(h:Tri M M1 v1 v2 v3 A B C)(q1:A1z 40 1 C2m M2 v' C')(q2:A0c (obj v3) M1 M2)(q3:obj v'=obj v3\/A1n M1.length v'):Tri M M2 v1 v2 v' A B C':=⟨h.h3.grow h.grow q2,h.h1.beside h.a13.symm q2,h.h2.beside h.a23.symm q2,⟨q1,h.h3.later h.grow.1 q3⟩,h.a12,(h.h1.apart h.a13.symm q3).symm,(h.h2.apart h.a23.symm q3).symm⟩
end
def B3r.keep{l}{L}{a b c}{M M1}(h:B3r l L a b c M)(hk:Grow M M1):B3r l L a b c M1:=by obtain⟨p1,⟨IL,p2,p3⟩,KL,p4,p5⟩:=h;exact⟨p1.keep hk (by simp),⟨IL,p2.keep hk (by simp),p3⟩,KL,p4.keep hk (by simp),λq=>(p5 q).keep hk (by simp)⟩
def A5N(n:Nat)(s:ByteArray):A2l n (A4p s):=by simp[A4p,A2l,bdd]
def A9V(l:List ByteArray):l.map S=l.flatMap A4p:=by
 induction l with
 |nil=>rfl
 |cons a l ih=>rw[Z0C,Z1v,ih];rfl
def A2Z.toT{M M'}{l}{v}(h:A2Z M l v M'):A1z 9 1 A4p M' v l/\Grow M M'/\A1n M.length v:=by
 have e:=A9V;obtain⟨h1,h2,h3⟩:=h;refine⟨?_,h2,h3⟩;rcases h1 with⟨rfl,hn⟩|⟨f,g,a,rfl,hm,hl⟩
 .exact .inl ⟨rfl,by simpa using hn⟩
 .rw[Z0L]at*;exact .inr ⟨f,g,a,rfl,by rw[<-e];exact hm,hl⟩
def C1k(l:List ByteArray):A0F l=l.map A4p:=rfl
section
variable {l:List ByteArray} {old:List A0P} {names:List (List A0u)} {B:Nat}
def C4d(a:List ByteArray)(s:ByteArray):(A5n a s).length=a.length:=by simp[A5n]
def B9W{xs ys}{s}(hB:17<=B)(hx:∀t∈xs,t.size<=B)(hy:∀t∈ys,t.size<=16)(hn:ys≠[])(hs:s.size<=1):∀t∈A5n (xs++ys) s,t.size<=B:=by
 intro t ht;have hm:=hy _ (B7r (xs:=xs) hn);rcases Z3e ht with h|h
 .rcases Z1b.1 h with h|h
  .exact hx t h
  .have:=hy t h;omega
 .rw[h,Z0x];omega
def C5M(hB:17<=B)(hl:∀t∈l,t.size<=B){i}{out}{e}{r}(ho:∀t∈out,t.size<=B)(h:A8O l old names i out e=some r):(∀t∈r.1,t.size<=B)/\r.1.length<=out.length+l.length+19:=by
 unfold A8O at h;split at h;case h_2=>exact absurd h (by simp)
 rename_i c p hc hp;split at h
 .exact absurd h (by simp)
 rename_i hne;simp only[Z2H]at hne;have hw:∀t∈A1S p,t.size<=16:=B1b;have b:=B5p p;have a:B5a.size=3:=rfl;simp only[Z0a]at h;have h1:∀t∈(if A2P old i=true then out++[B5a]else out++(l.take c.frm.toNat).drop e.toNat),t.size<=B:=by
  intro t ht;split at ht
  .rcases Z1b.1 ht with q|q
   .exact ho t q
   .simp only[Z0P]at q;rw[q,a];omega
  .rcases Z1b.1 ht with q|q
   .exact ho t q
   .exact hl t (Z1r (Z1z q))
 have h2:(if A2P old i=true then out++[B5a]else out++(l.take c.frm.toNat).drop e.toNat).length<=out.length+l.length+1:=by
  split
  .rw[Z0z,Z4s];omega
  .simp only[Z0z,Z1e,Z0I];omega
 generalize(if A2P old i=true then out++[B5a]else out++(l.take c.frm.toNat).drop e.toNat)=X at*;rw[<-h];refine⟨?_,?_⟩
 .simp only;split
  .exact B9W hB h1 hw hne.1 (B0O _)
  .intro t ht;rcases Z1b.1 ht with q|q
   .exact h1 t q
   .have:=hw t q;omega
 .simp only;split
  .rw[C4d,Z0z];omega
  .rw[Z0z];omega
def B8J(hB:17<=B)(hl:∀t∈l,t.size<=B):∀(n i:Nat) (a:List ByteArray) (e:Int),(∀t∈a,t.size<=B)->(∀t∈A9y l old names n i a e,t.size<=B)/\(A9y l old names n i a e).length<=a.length+n*(l.length+19)+l.length
 |0,i,a,e,ho=>by
  rw[A9y];refine⟨λt ht=>?_,by simp only[Z0z,Z1e];omega⟩;rcases Z1b.1 ht with q|q
  .exact ho t q
  .exact hl t (Z1z q)
 |n+1,i,a,e,ho=>by
  rw[A9y];cases hs:A8O l old names i a e with
  |none=>exact⟨hl,by simp only;omega⟩
  |some r=>obtain⟨k1,k2⟩:=C5M hB hl ho hs;obtain⟨q1,q2⟩:=B8J hB hl n (i+1) r.1 r.2 k1;refine⟨q1,?_⟩;simp only;rw[Z0N];omega
def A6t(hB:17<=B)(hl:∀t∈l,t.size<=B):(∀t∈A4m l old names,t.size<=B)/\(A4m l old names).length<=old.length*(l.length+19)+l.length:=by
 unfold A4m;split
 .obtain⟨a,b⟩:=B8J (old:=old) (names:=names) hB hl old.length 0 [] 0 (by simp);exact⟨a,by simpa using b⟩
 .exact⟨hl,by omega⟩
end
section
variable (cs:List A0P) (nm:Nat->List (List A0u))
def B4W(i:Nat)(h:i<cs.length):A6d cs nm (i+1)=A6d cs nm i++(nm i).map λ_=>cs[i]:=by simp[A6d,Z2Q,Z1y,h]
def B5o(i:Nat):A7C nm (i+1)=A7C nm i++nm i:=by simp[A7C,Z2Q,Z1y]
def B3e(i:Nat)(h:i<cs.length):A5w cs nm (i+1)=A5w cs nm i++if nm i=[]then[cs[i]]else(nm i).map λp=>⟨0,p,⟨#[]⟩,0,0⟩:=by simp[A5w,Z2Q,Z1y,h]
def A8l{K}(hk:∀i,(nm i).length<=K):∀i,(A6d cs nm i).length<=i*K
 |0=>by simp[A6d]
 |i+1=>by
  have:=A8l hk i;have:=hk i;by_cases h:i<cs.length
  .rw[B4W cs nm i h,Z0z,Z0L,Z0N];omega
  ·(have e:A6d cs nm (i+1)=A6d cs nm i:=by simp[A6d,Z2Q,Z1y,h]);rw[e,Z0N];omega
def B8O{K}(hk:∀i,(nm i).length<=K):∀i,(A7C nm i).length<=i*K
 |0=>by simp[A7C]
 |i+1=>by have:=B8O hk i;have:=hk i;rw[B5o,Z0z,Z0N];omega
def B2i{K}(hk:∀i,(nm i).length<=K):∀i,(A5w cs nm i).length<=i*(K+1)
 |0=>by simp[A5w]
 |i+1=>by
  have:=B2i hk i;have:=hk i;by_cases h:i<cs.length
  .rw[B3e cs nm i h,Z0z,Z0N];split
   .simp;omega
   .rw[Z0L];omega
  ·(have e:A5w cs nm (i+1)=A5w cs nm i:=by simp[A5w,Z2Q,Z1y,h]);rw[e,Z0N];omega
def C4F{i}{p}(h:p∈A7C nm i):∃j,p∈nm j:=by simp only[A7C,Z3v]at h;obtain⟨j,_,h⟩:=h;exact⟨j,h⟩
end
def A8X{F:IdD->Option A0b}{l}{s}{id}{n}{K}(h:∀m∈s,m.to.length<=K):(A2G F l s id n).length<=K:=by
 have ht:(B6G s id n).length<=K:=by
  unfold B6G;split
  .rename_i m hm;exact h m (Z3f hm)
  .simp
 unfold A2G;split
 .rw[Z0L];exact ht
 .simp
def B9C{F:IdD->Option A0b}{l}(hs:∀s∈l,s.good):∀f n,∀x∈A4i F l f n,x.lab.size<=maxLen
 |0,n,x,hx=>by simp only[A4i,Z0P]at hx;subst hx;simp[A3N,maxLen,ByteArray.size]
 |f+1,n,x,hx=>by
  rw[A4i]at hx;split at hx
  .simp only[Z0P]at hx;subst hx;simp[A3N,maxLen,ByteArray.size]
  .rcases Z1b.1 hx with h|h
   .exact B9C hs f _ x h
   .simp only[Z0P]at h;subst h;simp only[B0W];split
    .rename_i s hs';exact(hs _ (Z3c hs')).2.2
    .simp[maxLen,ByteArray.size]
def B2F{F:IdD->Option A0b}{l}{s}{id}{n}(hl:l.length<=1000)(hs:∀s∈l,s.good):∀p∈A2G F l s id n,A5v p:=by
 intro p hp;unfold A2G at hp;split at hp
 .obtain⟨y,_,rfl⟩:=Z0W.1 hp;refine⟨?_,B9C hs _ _⟩;have:=B2o F l ((A1l l y).getD 0+1) (((A1l l y).getD 0:Nat):Int);have:(A1l l y).getD 0<=l.length:=by
   cases h:A1l l y with
   |none=>simp
   |some k=>have:=(Z2y.1 h).1;simp only[Z1p];omega
  omega
 .simp at hp
def isM(id:IdD)(n:Int)(m:A2k):Bool:=decide (m.at_=id)&&decide (m.n=n)
def D4d(s:List A2k)(id:IdD)(n:Int):B6G s id n=match s.find? (isM id n)with|some m=>m.to|none=>[]:=rfl
def C0H{α:Type}(p:α->Bool):∀(l:List α) (j:Nat),(A6g p l j=-1/\l.find? p=none)\/∃k:Nat,A6g p l j=((j+k:Nat):Int)/\∃h:k<l.length,l.find? p=some l[k]
 |[],j=>.inl ⟨rfl,rfl⟩
 |x::l,j=>by
  rw[A6g,Z3G];cases c:p x with
  |true=>exact .inr ⟨0,by simp,by simp,by simp⟩
  |false=>
   simp only[Z0E,Z0Y];rcases C0H p l (j+1)with h|⟨k,h1,h2,h3⟩
   .exact .inl h
   .exact .inr ⟨k+1,by rw[h1];congr 1;omega,by simpa using h2,by rw[h3];simp⟩
def C1u{α:Type}{p:α->Bool}{l}{i}(hi:i<l.length)(h:A6g p l 0=A6g p (l.drop i) i):A6g p l 0=if p l[i]=true then(i:Int)else A6g p (l.drop (i+1)) (i+1):=by rw[h,Z0h hi,A6g]
section
variable (gl:Nat->AV)
def D6y(m:A2k)(id:IdD)(n:Int)(M:Mem):A0e (WC gl) 223 [.agg m.row,.cptr [I id.act,I id.item,I id.n],.cptr [I n]] M (λv M'=>v=B (isM id n m)/\M'=M):=by
 refine A0k hB func223 ?_;have he:=B2E m.at_ id;by_cases c:m.at_=id
 .rw[Z0p c]at he;simp -dsimp -implicitDefEqProofs[A2k.row,he,isM,Z0p c];rfl
 .rw[Z0k c]at he;simp -dsimp -implicitDefEqProofs[A2k.row,he,isM,c]
def D4x(s:List A2k)(id:IdD)(n:Int)(M:Mem)(hl:s.length<=1000):A0e (WC gl) 222 [.list 5 (A2p s) .no,.func (.func 223) [] [.cptr [I id.act,I id.item,I id.n],.cptr [I n]]] M (λv M'=>v=I (A6g (isM id n) s 0)/\M'=M):=by
 refine A0k hB func222 ?_;simp -dsimp -implicitDefEqProofs;refine A0s hB s.length 8 (λT M1=>∃i:Nat,M1=M/\i<=s.length/\T 0=.list 5 (A2p s) .no/\T 1=.func (.func 223) [] [.cptr [I id.act,I id.item,I id.n],.cptr [I n]]/\T 7=I s.length/\T 8=I i/\A6g (isM id n) s 0=A6g (isM id n) (s.drop i) i) ?_ ?_
 .exact⟨0,rfl,by omega,by simp,by simp,by simp,by simp,by simp⟩
 rintro T M1 ⟨i,rfl,h1,t0,t1,t7,t8,h2⟩;by_cases hi:i<s.length
 .have a:(i:Int)<s.length:=by omega
  have w1:=A1i (i:=i) (by omega);have h3:=C1u hi h2;have hm:=D6y gl s[i] id n M1;simp only[A2k.row]at hm;simp -dsimp -implicitDefEqProofs[t0,t1,t7,t8,hi,a,A2k.row];refine A0i func223 hm ?_;cases c:isM id n s[i]with
  |true=>rw[c,Z0d rfl]at h3;simp -dsimp -implicitDefEqProofs[t0,t1,t7,t8,h3]
  |false=>rw[c,Z0e (by simp)]at h3;simp -dsimp -implicitDefEqProofs[t0,t1,t7,t8,w1];exact⟨⟨i+1,by clear w1;omega,rfl,h3⟩,by clear w1;omega⟩
 .have a:¬(i:Int)<s.length:=by omega
  rw[Z0n (by omega)]at h2;simp -dsimp -implicitDefEqProofs[t0,t1,t7,t8,a,h2,A6g]
def D6v:A7H prog 3=some (I 0):=D1z
def C6S(F:IdD->Option A0b)(s:List A2k)(l:List A0L)(L:List (IdD×A0b))(hF:A1B L=F)(a b c:Nat)(id:IdD)(n:Int)(M:Mem)(hP:B3r l L a b c M)(hl:l.length<=1000)(hs:s.length<=1000)(ht:∀m∈s,m.to.length<=1000)(a5:∀j,j<l.length->A8I l j):A0e (WC gl) 176 [B1W l a b c,.list 5 (A2p s) .no,.agg id.row,I n] M (λv M'=>v=.list 1 (A5f (A2G F l s id n)) .no/\M'=M):=by
 subst hF
 refine A0e.dataX ?_
 refine A0k (hQ [44]) func176 ?_
 simp -dsimp -implicitDefEqProofs[IdD.row]
 refine A0i func222 (D4x gl s id n M hs) ?_
 have f:=D4d s id n
 rcases C0H (isM id n) s 0 with⟨h1,h2⟩|⟨k,h1,h2,h3⟩
 .rw[h2]at f;have hn:A2G (A1B L) l s id n=[]:=by simp[A2G,f]
  simp -dsimp -implicitDefEqProofs[h1];rw[hn];exact⟨Grow.refl _,B5D⟩
 rw[h3]at f
 simp only at f
 obtain⟨T0,a0⟩:∃t,t=s[k].to:=⟨_,rfl⟩
 rw[<-a0]at f
 have ad:T0.length<=1000:=by rw[a0];exact ht _ (Z0v h2)
 rw[Z0K]at h1
 have k1:¬(k:Int)<0:=by omega
 have k2:(k:Int)<s.length:=by omega
 simp -dsimp -implicitDefEqProofs[h1,k1,k2,h2,A2k.row]
 rw[<-a0]
 obtain⟨IL,a8,a9⟩:=hP.ix
 refine A0s (hQ [44]) T0.length 26 (λT M1=>∃i:Nat,Grow M M1/\i<=T0.length/\T 4=.cptr [.list 5 (A1A l) .no,.mapr a,.mapr b,.mapr c]/\T 24=.list 3 (A4L T0) .no/\T 25=I T0.length/\T 26=I i/\(∀y∈T0.take i,(A1l l y).isSome=true)/\A1z 40 1 C2m M1 (T 10) ((T0.take i).map λy=>A4i (A1B L) l ((A1l l y).getD 0+1) ((A1l l y).getD 0:Nat))/\A1n M.length (T 10)) ?_ ?_
 .refine⟨0,Grow.refl _,by omega,by simp,by simp,by simp,by simp,by simp,?_,?_⟩
  .simp only[Z2v,Z1P];exact .inl ⟨by simp,rfl⟩
  .simp[A1n]
 rintro T M1 ⟨i,hg,i1,t4,u,g,w,o,hv,hL⟩
 generalize r:T 10=ov at*
 by_cases hi:i<T0.length
 .have a2:(i:Int)<T0.length:=by omega
  have w1:=A1i (i:=i) (by omega);obtain⟨M2,a1⟩:∃M2,M2=M1++[A0p.cells 23 [I T0[i].act,I T0[i].item,I T0[i].n]]:=⟨_,rfl⟩;have z:Grow M1 M2:=by rw[a1];exact A0c.app none _ _
  have a4:M2[M1.length]?=some (A0p.cells 23 [I T0[i].act,I T0[i].item,I T0[i].n]):=by rw[a1];simp
  have ab:=(a8.keep hg (by simp)).keep z (by simp);have ac:=(hP.units.keep hg (by simp)).keep z (by simp);have aa:=hv.keep z (by simp);have d:=ab.get (A9L 93 3 (by kernel_rfl)) T0[i] D6v true;simp only[A2O,IdD.row,a9]at d;have a7:A2G (A1B L) l s id n=if(T0.all λy=>(A1l l y).isSome)=true then T0.map λy=>A4i (A1B L) l ((A1l l y).getD 0+1) ((A1l l y).getD 0:Nat)else[]:=by simp only[A2G,f]
  simp -dsimp -implicitDefEqProofs[t4,u,g,w,hi,a2,IdD.row,A0o,A0l,A0d];rw[<-a1];cases hsl:A1l l T0[i]with
  |none=>rw[hsl]at d;(have hn:A2G (A1B L) l s id n=[]:=by rw[a7,Z0e];rw[Z0r];intro h;have:=h T0[i] (Z0v hi);rw[hsl]at this;exact absurd this (by simp));simp -dsimp -implicitDefEqProofs[t4,u,g,w,A0a a4,d];rw[hn];exact⟨hg.trans z,B5D⟩
  |some q=>
   rw[hsl]at d;(have hq:q<l.length:=by have:=Z2y.1 hsl;exact this.1);have a3:=A0e.still (enc:=A0u.row) (sz:=2) (λ_=>rfl) B1N (D1o gl l L a b c hl a5 (q+1) q M2 (by omega) (by omega) (by omega) ac);simp -dsimp -implicitDefEqProofs[t4,u,g,w,A0a a4,d,r];refine A0i func224 a3 ?_;simp -dsimp -implicitDefEqProofs[r,A0h,A0J];refine A3E (C:=WC gl) (enc:=C2m) (e:=40) (sz:=1) (news:=[A4i (A1B L) l (q+1) (q:Nat)]) C7l D1m D0Y (λ_=>rfl) aa (by simp[A0B]) (by simp;omega) rfl ?_;intro v' M3 q1 q2 q3 _;obtain⟨r1,r2⟩:=A4T (X:=[]) (hg.trans z) hL (by simpa using q2) (by simpa using q3);(have a6:T0.take (i+1)=T0.take i++[T0[i]]:=by rw[Z0A hi]);simp -dsimp -implicitDefEqProofs[t4,u,g,w,w1];refine⟨⟨r1,i+1,by clear w1;omega,rfl,λy hy=>?_,?_,r2⟩,by clear w1;omega⟩
   .rw[a6]at hy;rcases Z1b.1 hy with h|h
    .exact o y h
    .simp only[Z0P]at h;rw[h,hsl];rfl
   .rw[<-Z1l,a6,Z0Q];simp only[Z0C,Z1P,hsl,Z1p];exact q1
 .have a2:¬(i:Int)<T0.length:=by omega
  rw[Z0l (by omega)]at hv o;have hn:A2G (A1B L) l s id n=T0.map λy=>A4i (A1B L) l ((A1l l y).getD 0+1) ((A1l l y).getD 0:Nat):=by simp only[A2G,f];rw[Z0d (Z0r.2 o)]
  rw[<-hn]at hv;simp -dsimp -implicitDefEqProofs[t4,u,g,w,a2,r];exact⟨hg,A4u (λ_=>rfl) (λn p=>by simp only[C2m,A2l,Z2e];exact A8w n p) hv hL⟩
end
@[simp] def E2c{k j}{a b}:A1C prog .neq 159 (.agg [I k,S a]) (.agg [I j,S b])=some (B (!(decide (k=j)&&decide (a=b)))):=by
 have h1:prog.eqGuardType prog.depth 159=false:=by kernel_rfl
 have h2:prog.stoodInHeld 159=false:=by kernel_rfl
 simp[A1C,A3o,A5i,A5k,A5a,h1,A8H,h2,A2Y];by_cases c1:k=j
 .by_cases c2:a=b
  .simp[c1,c2]
  .have:¬a.data=b.data:=λe=>c2 (by cases a;cases b;simpa using e);(have e:(a.data==b.data)=false:=by simpa using this);rw[e];simp[c1,c2]
 .have e:(k==j)=false:=by simpa using c1
  rw[e];simp[c1]
def pk(p:List A0u):List (Int×ByteArray):=p.map λs=>(s.k,s.lab)
def C1W(p:List A0u):(pk p).length=p.length:=by simp[pk]
def C8u{p q}{i}(hp:i<p.length)(hq:i<q.length)(h:pk p=pk q<->pk (p.drop i)=pk (q.drop i)):pk p=pk q<->(p[i].k=q[i].k/\p[i].lab=q[i].lab)/\pk (p.drop (i+1))=pk (q.drop (i+1)):=by
 rw[h,Z0h hp,Z0h hq]
 simp only[pk,Z0C,Z1g,Z0b]
section
variable (gl:Nat->AV)
def C9g(p q:List A0u)(o1 o2:Own)(M:Mem)(hp:p.length<=1000000):A0e (WC gl) 178 [.list 2 (A1f p) o1,.list 2 (A1f q) o2] M (λv M'=>v=B (decide (pk p=pk q))/\M'=M):=by
 refine A0k hB func178 ?_;by_cases hl:p.length=q.length;case neg=>
  have b:¬(p.length:Int)=q.length:=by omega
  have hr:¬pk p=pk q:=λe=>hl (by rw[<-C1W p,e,C1W]);simp -dsimp -implicitDefEqProofs[b,hr]
 have b:(p.length:Int)=q.length:=by omega
 simp -dsimp -implicitDefEqProofs[b];refine A0s hB p.length 13 (λT M1=>∃i:Nat,M1=M/\i<=p.length/\T 0=.list 2 (A1f p) o1/\T 1=.list 2 (A1f q) o2/\T 12=I q.length/\T 13=I i/\(pk p=pk q<->pk (p.drop i)=pk (q.drop i))) ?_ ?_
 .exact⟨0,rfl,by omega,by simp,by simp,by simp[b],by simp,by simp⟩
 rintro T M1 ⟨i,rfl,h1,t0,t1,d,f,h2⟩;by_cases hi:i<p.length
 .have a:(i:Int)<q.length:=by omega
  have g:(i:Int)<p.length:=by omega
  have hq:i<q.length:=by omega
  have w1:=A1i (i:=i) (by omega);have h3:=C8u hi hq h2;simp -dsimp -implicitDefEqProofs[t0,t1,d,f,a];refine A1h hB (A0w gl) (λ_=>0) (λ_=>0) (by rfl) (by kernel_rfl) ?_;by_cases c:p[i].k=q[i].k/\p[i].lab=q[i].lab
  .simp -dsimp -implicitDefEqProofs[t0,t1,d,f,hi,a,hq,g,c.1,c.2,w1];exact⟨⟨i+1,by clear w1;omega,rfl,by rw[h3];exact⟨λh=>h.2,λh=>⟨c,h⟩⟩⟩,by clear w1;omega⟩
  .have hr:¬pk p=pk q:=λe=>c (h3.1 e).1;have hd:(decide (p[i].k=q[i].k)&&decide (p[i].lab=q[i].lab))=false:=by
    rw[Z2A,Z1n,Z1n];by_cases c1:p[i].k=q[i].k
    .exact .inr λe=>c ⟨c1,e⟩
    .exact .inl c1
   simp -dsimp -implicitDefEqProofs[t0,t1,d,f,hi,a,hq,g,hd,hr]
 .have a:¬(i:Int)<q.length:=by omega
  rw[Z0n (by omega),Z0n (by omega)]at h2;have hr:pk p=pk q:=h2.2 rfl;simp -dsimp -implicitDefEqProofs[t0,t1,d,f,a,hr]
def C1i(p q:List A0u)(o1 o2:Own)(M:Mem)(hp:p.length<=1000000):A0e (WC gl) 37 [.list 2 (A1f p) o1,.list 2 (A1f q) o2] M (λv M'=>v=B (decide (pk p=pk q))/\M'=M):=by
 refine A0k hB func37 ?_;by_cases hl:p.length=q.length;case neg=>
  have d:¬(p.length:Int)=q.length:=by omega
  have hr:¬pk p=pk q:=λe=>hl (by rw[<-C1W p,e,C1W]);simp -dsimp -implicitDefEqProofs[d,hr]
 have d:(p.length:Int)=q.length:=by omega
 simp -dsimp -implicitDefEqProofs[d];refine A0s hB p.length 5 (λT M1=>∃i:Nat,M1=M/\i<=p.length/\T 0=.list 2 (A1f p) o1/\T 1=.list 2 (A1f q) o2/\T 5=I i/\(pk p=pk q<->pk (p.drop i)=pk (q.drop i))) ?_ ?_
 .exact⟨0,rfl,by omega,by simp,by simp,by simp,by simp⟩
 rintro T M1 ⟨i,rfl,h1,t0,t1,t5,h2⟩;by_cases hi:i<p.length
 .have a:(i:Int)<q.length:=by omega
  have b:(i:Int)<p.length:=by omega
  have hq:i<q.length:=by omega
  have w1:=A1i (i:=i) (by omega);have h3:=C8u hi hq h2;simp -dsimp -implicitDefEqProofs[t0,t1,t5,a,b];refine A1h hB (A0w gl) (λ_=>0) (λ_=>0) (by rfl) (by kernel_rfl) ?_;by_cases c:p[i].k=q[i].k/\p[i].lab=q[i].lab
  .simp -dsimp -implicitDefEqProofs[t0,t1,t5,hi,a,hq,b,c.1,c.2,w1];exact⟨⟨i+1,by clear w1;omega,rfl,by rw[h3];exact⟨λh=>h.2,λh=>⟨c,h⟩⟩⟩,by clear w1;omega⟩
  .have hr:¬pk p=pk q:=λe=>c (h3.1 e).1;have hd:(decide (p[i].k=q[i].k)&&decide (p[i].lab=q[i].lab))=false:=by
    rw[Z2A,Z1n,Z1n];by_cases c1:p[i].k=q[i].k
    .exact .inr λe=>c ⟨c1,e⟩
    .exact .inl c1
   simp -dsimp -implicitDefEqProofs[t0,t1,t5,hi,a,hq,b,hd,hr]
 .have a:¬(i:Int)<p.length:=by omega
  have f:¬(i:Int)<q.length:=by omega
  rw[Z0n (by omega),Z0n (by omega)]at h2;have hr:pk p=pk q:=h2.2 rfl;simp -dsimp -implicitDefEqProofs[t0,t1,t5,a,f,hr]
def D2O(a b:A0P)(M:Mem)(ha:a.path.length<=1000000):A0e (WC gl) 177 [.agg a.row,.agg b.row] M (λv M'=>v=B (A7O a b)/\M'=M):=by
 refine A0k hB func177 ?_;by_cases c1:a.k=b.k;case neg=>simp -dsimp -implicitDefEqProofs[A0P.row,c1,A7O]
 by_cases c2:a.to=b.to;case neg=>simp -dsimp -implicitDefEqProofs[A0P.row,c1,c2,A7O]
 simp -dsimp -implicitDefEqProofs[A0P.row,c1,c2];refine A0i func178 (C9g gl a.path b.path .no .no M ha) ?_;simp -dsimp -implicitDefEqProofs[A7O,c1,c2,pk];exact decide_eq_decide.2 Iff.rfl
def D1U{a b:List A0P}{f:A0P×A0P->Bool}{i:Nat}(ha:i<a.length)(hb:i<b.length)(h:(a.zip b).all f=((a.drop i).zip (b.drop i)).all f):(a.zip b).all f=(f (a[i],b[i])&&((a.drop (i+1)).zip (b.drop (i+1))).all f):=by rw[h,Z0h ha,Z0h hb];rfl
def C8N(a b:List A0P)(o1 o2:Own)(M:Mem)(hl:a.length<=1000000000)(ha:∀c∈a,c.path.length<=1000000):A0e (WC gl) 179 [.list 5 (A2K a) o1,.list 5 (A2K b) o2,.func (.func 177) [] []] M (λv M'=>v=B (A9m a b)/\M'=M):=by
 refine A6Z (λ_=>trivial) ?_;refine A0k hB func179 ?_;by_cases hlen:a.length=b.length;case neg=>
  have d:¬(a.length:Int)=b.length:=by omega
  simp -dsimp -implicitDefEqProofs[d,A9m,hlen,A0c.refl]
 have d:(a.length:Int)=b.length:=by omega
 have hm:A9m a b=(a.zip b).all (λx=>A7O x.1 x.2):=by simp[A9m,hlen]
 rw[hm];simp -dsimp -implicitDefEqProofs[d];refine A0s hB a.length 17 (λT M1=>∃i:Nat,Grow M M1/\i<=a.length/\T 0=.list 5 (A2K a) o1/\T 1=.list 5 (A2K b) o2/\T 2=.func (.func 177) [] []/\T 15=.list 5 (A2K a) o1/\T 16=I b.length/\T 17=I i/\(a.zip b).all (λx=>A7O x.1 x.2)=((a.drop i).zip (b.drop i)).all (λx=>A7O x.1 x.2)) ?_ ?_
 .exact⟨0,Grow.refl _,by omega,by simp,by simp,by simp,by simp,by simp[d],by simp,by simp⟩
 rintro T M1 ⟨i,hg,h1,t0,t1,t2,e,f,h,h2⟩;by_cases hi:i<a.length
 .have g:(i:Int)<b.length:=by omega
  have k:(i:Int)<a.length:=by omega
  have hq:i<b.length:=by omega
  have w1:IntKind.i64.wrap ((i:Int)+1)=(i+1:Nat):=by rw[A0H (by omega) (by omega)];omega
  have h3:=D1U hi hq h2;have hX:(M1++[A0p.cells 110 a[i].row,A0p.cells 110 b[i].row])[M1.length]?=some (A0p.cells 110 a[i].row):=by simp
  have hY:(M1++[A0p.cells 110 a[i].row,A0p.cells 110 b[i].row])[M1.length+1]?=some (A0p.cells 110 b[i].row):=by simp[Z1B]
  have j:Grow M (M1++[A0p.cells 110 a[i].row,A0p.cells 110 b[i].row]):=hg.trans (A0c.app none _ _);have hs:=D2O gl a[i] b[i] (M1++[A0p.cells 110 a[i].row,A0p.cells 110 b[i].row]) (ha _ (Z0v hi));simp only[A0P.row]at hX hY j hs;simp -dsimp -implicitDefEqProofs[t0,t1,t2,e,f,h,hi,g,k,hq,A0P.row,A0o,A0l,A0d,A0a hX,A0a hY];refine A0i func177 hs ?_;cases c:A7O a[i] b[i]with
  |false=>rw[c,Z0q]at h3;simp -dsimp -implicitDefEqProofs[h3,j]
  |true=>rw[c,Z0s]at h3;simp -dsimp -implicitDefEqProofs[t0,t1,t2,e,f,h,w1];exact⟨⟨j,i+1,by clear w1;omega,rfl,h3⟩,by clear w1;omega⟩
 .have g:¬(i:Int)<b.length:=by omega
  rw[Z0n (by omega)]at h2;have hr:(a.zip b).all (λx=>A7O x.1 x.2)=true:=by rw[h2];rfl
  simp -dsimp -implicitDefEqProofs[t0,t1,t2,e,f,h,g,hr,hg]
end
@[simp] def D5C{k}{rows}{o}:A0Q prog 110 [(0,I k),(1,.list 2 rows o)]=some (.agg [I k,.list 2 rows o,S ⟨#[]⟩,I 0,I 0]):=by
 simp[A0Q,A1G,A2e,A0d,AV.cells,AV.storable]
section
variable (gl:Nat->AV)
def C8L(F:IdD->Option A0b)(s:List A2k)(l:List A0L)(L:List (IdD×A0b))(hF:A1B L=F)(a b c:Nat)(x:A0b)(M:Mem)(hP:B3r l L a b c M)(hl:l.length<=1000)(b5:∀s∈l,s.good)(hs:s.length<=1000)(ht:∀m∈s,m.to.length<=40)(av:∀j,j<l.length->A8I l j)
 (hx:x.good)(b0:x.words.length<=300):
 A0e (WC gl) 125 [B1W l a b c,.agg x.row,.list 5 (A2p s) .no] M (λv M'=>v=.tuple [.list 1 (A0F (A5I F l s x).1) .no,B (A5I F l s x).2]/\M'=M):=by
 refine A0e.dataX ?_
 obtain⟨xs,aa⟩:∃xs,xs=A1o x.words:=⟨_,rfl⟩
 have bi:xs.length<=300:=by rw[aa];simpa[A1o]using b0
 have a4:∀t∈xs,t.size<=maxLen:=by rw[aa];intro t h;obtain⟨w,hw,rfl⟩:=Z0W.1 h;exact(((A0b.good_iff _).1 hx).2.2.2.2.2.2.1 w hw).1
 rw[x.row_eq]
 refine A0k (hQ [32,54,64,68,73]) func125 ?_
 simp -dsimp -implicitDefEqProofs
 refine C7v (.exit 0) (λT M1=>T 2=.list 5 (A2p s) .no/\T 3=.cptr [.list 5 (A1A l) .no,.mapr a,.mapr b,.mapr c]/\T 4=.cptr [I x.id.act,I x.id.item,I x.id.n,I x.kind,S x.label,.list 4 (A0g x.head) .no,.list 4 (A0g x.words) .no,.list 8 (A0O x.kids) .no]/\Grow M M1/\Arr 9 1 A4p M.length M1 (T 8) xs) ?_ ?_
 .refine A0s (hQ [32,54,64,68,73]) x.words.length 24 (λT M1=>∃i:Nat,i<=x.words.length/\T 2=.list 5 (A2p s) .no/\T 3=.cptr [.list 5 (A1A l) .no,.mapr a,.mapr b,.mapr c]/\T 4=.cptr [I x.id.act,I x.id.item,I x.id.n,I x.kind,S x.label,.list 4 (A0g x.head) .no,.list 4 (A0g x.words) .no,.list 8 (A0O x.kids) .no]/\T 22=.list 4 (A0g x.words) .no/\T 23=I x.words.length/\T 24=I i/\Grow M M1/\Arr 9 1 A4p M.length M1 (T 8) (A1o (x.words.take i))) ?_ ?_
  .refine⟨0,by omega,by simp,by simp,by simp,by simp,by simp,by simp,Grow.refl _,?_⟩;simpa[A1o]using Arr.nil
  rintro T M1 ⟨i,i1,t2,t3,t4,ad,a9,ae,hg,hv⟩;generalize au:T 8=ov at*;by_cases hi:i<x.words.length
  ·(have a0:(i:Int)<x.words.length:=by omega);have w1:=A1i (i:=i) (by omega)
   obtain⟨M2,ak⟩:∃M2,M2=M1++[A0p.cells 152 [S x.words[i].text,I x.words[i].act,I x.words[i].item,I x.words[i].at_]]:=⟨_,rfl⟩;(have ai:Grow M1 M2:=by rw[ak];exact A0c.app none _ _);(have be:M2[M1.length]?=some (A0p.cells 152 [S x.words[i].text,I x.words[i].act,I x.words[i].item,I x.words[i].at_]):=by rw[ak];simp);(have ag:A1o (x.words.take (i+1))=A1o (x.words.take i)++[x.words[i].text]:=by rw[A1o,A1o,Z2f,Z0m hi,Z0Q];rfl);have ah:=hv.keep ai;simp -dsimp -implicitDefEqProofs[t2,t3,t4,ad,a9,ae,hi,a0,A0G.row,A0o,A0l,A0d];rw[<-ak];simp -dsimp -implicitDefEqProofs[t2,t3,t4,ad,a9,ae,au,A0a be,A0h,A0J];refine A3E (C:=WC gl) (enc:=A4p) (e:=9) (sz:=1) (news:=[x.words[i].text]) A4X A6S B0K (λ_=>rfl) ah.own (by simp[A0B]) (by simp[A1o];omega) rfl ?_;intro v' M3 q1 q2 q3 _;simp -dsimp -implicitDefEqProofs[t2,t3,t4,ad,a9,ae,w1];refine⟨⟨i+1,by clear w1;omega,rfl,ah.grow (hg.trans ai) q2,?_⟩,by clear w1;omega⟩;rw[ag];exact⟨q1,ah.later (hg.trans ai).1 q3⟩
  ·(have a0:¬(i:Int)<x.words.length:=by omega);rw[Z0l (by omega),<-aa]at hv
   simp -dsimp -implicitDefEqProofs[t2,t3,t4,ad,a9,ae,a0,au,hg];exact hv
 rintro T M1 ⟨t2,t3,t4,hg,hv⟩
 refine⟨M.length,T.put (some 8) (.list 1 (A0F xs) .no),A7a (B5h T) (Still.rows (λ_=>rfl) (λ_ _ _=>trivial) hv.own hv.lat .nil),?_⟩
 have a5:=B1y hg
 generalize A5L M1 M.length=M2 at*
 clear hv hg M1
 obtain⟨cs,aj⟩:∃cs,cs=A2z xs 0:=⟨_,rfl⟩
 have bm:cs.length<=xs.length:=by rw[aj];exact A7z xs _ _
 have ar:=λM=>A0e.still (enc:=A0P.row) (sz:=5) (λ_=>rfl) B7k (C3m gl xs .no (by omega) a4 M)
 rw[<-aj]at ar
 simp -dsimp -implicitDefEqProofs[Env.put_some,t2,t3,t4]
 refine A0i func98 (ar M2) ?_
 obtain⟨nm,ac⟩:∃nm:Nat->List (List A0u),nm=λn:Nat=>A2G F l s x.id n:=⟨_,rfl⟩
 have a1:∀i,(nm i).length<=40:=λi=>by rw[ac];exact A8X ht
 have b6:∀i,∀p∈nm i,A5v p:=λi p hp=>by rw[ac]at hp;exact B2F hl b5 p hp
 simp -dsimp -implicitDefEqProofs[Env.put_some,t2,t3,t4]
 refine C7v (.exit 2) (λT M1=>T 8=.list 1 (A0F xs) .no/\Tri M M1 (T 11) (T 12) (T 13) (A6d cs nm cs.length) (A5w cs nm cs.length) (A7C nm cs.length)) ?_ ?_
 .refine A0s (hQ [32,54,64,68,73]) cs.length 37 (λT M1=>∃i:Nat,i<=cs.length/\T 2=.list 5 (A2p s) .no/\T 3=.cptr [.list 5 (A1A l) .no,.mapr a,.mapr b,.mapr c]/\T 4=.cptr [I x.id.act,I x.id.item,I x.id.n,I x.kind,S x.label,.list 4 (A0g x.head) .no,.list 4 (A0g x.words) .no,.list 8 (A0O x.kids) .no]/\T 8=.list 1 (A0F xs) .no/\T 35=.list 5 (A2K cs) .no/\T 36=I cs.length/\T 37=I i/\Tri M M1 (T 11) (T 12) (T 13) (A6d cs nm i) (A5w cs nm i) (A7C nm i)) ?_ ?_
  .refine⟨0,by omega,?_⟩;simp -dsimp -implicitDefEqProofs[Env.put_some,t2,t3,t4,A2K];exact⟨a5,.nil,.nil,.nil,.nil,.nil,.nil⟩
  clear t2 t3 t4 a5;rintro T M1 ⟨i,i1,t2,t3,t4,t8,g,d,t37,h3⟩;generalize r:T 11=b4 at*;generalize u:T 12=b7 at*;generalize o:T 13=bg at*;by_cases hi:i<cs.length;case neg=>
   (have a0:¬(i:Int)<cs.length:=by omega);obtain rfl:i=cs.length:=by omega
   simp -dsimp -implicitDefEqProofs[t2,t3,t4,t8,g,d,t37,a0,r,u,o];exact h3
  have a0:(i:Int)<cs.length:=by omega
  have w1:=A1i (i:=i) (by omega);obtain⟨M3,ab⟩:∃M3,M3=M1++[A0p.cells 110 cs[i].row]:=⟨_,rfl⟩;have bd:Grow M1 M3:=by rw[ab];exact A0c.app none _ _
  have a2:M3[M1.length]?=some (A0p.cells 110 cs[i].row):=by rw[ab];simp
  replace h3:=h3.keep bd;have am:=C6S gl F s l L hF a b c x.id (i:Int) M3 (hP.keep h3.grow) hl hs (λm hm=>by have:=ht m hm;omega) av;have o1:=B4W cs nm i hi;have o2:=B3e cs nm i hi;have o3:=B5o nm i;have b1:=A8l cs nm a1 i;have b2:=B2i cs nm a1 i;have b3:=B8O nm a1 i;have az:A2G F l s x.id i=nm i:=by rw[ac]
  rw[az]at am;have ay:=a1 i;obtain⟨q,hq⟩:∃q,q=M1.length:=⟨_,rfl⟩;simp only[A0P.row]at a2 ab;simp only[IdD.row]at am;rw[<-hq]at a2;simp -dsimp -implicitDefEqProofs[t2,t3,t4,t8,g,d,t37,hi,a0,A0P.row,A0o,A0l,A0d];rw[<-ab,<-hq];refine A0i func176 am ?_;simp -dsimp -implicitDefEqProofs[-A4b];rw[A4b];obtain⟨D,hD⟩:∃D,D=nm i:=⟨_,rfl⟩;rw[<-hD]at o1 o2 o3 ay;rw[<-hD];obtain⟨B,hB⟩:∃B,B=if D=[]then A5w cs nm i++[cs[i]]else A5w cs nm i:=⟨_,rfl⟩;have bk:B.length<=i*(40+1)+1:=by
   rw[hB];split
   .simp;omega
   .omega
  refine A8h (λT M4=>T 2=.list 5 (A2p s) .no/\T 3=.cptr [.list 5 (A1A l) .no,.mapr a,.mapr b,.mapr c]/\T 4=.cptr [I x.id.act,I x.id.item,I x.id.n,I x.kind,S x.label,.list 4 (A0g x.head) .no,.list 4 (A0g x.words) .no,.list 8 (A0O x.kids) .no]/\T 8=.list 1 (A0F xs) .no/\T 15=.ptr q 0/\T 16=.list 1 (A5f D) .no/\T 35=.list 5 (A2K cs) .no/\T 36=I cs.length/\T 37=I i/\M4[q]?=some (A0p.cells 110 [I cs[i].k,A5G cs[i].path,S cs[i].to,I cs[i].frm,I cs[i].at_])/\Tri M M4 (T 11) (T 12) (T 13) (A6d cs nm i) B (A7C nm i)) ?_ ?_
  .by_cases hn:D=[]
   ·(have af:((D.length:Nat):Int)=0:=by rw[hn];rfl);rw[Z0d hn]at hB
    simp -dsimp -implicitDefEqProofs[t2,t3,t4,t8,g,d,t37,r,u,o,hn,af,A0a a2,A0h,A0J];refine A3E (C:=WC gl) (enc:=A0P.row) (e:=110) (sz:=5) (news:=[cs[i]]) B1k B5L B1U (λ_=>rfl) h3.h2.own (by simp[A0B,A0P.row]) (by simp;omega) rfl ?_;intro v' M4 q1 q2 q3 _;simp -dsimp -implicitDefEqProofs[t2,t3,t4,t8,g,d,t37,r,u,o];refine⟨by rw[hn],h3.h2.cells q2 a2,?_⟩;rw[hB];exact h3.push2 q1 q2 q3
   .have af:¬((D.length:Nat):Int)=0:=λe=>hn (Z0w (by omega));have b9:¬D.length=0:=λe=>hn (Z0w e);rw[Z0e hn]at hB;rw[hB];simp -dsimp -implicitDefEqProofs[t2,t3,t4,t8,g,d,t37,r,u,o,hn,af,b9];exact⟨a2,h3⟩
  have ao:=t37;clear t2 t3 t4 t8 g d t37 r u o h3 a2;rintro T M4 ⟨t2,t3,t4,t8,z,aw,g,d,t37,an,h4⟩;simp -dsimp -implicitDefEqProofs[t2,t3,t4,t8,z,aw,g,d,t37];refine A2o (hQ [32,54,64,68,73]) (λT M5=>∃j:Nat,j<=D.length/\T 2=.list 5 (A2p s) .no/\T 3=.cptr [.list 5 (A1A l) .no,.mapr a,.mapr b,.mapr c]/\T 4=.cptr [I x.id.act,I x.id.item,I x.id.n,I x.kind,S x.label,.list 4 (A0g x.head) .no,.list 4 (A0g x.words) .no,.list 8 (A0O x.kids) .no]/\T 8=.list 1 (A0F xs) .no/\T 15=.ptr q 0/\T 35=.list 5 (A2K cs) .no/\T 36=I cs.length/\T 37=I i/\T 55=.list 1 (A5f D) .no/\T 56=I D.length/\T 57=I j/\
   M5[q]?=some (A0p.cells 110 [I cs[i].k,A5G cs[i].path,S cs[i].to,I cs[i].frm,I cs[i].at_])/\Tri M M5 (T 11) (T 12) (T 13) (A6d cs nm i++(D.take j).map λ_=>cs[i]) (B++(D.take j).map λp=>⟨0,p,⟨#[]⟩,0,0⟩) (A7C nm i++D.take j))
   (λT M1=>match T 57 with|.val (.int _ j)=>D.length-j.toNat|_=>0) (by kernel_rfl) ?_ ?_
  .refine⟨0,by omega,by simp[t2],by simp[t3],by simp[t4],by simp[t8],by simp[z],by simp[g],by simp[d],by simp[t37],by simp,by simp,by simp,an,?_⟩;simpa using h4
  clear t2 t3 t4 t8 z aw g d t37 an h4;rintro T M5 ⟨j,j1,t2,t3,t4,t8,z,g,d,t37,a8,a6,a3,ax,h5⟩;generalize r:T 11=b4 at*;generalize u:T 12=b7 at*;generalize o:T 13=bg at*;by_cases hj:j<D.length;case neg=>
   (have al:¬(j:Int)<D.length:=by omega);rw[Z0l (by omega)]at h5
   rw[<-o1,<-o3]at h5;have bf:B++D.map (λp=>(⟨0,p,⟨#[]⟩,0,0⟩:A0P))=A5w cs nm (i+1):=by
    rw[o2,hB];by_cases hn:D=[]
    .rw[Z0d hn,Z0d hn,hn];simp
    .rw[Z0e hn,Z0e hn]
   rw[bf]at h5;simp -dsimp -implicitDefEqProofs[t2,t3,t4,t8,z,g,d,t37,a8,a6,a3,al,w1,r,u,o,ao];exact⟨⟨i+1,by clear w1;omega,rfl,h5⟩,by clear w1;omega⟩
  have al:(j:Int)<D.length:=by omega
  have w2:=A1i (i:=j) (by omega);simp -dsimp -implicitDefEqProofs[t2,t3,t4,t8,z,g,d,t37,a8,a6,a3,hj,al,r,u,o,A0a ax,A0h,A0J];refine A3E (C:=WC gl) (enc:=A0P.row) (e:=110) (sz:=5) (news:=[cs[i]]) B1k B5L B1U (λ_=>rfl) h5.h1.own (by simp[A0B,A0P.row]) (by simp;omega) rfl ?_;intro bp M6 q1 q2 q3 _;have b8:=h5.h1.cells q2 ax;replace h5:=h5.push1 q1 q2 q3;simp -dsimp -implicitDefEqProofs[t2,t3,t4,t8,z,g,d,t37,a8,a6,a3,r,u,o,A0h,A0J];refine A3E (C:=WC gl) (enc:=C2m) (e:=40) (sz:=1) (news:=[D[j]]) C7l D1m D0Y (λ_=>rfl) h5.h3.own (by simp[A0B,A1f,C2m]) (by simp;omega) rfl ?_;intro bn M7 q4 q5 q6 _;have ba:=h5.h3.cells q5 b8;replace h5:=h5.push3 q4 q5 q6;simp -dsimp -implicitDefEqProofs[t2,t3,t4,t8,z,g,d,t37,a8,a6,a3,r,u,o,A0h,A0J];refine A3E (C:=WC gl) (enc:=A0P.row) (e:=110) (sz:=5) (news:=[⟨0,D[j],⟨#[]⟩,0,0⟩]) B1k B5L B1U (λ_=>rfl) h5.h2.own (by simp[A0B,A0P.row,A1f]) (by simp;omega) rfl ?_;intro bq M8 q7 q8 q9 _;have bb:=h5.h2.cells q8 ba;replace h5:=h5.push2 q7 q8 q9;have ag:D.take (j+1)=D.take j++[D[j]]:=by rw[Z0A hj]
  simp -dsimp -implicitDefEqProofs[t2,t3,t4,t8,z,g,d,t37,a8,a6,a3,w2];refine⟨⟨j+1,by clear w1 w2;omega,rfl,bb,?_⟩,by clear w1 w2;omega⟩;rw[<-Z1l,<-Z1l,ag,Z0Q,Z0Q,<-Z0O,<-Z0O,<-Z0O];exact h5
 clear t2 t3 t4 a5
 rintro T M1 ⟨t8,h3⟩
 refine⟨M.length,((T.put (some 11) (.list 5 (A2K (A6d cs nm cs.length)) .no)).put (some 12) (.list 5 (A2K (A5w cs nm cs.length)) .no)).put (some 13) (.list 1 (A5f (A7C nm cs.length)) .no),?_,?_⟩
 .refine A7a (A7a (A7a (B5h T) ?_) ?_) ?_
  .exact Still.rows (λ_=>rfl) (λ_ _ _=>trivial) h3.h1.own h3.h1.lat .nil
  .exact Still.rows (λ_=>rfl) (λ_ _ _=>trivial) h3.h2.own h3.h2.lat .nil
  .exact Still.rows (λ_=>rfl) (λ_ _ _=>trivial) h3.h3.own h3.h3.lat .nil
 have a5:=B1y h3.grow
 generalize A5L M1 M.length=M2 at*
 clear h3
 have bo:=A8l cs nm a1 cs.length
 have bj:=B2i cs nm a1 cs.length
 obtain⟨y,a7⟩:∃y,y=A4m xs (A6d cs nm cs.length) (A7C nm cs.length):=⟨_,rfl⟩
 obtain⟨s1,s2⟩:=A6t (old:=A6d cs nm cs.length) (names:=A7C nm cs.length) (B:=maxLen) (by simp[maxLen]) a4
 rw[<-a7]at s1 s2
 have bh:y.length<=1000000000:=by have:(A6d cs nm cs.length).length*(xs.length+19)<=12000*400:=Z3b (by omega) (by omega);omega
 have ap:=λM=>A0e.still (enc:=A4p) (sz:=1) (e:=9) (λ_=>rfl) A5N ((C7d gl M xs (A6d cs nm cs.length) (A7C nm cs.length) .no .no .no (by omega) a4 (by omega) (λp hp=>by obtain⟨j,hj⟩:=C4F nm hp;exact b6 j p hj)).mono λv M' h=>h.toT)
 rw[<-a7]at ap
 have aq:=λM=>A0e.still (enc:=A0P.row) (sz:=5) (λ_=>rfl) B7k (C3m gl y .no (by omega) s1 M)
 have hW:A5I F l s x=(y,A9m (A2z y 0) (A5w cs nm cs.length)):=by unfold A5I;simp only;rw[<-aa,<-aj,<-ac,<-a7]
 rw[hW]
 have bl:(A2z y 0).length<=y.length:=by have:=A7z y (y.length-0) 0;simpa[A2z]using this
 have bc:∀c∈A2z y 0,c.path.length<=1000000:=λc hc=>by have h:=(B4i y _ _ c hc).1;simp only[A2D,Z0f,Z0o]at h;omega
 simp -dsimp -implicitDefEqProofs[Env.put_some,t8]
 refine A0i func18 (ap M2) ?_
 simp -dsimp -implicitDefEqProofs[Env.put_some,t8]
 refine A0i func98 (aq M2) ?_
 simp -dsimp -implicitDefEqProofs[Env.put_some,t8]
 refine A0i func179 (C8N gl (A2z y 0) (A5w cs nm cs.length) .no .no M2 (by omega) bc) ?_
 simp -dsimp -implicitDefEqProofs[Env.put_some,t8]
 exact⟨a5,.tuple (.same (A3C (f:=A4p) (A5N _) y) (.same trivial .nil)) .nil⟩
end
structure Fm {α:Type} (sz:Nat) (enc:α->List AV) (n:Nat) (M:Mem) (v:AV) (l:List α):Prop where
 fam:A6r sz enc M v l
 lat:∀f,A4N v=some f->n<=f
def A7G(a b:AV):Prop:=∀f,A4N a=some f->A4N b≠some f
def A7G.symm{a b:AV}(h:A7G a b):A7G b a:=λf h1 h2=>h f h2 h1
def A7G.nil{b:AV}:A7G (.val (.slice none 0 0)) b:=λf h=>by simp at h
section
variable {α β:Type} {sz sz2 n q:Nat} {enc:α->List AV} {enc2:β->List AV} {M M':Mem} {v v' u:AV} {l l':List α} {r:List β}
def Fm.nil:Fm sz enc n M (.val (.slice none 0 0)) []:=⟨.nil,λf h=>by simp at h⟩
def Fm.full:Fm sz enc n M (.list sz (l.map enc) .full) l:=⟨.full,λf h=>by simp at h⟩
def Fm.keep(h:Fm sz enc n M v l)(hk:Grow M M'):Fm sz enc n M' v l:=⟨h.fam.keep hk (by simp),h.lat⟩
def Fm.beside(h:Fm sz2 enc2 n M u r)(ha:A7G v u)(hk:A0c (A4N v) M M'):Fm sz2 enc2 n M' u r:=⟨h.fam.keep hk (λf hf hv=>ha f hv hf),h.lat⟩
def Fm.setq(h:Fm sz enc n M v l){X:A0p}(hq:q<n):Fm sz enc n (M.set q X) v l:=⟨h.fam.keep (A0c.set _ _ _) (λf hf e=>by have:=h.lat f hf;simp at e;omega),h.lat⟩
def Fm.push(h:Fm sz enc n M v l)(hn:n<=M.length)(k1:A6r sz enc M' v' l')(k3:A4N v'=A4N v\/∀f,A4N v'=some f->M.length<=f):Fm sz enc n M' v' l':=⟨k1,λf hf=>by
 rcases k3 with e|e
 .exact h.lat f (e▸hf)
 .have:=e f hf;omega⟩
def Fm.low(h:Fm sz enc n M v l)(hn:n<=M.length)(hk:A0c (A4N v) M M'):A0I n M M':=hk.low hn h.lat
def Fm.apart(h:Fm sz2 enc2 n M u r)(ha:A7G v u)(k3:A4N v'=A4N v\/∀f,A4N v'=some f->M.length<=f):A7G v' u:=λf hf hu=>by
 rcases k3 with e|e
 .exact ha f (e▸hf) hu
 .have:=e f hf;have:=h.fam.lt hu;omega
def Fm.cells{t:Nat}{xs:List AV}(h:Fm sz enc n M v l)(hk:A0c (A4N v) M M')(hq:M[q]?=some (.cells t xs)):M'[q]?=some (.cells t xs):=hk.get hq λe=>by
 rcases h.fam with⟨rfl,_⟩|rfl|⟨f,rfl,hm⟩
 .simp at e
 .simp at e
 .simp only[C5i,Z0a]at e;subst e;rw[hm]at hq;simp at hq
def Fm.data{ok:AV->Prop}{m:Nat}{cs ds:List AV}(h:Fm sz enc n M v l)(hb:ok (.list sz (l.map enc) .no))(hr:Still M' m ok cs ds):Still M' m ok (v::cs) (.list sz (l.map enc) .no::ds):=by
 rcases h.fam with⟨rfl,rfl⟩|rfl|⟨f',rfl,hm⟩
 .exact .nilS hr
 .exact .dis hb hr
 .exact .dis hb hr
end
def A0I.le{n m:Nat}{A B:Mem}(h:A0I n A B)(hm:m<=n):A0I m A B:=⟨h.1,λi hi=>h.2 i (by omega)⟩
def A0I.setq{n q:Nat}{A B:Mem}(h:A0I n A B){X:A0p}(hq:n<=q):A0I n A (B.set q X):=⟨by simpa using h.1,λi hi=>by rw[Z0g (by omega)];exact h.2 i hi⟩
def A0I.grow{n:Nat}{M A B:Mem}(h:A0I n A B)(hg:Grow M A)(hn:M.length<=n):Grow M B:=⟨Z0T hg.1 h.1,λi hi _=>by rw[h.2 i (by omega)];exact hg.2 i hi (by simp)⟩
def B5P(t:A0b×List IdD×Int):AV:=.tuple [.agg t.1.row,.list 3 (A4L t.2.1) .no,I t.2.2]
abbrev ouC(k:Int)(lab:ByteArray)(hv wv kv:AV):A0p:=.cells 27 [I 0,I 0,I 0,I k,S lab,hv,wv,kv]
abbrev z8:A0p:=ouC 0 ⟨#[]⟩ A0Z A0Z A0Z
@[simp] def D6s{k}{t}:A0Q prog 27 [(1,I k),(2,S t)]=some (.agg [I 0,I 0,I 0,I k,S t,A0Z,A0Z,A0Z]):=by
 simp[A0Q,A1G,A2e,A0d,AV.cells,AV.storable]
@[simp] def D6w{t}:A0Q prog 152 [(0,S t)]=some (.agg [S t,I 0,I 0,I 0]):=by
 simp[A0Q,A1G,A2e,A0d,AV.cells,AV.storable]
def A9H{F:IdD->Option A0b}{l}{s}(a:∀j,j<l.length->A8I l j)(f n:Nat)(hn:n<l.length)(hf:l.length<=f+n):(A1N F l s f n).2.1.length<=l.length:=by rw[B5f,Z0L];obtain⟨h1,h2⟩:=B3k (par:=λk=>A4s l k) (N:=l.length) (λj hj=>by have:=(a j hj j hj (Z0u _)).2;simpa[A4s,hj]using this) f n hn hf;have:=C2G (l:=A6Y (λk=>A4s l ↑k) l.length f n) (m:=List.range l.length) h1 (λx hx=>by have:=((h2 x).1 hx).1;simpa using this);simpa using this
def B7z{F:IdD->Option A0b}{s}{l}{x}(hl:l.length<=1000)(f:∀s∈l,s.good)(ht:∀m∈s,m.to.length<=40)(hx:x.good)(b:x.words.length<=300):(A5I F l s x).1.length<=1000000000:=by
 have c:(A1o x.words).length<=300:=by simpa[A1o]using b
 have a:∀t∈A1o x.words,t.size<=maxLen:=by intro t h;obtain⟨w,hw,rfl⟩:=Z0W.1 h;exact(((A0b.good_iff _).1 hx).2.2.2.2.2.2.1 w hw).1
 unfold A5I;simp only;generalize A1o x.words=xs at*;have d:(A2z xs 0).length<=xs.length:=A7z xs _ _;have e:=A8l (A2z xs 0) (λn:Nat=>A2G F l s x.id n) (λi=>A8X ht) (A2z xs 0).length;obtain⟨s1,s2⟩:=A6t (old:=A6d (A2z xs 0) (λn:Nat=>A2G F l s x.id n) (A2z xs 0).length) (names:=A7C (λn:Nat=>A2G F l s x.id n) (A2z xs 0).length) (B:=maxLen) (by simp[maxLen]) a;have:(A6d (A2z xs 0) (λn:Nat=>A2G F l s x.id n) (A2z xs 0).length).length*(xs.length+19)<=12000*400:=Z3b (by omega) (by omega);omega
section
variable (gl:Nat->AV)
set_option maxHeartbeats 1000000 in
def D4C(F:IdD->Option A0b)(s:List A2k)(l:List A0L)(L:List (IdD×A0b))(hF:A1B L=F)(a b c:Nat)(hl:l.length<=1000)(bp:∀s∈l,s.good)(hs:s.length<=1000)(ht:∀m∈s,m.to.length<=40)(ak:∀j,j<l.length->A8I l j)
 (ce:∀n (h:n<l.length),∃u,F l[n].id=some u/\u.good/\u.words.length<=300/\u.head.length<=300):∀(f n:Nat) (M:Mem),n<l.length->l.length<=f+n->B3r l L a b c M->
 A0e (WC gl) 71 [B1W l a b c,.list 5 (A2p s) .no,I n] M (λv M'=>v=B5P (A1N F l s f n)/\M'=M):=by
 intro f
 induction f with
 |zero=>intro n M h1 h2 _;omega
 |succ f ih=>
 intro n M h1 h2 hP
 refine A0e.dataX ?_
 obtain⟨x,hx,bx,br,d5⟩:=ce n h1
 have cn:A9D F l n=x:=by simp[A9D,h1,hx]
 have bl:B0W l n=l[n].label:=by simp[B0W,h1]
 obtain⟨K,hK⟩:∃K,K=A2a l n l.length:=⟨_,rfl⟩
 obtain⟨W,hW⟩:∃W,W=A5I F l s x:=⟨_,rfl⟩
 have hT:A1N F l s (f+1) n=(.mk idZ x.kind l[n].label (x.head.map λh=>A3v h.text) (W.1.map A3v) ((K.map (A1N F l s f)).map (·.1)),x.id::(K.map (A1N F l s f)).flatMap (·.2.1),(K.map (A1N F l s f)).foldl (λe k=>A4r e k.2.2) (B0I W)):=by rw[A1N,cn,bl,<-hK,<-hW]
 rw[hT]
 clear hT
 have be:W.1.length<=1000000000:=by rw[hW];exact B7z hl bp ht bx br
 have n0:(0:Int)<=n:=by omega
 have n1:(n:Int)<l.length:=by omega
 refine A0k hB func71 ?_
 simp -dsimp -implicitDefEqProofs[A0o]
 obtain⟨Ma,af⟩:∃Ma,Ma=M++[z8]:=⟨_,rfl⟩
 have b9:Grow M Ma:=by rw[af];exact A0c.app none _ _
 have bu:Ma[M.length]?=some z8:=by rw[af];simp
 have cw:Ma.length=M.length+1:=by rw[af];simp
 rw[<-af]
 have an:=hP.keep b9
 have b6:A1K prog 92 Ma (.mapr a) (.agg [I l[n].id.act,I l[n].id.item,I l[n].id.n]) false=some (.agg x.row):=by
  rw[show AV.agg [I l[n].id.act,I l[n].id.item,I l[n].id.n]=A2O l[n].id from rfl,an.units.get (A9L 92 27 (by kernel_rfl)) l[n].id C2j false];have:A1B L l[n].id=some x:=by rw[hF];exact hx
  rw[this];rfl
 have cu:a<Ma.length:=an.units.lt
 obtain⟨Mb,ab⟩:∃Mb,Mb=Ma++[A0p.cells 27 x.row]:=⟨_,rfl⟩
 have am:Grow Ma Mb:=by rw[ab];exact A0c.app none _ _
 have b0:∀X,(Ma++[X])[a]?=Ma[a]?:=λX=>Z0j cu
 refine A2E hB (A0w gl) (λk=>if k=8 then 1 else if k=9\/k=10 then 2 else 0) (λ_=>a) (λ_=>false) [a] (by intros;simp) (by rfl) (by kernel_rfl) ?_
 simp -dsimp -implicitDefEqProofs[n0,n1,h1,A0L.row,IdD.row,A0y,b6,A0o,A0l,A0d,AV.storable,AV.cells,b0]
 obtain⟨xa,bo⟩:∃xa,xa=Ma.length:=⟨_,rfl⟩
 have hX:Mb[xa]?=some (A0p.cells 27 x.row):=by rw[ab,bo];simp
 have bj:=an.keep am
 have bz:=am.get bu (by simp)
 have ay:=b9.trans am
 have cz:Mb.length=M.length+2:=by rw[ab];simp[cw]
 rw[<-ab,<-bo]
 clear ab af b6 b0
 simp -dsimp -implicitDefEqProofs[A0a hX]
 refine A0i func125 (C8L gl F s l L hF a b c x Mb bj hl bp hs ht ak bx br) ?_
 rw[<-hW]
 simp -dsimp -implicitDefEqProofs[-A4b]
 rw[A4b]
 simp -dsimp -implicitDefEqProofs[-A4b]
 rw[A4b]
 refine A8h (λT M1=>M1=Mb/\T 1=.list 5 (A2p s) .no/\T 2=I n/\T 3=.cptr [.list 5 (A1A l) .no,.mapr a,.mapr b,.mapr c]/\T 6=.ptr M.length 0/\T 9=.ptr xa 0/\T 10=.list 1 (A0F W.1) .no/\T 12=I (if W.2=true then 0 else 2)) ?_ ?_
 .cases hw2:W.2<;>simp -dsimp -implicitDefEqProofs[hw2]
 rintro T M1 ⟨rfl,t1,t2,t3,t6,t9,r,d⟩
 simp -dsimp -implicitDefEqProofs[-A4b]
 rw[A4b]
 refine A8h (λT M2=>M2=M1/\T 1=.list 5 (A2p s) .no/\T 2=I n/\T 3=.cptr [.list 5 (A1A l) .no,.mapr a,.mapr b,.mapr c]/\T 6=.ptr M.length 0/\T 9=.ptr xa 0/\T 10=.list 1 (A0F W.1) .no/\T 12=I (B0I W)) ?_ ?_
 .by_cases hw:256<W.1.length
  ·(have bd:(256:Int)<W.1.length:=by omega);simp -dsimp -implicitDefEqProofs[t1,t2,t3,t6,t9,r,d,bd,B0I,hw]
  ·(have bd:¬(256:Int)<W.1.length:=by omega);simp -dsimp -implicitDefEqProofs[t1,t2,t3,t6,t9,r,d,bd,B0I,hw]
 clear t1 t2 t3 t6 t9 r d
 rintro T Mb ⟨rfl,t1,t2,t3,t6,t9,r,d⟩
 obtain⟨q,hq⟩:∃q,q=Mb.length:=⟨_,rfl⟩
 obtain⟨Mc,ah⟩:∃Mc,Mc=Mb++[ouC x.kind l[n].label A0Z A0Z A0Z]:=⟨_,rfl⟩
 have aw:Grow Mb Mc:=by rw[ah];exact A0c.app none _ _
 have cj:Mc[q]?=some (ouC x.kind l[n].label A0Z A0Z A0Z):=by rw[ah,hq];simp
 have ao:=hX
 rw[x.row_eq]at ao
 have bv:xa<Mb.length:=(Z0c.1 hX).1
 have b1:∀X,(Mb++[X])[xa]?=Mb[xa]?:=λX=>Z0j bv
 simp -dsimp -implicitDefEqProofs
 refine A2E hB (A0w gl) (λk=>if k=1 then 1 else if k=9\/k=10 then 2 else 0) (λ_=>xa) (λ_=>false) [xa] (by intros;simp) (by rfl) (by kernel_rfl) ?_
 simp -dsimp -implicitDefEqProofs[t1,t2,t3,t6,t9,r,d,n0,n1,h1,A0L.row,A0y,A4e,A0a ao,A0o,A0l,A0d,b1]
 rw[<-ah,<-hq]
 have bw:=aw.get ao (by simp)
 have cg:=aw.get bz (by simp)
 have c3:=ay.trans aw
 have d0:Mc.length=q+1:=by rw[ah,hq];simp
 have d7:M.length+2=q:=by omega
 have bm:xa<q:=by omega
 clear ah aw b1 hX ao bz ay bj an b9 am bu
 simp -dsimp -implicitDefEqProofs[t1,t2,t3,t6,t9,r,d,A0a bw]
 refine A7i (.exit 0) (λT M1=>T 1=.list 5 (A2p s) .no/\T 2=I n/\T 3=.cptr [.list 5 (A1A l) .no,.mapr a,.mapr b,.mapr c]/\T 6=.ptr M.length 0/\T 9=.ptr xa 0/\T 10=.list 1 (A0F W.1) .no/\T 12=I (B0I W)/\T 13=.ptr q 0/\A0I q Mc M1/\∃hv,M1[q]?=some (ouC x.kind l[n].label hv A0Z A0Z)/\Fm 4 A0G.row (q+1) M1 hv (x.head.map λh=>A3v h.text)) ?_ ?_
 .refine A0s hB x.head.length 57 (λT M1=>∃i:Nat,i<=x.head.length/\T 1=.list 5 (A2p s) .no/\T 2=I n/\T 3=.cptr [.list 5 (A1A l) .no,.mapr a,.mapr b,.mapr c]/\T 6=.ptr M.length 0/\T 9=.ptr xa 0/\T 10=.list 1 (A0F W.1) .no/\T 12=I (B0I W)/\T 13=.ptr q 0/\T 55=.list 4 (A0g x.head) .no/\T 56=I x.head.length/\T 57=I i/\A0I q Mc M1/\∃hv,M1[q]?=some (ouC x.kind l[n].label hv A0Z A0Z)/\Fm 4 A0G.row (q+1) M1 hv ((x.head.take i).map λh=>A3v h.text)) ?_ ?_
  .exact⟨0,by omega,by simp[t1],by simp[t2],by simp[t3],by simp[t6],by simp[t9],by simp[r],by simp[d],by simp,by simp,by simp,by simp,A0I.refl _ _,A0Z,cj,.nil⟩
  clear t1 t2 t3 t6 t9 r d;rintro T M1 ⟨i,i1,t1,t2,t3,t6,t9,r,d,g,ax,ar,ap,hk,hv,ho,hf⟩;by_cases hi:i<x.head.length;case neg=>
   (have a6:¬(i:Int)<x.head.length:=by omega);rw[Z0l (by omega)]at hf
   simp -dsimp -implicitDefEqProofs[t1,t2,t3,t6,t9,r,d,g,ax,ar,ap,a6];exact⟨hk,hv,ho,hf⟩
  have a6:(i:Int)<x.head.length:=by omega
  have w1:=A1i (i:=i) (by omega);have bg:q+1<=M1.length:=by have:=hk.1;omega
  obtain⟨M2,av⟩:∃M2,M2=M1++[A0p.cells 152 x.head[i].row]:=⟨_,rfl⟩;have z:Grow M1 M2:=by rw[av];exact A0c.app none _ _
  have c6:M2[M1.length]?=some (A0p.cells 152 x.head[i].row):=by rw[av];simp
  have bk:=z.get ho (by simp);have aq:=hf.keep z;have a4:=hk.trans (z.low (n:=q) (by omega) (by simp));have b2:q+1<=M2.length:=by have:=z.1;omega
  simp only[A0G.row]at av c6;simp -dsimp -implicitDefEqProofs[t1,t2,t3,t6,t9,r,d,g,ax,ar,ap,hi,a6,A0G.row,A0o,A0l,A0d];rw[<-av];simp -dsimp -implicitDefEqProofs[t1,t2,t3,t6,t9,r,d,g,ax,ar,ap,A0a bk,A0a c6,A0h,A0J];refine A7Q (C:=WC gl) (enc:=A0G.row) (e:=152) (sz:=4) (news:=[A3v x.head[i].text]) (o:=.full) B8B C3P B7c aq.fam (by simp;omega) rfl rfl ?_;intro v' M3 k1 k2 k3;have a2:=aq.cells k2 bk;have b8:=aq.push b2 k1 k3;have a3:=a4.trans ((aq.low b2 k2).le (by omega));have aj:A0l (some 1) M3 (.ptr q 5) v'=some (M3.set q (ouC x.kind l[n].label v' A0Z A0Z)):=by rw[A0f a2,k1.cells,Z0d ⟨k1.store,by simp,rfl⟩];rfl
  have bf:q<M3.length:=(Z0c.1 a2).1;simp -dsimp -implicitDefEqProofs[t1,t2,t3,t6,t9,r,d,g,ax,ar,ap,aj,w1];refine⟨⟨i+1,by clear w1;omega,rfl,a3.setq (Z0u _),v',by simp[bf],?_⟩,by clear w1;omega⟩;rw[<-Z1l,Z0A hi,Z0Q];exact b8.setq (by omega)
 clear t1 t2 t3 t6 t9 r d
 rintro T M1 ⟨t1,t2,t3,t6,t9,r,d,g,hk,hv,ho,cm⟩
 simp -dsimp -implicitDefEqProofs[t1,t2,t3,t6,t9,r,d,g]
 refine A7i (.exit 2) (λT M1=>T 1=.list 5 (A2p s) .no/\T 2=I n/\T 3=.cptr [.list 5 (A1A l) .no,.mapr a,.mapr b,.mapr c]/\T 6=.ptr M.length 0/\T 9=.ptr xa 0/\T 12=I (B0I W)/\T 13=.ptr q 0/\A0I q Mc M1/\∃wv,M1[q]?=some (ouC x.kind l[n].label hv wv A0Z)/\Fm 4 A0G.row (q+1) M1 wv (W.1.map A3v)) ?_ ?_
 .refine A0s hB W.1.length 72 (λT M1=>∃i:Nat,i<=W.1.length/\T 1=.list 5 (A2p s) .no/\T 2=I n/\T 3=.cptr [.list 5 (A1A l) .no,.mapr a,.mapr b,.mapr c]/\T 6=.ptr M.length 0/\T 9=.ptr xa 0/\T 12=I (B0I W)/\T 13=.ptr q 0/\T 70=.list 1 (A0F W.1) .no/\T 71=I W.1.length/\T 72=I i/\A0I q Mc M1/\∃wv,M1[q]?=some (ouC x.kind l[n].label hv wv A0Z)/\Fm 4 A0G.row (q+1) M1 wv ((W.1.take i).map A3v)) ?_ ?_
  .exact⟨0,by omega,by simp[t1],by simp[t2],by simp[t3],by simp[t6],by simp[t9],by simp[d],by simp[g],by simp,by simp,by simp,hk,A0Z,ho,.nil⟩
  clear t1 t2 t3 t6 t9 r d g hk ho;rintro T M1 ⟨i,i1,t1,t2,t3,t6,t9,d,g,t70,ba,t72,hk,wv,ho,hf⟩;by_cases hi:i<W.1.length;case neg=>
   (have a6:¬(i:Int)<W.1.length:=by omega);rw[Z0l (by omega)]at hf
   simp -dsimp -implicitDefEqProofs[t1,t2,t3,t6,t9,d,g,t70,ba,t72,a6];exact⟨hk,wv,ho,hf⟩
  have a6:(i:Int)<W.1.length:=by omega
  have d6:=be;have w1:IntKind.i64.wrap ((i:Int)+1)=(i+1:Nat):=by rw[A0H (by omega) (by omega)];omega
  have bg:q+1<=M1.length:=by have:=hk.1;omega
  simp -dsimp -implicitDefEqProofs[t1,t2,t3,t6,t9,d,g,t70,ba,t72,hi,a6,A0a ho,A0h,A0J];refine A7Q (C:=WC gl) (enc:=A0G.row) (e:=152) (sz:=4) (news:=[A3v W.1[i]]) (o:=.full) B8B C3P B7c hf.fam (by simp;omega) rfl rfl ?_;intro v' M3 k1 k2 k3;have a2:=hf.cells k2 ho;have b8:=hf.push bg k1 k3;have a3:=hk.trans ((hf.low bg k2).le (by omega));have aj:A0l (some 1) M3 (.ptr q 6) v'=some (M3.set q (ouC x.kind l[n].label hv v' A0Z)):=by rw[A0f a2,k1.cells,Z0d ⟨k1.store,by simp,rfl⟩];rfl
  have bf:q<M3.length:=(Z0c.1 a2).1;simp -dsimp -implicitDefEqProofs[t1,t2,t3,t6,t9,d,g,t70,ba,t72,aj,w1];refine⟨⟨i+1,by clear w1;omega,rfl,a3.setq (Z0u _),v',by simp[bf],?_⟩,by clear w1;omega⟩;rw[<-Z1l,Z0A hi,Z0Q];exact b8.setq (by omega)
 clear t1 t2 t3 t6 t9 r d g hk ho
 rintro T M1 ⟨t1,t2,t3,t6,t9,d,g,hk,wv,ho,cd⟩
 have ag:∀M1,A0I q Mc M1->Grow M M1:=λM1 h=>h.grow c3 (by omega)
 have ch:M1[xa]?=_:=(hk.2 xa bm).trans bw
 obtain⟨KL,c1,c7⟩:=hP.kd
 have cc:=c1.keep (ag M1 hk) (by simp)
 have ac:=c7 (n:Int)
 rw[<-hK]at ac
 have ck:A1K prog 94 M1 (.mapr c) (I n) false=some (A8J KL n):=by rw[cc.get (B9g 94 130 (by kernel_rfl)) (n:Int) B4B false];unfold A8J;cases A1B KL (n:Int)<;>rfl
 have cp:=ac.keep (ag M1 hk) (by simp)
 generalize cx:A8J KL (n:Int)=bi at*
 have cy:K.length<=l.length:=by rw[hK];exact A6H l n l.length
 have c2:A1H prog 130 bi=some K.length:=cp.len (e':=3) (by simp)
 simp -dsimp -implicitDefEqProofs[t1,t2,t3,t6,t9,d,g,A0a ch,A0h,A0J,ck,c2]
 refine A0s hB K.length 92 (λT M2=>∃j:Nat,j<=K.length/\T 1=.list 5 (A2p s) .no/\T 3=.cptr [.list 5 (A1A l) .no,.mapr a,.mapr b,.mapr c]/\T 6=.ptr M.length 0/\T 13=.ptr q 0/\T 90=bi/\T 91=I K.length/\T 92=I j/\T 12=I (((K.take j).map (A1N F l s f)).foldl (λe k=>A4r e k.2.2) (B0I W))/\A0I q Mc M2/\∃kv,M2[q]?=some (ouC x.kind l[n].label hv wv kv)/\Fm 8 A0b.row (q+1) M2 kv (((K.take j).map (A1N F l s f)).map (·.1))/\Fm 3 IdD.row (q+1) M2 (T 18) (x.id::((K.take j).map (A1N F l s f)).flatMap (·.2.1))/\A7G kv (T 18)/\(((K.take j).map (A1N F l s f)).flatMap (·.2.1)).length<=j*1000) ?_ ?_
 .refine⟨0,by omega,by simp[t1],by simp[t3],by simp[t6],by simp[g],by simp,by simp,by simp,by simp[d],hk,A0Z,ho,.nil,?_,.nil,by simp⟩;simp -dsimp -implicitDefEqProofs;exact Fm.full (l:=[x.id])
 clear t1 t2 t3 t6 t9 d g ho
 rintro T M2 ⟨j,j1,t1,t3,t6,g,a5,a7,a8,d,z,kv,ho,a0,aa,bt,bh⟩
 generalize a1:T 18=iv at*
 by_cases hj:j<K.length
 case neg=>
  have bb:¬(j:Int)<K.length:=by omega
  rw[Z0l (by omega)]at a0 aa d;have b5:M2[M.length]?=some z8:=(z.2 _ (by omega)).trans cg;have bn:M.length<M2.length:=(Z0c.1 b5).1;have c8:=ag M2 z;have co:∀X,Grow M (M2.set M.length X):=λX=>⟨by have:=c8.1;simpa using this,λj hj _=>by rw[Z0g (by omega)];exact c8.2 j hj (by simp)⟩;simp -dsimp -implicitDefEqProofs[t1,t3,t6,g,a5,a7,a8,d,bb,a1,A0a ho,A0f b5,A0C bn];refine⟨co _,?_⟩;rw[B5P,A0b.row];refine .tuple (.agg (.same trivial (.same trivial (.same trivial (.same trivial (.same trivial (cm.data (A3C (f:=A0G.row) (λw=>by simp[A0G.row,A2l,bdd]) _) (cd.data (A3C (f:=A0G.row) (λw=>by simp[A0G.row,A2l,bdd]) _) ?_))))))) (aa.data (A3C (f:=IdD.row) (B7G _) _) (.same trivial .nil))) .nil;rw[A6o,<-Z1L];exact a0.data (A3C (f:=A0b.row) (A8s _) _) .nil
 have bb:(j:Int)<K.length:=by omega
 have w1:=A1i (i:=j) (by omega)
 have ct:=hP.keep (ag M2 z)
 have c9:=ac.keep (ag M2 z) (by simp)
 obtain⟨p,ci,cv⟩:=c9.at1 (P:=prog) (t:=3) (f:=λk:Nat=>I k) (λ_=>rfl) D9a sz3 hj
 have ai:K[j]∈A2a l n l.length:=by rw[<-hK];exact Z0v hj
 have a4:K[j]<l.length:=B2b ai
 have d4:n<K[j]:=by
  have hp:A4s l K[j]=n:=by simp[A2a]at ai;exact ai.2
  have:=(ak K[j] a4 K[j] a4 (Z0u _)).2;simp only[A4s,Z0m a4,Int.toNat_natCast]at hp;omega
 have ae:=ih K[j] M2 a4 (by omega) ct
 have cr:=A9H (F:=F) (s:=s) ak f K[j] a4 (by omega)
 have cq:K.take (j+1)=K.take j++[K[j]]:=by rw[Z0A hj]
 obtain⟨k,cb⟩:∃k,k=A1N F l s f K[j]:=⟨_,rfl⟩
 have au:(K.take (j+1)).map (A1N F l s f)=(K.take j).map (A1N F l s f)++[k]:=by rw[cq,Z0Q,cb];rfl
 rw[<-cb]at ae cr
 obtain⟨M3,bc⟩:∃M3,M3=M2++[A0p.cells 27 k.1.row]:=⟨_,rfl⟩
 have al:Grow M2 M3:=by rw[bc];exact A0c.app none _ _
 have ca:M3[M2.length]?=some (A0p.cells 27 k.1.row):=by rw[bc];simp
 have a2:=al.get ho (by simp)
 have d1:q<M2.length:=(Z0c.1 ho).1
 have a3:=z.trans (al.low (n:=q) (by omega) (by simp))
 have az:q+1<=M3.length:=by have:=al.1;omega
 replace a0:=a0.keep al
 replace aa:=aa.keep al
 generalize hA:(K.take j).map (A1N F l s f)=A at*
 have d3:A.length<=1000:=by rw[<-hA,Z0L,Z0I];omega
 simp -dsimp -implicitDefEqProofs[t1,t3,t6,g,a5,a7,a8,d,bb,ci,cv]
 refine A0i func71 ae ?_
 simp -dsimp -implicitDefEqProofs[t1,t3,t6,g,a5,a7,a8,d,B5P,A0o,A0l,A0d,AV.storable,AV.cells]
 rw[<-bc]
 simp -dsimp -implicitDefEqProofs[t1,t3,t6,g,a5,a7,a8,d,a1,A0a a2,A0a ca,A0h,A0J]
 refine A7Q (C:=WC gl) (enc:=A0b.row) (e:=27) (sz:=8) (news:=[k.1]) (o:=.full) C7I D2q D2Y a0.fam (by simp;omega) rfl rfl ?_
 intro v1 M4 k1 k2 k3
 have cs:=a0.cells k2 a2
 have d2:=a0.cells k2 ca
 have a9:=aa.beside bt k2
 have b4:=a0.push az k1 k3
 have b7:=aa.apart bt k3
 have bq:=a3.trans ((a0.low az k2).le (by omega))
 have b3:q+1<=M4.length:=by have:=k2.1;omega
 simp -dsimp -implicitDefEqProofs[t1,t3,t6,g,a5,a7,a8,d,a1]
 refine A7Q (C:=WC gl) (enc:=IdD.row) (e:=23) (sz:=3) (news:=k.2.1) (o:=.no) C1L C7N C8z a9.fam (by simp only[Z0B];omega) rfl rfl ?_
 intro v2 M5 k4 k5 k6
 have c0:=a9.cells k5 cs
 have ad:=b4.beside b7.symm k5
 have c4:=a9.push b3 k4 k6
 have bs:=(b4.apart b7.symm k6).symm
 have c5:=bq.trans ((a9.low b3 k5).le (by omega))
 have aj:A0l (some 1) M5 (.ptr q 7) v1=some (M5.set q (ouC x.kind l[n].label hv wv v1)):=by rw[A0f c0,ad.fam.cells,Z0d ⟨ad.fam.store,by simp,rfl⟩];rfl
 have cf:q<M5.length:=(Z0c.1 c0).1
 simp -dsimp -implicitDefEqProofs[t1,t3,t6,g,a5,a7,a8,d,a1]
 refine A0i func73 (C4q gl _ k.2.2 M5) ?_
 simp -dsimp -implicitDefEqProofs[t1,t3,t6,g,a5,a7,a8,d,a1,aj,w1]
 refine⟨⟨j+1,by clear w1;omega,rfl,?_,c5.setq (Z0u _),v1,by simp[cf],?_,?_,bs,?_⟩,by clear w1;omega⟩
 .rw[<-Z1l,au,Z2n];rfl
 .rw[<-Z1L,<-Z1l,<-Z1l,au,Z0Q];exact ad.setq (by omega)
 .rw[<-Z1l,au,Z1y];have e:x.id::(A.flatMap (λy=>y.2.1)++[k].flatMap (λy=>y.2.1))=(x.id::A.flatMap (λy=>y.2.1))++k.2.1:=by simp
  rw[e];exact c4.setq (by omega)
 .rw[Z3K]at bh;rw[<-Z1L,<-Z1l,<-Z1l,au,Z0Q,List.sum_append];simp only[Z0C,Z1P,List.sum_cons,List.sum_nil];clear w1;omega
end
def wd(w:List ByteArray)(j:Nat):ByteArray:=w.getD j ⟨#[]⟩
def B6X(w:List ByteArray)(i j:Nat):wd w (i+j)=wd (w.drop i) j:=by simp[wd,Z1d,Z1a]
def C5J(w:List ByteArray):A1t w=if 1<w.length/\wd w 0=A3b/\0<kS (wd w 1)then(2,[⟨kS (wd w 1),⟨#[]⟩⟩],w.drop 2)
 else if 2<w.length/\wd w 0=A5F/\wd w 1=A7w/\0<kS (wd w 2)then(3,[⟨kS (wd w 2),⟨#[]⟩⟩],w.drop 3)
 else if 0<w.length/\wd w 0=A6B then(4,[],w.drop 1)else(0,[],w):=by
 match w with
 |[]=>simp[A1t,wd]
 |[a]=>simp[A1t,wd]
 |[a,b]=>simp[A1t,wd]
 |a::b::c::r=>simp[A1t,wd]
def B3s{w}{i}(h:i<w.length):w[i]=wd w i:=by simp[wd,h]
def C3W(k:Int)(w:List ByteArray)(i:Nat):A3s k (w.drop i)=if¬k=2/\¬k=3/\i<w.length/\wd w i=A2j then([A3N],w.drop (i+1))else([],w.drop i):=by
 unfold A3s;by_cases c:k=2\/k=3
 .rw[Z0d c,Z0e (λh=>c.elim h.1 h.2.1)]
 .rw[Z0e c];simp only[Z2H]at c;by_cases hi:i<w.length
  .have e:=Z0h hi;rw[B3s hi]at e;by_cases c2:wd w i=A2j
   .rw[Z0d ⟨c.1,c.2,hi,c2⟩];simp only[bkS,bkN,e,c2,Z0G,Z1T,Z1q]
   .rw[Z0e (λh=>c2 h.2.2.2)];simp only[bkS,bkN,e,c2,Z0Y,Z1q];rfl
  .rw[Z0e (λh=>hi h.2.2.1),Z0n (by omega)];rfl
def C9D(w:List ByteArray)(i:Nat)(hi:i+1<w.length):A2C (w.drop i)=if 0<kS (wd w i)then(⟨kS (wd w i),wd w (i+1)⟩::(A2C (w.drop (i+2))).1,(A2C (w.drop (i+2))).2)else([],w.drop i):=by have e1:=Z0h (show i<w.length by omega);have e2:=Z0h (show i+1<w.length by omega);rw[B3s]at e1 e2;rw[e1,e2,A2C]
def C7b(w:List ByteArray)(i:Nat)(hi:¬i+1<w.length):A2C (w.drop i)=([],w.drop i):=by
 have:(w.drop i).length<=1:=by rw[Z1e];omega
 match h:w.drop i with
 |[]=>rfl
 |[a]=>rfl
 |a::b::r=>rw[h]at this;simp at this
def C2J(k:Int)(p:List A0u)(w:List ByteArray)(i:Nat)(hi:i<=w.length):A2m k p (w.drop i)=if k=0/\i+4=w.length/\0<kP (wd w i)/\wd w (i+2)=toW then((1,p++[⟨kP (wd w i),wd w (i+1)⟩],wd w (i+3)),[])else((k,p,⟨#[]⟩),w.drop i):=by
 have h0:=B6X w i 0;have h1:=B6X w i 1;have h2:=B6X w i 2;have h3:=B6X w i 3;rw[Z0V]at h0;have hl:(w.drop i).length=w.length-i:=Z1e;have e4:(i+4=w.length)<->(w.drop i).length=4:=by omega
 rw[h0,h1,h2,h3];simp only[e4];clear h0 h1 h2 h3 hl e4;generalize w.drop i=D
 match D with
 |[]=>simp[A2m]
 |[a]=>simp[A2m]
 |[a,b]=>simp[A2m]
 |[a,b,c]=>simp[A2m]
 |[a,b,c,d]=>simp[A2m,wd]
 |a::b::c::d::e::r=>simp[A2m]
def B3V{w:List ByteArray}{i:Nat}(hi:i<=w.length):w.drop i=[]<->i=w.length:=by rw[List.drop_eq_nil_iff];omega
end Go.Abs
