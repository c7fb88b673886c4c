/- The texts EhH, EhK, EiA, EhL, EhM, EhN, EiC, EiD, EiE, EhO, EiF, EhP, EhX, EiG. -/
import Derived.Test.YtjmjekcaifkboaaGreatDoorQG28
import Derived.Test.YtjmjekcaifkboaaGreatDoorQG26
import Derived.Test.YtjmjekcaifkboaaGreatDoorQG33
set_option linter.all false
set_option maxRecDepth 100000
namespace Go.Abs
open Go.Proofs TryTypes Tryz
section
variable (gl:Nat->AV)
def A8M{u:A0a}(h:Fit u):u.kids.length<=3000:=by have h1:=A2D u.kids;have h2:=A6h u;have h3:=h.2.2;omega
def B3N{x:IdD}{u p:A0a}(h:A7R x u=some p):C5b x u=.tuple [.agg p.id.row,I (A2l (λk=>(A0N x k).isSome) p.kids 0),B true]:=by simp[C5b,h]
structure A5G (x:IdD) (u p:A0a) (i:Nat):Prop where
 par:A7R x u=some p
 idx:A2l (λk=>(A0N x k).isSome) p.kids 0=(i:Int)
 lt:i<p.kids.length
 find:A0N p.id u=some p
def A5G.parI{x:IdD}{u p:A0a}{i:Nat}(h:A5G x u p i):parI x u=(p.id,i):=by simp only[Go.Abs.parI,h.par,D0F,h.idx,Z3E]
def B9r(u:A0a)(x:IdD)(p:A0a)(i:Nat)(M:Mem)(hf:Fit u)(hp:A5G x u p i)(l:Fit p):A0c (WC gl) 172 [.agg u.row,.agg x.row] M (λv M'=>v=.agg (A1Z x u).row/\M'=M):=by
 refine A0c.dataX ?_;have hx:x.row=[I x.act,I x.item,I x.n]:=rfl;have f:p.id.row=[I p.id.act,I p.id.item,I p.id.n]:=rfl;obtain⟨b,hb⟩:=ex (M.length);obtain⟨M1,d⟩:=ex (M++[z8]);have h1:M1[b]?=some z8:=by rw[d,hb];simp
 have o:Grow M M1:=ZCP
 have a:=A9X gl u x M1 hf;rw[B3N hp.par,hp.idx,hx,f]at a;obtain⟨M2,c⟩:=ex (M1++[A0m.cells 28 [I p.id.act,I p.id.item,I p.id.n],A0m.cells 3 [I i]]);have hq:M2[M1.length+1]?=some (A0m.cells 3 [I i]):=by rw[c];simp[Z0Z]
 have m:M2[M1.length]?=some (A0m.cells 28 [I p.id.act,I p.id.item,I p.id.n]):=by rw[c];simp
 have g:Grow M1 M2:=ZAG
 have hw:=A8Q gl u p.id 249 [.ptr (M1.length+1) 0] (B0V i) M2 hf (λy hy=>by rw[hp.find]at hy;obtain rfl:=Z1a hy;exact E1T gl p i hp.lt (A8M l) _ M2 hq);have j:A1Z x u=A1A p.id (B0V i) u:=by rw[A1Z,hp.parI]
 rw[j];generalize A1A p.id (B0V i) u=R at*;rw[f]at hw;have h2:=g.get h1 Q1;have k:b<M2.length:=(Z0a.1 h2).1;rw[u.row_eq]at a hw;rw[u.row_eq,hx];rw[R.row_eq]at hw|-;have e:=A1F b R;rw[R.row_eq]at e;refine A0r hB func172 ?_;simp -dsimp -implicitDefEqProofs[A0j];rw[<-d,<-hb];refine A0g func179 a ?_;simp -dsimp -implicitDefEqProofs[A0j,A0k,A0e,A0o,A0n];rw[<-c];simp -dsimp -implicitDefEqProofs[A0b m];refine A0g func169 hw ?_;simp -dsimp -implicitDefEqProofs[A0f h2,A0o,A0n,A0u k,A0h];exact⟨A0w (o.trans g) Q0,.same (by simp only[bdd];exact e) .nil⟩
def C9S(u x p:A0a)(i:Nat)(d:EnD)(M:Mem)(hf:Fit u)(hp:A5G x.id u p i)(f:Fit p):A0c (WC gl) 115 [.agg u.row,.agg x.row,.agg d.row] M (λv M'=>v=.tuple [.agg (A1Z x.id u).row,I 0]/\M'=M):=by
 refine A0c.dataX ?_;have hx:x.id.row=[I x.id.act,I x.id.item,I x.id.n]:=rfl;obtain⟨b,hb⟩:=ex (M.length);obtain⟨M1,a⟩:=ex (M++[z8]);have h1:M1[b]?=some z8:=by rw[a,hb];simp
 have g:Grow M M1:=ZAH
 have e:b<M1.length:=(Z0a.1 h1).1;have hw:=B9r gl u x.id p i M1 hf hp f;generalize A1Z x.id u=R at*;have c:=A1F b R;rw[hx]at hw;rw[u.row_eq]at hw|-;rw[R.row_eq]at hw c|-;rw[x.row_eq];refine A0r hB func115 ?_;simp -dsimp -implicitDefEqProofs[A0j];rw[<-a,<-hb];refine A0g func172 hw ?_;simp -dsimp -implicitDefEqProofs[A0f h1,A0o,A0n,A0u e,A0h];exact⟨A0w g Q0,.tuple (.same (by simp only[bdd];exact c) (.same trivial .nil)) .nil⟩
def D2L(u x:A0a)(d:EnD)(M:Mem)(hf:Fit u)(o:A0N x.id u=some x)(l:x.words.length<=900)(h3:d.it.h.old≠[])(h4:d.it.h.old.length<=1000)(h5:d.it.h.new.length<=1000)(h6:0<=d.it.h.nth):A0c (WC gl) 116 [.agg u.row,.agg x.row,.agg d.row] M (λv M'=>v=.tuple [.agg (A7h u x (A4T x.words d.it.h.old d.it.h.new d.it.h.nth d.act d.item)).1.row,I (A7h u x (A4T x.words d.it.h.old d.it.h.new d.it.h.nth d.act d.item)).2]/\M'=M):=by
 refine A0c.dataX ?_;have hx:x.id.row=[I x.id.act,I x.id.item,I x.id.n]:=rfl;obtain⟨b,hb⟩:=ex (M.length);obtain⟨M1,e⟩:=ex (M++[z8]);have h1:M1[b]?=some z8:=by rw[e,hb];simp
 have j:Grow M M1:=ZBJ
 have hr:=C7i gl x.words d.it.h.old d.it.h.new d.it.h.nth d.act d.item M1 l h3 h4 h5 h6;generalize(A4T x.words d.it.h.old d.it.h.new d.it.h.nth d.act d.item)=W at*;obtain⟨M2,c⟩:=ex (M1++[A0m.cells 29 [.list 4 (A0i W.1) .no]]);have hq:M2[M1.length]?=some (A0m.cells 29 [.list 4 (A0i W.1) .no]):=by rw[c];simp
 have f:Grow M1 M2:=ZAG
 have h2:=f.get h1 Q1;have i:b<M2.length:=(Z0a.1 h2).1;have hw:=A8Q gl u x.id 174 [.ptr M1.length 0] (B2L W.1) M2 hf (λy hy=>by rw[o]at hy;obtain rfl:=Z1a hy;exact E1K gl x W.1 _ M2 hq);have k:A7h u x W=if W.2≠0 then(u,W.2)else(A1A x.id (B2L W.1) u,0):=rfl;rw[k];generalize A1A x.id (B2L W.1) u=R at*;have g:=A1F b R;have a:=A1F b u;rw[hx]at hw;rw[R.row_eq]at hw g;rw[u.row_eq]at hw a;rw[u.row_eq,x.row_eq,EnD.row,d.it.row_eq,A1W.row];refine A0r hB func116 ?_;simp -dsimp -implicitDefEqProofs[A0j];rw[<-e,<-hb];refine A0g func173 hr ?_;simp -dsimp -implicitDefEqProofs[A0j,A0k,A0e,A0o,A0n,AV.storable,AV.cells];rw[<-c];by_cases he:W.2=0
 .have m:¬W.2≠0:=λh=>h he;rw[Z0d m,R.row_eq];simp -dsimp -implicitDefEqProofs[he];refine A0g func169 hw ?_;simp -dsimp -implicitDefEqProofs[A0f h2,A0o,A0n,A0u i,A0h];exact⟨A0w (j.trans f) Q0,.tuple (.same (by simp only[bdd];exact g) (.same trivial .nil)) .nil⟩
 .rw[Z0c he,u.row_eq];simp -dsimp -implicitDefEqProofs[he,h2,ouC,A0o,A0n,A0u i,A0h];exact⟨A0w (j.trans f) Q0,.tuple (.same (by simp only[bdd];exact a) (.same trivial .nil)) .nil⟩
def D7w(u x:A0a)(d:EnD)(M:Mem)(hf:Fit u)(o:A0N x.id u=some x)(l:x.words.length<=900)(h3:d.it.h.new≠[])(h4:d.it.h.old.length<=1000)(h5:d.it.h.new.length<=1000)(h6:0<=d.it.h.nth)(h7:d.it.h.old=[]->d.it.h.nth=0):A0c (WC gl) 117 [.agg u.row,.agg x.row,.agg d.row] M (λv M'=>v=.tuple [.agg (A7h u x (A3V x.words d.it.h.old d.it.h.new d.it.h.nth d.act d.item)).1.row,I (A7h u x (A3V x.words d.it.h.old d.it.h.new d.it.h.nth d.act d.item)).2]/\M'=M):=by
 refine A0c.dataX ?_;have hx:x.id.row=[I x.id.act,I x.id.item,I x.id.n]:=rfl;obtain⟨b,hb⟩:=ex (M.length);obtain⟨M1,e⟩:=ex (M++[z8]);have h1:M1[b]?=some z8:=by rw[e,hb];simp
 have j:Grow M M1:=ZBJ
 have hr:=C3w gl x.words d.it.h.old d.it.h.new d.it.h.nth d.act d.item M1 l h4 h3 h5 h6 h7;generalize(A3V x.words d.it.h.old d.it.h.new d.it.h.nth d.act d.item)=W at*;obtain⟨M2,c⟩:=ex (M1++[A0m.cells 29 [.list 4 (A0i W.1) .no]]);have hq:M2[M1.length]?=some (A0m.cells 29 [.list 4 (A0i W.1) .no]):=by rw[c];simp
 have f:Grow M1 M2:=ZAG
 have h2:=f.get h1 Q1;have i:b<M2.length:=(Z0a.1 h2).1;have hw:=A8Q gl u x.id 176 [.ptr M1.length 0] (B2L W.1) M2 hf (λy hy=>by rw[o]at hy;obtain rfl:=Z1a hy;exact E1h gl x W.1 _ M2 hq);have k:A7h u x W=if W.2≠0 then(u,W.2)else(A1A x.id (B2L W.1) u,0):=rfl;rw[k];generalize A1A x.id (B2L W.1) u=R at*;have g:=A1F b R;have a:=A1F b u;rw[hx]at hw;rw[R.row_eq]at hw g;rw[u.row_eq]at hw a;rw[u.row_eq,x.row_eq,EnD.row,d.it.row_eq,A1W.row];refine A0r hB func117 ?_;simp -dsimp -implicitDefEqProofs[A0j];rw[<-e,<-hb];refine A0g func175 hr ?_;simp -dsimp -implicitDefEqProofs[A0j,A0k,A0e,A0o,A0n,AV.storable,AV.cells];rw[<-c];by_cases he:W.2=0
 .have m:¬W.2≠0:=λh=>h he;rw[Z0d m,R.row_eq];simp -dsimp -implicitDefEqProofs[he];refine A0g func169 hw ?_;simp -dsimp -implicitDefEqProofs[A0f h2,A0o,A0n,A0u i,A0h];exact⟨A0w (j.trans f) Q0,.tuple (.same (by simp only[bdd];exact g) (.same trivial .nil)) .nil⟩
 .rw[Z0c he,u.row_eq];simp -dsimp -implicitDefEqProofs[he,h2,ouC,A0o,A0n,A0u i,A0h];exact⟨A0w (j.trans f) Q0,.tuple (.same (by simp only[bdd];exact a) (.same trivial .nil)) .nil⟩
def C6K(u x:A0a)(d:EnD)(M:Mem)(hf:Fit u)(j:A0N x.id u=some x)(h5:d.it.h.new.length<=1000):A0c (WC gl) 118 [.agg u.row,.agg x.row,.agg d.row] M (λv M'=>v=.tuple [.agg (A1A x.id (C0g (A2p d.act d.item 0 d.it.h.new)) u).row,I 0]/\M'=M):=by
 refine A0c.dataX ?_;have hx:x.id.row=[I x.id.act,I x.id.item,I x.id.n]:=rfl;obtain⟨b,hb⟩:=ex (M.length);obtain⟨M1,c⟩:=ex (M++[z8]);have h1:M1[b]?=some z8:=ZDQ
 have i:Grow M M1:=ZAG
 have hr:=B3c gl d.it.h.new .no d.act d.item 0 M1 Q0 Q0;generalize A2p d.act d.item 0 d.it.h.new=W at*;obtain⟨M2,a⟩:=ex (M1++[A0m.cells 29 [.list 4 (A0i W) .no]]);have hq:M2[M1.length]?=some (A0m.cells 29 [.list 4 (A0i W) .no]):=ZCA
 have f:Grow M1 M2:=ZAH
 have h2:=f.get h1 Q1;have g:b<M2.length:=(Z0a.1 h2).1;have hw:=A8Q gl u x.id 178 [.ptr M1.length 0] (C0g W) M2 hf (λy hy=>by rw[j]at hy;obtain rfl:=Z1a hy;exact E2C gl x W _ M2 hq);generalize A1A x.id (C0g W) u=R at*;have e:=A1F b R;rw[hx]at hw;rw[R.row_eq]at hw e|-;rw[u.row_eq]at hw;rw[u.row_eq,x.row_eq,EnD.row,d.it.row_eq,A1W.row];refine A0r hB func118 ?_;simp -dsimp -implicitDefEqProofs[A0j];rw[<-c,<-hb];refine A0g func177 hr ?_;simp -dsimp -implicitDefEqProofs[A0j,A0k,A0e,A0o,A0n,AV.storable,AV.cells];rw[<-a];refine A0g func169 hw ?_;simp -dsimp -implicitDefEqProofs[A0f h2,A0o,A0n,A0u g,A0h];exact⟨A0w (i.trans f) Q0,.tuple (.same (by simp only[bdd];exact e) (.same trivial .nil)) .nil⟩
def hRl:A2r:=⟨λd=>d !=4,λ_=>false,λ_=>false⟩
@[simp] def E4t:hRl.imm=λd=>d !=4:=(rfl)
def C7Q(ad:gl 2=A1t)(u x p:A0a)(i:Nat)(d:EnD)(M:Mem)(hf:Fit u)(ab:A0N x.id u=some x)(hp:A5G x.id u p i)(af:Fit p):A0c (WC gl) 119 [.agg u.row,.agg x.row,.agg d.row] M (λv M'=>v=.tuple [.agg (A6w u x d.it.h.lab).1.row,I (A6w u x d.it.h.lab).2]/\M'=M):=by
 refine A0c.dataX ?_;have hx:x.id.row=[I x.id.act,I x.id.item,I x.id.n]:=rfl;have a2:p.id.row=[I p.id.act,I p.id.item,I p.id.n]:=rfl;obtain⟨b,hb⟩:=ex (M.length);obtain⟨M1,e⟩:=ex (M++[A0m.cells 31 [I x.id.act,I x.id.item,I x.id.n,I x.kind,S x.label,.list 4 (A0i x.head) .no,.list 4 (A0i x.words) .no,.list 8 (A0t x.kids) .no],z8]);have h0:M1[b]?=some (A0m.cells 31 [I x.id.act,I x.id.item,I x.id.n,I x.kind,S x.label,.list 4 (A0i x.head) .no,.list 4 (A0i x.words) .no,.list 8 (A0t x.kids) .no]):=by rw[e,hb];simp
 have h1:M1[b+1]?=some z8:=by rw[e,hb];simp[Z0Z]
 have aa:Grow M M1:=ZBJ
 have a:=A9X gl u x.id M1 hf;rw[B3N hp.par,hp.idx,hx,a2]at a;obtain⟨q,hq⟩:=ex (M1.length);obtain⟨M2,o⟩:=ex (M1++[A0m.cells 28 [I p.id.act,I p.id.item,I p.id.n]]);have aj:M2[q]?=some (A0m.cells 28 [I p.id.act,I p.id.item,I p.id.n]):=by rw[o,hq];simp
 have f:Grow M1 M2:=by rw[o];exact A0d.app none _ _
 have g:=B2k gl u p.id M2 hf;rw[hp.find,a2]at g;obtain⟨r,hr⟩:=ex (M2.length);obtain⟨M3,l⟩:=ex (M2++[A0m.cells 31 [I p.id.act,I p.id.item,I p.id.n,I p.kind,S p.label,.list 4 (A0i p.head) .no,.list 4 (A0i p.words) .no,.list 8 (A0t p.kids) .no]]);have a3:M3[r]?=some (A0m.cells 31 [I p.id.act,I p.id.item,I p.id.n,I p.kind,S p.label,.list 4 (A0i p.head) .no,.list 4 (A0i p.words) .no,.list 8 (A0t p.kids) .no]):=by rw[l,hr];simp
 have m:Grow M2 M3:=by rw[l];exact A0d.app none _ _
 obtain⟨y,hy⟩:=ex (A6p d.it.h.lab x);have a1:=(f.trans m).get h0 Q1;have a5:=(f.trans m).get h1 Q1;have ag:b<M3.length:=(Z0a.1 a1).1;have ai:b<r:=by have:=(Z0a.1 (f.get h0 Q1)).1;omega
 obtain⟨M4,c⟩:=ex (M3.set b (.cells 31 y.row));have w:M4[b]?=some (A0m.cells 31 [I y.id.act,I y.id.item,I y.id.n,I y.kind,S y.label,.list 4 (A0i y.head) .no,.list 4 (A0i y.words) .no,.list 8 (A0t y.kids) .no]):=by rw[c,y.row_eq];simp[ag]
 have k:M4[b+1]?=some z8:=by rw[c,Z0f Q0];exact a5
 have a6:M4[r]?=some (A0m.cells 31 [I p.id.act,I p.id.item,I p.id.n,I p.kind,S p.label,.list 4 (A0i p.head) .no,.list 4 (A0i p.words) .no,.list 8 (A0t p.kids) .no]):=by rw[c,Z0f Q0];exact a3
 have a4:b+1<M4.length:=(Z0a.1 k).1;have a0:Grow M M4:=by rw[c];exact A0w (aa.trans (f.trans m)) Q0
 have a9:y.row=[I x.id.act,I x.id.item,I x.id.n,I x.kind,S d.it.h.lab,.list 4 (A0i x.head) .no,.list 4 (A0i x.words) .no,.list 8 (A0t x.kids) .no]:=by rw[hy,A0a.row_eq];rfl
 have a8:y.id=x.id:=by rw[hy];rfl
 have a7:A0k (some 1) M3 (.ptr b 4) (S d.it.h.lab)=some M4:=by rw[A0f a1,c,a9];rfl
 have t:=B7S gl ad p y M4 (A8M af);have ah:A6w u x d.it.h.lab=if A4f p y=10 then(u,10)else(A1A x.id (A6p d.it.h.lab) u,0):=by
  have:A5W (parI x.id u).1 u=p:=by rw[hp.parI];simp[A5W,hp.find]
  rw[A6w,this,hy]
 have hw:=A8Q gl u x.id 180 [.cptr d.row] (A6p d.it.h.lab) M4 hf (λz hz=>by rw[ab]at hz;obtain rfl:=Z1a hz;exact E2d gl x d M4);rw[ah];generalize A1A x.id (A6p d.it.h.lab) u=R at*;have s:=A1F b R;have j:=A1F b u;have ac:y.id.row=[I y.id.act,I y.id.item,I y.id.n]:=rfl;rw[<-a8,ac,EnD.row,d.it.row_eq,A1W.row]at hw;rw[R.row_eq]at hw s;rw[p.row_eq,y.row_eq]at t;rw[u.row_eq]at a g hw j;rw[u.row_eq,x.row_eq,EnD.row,d.it.row_eq,A1W.row];rw[A4F,p.row_eq]at g;refine A0r hRl func119 ?_;simp -dsimp -implicitDefEqProofs[A0j];rw[<-e,<-hb];simp -dsimp -implicitDefEqProofs[A0b h0];refine A0g func179 a ?_;simp -dsimp -implicitDefEqProofs[A0j,A0k,A0e,A0o,A0n];rw[<-o,<-hq];refine A0g func99 g ?_;have ae:A0k (some 8) (M2++[z8]) (.ptr M2.length 0) (.agg [I p.id.act,I p.id.item,I p.id.n,I p.kind,S p.label,.list 4 (A0i p.head) .no,.list 4 (A0i p.words) .no,.list 8 (A0t p.kids) .no])=some M3:=by
  have:(M2++[z8])[M2.length]?=some z8:=ZBG
  rw[A0f this];simp[A0o,A0n,l,A0e]
 simp -dsimp -implicitDefEqProofs[A0j,ae];rw[<-hr];simp -dsimp -implicitDefEqProofs[a7,A0b a3,A0b a6,A0b w];refine A0g func162 t ?_;by_cases he:A4f p y=10
 .rw[Z0c he,u.row_eq];simp -dsimp -implicitDefEqProofs[he,A0f k,A0o,A0n,A0u a4,A0h];exact⟨A0w a0 Q0,.tuple (.same (by simp only[bdd];exact j) (.same trivial .nil)) .nil⟩
 .rw[Z0d he,R.row_eq];simp -dsimp -implicitDefEqProofs[he,A0b w];refine A0g func169 hw ?_;simp -dsimp -implicitDefEqProofs[A0f k,A0o,A0n,A0u a4,A0h];exact⟨A0w a0 Q0,.tuple (.same (by simp only[bdd];exact s) (.same trivial .nil)) .nil⟩
end
section
mutual
def C6h(x:IdD):∀(u r:A0a) (rs:List A0a),A1h x u=r::rs->r=u
 |.mk id k l h w ks,r,rs,hr=>by
  rw[A1h]at hr;split at hr
  .simp at hr;exact hr.1.symm
  .split at hr
   .simp at hr
   .simp at hr;exact hr.1.symm
end
def B7U(x:IdD):∀(ks:List A0a) (r:A0a) (rs:List A0a),A3w x ks=r::rs->∃k∈ks,A1h x k=r::rs
 |[],r,rs,h=>by rw[A3w]at h;simp at h
 |k::ks,r,rs,h=>by
  rw[A3w]at h;split at h
  .obtain⟨q,hq,e⟩:=B7U x ks r rs h;exact⟨q,ZBH,e⟩
  .rename_i r' rs' e;exact⟨k,Q1,by rw[e];exact h⟩
def B2f(x:IdD):∀(u p:A0a),A7R x u=some p->p∈A2j u/\∃y∈p.kids,y.id=x
 |.mk id k l h w ks,p,hp=>by
  unfold A7R at hp;rw[A1h]at hp;split at hp
  .simp at hp
  .rename_i hne;split at hp
   .simp at hp
   .rename_i r rs e;obtain⟨q,hq,hr⟩:=B7U x ks r rs e;have a:=C6h x q r rs hr;subst a;cases rs with
    |nil=>simp at hp;subst hp;refine⟨A4G _,r,hq,?_⟩;have:=A3N x r;rw[hr]at this;exact(A2U this).1
    |cons r2 rs=>have hlt:SizeOf.sizeOf r<SizeOf.sizeOf (A0a.mk id k l h w ks):=A0a.kid_lt (u:=.mk id k l h w ks) hq;(have b:A7R x r=some p:=by unfold A7R;rw[hr];simpa using hp);obtain⟨h1,h2⟩:=B2f x r p b;refine⟨?_,h2⟩;rw[A2j];have:=B4v h1 hq;exact Z1v _ this
termination_by u=>SizeOf.sizeOf u
decreasing_by exact hlt
def C8X{α:Type}(f:α->Bool):∀(l:List α) (i:Nat),(∃y∈l,f y=true)->∃j:Nat,A2l f l i=((i+j:Nat):Int)/\j<l.length
 |[],i,⟨y,h,_⟩=>by simp at h
 |a::l,i,⟨y,h,hy⟩=>by
  by_cases ha:f a=true
  .exact⟨0,by rw[A2l,Z0c ha];rfl,Q1⟩
  .rcases Z0p.1 h with rfl|h
   .exact absurd hy ha
   .obtain⟨j,h1,h2⟩:=C8X f l (i+1) ⟨y,h,hy⟩;refine⟨j+1,?_,ZAB⟩;rw[A2l,Z0d ha,h1];congr 1;omega
def B7K:∀{L:List A0a} {v:A0a},(L.map A0a.id).Nodup->v∈L->L.find? (λw=>decide (w.id=v.id))=some v
 |[],v,_,h=>by simp at h
 |a::L,v,hn,h=>by
  rw[Z0x,Z1B]at hn;rcases Z0p.1 h with rfl|h
  .simp
  .have b:a.id≠v.id:=λe=>hn.1 (by rw[e];exact Z0C.2 ⟨v,h,rfl⟩);rw[Z3W,Z0I b];exact B7K hn.2 h
def A8U{u v:A0a}(hn:(A0V u).Nodup)(hv:v∈A2j u):A0N v.id u=some v:=by rw[A9C];exact B7K (by rw[A5D];exact hn) hv
def D9f{u p:A0a}{x:IdD}(hn:(A0V u).Nodup)(h:A7R x u=some p):∃i,A5G x u p i:=by
 obtain⟨h1,y,h2,h3⟩:=B2f x u p h;have hy:(A0N x y).isSome=true:=by obtain⟨a,b,c,d,e,f⟩:=y;rw[A0N,Z0c (show a=x from h3)];rfl
 obtain⟨j,h4,h5⟩:=C8X (λk=>(A0N x k).isSome) p.kids 0 ⟨y,h2,hy⟩;exact⟨j,h,by rw[h4,Z0P],h5,A8U hn h1⟩
def A9L{u:A0a}(x:IdD)(hn:(A0V u).Nodup):A7R x u=none\/∃p i,A5G x u p i:=by
 cases h:A7R x u with
 |none=>exact .inl rfl
 |some p=>exact .inr ⟨p,D9f hn h⟩
def B6V{u p:A0a}{x:IdD}(hf:Fit u)(h:A7R x u=some p):Fit p:=A7W u hf p (B2f x u p h).1
def B6w{p:List A1o}(hv:A1T p=true):p.length<=9/\∀i (h:i<p.length),C2B i p[i]:=by
 simp only[A1T,Z0h,Z0n,Z0D]at hv;refine⟨hv.1,λi h=>?_⟩;have:=hv.2 i (by simp[h]);rw[Z1l,Z0g h,Z1m]at this;simp only[B1s,Z1V,Z0h,Z0n]at this;rcases this with⟨h1,h2⟩|⟨⟨h1,h2⟩,h3⟩
 .refine .inl ⟨h1,?_⟩;simp only[B0L,Z0h,Z0n]at h2;cases hs:p[i];rw[hs]at h2;simp only at h2;rw[h2.1,h2.2];rfl
 .exact .inr ⟨h1,h2,h3⟩
section
variable (gl:Nat->AV)
def B2d(u:A0a)(p:List A1o)(M:Mem)(hf:Fit u)(hn:(A0V u).Nodup)(hv:A1T p=true):A0c (WC gl) 10 [.agg u.row,.list 2 (A0O p) .no] M (λv M'=>v=.tuple [.agg (A2c u p).1.row,I (A2c u p).2]/\M'=M):=by
 refine A0c.dataX ?_;obtain⟨hl,hs⟩:=B6w hv;have hR:(A7a u p).length<=3000:=by
  cases p with
  |nil=>simp[A7a]
  |cons s r=>exact Z0J (Sel.follow hn r _ (B4W hn s)).len hf.2.2
 have f:A2c u p=match A7a u p with|[]=>(idZ,7)|[x]=>(x.id,0)|_=>(idZ,8):=by
  rw[A2c,B2N,Z0c hv];cases A7a u p with
  |nil=>rfl
  |cons x r=>cases r<;>rfl
 obtain⟨Ma,c⟩:=ex (M++[A0m.cells 28 [I 0,I 0,I 0]]);have b:Grow M Ma:=ZAG
 have a:Ma[M.length]?=some (A0m.cells 28 [I 0,I 0,I 0]):=by rw[c];simp
 have hlt:M.length<Ma.length:=(Z0a.1 a).1;have d:=C8s gl u (.list 2 (A0O p) .no) (A7a u p) Ma hR (λM=>D2c gl u p .no M hf hn hl hs);rw[f];generalize A7a u p=R at*;rw[u.row_eq]at d|-;refine A0r hB func10 ?_;simp -dsimp -implicitDefEqProofs[A0j];rw[<-c];refine A0g func24 d ?_
 match R with
 |[]=>simp -dsimp -implicitDefEqProofs[A0f a,A6t,A0o,A0n,A0u hlt,A0h];exact⟨A0w b (Z0j _),.same ZAY .nil⟩
 |[x]=>have e:x.id.row=[I x.id.act,I x.id.item,I x.id.n]:=rfl;simp -dsimp -implicitDefEqProofs[A0f a,e,A0o,A0n,A0u hlt,A0h];exact⟨A0w b (Z0j _),.same ZBE .nil⟩
 |x::y::r=>have h0:¬((r.length:Int)+1+1=0):=Q0;have h1:¬((r.length:Int)+1+1=1):=Q0;simp -dsimp -implicitDefEqProofs[h0,h1,A0f a,A6t,A0o,A0n,A0u hlt,A0h];exact⟨A0w b (Z0j _),.same ZAY .nil⟩
end
end
open Go.Proofs TryTypes
def B9L(a i:Int)(n c:Nat):List IdD:=(List.range' n c).map λm=>⟨a,i,((m+1:Nat):Int)⟩
def C5c(a i:Int)(n c d:Nat):B9L a i n (c+d)=B9L a i n c++B9L a i (n+c) d:=by unfold B9L;rw[<-Z1f,<-List.range'_append_1]
def D3t(a i:Int)(n c:Nat):B9L a i n (1+c)=⟨a,i,((n+1:Nat):Int)⟩::B9L a i (n+1) c:=by rw[C5c];simp[B9L]
mutual
def C0l(a i:Int):∀(t:A0a) (n w:Nat),A0V (A3j a i t n w)=B9L a i n (A0y t)
 |.mk _ k l h ws ks,n,w=>by rw[A3j,A0V,B9F a i ks,A0y,D3t]
def B9F(a i:Int):∀(ks:List A0a) (n w:Nat),A2Y (A2i a i ks n w)=B9L a i n (A0I ks)
 |[],n,w=>by rw[A2i,A2Y,A0I];rfl
 |k::ks,n,w=>by rw[A2i,A2Y,A0I,C0l a i k,B9F a i ks,C5c]
end
mutual
def B5J(a i:Int):∀(t:A0a) (n w:Nat),A0y (A3j a i t n w)=A0y t
 |.mk _ k l h ws ks,n,w=>by rw[A3j,A0y,B4b a i ks,A0y]
def B4b(a i:Int):∀(ks:List A0a) (n w:Nat),A0I (A2i a i ks n w)=A0I ks
 |[],n,w=>by rw[A2i]
 |k::ks,n,w=>by rw[A2i,A0I,B5J a i k,B4b a i ks,A0I]
end
def C6V(a i:Int)(n c:Nat):(B9L a i n c).Nodup:=by unfold B9L List.Nodup;rw[Z2E];refine List.Pairwise.imp ?_ (List.nodup_range' (s:=n) (n:=c) (step:=1));intro x y h e;simp only[IdD.mk.injEq,Z2J]at e;omega
def B4M{a i:Int}(ha:inI a)(hi:inI i):∀(l:List ByteArray) (n:Nat),(∀t∈l,t.size<=maxLen)->n+l.length<=2000000000->∀w∈A2p a i n l,w.good
 |[],n,_,_,w,hw=>by simp[A2p]at hw
 |t::l,n,ht,hn,w,hw=>by
  rw[A2p]at hw;simp only[Z0r]at hn;rcases Z0p.1 hw with rfl|hw
  .refine⟨ht t Q1,ha,hi,?_⟩;simp only[inI];omega
  .exact B4M ha hi l (n+1) (λq hq=>ht q ZBH) Q0 w hw
def B8a{l:List A0z}(h:∀w∈l,w.good):∀t∈A1q l,t.size<=maxLen:=by intro t ht;obtain⟨w,hw,rfl⟩:=Z0C.1 ht;exact(h w hw).1
mutual
def C0I{a i:Int}(ha:inI a)(hi:inI i):∀(t:A0a) (n w:Nat),t.good->t.lims->n+A0y t<=1000000->w+wcU t<=1000000000->(A3j a i t n w).good/\(A3j a i t n w).lims
 |.mk id k l h ws ks,n,w,hg,hl,hn,hw=>by
  obtain⟨g1,g2,g3,g4,g5,g6,g7,g8,g9⟩:=(A0a.good_iff _).1 hg;obtain⟨⟨l1,l2,l3,l4⟩,l5⟩:=A4c _ hl;rw[A0y]at hn;rw[wcU]at hw;have g5:∀w∈h,w.good:=g5;have g7:∀w∈ws,w.good:=g7;have g9:∀k∈ks,k.good:=g9;have l3:ks.length<=3000:=l3;have l1:h.length<=100000000:=l1;have l2:ws.length<=100000000:=l2;have g8:ks.length<=maxLen:=g8;have hk:=B8R ha hi ks (n+1) (w+h.length+ws.length) g9 (A4l.1 l5) Q0 Q0;have t1:(A1q h).length=h.length:=by simp[A1q]
  have t2:(A1q ws).length=ws.length:=by simp[A1q]
  rw[A3j];have hm:∀n:Nat,n<=100000000->n<=maxLen:=λn h=>by show n<=9223372036854775807;omega
  refine⟨(A0a.good_iff _).2 ⟨⟨ha,hi,?_⟩,g2,g3,?_,?_,?_,?_,?_,λk hk'=>(hk k hk').1⟩,?_⟩
  .show inI ((n+1:Nat):Int);simp only[inI];omega
  .show(A2p _ _ _ _).length<=maxLen;rw[A7f,t1];exact hm _ l1
  .exact B4M ha hi _ _ (B8a g5) (by rw[t1];omega)
  .show(A2p _ _ _ _).length<=maxLen;rw[A7f,t2];exact hm _ l2
  .exact B4M ha hi _ _ (B8a g7) (by rw[t2];omega)
  .show(A2i _ _ _ _ _).length<=maxLen;rw[A8h];exact g8
  .rw[A0a.lims];refine⟨⟨?_,?_,?_,l4⟩,A4l.2 λk hk'=>(hk k hk').2⟩
   .show(A2p _ _ _ _).length<=_;rw[A7f,t1];exact l1
   .show(A2p _ _ _ _).length<=_;rw[A7f,t2];exact l2
   .show(A2i _ _ _ _ _).length<=_;rw[A8h];exact l3
def B8R{a i:Int}(ha:inI a)(hi:inI i):∀(ks:List A0a) (n w:Nat),(∀k∈ks,k.good)->(∀k∈ks,k.lims)->n+A0I ks<=1000000->w+wcL ks<=1000000000->∀k∈A2i a i ks n w,k.good/\k.lims
 |[],n,w,_,_,_,_,k,hk=>by rw[A2i]at hk;simp at hk
 |t::ks,n,w,hg,hl,hn,hw,k,hk=>by
  rw[A0I]at hn;rw[wcL]at hw;rw[A2i]at hk;rcases Z0p.1 hk with rfl|hk
  .exact C0I ha hi t n w (hg t Q1) (hl t Q1) Q0 Q0
  .exact B8R ha hi ks _ _ (λq hq=>hg q ZBH) (λq hq=>hl q ZBH) Q0 Q0 k hk
end
mutual
def C4Q:∀t:A0a,A1u t=true->wcU t<=512*A0y t
 |.mk id k l h ws ks,hr=>by obtain⟨_,h1,h2⟩:=A4Y (A4S hr);have h1:A3o h=true:=h1;have h2:A3o ws=true:=h2;have:=(A5K h1).1;have:=(A5K h2).1;have hk:=C1k ks (λq hq=>B1V hr q hq);rw[wcU,A0y];omega
def C1k:∀ks:List A0a,(∀k∈ks,A1u k=true)->wcL ks<=512*A0I ks
 |[],_=>by rw[wcL];omega
 |k::ks,h=>by have:=C4Q k (h k Q1);have:=C1k ks λq hq=>h q ZBH;rw[wcL,A0I];omega
end
def C3B(a i:Int)(t:A0a)(n w:Nat):(A3j a i t n w).kind=t.kind/\(A3j a i t n w).label=t.label:=by obtain⟨x,k,l,h,ws,ks⟩:=t;rw[A3j];exact⟨rfl,rfl⟩
def kl(u:A0a):Int×ByteArray:=(u.kind,u.label)
def D6Q(a b:A0a):A9f a b=decide (kl a=kl b):=by simp only[A9f,kl,Z0i];rw[Z4B]
def B9V(p:Int):∀(ks b:List A0a),A4o p ks b=true<->(∀k∈ks,A4p p k.kind=true/\A1u k=true)/\(∀a∈b,∀k∈ks,kl a≠kl k)/\(ks.map kl).Nodup
 |[],b=>by simp[A4o]
 |k::ks,b=>by
  rw[A4o];simp only[Z0h,Z2C,B9V p ks (b++[k]),Z0x,Z1B,Z0p,Z0N,Z0L,List.any_eq_false,D6Q,Z0n,Z0C,not_exists,not_and];constructor
  .rintro⟨⟨⟨h1,h2⟩,h3⟩,h4,h5,h6⟩;refine⟨?_,?_,?_,h6⟩
   .rintro q (rfl|hq)
    .exact⟨h1,h2⟩
    .exact h4 q hq
   .rintro a ha q (rfl|hq)
    .exact h3 a ha
    .exact h5 a (.inl ha) q hq
   .intro q hq e;exact h5 k (.inr (.inl rfl)) q hq e.symm
  .rintro⟨h1,h2,h3,h4⟩;refine⟨⟨⟨(h1 k (.inl rfl)).1,(h1 k (.inl rfl)).2⟩,λa ha=>h2 a ha k (.inl rfl)⟩,λq hq=>h1 q (.inr hq),?_,h4⟩;rintro a (ha|(rfl|ha)) q hq
   .exact h2 a ha q (.inr hq)
   .exactλe=>h3 q hq e.symm
   .simp at ha
def A2k(u:A0a):A1u u=true<->A2R u=true/\(∀k∈u.kids,A4p u.kind k.kind=true/\A1u k=true)/\(u.kids.map kl).Nodup:=by obtain⟨a,k,l,h,w,ks⟩:=u;rw[A1u,Z0h,B9V];simp[A0a.kind,A0a.kids]
def B0h{u:A0a}{ks:List A0a}(h:A2R u=true)(hl:ks.length<=64):A2R (B2n u ks)=true:=by obtain⟨a,k,l,hd,w,k0⟩:=u;simp only[A2R,Z0h,Z0n]at h|-;exact⟨⟨⟨⟨h.1.1.1.1,hl⟩,h.1.1.2⟩,h.1.2⟩,h.2⟩
def C3G(a i:Int):∀(l:List A0z) (n:Nat),A3o l=true->A3o (A2p a i n (A1q l))=true:=by
 intro l n h;simp only[A3o,Z0h,Z0n,Z0D]at h|-;refine⟨by rw[A7f];simpa[A1q]using h.1,?_⟩;have:∀(q:List ByteArray) (n:Nat),(∀t∈q,A2J t=true)->∀w∈A2p a i n q,A2J w.text=true:=by
  intro q;induction q with
  |nil=>intro n _ w hw;simp[A2p]at hw
  |cons t q ih=>
   intro n ht w hw;rw[A2p]at hw;rcases Z0p.1 hw with rfl|hw
   .exact ht t Q1
   .exact ih (n+1) (λt h=>ht t (by simp[h])) w hw
 exact this _ n λt ht=>by obtain⟨w,hw,rfl⟩:=Z0C.1 ht;exact h.2 w hw
mutual
def B6v(a i:Int):∀(t:A0a) (n w:Nat),A1u t=true->A1u (A3j a i t n w)=true
 |.mk x k l h ws ks,n,w,hr=>by
  obtain⟨h1,h2,h3⟩:=(A2k _).1 hr;have h2:∀q∈ks,A4p k q.kind=true/\A1u q=true:=h2;have h3:(ks.map kl).Nodup:=h3;obtain⟨e1,e2⟩:=B4o a i ks (n+1) (w+h.length+ws.length) (λq hq=>(h2 q hq).2);rw[A3j,A2k];refine⟨?_,λq hq=>⟨?_,e2 q hq⟩,?_⟩
  .simp only[A2R,Z0h,Z0n]at h1|-;obtain⟨⟨⟨⟨c1,c2⟩,c3⟩,c4⟩,c5⟩:=h1;refine⟨⟨⟨⟨c1,?_⟩,?_⟩,?_⟩,?_⟩
   .show(A2i _ _ _ _ _).length<=64;rw[A8h];exact c2
   .exact C3G _ _ _ _ c3
   .exact C3G _ _ _ _ c4
   ·(have m1:∀(l:List A0z) n,(A2p a i n (A1q l)).length=l.length:=λl n=>by rw[B3H];simp[A1q]);by_cases hk:k=0
    .have c5:(if k=0 then decide (l.size=0)&&decide (h.length=0)&&decide (ws.length=0)else A1z l)=true:=c5;rw[Z0c hk]at c5;show(if k=0 then decide (l.size=0)&&decide ((A2p a i w (A1q h)).length=0)&&decide ((A2p a i (w+h.length) (A1q ws)).length=0)else A1z l)=true;rw[Z0c hk,m1,m1];exact c5
    .have c5:(if k=0 then decide (l.size=0)&&decide (h.length=0)&&decide (ws.length=0)else A1z l)=true:=c5;rw[Z0d hk]at c5;show(if k=0 then _ else A1z l)=true;rw[Z0d hk];exact c5
  .have:kl q∈(A2i a i ks (n+1) (w+h.length+ws.length)).map kl:=Z0C.2 ⟨q,hq,rfl⟩;rw[e1]at this;obtain⟨z,hz,e⟩:=Z0C.1 this;have:=(h2 z hz).1;rw[show q.kind=z.kind from(congrArg Prod.fst e).symm];exact this
  .show((A2i a i ks (n+1) (w+h.length+ws.length)).map kl).Nodup;rw[e1];exact h3
def B4o(a i:Int):∀(ks:List A0a) (n w:Nat),(∀k∈ks,A1u k=true)->(A2i a i ks n w).map kl=ks.map kl/\∀k∈A2i a i ks n w,A1u k=true
 |[],n,w,_=>by rw[A2i];simp
 |t::ks,n,w,hr=>by
  obtain⟨e1,e2⟩:=B4o a i ks (n+A0y t) (w+wcU t) (λq hq=>hr q ZBH);rw[A2i];refine⟨?_,?_⟩
  .rw[Z0x,Z0x,e1];congr 1;exact Prod.ext (C3B a i t n w).1 (C3B a i t n w).2
  .intro k hk;rcases Z0p.1 hk with rfl|hk
   .exact B6v a i t n w (hr t Q1)
   .exact e2 k hk
end
def A2v(r:IdD×Nat):List AV:=[I r.1.act,I r.1.item,I r.1.n,I r.2]
@[simp] def E0Q(r:IdD×Nat):(A2v r).length=4:=(rfl)
def B1C:List AV:=[fnV 299,fnV 302,fnV 304,fnV 306]
def C4G:A0A prog 321 [(0,fnV 299),(1,fnV 302),(2,fnV 304),(3,fnV 306)]=none:=Q2
def D9s:B1m prog 321 [(0,fnV 299),(1,fnV 302),(2,fnV 304),(3,fnV 306)]=some (.agg B1C):=Q2
section
variable (gl:Nat->AV)
def D4K(k:Int)(M:Mem):A0c (WC gl) 301 [I k] M (λv M'=>v=I 0/\M'=M):=by refine A0r hB func301 ?_;simp -dsimp -implicitDefEqProofs
def D3N(k:Int)(M:Mem):A0c (WC gl) 303 [I k] M (λv M'=>v=I k/\M'=M):=by refine A0r hB func303 ?_;simp -dsimp -implicitDefEqProofs
def A8f(k:Int)(M:Mem):A0c (WC gl) 233 [I k] M (λv M'=>v=B (decide (0<=k)&&decide (k<=3))/\M'=M):=by
 refine A0r hB func233 ?_;by_cases h1:0<=k
 .by_cases h2:k<=3
  .simp -dsimp -implicitDefEqProofs[h1,h2]
  .simp -dsimp -implicitDefEqProofs[h1,h2]
 .simp -dsimp -implicitDefEqProofs[h1]
def B1n(M:Mem):A0c (WC gl) 279 [] M (λv M'=>v=.agg B1C/\M'=M):=by
 refine A0c.dataX ?_;obtain⟨M1,a⟩:=ex (M++[A0m.cells 321 [.val .nilFunc,.val .nilFunc,.val .nilFunc,.val .nilFunc]]);have h1:M1[M.length]?=some (A0m.cells 321 [.val .nilFunc,.val .nilFunc,.val .nilFunc,.val .nilFunc]):=ZCA
 have c:M.length<M1.length:=(Z0a.1 h1).1;have b:Grow M M1:=ZAH
 refine A0r hB func279 ?_;simp -dsimp -implicitDefEqProofs[A0j,C4G];rw[<-a];simp -dsimp -implicitDefEqProofs[A0W,A0J,A1V,A1X,A1c,C4G,D9s,A0f h1,A0o,A0n,B1C,A0u c,A0h];exact⟨A0w b (Z0j _),.same ZBE .nil⟩
def C9z(u y:A0a)(x:IdD)(g:FuncId)(m:Nat)(M:Mem)(hf:Fit u)(l:A0N x u=some y)(hm:∀M,A2Z (WC gl) g [I y.kids.length] M (λv M'=>v=I m/\M'=M)):
 A0c (WC gl) 300 [.agg u.row,.agg x.row,fnV g] M (λv M'=>v=.tuple [.agg (A2v (x,m)),I 0]/\M'=M):=by
 refine A0c.dataX ?_
 have hx:x.row=[I x.act,I x.item,I x.n]:=rfl
 obtain⟨b,hb⟩:=ex (M.length)
 obtain⟨M1,d⟩:=ex (M++[z4])
 have h1:M1[b]?=some z4:=by rw[d,hb];simp
 have j:Grow M M1:=ZCP
 have c:=B2k gl u x M1 hf
 rw[l,hx]at c
 obtain⟨M2,a⟩:=ex (M1++[A0m.cells 31 y.row])
 have hp:M2[M1.length]?=some (A0m.cells 31 [I y.id.act,I y.id.item,I y.id.n,I y.kind,S y.label,.list 4 (A0i y.head) .no,.list 4 (A0i y.words) .no,.list 8 (A0t y.kids) .no]):=by rw[a,y.row_eq];simp
 have e:Grow M1 M2:=ZAH
 have h2:=e.get h1 Q1
 have f:b<M2.length:=(Z0a.1 h2).1
 have i:A0A prog 278 [(0,.agg [I x.act,I x.item,I x.n]),(1,I m)]=some (.agg (A2v (x,m))):=ZBP
 rw[hx]
 rw[A4F,y.row_eq]at c
 rw[y.row_eq]at a
 rw[u.row_eq]at c|-
 refine A0r hB func300 ?_
 simp -dsimp -implicitDefEqProofs[A0j]
 rw[<-d,<-hb]
 refine A0g func99 c ?_
 simp -dsimp -implicitDefEqProofs[A0j,A0k,A0e,A0o,A0n]
 rw[<-a]
 refine A0X hB (A0B gl) (λk=>if k=3 then 1 else if k=7 then 2 else 0) (λ_=>M1.length) (by rfl) Q2 ?_
 simp -dsimp -implicitDefEqProofs[A0b hp,A1e,A5t]
 refine A1k hm ?_
 simp -dsimp -implicitDefEqProofs[i,A0f h2,A2v,A0o,A0n,A0u f,A0h]
 exact⟨A0w (j.trans e) Q0,.same ZBE .nil⟩
def C0M(u:A0a)(x:IdD)(k:Nat)(M:Mem)(hf:Fit u)(hn:(A0V u).Nodup)(hk:k<=1):A0c (WC gl) 305 [.agg u.row,.agg x.row,I k] M (λv M'=>v=.tuple [.agg (A2v (A2H u x k).1),I (A2H u x k).2]/\M'=M):=by
 refine A0c.dataX ?_;have hx:x.row=[I x.act,I x.item,I x.n]:=rfl;obtain⟨b,hb⟩:=ex (M.length);obtain⟨M1,e⟩:=ex (M++[z4]);have h1:M1[b]?=some z4:=by rw[e,hb];simp
 have l:Grow M M1:=ZBJ
 have a:=A9X gl u x M1 hf;rw[hx]at a|-;have o:A0A prog 278 []=some (.agg [I 0,I 0,I 0,I 0]):=by simp[A0A,A1l]
 rcases A9L x hn with h|⟨p,i,h⟩
 .have j:A2H u x k=((idZ,0),9):=by rw[A2H,h]
  have r:C5b x u=.tuple [.agg [I 0,I 0,I 0],I (-1),B false]:=by rw[C5b,h]
  rw[r]at a;rw[j];obtain⟨M2,c⟩:=ex (M1++[A0m.cells 28 [I 0,I 0,I 0]]);have d:Grow M1 M2:=ZAG
  have h2:=d.get h1 Q1;have f:b<M2.length:=(Z0a.1 h2).1;have g:A0k (some 3) (M1++[A0m.cells 28 [I 0,I 0,I 0]]) (.ptr M1.length 0) (.agg [I 0,I 0,I 0])=some M2:=by
   (have:(M1++[A0m.cells 28 [I 0,I 0,I 0]])[M1.length]?=some (A0m.cells 28 [I 0,I 0,I 0]):=by simp);rw[A0f this]
   simp[A0o,A0n,c,A0e]
  rw[u.row_eq]at a|-;refine A0r hB func305 ?_;simp -dsimp -implicitDefEqProofs[A0j];rw[<-e,<-hb];refine A0g func179 a ?_;simp -dsimp -implicitDefEqProofs[A0j,g,o,A0f h2,A0o,A0n,A0u f,A0h];exact⟨A0w (l.trans d) Q0,.same ZAZ .nil⟩
 .have s:p.id.row=[I p.id.act,I p.id.item,I p.id.n]:=rfl;have y:=A8M (B6V hf h.par);have hlt:=h.lt;have j:A2H u x k=((p.id,i+k),0):=by simp only[A2H,h.par,D0F,h.idx,Z3E]
  rw[B3N h.par,h.idx,s]at a;obtain⟨m,hm⟩:=ex (i+k);rw[j,<-hm];have w1:IntKind.i64.wrap ((i:Int)+k)=(m:Int):=ZAW
  obtain⟨q,hq⟩:=ex (M1.length);obtain⟨M2,c⟩:=ex (M1++[A0m.cells 28 [I p.id.act,I p.id.item,I p.id.n]]);have w:M2[q]?=some (A0m.cells 28 [I p.id.act,I p.id.item,I p.id.n]):=by rw[c,hq];simp
  have d:Grow M1 M2:=ZAG
  have h2:=d.get h1 Q1;have f:b<M2.length:=(Z0a.1 h2).1;have g:A0k (some 3) (M1++[A0m.cells 28 [I 0,I 0,I 0]]) (.ptr M1.length 0) (.agg [I p.id.act,I p.id.item,I p.id.n])=some M2:=by
   (have:(M1++[A0m.cells 28 [I 0,I 0,I 0]])[M1.length]?=some (A0m.cells 28 [I 0,I 0,I 0]):=by simp);rw[A0f this]
   simp[A0o,A0n,c,A0e]
  have t:A0A prog 278 [(0,.agg [I p.id.act,I p.id.item,I p.id.n]),(1,I m)]=some (.agg (A2v (p.id,m))):=ZBP
  rw[u.row_eq]at a|-;refine A0r hB func305 ?_;simp -dsimp -implicitDefEqProofs[A0j];rw[<-e,<-hb];refine A0g func179 a ?_;simp -dsimp -implicitDefEqProofs[A0j,g];rw[<-hq];simp -dsimp -implicitDefEqProofs[A0b w,w1,t,A0f h2,A2v,A0o,A0n,A0u f,A0h];exact⟨A0w (l.trans d) Q0,.same ZBE .nil⟩
def D7W(w:Int):FuncId:=if w=0 then 299 else if w=1 then 302 else if w=2 then 304 else 306
def C8k(u y:A0a)(x:IdD)(M:Mem)(hf:Fit u)(hn:(A0V u).Nodup)(g:A0N x u=some y):A0c (WC gl) 299 [.agg u.row,.agg x.row] M (λv M'=>v=.tuple [.agg (A2v (A2s u x 0).1),I (A2s u x 0).2]/\M'=M):=by
 refine A0c.dataX ?_;have hx:x.row=[I x.act,I x.item,I x.n]:=rfl;obtain⟨b,hb⟩:=ex (M.length);obtain⟨M1,c⟩:=ex (M++[z4]);have h1:M1[b]?=some z4:=ZDQ
 have f:Grow M M1:=ZAG
 have e:b<M1.length:=(Z0a.1 h1).1;have a:=C9z gl u y x 301 0 M1 hf g (λM=>A0l func301 rfl rfl (D4K gl _ M));have d:A2s u x 0=((x,0),0):=by rfl
 rw[d];generalize((x,0):IdD×Nat)=r at*;rw[hx]at a|-;rw[u.row_eq]at a|-;refine A0r hB func299 ?_;simp -dsimp -implicitDefEqProofs[A0j];rw[<-c,<-hb];refine A0g func300 a ?_;simp -dsimp -implicitDefEqProofs[A0f h1,A2v,A0o,A0n,A0u e,A0h];exact⟨A0w f Q0,.same ZBE .nil⟩
def C6M(u y:A0a)(x:IdD)(M:Mem)(hf:Fit u)(hn:(A0V u).Nodup)(d:A0N x u=some y):A0c (WC gl) 302 [.agg u.row,.agg x.row] M (λv M'=>v=.tuple [.agg (A2v (A2s u x 1).1),I (A2s u x 1).2]/\M'=M):=by
 refine A0c.dataX ?_;have hx:x.row=[I x.act,I x.item,I x.n]:=rfl;obtain⟨b,hb⟩:=ex (M.length);obtain⟨M1,c⟩:=ex (M++[z4]);have h1:M1[b]?=some z4:=ZDQ
 have g:Grow M M1:=ZAG
 have f:b<M1.length:=(Z0a.1 h1).1;have a:=C9z gl u y x 303 y.kids.length M1 hf d (λM=>A0l func303 rfl rfl (D3N gl _ M));have e:A2s u x 1=((x,y.kids.length),0):=by simp[A2s,A5W,d]
 rw[e];generalize((x,y.kids.length):IdD×Nat)=r at*;rw[hx]at a|-;rw[u.row_eq]at a|-;refine A0r hB func302 ?_;simp -dsimp -implicitDefEqProofs[A0j];rw[<-c,<-hb];refine A0g func300 a ?_;simp -dsimp -implicitDefEqProofs[A0f h1,A2v,A0o,A0n,A0u f,A0h];exact⟨A0w g Q0,.same ZBE .nil⟩
def C8u(u y:A0a)(x:IdD)(M:Mem)(hf:Fit u)(hn:(A0V u).Nodup)(g:A0N x u=some y):A0c (WC gl) 304 [.agg u.row,.agg x.row] M (λv M'=>v=.tuple [.agg (A2v (A2s u x 2).1),I (A2s u x 2).2]/\M'=M):=by
 refine A0c.dataX ?_;have hx:x.row=[I x.act,I x.item,I x.n]:=rfl;obtain⟨b,hb⟩:=ex (M.length);obtain⟨M1,c⟩:=ex (M++[z4]);have h1:M1[b]?=some z4:=ZDQ
 have f:Grow M M1:=ZAG
 have e:b<M1.length:=(Z0a.1 h1).1;have a:=C0M gl u x 1 M1 hf hn Q0;have d:A2s u x 2=A2H u x 1:=by rfl
 rw[d];generalize A2H u x 1=r at*;rw[hx]at a|-;rw[u.row_eq]at a|-;refine A0r hB func304 ?_;simp -dsimp -implicitDefEqProofs[A0j];rw[<-c,<-hb];refine A0g func305 a ?_;simp -dsimp -implicitDefEqProofs[A0f h1,A2v,A0o,A0n,A0u e,A0h];exact⟨A0w f Q0,.same ZBE .nil⟩
def C7G(u y:A0a)(x:IdD)(M:Mem)(hf:Fit u)(hn:(A0V u).Nodup)(g:A0N x u=some y):A0c (WC gl) 306 [.agg u.row,.agg x.row] M (λv M'=>v=.tuple [.agg (A2v (A2s u x 3).1),I (A2s u x 3).2]/\M'=M):=by
 refine A0c.dataX ?_;have hx:x.row=[I x.act,I x.item,I x.n]:=rfl;obtain⟨b,hb⟩:=ex (M.length);obtain⟨M1,c⟩:=ex (M++[z4]);have h1:M1[b]?=some z4:=ZDQ
 have f:Grow M M1:=ZAG
 have e:b<M1.length:=(Z0a.1 h1).1;have a:=C0M gl u x 0 M1 hf hn Q0;have d:A2s u x 3=A2H u x 0:=by rfl
 rw[d];generalize A2H u x 0=r at*;rw[hx]at a|-;rw[u.row_eq]at a|-;refine A0r hB func306 ?_;simp -dsimp -implicitDefEqProofs[A0j];rw[<-c,<-hb];refine A0g func305 a ?_;simp -dsimp -implicitDefEqProofs[A0f h1,A2v,A0o,A0n,A0u e,A0h];exact⟨A0w f Q0,.same ZBE .nil⟩
def C9H(u y:A0a)(x:IdD)(w:Int)(M:Mem)(hf:Fit u)(hn:(A0V u).Nodup)(a:A0N x u=some y)(hw:0<=w/\w<=3):A2Z (WC gl) (D7W w) [.agg u.row,.agg x.row] M (λv M'=>v=.tuple [.agg (A2v (A2s u x w).1),I (A2s u x w).2]/\M'=M):=by
 have:w=0\/w=1\/w=2\/w=3:=Q0;rcases this with rfl|rfl|rfl|rfl
 .exact A0l func299 rfl rfl (C8k gl u y x M hf hn a)
 .exact A0l func302 rfl rfl (C6M gl u y x M hf hn a)
 .exact A0l func304 rfl rfl (C8u gl u y x M hf hn a)
 .exact A0l func306 rfl rfl (C7G gl u y x M hf hn a)
def E6a:B7J prog (some (.array 4 320)) (.agg B1C) (I 0)=some (fnV 299):=Q2
def E6w:B7J prog (some (.array 4 320)) (.agg B1C) (I 1)=some (fnV 302):=Q2
def E6g:B7J prog (some (.array 4 320)) (.agg B1C) (I 2)=some (fnV 304):=Q2
def E6e:B7J prog (some (.array 4 320)) (.agg B1C) (I 3)=some (fnV 306):=Q2
def B1c{w:Int}(hw:0<=w/\w<=3):B7J prog (some (.array 4 320)) (.agg B1C) (I w)=some (fnV (D7W w)):=by
 have:w=0\/w=1\/w=2\/w=3:=Q0;rcases this with rfl|rfl|rfl|rfl
 .exact E6a
 .exact E6w
 .exact E6g
 .exact E6e
def A7l{u:A0a}{p:List A1o}(hn:(A0V u).Nodup)(hv:A1T p=true)(h:(A2c u p).2=0):∃y,A0N (A2c u p).1 u=some y/\y∈A2j u/\y.id=(A2c u p).1:=by
 have hf:B2N u p=A7a u p:=by rw[B2N,Z0c hv]
 have hs:∀x∈A7a u p,x∈A2j u:=by
  cases p with
  |nil=>intro x hx;simp only[A7a,Z0L]at hx;rw[hx];exact A4G u
  |cons s r=>exact(Sel.follow hn r _ (B4W hn s)).sub
 rw[<-hf]at hs;unfold A2c at h|-;generalize B2N u p=R at*
 match R,h with
 |[x],_=>exact⟨x,A8U hn (hs x Q1),hs x Q1,rfl⟩
def D4E(u:A0a)(p:List A1o)(w:Int)(M:Mem)(hf:Fit u)(hn:(A0V u).Nodup)(hv:A1T p=true)(hw:0<=w/\w<=3):A0c (WC gl) 232 [.agg u.row,.list 2 (A0O p) .no,I w] M (λv M'=>v=.tuple [.agg (A5r u p w).1.1.row,I (A5r u p w).1.2,I (A5r u p w).2]/\M'=M):=by
 refine A0c.dataX ?_
 obtain⟨b,hb⟩:=ex (M.length)
 obtain⟨M1,d⟩:=ex (M++[A0m.cells 28 [I 0,I 0,I 0]])
 have h1:M1[b]?=some (A0m.cells 28 [I 0,I 0,I 0]):=by rw[d,hb];simp
 have l:Grow M M1:=ZCP
 have a:=B2d gl u p M1 hf hn hv
 have z:(decide (0<=w)&&decide (w<=3))=true:=by simp[hw.1,hw.2]
 have a7:A5r u p w=if(A2c u p).2=0 then(if(A2s u (A2c u p).1 w).2=0 then A2s u (A2c u p).1 w else((idZ,0),(A2s u (A2c u p).1 w).2))else((idZ,0),(A2c u p).2):=rfl
 have a1:=λh=>A7l (u:=u) (p:=p) hn hv h
 rw[a7]
 generalize A2c u p=O at*
 obtain⟨id,e⟩:=O
 simp only at a1 a|-
 have i:id.row=[I id.act,I id.item,I id.n]:=rfl
 obtain⟨M2,m⟩:=ex (M1++[A0m.cells 28 [I id.act,I id.item,I id.n]])
 obtain⟨q,hq⟩:=ex (M1.length)
 have a3:M2[q]?=some (A0m.cells 28 [I id.act,I id.item,I id.n]):=by rw[m,hq];simp
 have f:Grow M1 M2:=by rw[m];exact A0d.app none _ _
 have h2:=f.get h1 Q1
 have a6:b<M2.length:=(Z0a.1 h2).1
 have a2:A0k (some 3) (M1++[A0m.cells 28 [I 0,I 0,I 0]]) (.ptr M1.length 0) (.agg [I id.act,I id.item,I id.n])=some M2:=by
  have:(M1++[A0m.cells 28 [I 0,I 0,I 0]])[M1.length]?=some (A0m.cells 28 [I 0,I 0,I 0]):=ZBG
  rw[A0f this];simp[A0o,A0n,m,A0e]
 have aa:∀(n:Int),bdd M.length (.agg [I 0,I 0,I 0]):=ZBE
 rw[i]at a
 by_cases he:e=0
 case neg=>rw[Z0d he];rw[u.row_eq]at a|-;refine A0r hB func232 ?_;simp -dsimp -implicitDefEqProofs[A0j];rw[<-d,<-hb];refine A0g func233 (A8f gl w M1) ?_;simp -dsimp -implicitDefEqProofs[z];refine A0g func10 a ?_;simp -dsimp -implicitDefEqProofs[A0j,a2,he,A6t,A0f h2,A0o,A0n,A0u a6,A0h];exact⟨A0w (l.trans f) Q0,.tuple (.same ZAY (.same trivial (.same trivial .nil))) .nil⟩
 obtain⟨y,hy,_,_⟩:=a1 he
 rw[Z0c he]
 have g:=λM=>C9H gl u y id w M hf hn hy hw
 generalize A2s u id w=r at*
 obtain⟨⟨ri,rn⟩,re⟩:=r
 obtain⟨M3,c⟩:=ex (M2++[A0m.cells 278 (A2v (ri,rn))])
 obtain⟨s,hs⟩:=ex (M2.length)
 have a4:M3[s]?=some (A0m.cells 278 [I ri.act,I ri.item,I ri.n,I rn]):=by rw[c,hs];simp[A2v]
 have j:Grow M2 M3:=ZAG
 have h3:=j.get h2 Q1
 have a0:b<M3.length:=(Z0a.1 h3).1
 have o:q<M2.length:=(Z0a.1 a3).1
 have x:∀X,(M2++[A0m.cells 278 X])[q]?=M2[q]?:=λX=>by rw[Z0o o]
 have a9:b≠s:=Q0
 have a8:∀X,(M3.set b X)[s]?=M3[s]?:=λX=>Z0f Q0
 rw[i]at g
 rw[u.row_eq]at a g|-
 refine A0r hB func232 ?_
 simp -dsimp -implicitDefEqProofs[A0j]
 rw[<-d,<-hb]
 refine A0g func233 (A8f gl w M1) ?_
 simp -dsimp -implicitDefEqProofs[z]
 refine A0g func10 a ?_
 simp -dsimp -implicitDefEqProofs[A0j,a2,he]
 rw[<-hq]
 refine A9V hB (A0B gl) (λk=>if k=4 then 1 else if k=9\/k=10 then 2 else 0) (λ_=>q) (λ_=>false) [q] (by intros;simp) (by rfl) Q2 ?_
 simp -dsimp -implicitDefEqProofs
 refine A2y func279 (λM=>B1n gl M) ?_
 simp -dsimp -implicitDefEqProofs[B1c hw,A0b a3,A1e,A5t]
 refine A1k g ?_
 have t:A0k (some 4) (M2++[z4]) (.ptr M2.length 0) (.agg (A2v (ri,rn)))=some M3:=by
  have:(M2++[z4])[M2.length]?=some z4:=ZBG
  rw[A0f this];simp[A0o,A0n,c,A0e]
 have a5:M3[q]?=M2[q]?:=by rw[c];exact x _
 simp only at g
 simp -dsimp -implicitDefEqProofs[A0j,t,x,a5]
 rw[<-hs]
 by_cases hre:re=0
 .rw[Z0c hre];subst hre;simp -dsimp -implicitDefEqProofs;refine A9V hB (A0B gl) (λk=>if k=1\/k=3 then 1 else if k=4 then 2 else 0) (λ_=>s) (λ_=>false) [s] (by intros;simp) (by rfl) Q2 ?_;simp -dsimp -implicitDefEqProofs[A0b a4,A1e,A5t,a8,A0f h3,A0o,A0n,A0u a0,A0h];exact⟨A0w ((l.trans f).trans j) Q0,.tuple (.same ZAY (.same trivial (.same trivial .nil))) .nil⟩
 .rw[Z0d hre];simp -dsimp -implicitDefEqProofs[hre,A6t,A0f h3,A0o,A0n,A0u a0,A0h];exact⟨A0w ((l.trans f).trans j) Q0,.tuple (.same ZAY (.same trivial (.same trivial .nil))) .nil⟩
end
def C9A(a b:IdD):A1K prog .neq 28 (.agg [I a.act,I a.item,I a.n]) (.agg [I b.act,I b.item,I b.n])=some (B (!decide (a=b))):=by
 have h0:A3v prog .neq 28 (.agg [I a.act,I a.item,I a.n]) (.agg [I b.act,I b.item,I b.n])=none:=by simp[A3v,A3Z]
 have:=(C9h 354 4 Q2).eq a b;simp only[C9b,IdD.row]at this;simp only[A1K,h0,A4B,C1p,this];rfl
def C6O(u y:A0a)(t:IdD)(w:Int)(hf:Fit u)(hn:(A0V u).Nodup)(ht:A0N t u=some y):(A2s u t w).1.2<=3001:=by
 have hy:Fit y:=A7W u hf y (A2U ht).2;have hb:∀k≤1,(A2H u t k).1.2<=3001:=λk hk=>by
  rcases A9L t hn with h|⟨p,i,h⟩
  .rw[A2H,h];simp
  .have h1:=A8M (B6V hf h.par);have h2:=h.lt;simp only[A2H,h.par,D0F,h.idx,Z3E];omega
 unfold A2s;split
 .simp
 split
 .have:=A8M hy;simp only[A5W,ht,Z1m];omega
 split
 .exact hb 1 Q0
 .exact hb 0 Q0
section
variable (gl:Nat->AV)
set_option maxHeartbeats 4000000 in
def D6y(u yx yt:A0a)(x t:IdD)(w:Int)(M:Mem)(hf:Fit u)(hn:(A0V u).Nodup)(hx:A0N x u=some yx)(ht:A0N t u=some yt)(hw:0<=w/\w<=3):A0c (WC gl) 234 [.agg u.row,.agg x.row,.agg t.row,I w] M (λv M'=>v=.tuple [.agg (A2v (A8v u x t w).1),I (A8v u x t w).2]/\M'=M):=by
 refine A0c.dataX ?_
 have ap:x.row=[I x.act,I x.item,I x.n]:=rfl
 have ai:t.row=[I t.act,I t.item,I t.n]:=rfl
 obtain⟨b,hb⟩:=ex (M.length)
 obtain⟨M1,g⟩:=ex (M++[z4])
 have h1:M1[b]?=some z4:=by rw[g,hb];simp
 have a1:Grow M M1:=ZBU
 have a:=A9X gl u x M1 hf
 have f:=λM=>C1O gl u t M hf
 have ax:=A5T t u
 have ay:=hf.2.2
 have d:=λM=>B9b gl ((A1h t u).dropLast.reverse.map A0a.id) .no x M ZAB
 have ak:(((A1h t u).dropLast.reverse.map A0a.id).any λy=>decide (y=x))=decide (x∈B0F t u):=by
  unfold B0F;rw[Z2k,Z3g,Z0n];constructor
  .rintro⟨y,hy,e⟩;rw[Z0n]at e;rw[<-e];exact hy
  .intro h;exact⟨x,h,Q1⟩
 rw[ak]at d
 have ad:B0F t u=(A1h t u).dropLast.reverse.map A0a.id:=rfl
 rw[<-ad]at f d
 obtain⟨b0,aw⟩:=ex (B0F t u)
 have c:=C9A t x
 have o:=C2D t x
 have z:((w=2)=True/\(w=3)=False)\/((w=2)=False/\(w=3)=True)\/((w=2)=False/\(w=3)=False):=by
  have:w=2\/w=3\/(w≠2/\w≠3):=Q0;rcases this with h|h|h
  .exact .inl ⟨Z2u h,Z3N Q0⟩
  .exact .inr (.inl ⟨Z3N Q0,Z2u h⟩)
  .exact .inr (.inr ⟨Z3N h.1,Z3N h.2⟩)
 have a7:A0A prog 278 []=some (.agg [I 0,I 0,I 0,I 0]):=by simp[A0A,A1l]
 rw[ap]at a d|-
 rw[ai]at f|-
 rcases A9L x hn with h|⟨p,i,h⟩
 .have ac:A8v u x t w=((idZ,0),9):=Z0c (.inl h);have au:C5b x u=.tuple [.agg [I 0,I 0,I 0],I (-1),B false]:=by rw[C5b,h]
  rw[au]at a;rw[ac];obtain⟨M2,a8⟩:=ex (M1++[A0m.cells 28 [I 0,I 0,I 0]]);have l:Grow M1 M2:=by rw[a8];exact A0d.app none _ _
  have h2:=l.get h1 Q1;have a0:b<M2.length:=(Z0a.1 h2).1;have j:A0k (some 3) (M1++[A0m.cells 28 [I 0,I 0,I 0]]) (.ptr M1.length 0) (.agg [I 0,I 0,I 0])=some M2:=by
   (have:(M1++[A0m.cells 28 [I 0,I 0,I 0]])[M1.length]?=some (A0m.cells 28 [I 0,I 0,I 0]):=by simp);rw[A0f this]
   simp[A0o,A0n,a8,A0e]
  rw[u.row_eq]at a f|-;refine A0r hB func234 ?_;by_cases hto:t=x
  .rw[Z0A hto]at c;rcases z with⟨e2,e3⟩|⟨e2,e3⟩|⟨e2,e3⟩<;>
   (simp -dsimp -implicitDefEqProofs[A0j,e2,e3]
    rw[<-g,<-hb]
    refine A0g func179 a ?_
    simp -dsimp -implicitDefEqProofs[A0j,j]
    refine A0X hB (A0B gl) (λ_=>0) (λ_=>0) (by rfl) Q2 ?_
    simp -dsimp -implicitDefEqProofs[c]
    simp -dsimp -implicitDefEqProofs[a7,A0f h2,A0o,A0n,A0u a0,A0h]
    exact⟨A0w (a1.trans l) Q0,.same ZAZ .nil⟩)
  .rw[Z0I hto]at c;generalize decide (x∈B0F t u)=db at*;rcases z with⟨e2,e3⟩|⟨e2,e3⟩|⟨e2,e3⟩<;>
   (simp -dsimp -implicitDefEqProofs[A0j,e2,e3]
    rw[<-g,<-hb]
    refine A0g func179 a ?_
    simp -dsimp -implicitDefEqProofs[A0j,j]
    refine A0X hB (A0B gl) (λ_=>0) (λ_=>0) (by rfl) Q2 ?_
    simp -dsimp -implicitDefEqProofs[c]
    refine A2y func239 f ?_
    simp -dsimp -implicitDefEqProofs
    refine A2y func168 d ?_
    simp -dsimp -implicitDefEqProofs[a7,A0f h2,A0o,A0n,A0u a0,A0h]
    exact⟨A0w (a1.trans l) Q0,.same ZAZ .nil⟩)
 .have ao:p.id.row=[I p.id.act,I p.id.item,I p.id.n]:=rfl;have az:=A8M (B6V hf h.par);have hlt:=h.lt;have an:=h.parI;have ac:A8v u x t w=if(t≠x/\x∈B0F t u)\/(t=x/\¬(w=2\/w=3))then((idZ,0),9)else if t=x then((p.id,i),0)
   else(if(A2s u t w).2=0/\(A2s u t w).1.1=p.id/\i<(A2s u t w).1.2 then(((A2s u t w).1.1,(A2s u t w).1.2-1),0)else A2s u t w):=by
   unfold A8v
   rw[an,h.par]
   simp
  rw[ac];rw[B3N h.par,h.idx,ao]at a;obtain⟨q,hq⟩:=ex (M1.length);obtain⟨M2,a8⟩:=ex (M1++[A0m.cells 28 [I p.id.act,I p.id.item,I p.id.n]]);have ab:M2[q]?=some (A0m.cells 28 [I p.id.act,I p.id.item,I p.id.n]):=by rw[a8,hq];simp
  have l:Grow M1 M2:=by rw[a8];exact A0d.app none _ _
  have h2:=l.get h1 Q1;have a0:b<M2.length:=(Z0a.1 h2).1;have j:A0k (some 3) (M1++[A0m.cells 28 [I 0,I 0,I 0]]) (.ptr M1.length 0) (.agg [I p.id.act,I p.id.item,I p.id.n])=some M2:=by
   (have:(M1++[A0m.cells 28 [I 0,I 0,I 0]])[M1.length]?=some (A0m.cells 28 [I 0,I 0,I 0]):=by simp);rw[A0f this]
   simp[A0o,A0n,a8,A0e]
  have ah:A0A prog 278 [(0,.agg [I p.id.act,I p.id.item,I p.id.n]),(1,I i)]=some (.agg (A2v (p.id,i))):=ZBP
  have a2:=λM=>C9H gl u yt t w M hf hn ht hw;have av:=C6O u yt t w hf hn ht;generalize A2s u t w=r at*;obtain⟨⟨ri,rn⟩,re⟩:=r;simp only at a2 av|-;rw[ai]at a2;rw[u.row_eq]at a f a2|-;refine A0r hB func234 ?_;by_cases hto:t=x
  .rw[Z0A hto]at c o;rcases z with⟨e2,e3⟩|⟨e2,e3⟩|⟨e2,e3⟩
   .rw[Z0d (by simp[hto,e2]),Z0c hto];simp -dsimp -implicitDefEqProofs[A0j,e2,e3];rw[<-g,<-hb];refine A0g func179 a ?_;simp -dsimp -implicitDefEqProofs[A0j,j];rw[<-hq];refine A0X hB (A0B gl) (λ_=>0) (λ_=>0) (by rfl) Q2 ?_;simp -dsimp -implicitDefEqProofs[c];simp -dsimp -implicitDefEqProofs[c,o,a7,e2,e3,A0b ab,ah,A2v,A0f h2,A0o,A0n,A0u a0,A0h];exact⟨A0w (a1.trans l) Q0,.same ZAZ .nil⟩
   .rw[Z0d (by simp[hto,e3]),Z0c hto];simp -dsimp -implicitDefEqProofs[A0j,e2,e3];rw[<-g,<-hb];refine A0g func179 a ?_;simp -dsimp -implicitDefEqProofs[A0j,j];rw[<-hq];refine A0X hB (A0B gl) (λ_=>0) (λ_=>0) (by rfl) Q2 ?_;simp -dsimp -implicitDefEqProofs[c];simp -dsimp -implicitDefEqProofs[c,o,a7,e2,e3,A0b ab,ah,A2v,A0f h2,A0o,A0n,A0u a0,A0h];exact⟨A0w (a1.trans l) Q0,.same ZAZ .nil⟩
   .rw[Z0c (.inr ⟨hto,by simp[e2,e3]⟩)];simp -dsimp -implicitDefEqProofs[A0j,e2,e3];rw[<-g,<-hb];refine A0g func179 a ?_;simp -dsimp -implicitDefEqProofs[A0j,j];rw[<-hq];refine A0X hB (A0B gl) (λ_=>0) (λ_=>0) (by rfl) Q2 ?_;simp -dsimp -implicitDefEqProofs[c];simp -dsimp -implicitDefEqProofs[c,o,a7,e2,e3,A0b ab,ah,A2v,A0f h2,A0o,A0n,A0u a0,A0h];exact⟨A0w (a1.trans l) Q0,.same ZAZ .nil⟩
  rw[Z0I hto]at c o;by_cases hbe:x∈B0F t u
  .rw[Z0c (.inl ⟨hto,hbe⟩)];rw[Z0A hbe]at d;rcases z with⟨e2,e3⟩|⟨e2,e3⟩|⟨e2,e3⟩<;>
   (simp -dsimp -implicitDefEqProofs[A0j,e2,e3]
    rw[<-g,<-hb]
    refine A0g func179 a ?_
    simp -dsimp -implicitDefEqProofs[A0j,j]
    rw[<-hq]
    refine A0X hB (A0B gl) (λ_=>0) (λ_=>0) (by rfl) Q2 ?_
    simp -dsimp -implicitDefEqProofs[c]
    refine A2y func239 f ?_
    simp -dsimp -implicitDefEqProofs
    refine A2y func168 d ?_
    simp -dsimp -implicitDefEqProofs[a7,A0f h2,A0o,A0n,A0u a0,A0h]
    exact⟨A0w (a1.trans l) Q0,.same ZAZ .nil⟩)
  rw[Z0d (λe=>e.elim (λe=>hbe e.2) (λe=>hto e.1)),Z0d hto];rw[Z0I hbe]at d;obtain⟨M3,ae⟩:=ex (M2++[A0m.cells 278 (A2v (ri,rn))]);obtain⟨s,hs⟩:=ex (M2.length);have a5:M3[s]?=some (A0m.cells 278 [I ri.act,I ri.item,I ri.n,I rn]):=by rw[ae,hs];simp[A2v]
  have af:Grow M2 M3:=by rw[ae];exact A0d.app none _ _
  have h3:=af.get h2 Q1;have aa:=af.get ab Q1;have ag:b<M3.length:=(Z0a.1 h3).1;have aj:s<M3.length:=(Z0a.1 a5).1;have a3:A0k (some 4) (M2++[z4]) (.ptr M2.length 0) (.agg (A2v (ri,rn)))=some M3:=by
   (have:(M2++[z4])[M2.length]?=some z4:=by simp);rw[A0f this]
   simp[A0o,A0n,ae,A0e]
  have a6:=C2D ri p.id;have a4:Grow M M3:=(a1.trans l).trans af;by_cases hre:re=0/\ri=p.id/\i<rn
  .rw[Z0c hre];obtain⟨r1,r2,r3⟩:=hre;rw[Z0A r2]at a6;obtain⟨m,hm⟩:=ex (rn-1);rw[<-hm];have c1:(i:Int)<rn:=Q0;(have w1:IntKind.i64.wrap ((rn:Int)-1)=(m:Int):=by rw[A0R Q0 Q0];omega);obtain⟨M4,a9⟩:=ex (M3.set s (A0m.cells 278 [I ri.act,I ri.item,I ri.n,I m]));(have al:M4[s]?=some (A0m.cells 278 [I ri.act,I ri.item,I ri.n,I m]):=by rw[a9];simp[aj]);(have h4:M4[b]?=some z4:=by rw[a9,Z0f Q0];exact h3);have am:b<M4.length:=(Z0a.1 h4).1;(have aq:Grow M M4:=by rw[a9];exact A0w a4 Q0);(have ar:A0k (some 1) M3 (.ptr s 3) (I m)=some M4:=by rw[A0f a5,a9];rfl);rcases z with⟨e2,e3⟩|⟨e2,e3⟩|⟨e2,e3⟩<;>
   (simp -dsimp -implicitDefEqProofs[A0j,e2,e3]
    rw[<-g,<-hb]
    refine A0g func179 a ?_
    simp -dsimp -implicitDefEqProofs[A0j,j]
    rw[<-hq]
    refine A0X hB (A0B gl) (λ_=>0) (λ_=>0) (by rfl) Q2 ?_
    simp -dsimp -implicitDefEqProofs[c]
    refine A2y func239 f ?_
    simp -dsimp -implicitDefEqProofs
    refine A2y func168 d ?_
    simp -dsimp -implicitDefEqProofs[o]
    refine A0X hB (A0B gl) (λk=>if k=9\/k=10 then 2 else 0) (λ_=>0) (by rfl) Q2 ?_
    simp -dsimp -implicitDefEqProofs
    refine A2y func279 (λM=>B1n gl M) ?_
    simp -dsimp -implicitDefEqProofs[B1c hw]
    refine A1k a2 ?_
    simp -dsimp -implicitDefEqProofs[A0j,a3]
    rw[<-hs]
    simp -dsimp -implicitDefEqProofs[r1,A0b a5,A0b aa,a6,c1,w1,ar,A0b al,A0f h4,A0o,A0n,A0u am,A0h]
    exact⟨A0w aq Q0,.same ZAZ .nil⟩)
  .rw[Z0d hre];by_cases r1:re=0
   .by_cases r2:ri=p.id
    .rw[Z0A r2]at a6;have c1:¬(i:Int)<rn:=λe=>hre ⟨r1,r2,Q0⟩;rcases z with⟨e2,e3⟩|⟨e2,e3⟩|⟨e2,e3⟩<;>
     (simp -dsimp -implicitDefEqProofs[A0j,e2,e3]
      rw[<-g,<-hb]
      refine A0g func179 a ?_
      simp -dsimp -implicitDefEqProofs[A0j,j]
      rw[<-hq]
      refine A0X hB (A0B gl) (λ_=>0) (λ_=>0) (by rfl) Q2 ?_
      simp -dsimp -implicitDefEqProofs[c]
      refine A2y func239 f ?_
      simp -dsimp -implicitDefEqProofs
      refine A2y func168 d ?_
      simp -dsimp -implicitDefEqProofs[o]
      refine A0X hB (A0B gl) (λk=>if k=9\/k=10 then 2 else 0) (λ_=>0) (by rfl) Q2 ?_
      simp -dsimp -implicitDefEqProofs
      refine A2y func279 (λM=>B1n gl M) ?_
      simp -dsimp -implicitDefEqProofs[B1c hw]
      refine A1k a2 ?_
      simp -dsimp -implicitDefEqProofs[A0j,a3]
      rw[<-hs]
      simp -dsimp -implicitDefEqProofs[r1,A0b a5,A0b aa,a6,c1,A0f h3,A0o,A0n,A0u ag,A0h]
      exact⟨A0w a4 Q0,.same ZAZ .nil⟩)
    .rw[Z0I r2]at a6;rcases z with⟨e2,e3⟩|⟨e2,e3⟩|⟨e2,e3⟩<;>
     (simp -dsimp -implicitDefEqProofs[A0j,e2,e3]
      rw[<-g,<-hb]
      refine A0g func179 a ?_
      simp -dsimp -implicitDefEqProofs[A0j,j]
      rw[<-hq]
      refine A0X hB (A0B gl) (λ_=>0) (λ_=>0) (by rfl) Q2 ?_
      simp -dsimp -implicitDefEqProofs[c]
      refine A2y func239 f ?_
      simp -dsimp -implicitDefEqProofs
      refine A2y func168 d ?_
      simp -dsimp -implicitDefEqProofs[o]
      refine A0X hB (A0B gl) (λk=>if k=9\/k=10 then 2 else 0) (λ_=>0) (by rfl) Q2 ?_
      simp -dsimp -implicitDefEqProofs
      refine A2y func279 (λM=>B1n gl M) ?_
      simp -dsimp -implicitDefEqProofs[B1c hw]
      refine A1k a2 ?_
      simp -dsimp -implicitDefEqProofs[A0j,a3]
      rw[<-hs]
      simp -dsimp -implicitDefEqProofs[r1,A0b a5,A0b aa,a6,A0f h3,A0o,A0n,A0u ag,A0h]
      exact⟨A0w a4 Q0,.same ZAZ .nil⟩)
   .rcases z with⟨e2,e3⟩|⟨e2,e3⟩|⟨e2,e3⟩<;>
    (simp -dsimp -implicitDefEqProofs[A0j,e2,e3]
     rw[<-g,<-hb]
     refine A0g func179 a ?_
     simp -dsimp -implicitDefEqProofs[A0j,j]
     rw[<-hq]
     refine A0X hB (A0B gl) (λ_=>0) (λ_=>0) (by rfl) Q2 ?_
     simp -dsimp -implicitDefEqProofs[c]
     refine A2y func239 f ?_
     simp -dsimp -implicitDefEqProofs
     refine A2y func168 d ?_
     simp -dsimp -implicitDefEqProofs[o]
     refine A0X hB (A0B gl) (λk=>if k=9\/k=10 then 2 else 0) (λ_=>0) (by rfl) Q2 ?_
     simp -dsimp -implicitDefEqProofs
     refine A2y func279 (λM=>B1n gl M) ?_
     simp -dsimp -implicitDefEqProofs[B1c hw]
     refine A1k a2 ?_
     simp -dsimp -implicitDefEqProofs[A0j,a3]
     rw[<-hs]
     simp -dsimp -implicitDefEqProofs[r1,A0b a5,A0b aa,A0f h3,A0o,A0n,A0u ag,A0h]
     exact⟨A0w a4 Q0,.same ZAZ .nil⟩)
end
section
variable (gl:Nat->AV)
def A7Y{M1 M2:Mem}{x:IdD}(h:M2=M1++[A0m.cells 28 [I x.act,I x.item,I x.n]]):A0k (some 3) (M1++[A0m.cells 28 [I 0,I 0,I 0]]) (.ptr M1.length 0) (.agg [I x.act,I x.item,I x.n])=some M2:=by
 have:(M1++[A0m.cells 28 [I 0,I 0,I 0]])[M1.length]?=some (A0m.cells 28 [I 0,I 0,I 0]):=ZBG
 rw[A0f this];simp[A0o,A0n,h,A0e]
def D3C{M1 M2:Mem}{r:IdD×Nat}(h:M2=M1++[A0m.cells 278 (A2v r)]):A0k (some 4) (M1++[z4]) (.ptr M1.length 0) (.agg (A2v r))=some M2:=by
 have:(M1++[z4])[M1.length]?=some z4:=ZBG
 rw[A0f this];simp[A0o,A0n,h,A0e]
def B3z{M1 M2:Mem}{u:A0a}(h:M2=M1++[A0m.cells 31 [I u.id.act,I u.id.item,I u.id.n,I u.kind,S u.label,.list 4 (A0i u.head) .no,.list 4 (A0i u.words) .no,.list 8 (A0t u.kids) .no]]):A0k (some 8) (M1++[z8]) (.ptr M1.length 0) (.agg [I u.id.act,I u.id.item,I u.id.n,I u.kind,S u.label,.list 4 (A0i u.head) .no,.list 4 (A0i u.words) .no,.list 8 (A0t u.kids) .no])=some M2:=by
 have:(M1++[z8])[M1.length]?=some z8:=ZBG
 rw[A0f this];simp[A0o,A0n,h,A0e]
def C7o(u:A0a)(it:A0H)(M:Mem)(hf:Fit u)(hn:(A0V u).Nodup)(hk:it.h.kind=0)(hv:A1T it.h.at_=true)(hw:0<=it.h.where_/\it.h.where_<=3):A0c (WC gl) 160 [.agg u.row,.agg it.row] M (λv M'=>v=.tuple [.agg (A5r u it.h.at_ it.h.where_).1.1.row,I (A5r u it.h.at_ it.h.where_).1.2,I (A5r u it.h.at_ it.h.where_).2]/\M'=M):=by
 refine A0c.dataX ?_
 obtain⟨b,hb⟩:=ex (M.length)
 obtain⟨M1,c⟩:=ex (M++[A0m.cells 28 [I 0,I 0,I 0]])
 have h1:M1[b]?=some (A0m.cells 28 [I 0,I 0,I 0]):=ZDQ
 have f:Grow M M1:=ZAG
 have e:b<M1.length:=(Z0a.1 h1).1
 have a:=D4E gl u it.h.at_ it.h.where_ M1 hf hn hv hw
 generalize A5r u it.h.at_ it.h.where_=r at*
 have d:r.1.1.row=[I r.1.1.act,I r.1.1.item,I r.1.1.n]:=rfl
 rw[d]at a|-
 rw[it.row_eq,A1W.row]
 rw[u.row_eq]at a|-
 refine A0r hB func160 ?_
 simp -dsimp -implicitDefEqProofs[A0j,hk]
 rw[<-c,<-hb]
 refine A0g func232 a ?_
 simp -dsimp -implicitDefEqProofs[A0f h1,A0o,A0n,A0u e,A0h]
 exact⟨A0w f Q0,.tuple (.same ZBE (.same trivial (.same trivial .nil))) .nil⟩
def C6T(u:A0a)(it:A0H)(M:Mem)(hf:Fit u)(hn:(A0V u).Nodup)(hk:it.h.kind=6)(hv:A1T it.h.at_=true)(a2:A1T it.h.to=true)(hw:0<=it.h.where_/\it.h.where_<=3):A0c (WC gl) 160 [.agg u.row,.agg it.row] M (λv M'=>v=.tuple [.agg (A8E u it.h).1.1.row,I (A8E u it.h).1.2,I (A8E u it.h).2]/\M'=M):=by
 refine A0c.dataX ?_
 obtain⟨b,hb⟩:=ex (M.length)
 obtain⟨M1,f⟩:=ex (M++[A0m.cells 28 [I 0,I 0,I 0]])
 have h1:M1[b]?=some (A0m.cells 28 [I 0,I 0,I 0]):=by rw[f,hb];simp
 have o:Grow M M1:=ZBT
 have w:(decide (0<=it.h.where_)&&decide (it.h.where_<=3))=true:=by simp[hw.1,hw.2]
 have a:=B2d gl u it.h.at_ M1 hf hn hv
 have d:=λM=>B2d gl u it.h.to M hf hn a2
 have hd:A8E u it.h=if(A2c u it.h.at_).2=0 then(if(A2c u it.h.to).2=0 then(if(A8v u (A2c u it.h.at_).1 (A2c u it.h.to).1 it.h.where_).2=0 then A8v u (A2c u it.h.at_).1 (A2c u it.h.to).1 it.h.where_ else((idZ,0),(A8v u (A2c u it.h.at_).1 (A2c u it.h.to).1 it.h.where_).2))else((idZ,0),(A2c u it.h.to).2))else((idZ,0),(A2c u it.h.at_).2):=rfl
 have a7:=λh=>A7l (u:=u) (p:=it.h.at_) hn hv h
 have a6:=λh=>A7l (u:=u) (p:=it.h.to) hn a2 h
 rw[hd]
 clear hd
 have c:=λx t yx yt M=>D6y gl u yx yt x t it.h.where_ M hf hn
 generalize A2c u it.h.at_=O at*
 generalize A2c u it.h.to=O2 at*
 obtain⟨x,e⟩:=O
 obtain⟨t,e2⟩:=O2
 simp only at a7 a6 a d|-
 have a0:x.row=[I x.act,I x.item,I x.n]:=rfl
 have a4:t.row=[I t.act,I t.item,I t.n]:=rfl
 obtain⟨M2,g⟩:=ex (M1++[A0m.cells 28 [I x.act,I x.item,I x.n]])
 obtain⟨q,hq⟩:=ex (M1.length)
 have af:M2[q]?=some (A0m.cells 28 [I x.act,I x.item,I x.n]):=by rw[g,hq];simp
 have l:Grow M1 M2:=ZBU
 have h2:=l.get h1 Q1
 have a9:b<M2.length:=(Z0a.1 h2).1
 rw[it.row_eq,A1W.row]
 rw[a0]at a
 rw[a4]at d
 by_cases he:e=0
 case neg=>rw[Z0d he];rw[u.row_eq]at a|-;refine A0r hB func160 ?_;simp -dsimp -implicitDefEqProofs[A0j,hk];rw[<-f,<-hb];refine A0g func233 (A8f gl it.h.where_ M1) ?_;simp -dsimp -implicitDefEqProofs[w];refine A0g func10 a ?_;simp -dsimp -implicitDefEqProofs[A0j,A7Y g,he,A6t,A0f h2,A0o,A0n,A0u a9,A0h];exact⟨A0w (o.trans l) Q0,.tuple (.same ZAY (.same trivial (.same trivial .nil))) .nil⟩
 rw[Z0c he]
 obtain⟨M3,i⟩:=ex (M2++[A0m.cells 28 [I t.act,I t.item,I t.n]])
 obtain⟨s,hs⟩:=ex (M2.length)
 have a8:M3[s]?=some (A0m.cells 28 [I t.act,I t.item,I t.n]):=by rw[i,hs];simp
 have j:Grow M2 M3:=by rw[i];exact A0d.app none _ _
 have h3:=j.get h2 Q1
 have ae:=j.get af Q1
 have ad:b<M3.length:=(Z0a.1 h3).1
 by_cases he2:e2=0
 case neg=>rw[Z0d he2];rw[u.row_eq]at a d|-;refine A0r hB func160 ?_;simp -dsimp -implicitDefEqProofs[A0j,hk];rw[<-f,<-hb];refine A0g func233 (A8f gl it.h.where_ M1) ?_;simp -dsimp -implicitDefEqProofs[w];refine A0g func10 a ?_;simp -dsimp -implicitDefEqProofs[A0j,A7Y g,he];refine A0g func10 (d M2) ?_;simp -dsimp -implicitDefEqProofs[A0j,A7Y i,he2,A6t,A0f h3,A0o,A0n,A0u ad,A0h];exact⟨A0w ((o.trans l).trans j) Q0,.tuple (.same ZAY (.same trivial (.same trivial .nil))) .nil⟩
 rw[Z0c he2]
 obtain⟨yx,ab,_,_⟩:=a7 he
 obtain⟨yt,ac,_,_⟩:=a6 he2
 have c:=c x t yx yt M3 ab ac hw
 generalize A8v u x t it.h.where_=r at*
 obtain⟨⟨ri,rn⟩,re⟩:=r
 simp only at c|-
 obtain⟨M4,m⟩:=ex (M3++[A0m.cells 278 (A2v (ri,rn))])
 obtain⟨z,hz⟩:=ex (M3.length)
 have a5:M4[z]?=some (A0m.cells 278 [I ri.act,I ri.item,I ri.n,I rn]):=by rw[m,hz];simp[A2v]
 have a1:Grow M3 M4:=by rw[m];exact A0d.app none _ _
 have h4:=a1.get h3 Q1
 have a3:b<M4.length:=(Z0a.1 h4).1
 have y:Grow M M4:=((o.trans l).trans j).trans a1
 have aa:∀X,(M4.set b X)[z]?=M4[z]?:=λX=>Z0f Q0
 rw[a0,a4]at c
 rw[u.row_eq]at a d c|-
 refine A0r hB func160 ?_
 simp -dsimp -implicitDefEqProofs[A0j,hk]
 rw[<-f,<-hb]
 refine A0g func233 (A8f gl it.h.where_ M1) ?_
 simp -dsimp -implicitDefEqProofs[w]
 refine A0g func10 a ?_
 simp -dsimp -implicitDefEqProofs[A0j,A7Y g,he]
 refine A0g func10 (d M2) ?_
 simp -dsimp -implicitDefEqProofs[A0j,A7Y i,he2]
 rw[<-hq,<-hs]
 simp -dsimp -implicitDefEqProofs[A0b ae,A0b a8]
 refine A0g func234 c ?_
 simp -dsimp -implicitDefEqProofs[A0j,D3C m]
 rw[<-hz]
 by_cases hre:re=0
 .rw[Z0c hre];subst hre;simp -dsimp -implicitDefEqProofs;refine A9V hB (A0B gl) (λk=>if k=1\/k=3 then 1 else if k=4 then 2 else 0) (λ_=>z) (λ_=>false) [z] (by intros;simp) (by rfl) Q2 ?_;simp -dsimp -implicitDefEqProofs[A0b a5,A1e,A5t,aa,A0f h4,A0o,A0n,A0u a3,A0h];exact⟨A0w y Q0,.tuple (.same ZAY (.same trivial (.same trivial .nil))) .nil⟩
 .rw[Z0d hre];simp -dsimp -implicitDefEqProofs[hre,A6t,A0f h4,A0o,A0n,A0u a3,A0h];exact⟨A0w y Q0,.tuple (.same ZAY (.same trivial (.same trivial .nil))) .nil⟩
end
def C5g{x:IdD}{y:A0a}:∀{ks:List A0a},A6R x ks=some y->∃i,∃hi:i<ks.length,(∀k∈ks.take i,A0N x k=none)/\A0N x ks[i]=some y
 |[],h=>by simp[A6R]at h
 |k::ks,h=>by
  rw[A6R]at h;cases hk:A0N x k with
  |some v=>rw[hk]at h;simp only[Z0b]at h;subst h;exact⟨0,Q1,Q1,by simpa using hk⟩
  |none=>
   rw[hk]at h;obtain⟨i,hi,h1,h2⟩:=C5g h;refine⟨i+1,ZAB,?_,ZAU⟩;intro q hq;rw[Z1h]at hq;rcases Z0p.1 hq with rfl|hq
   .exact hk
   .exact h1 q hq
structure D8h (x:IdD) (f:A0a->A0a) (u y:A0a) (i:Nat):Prop where
 ne:u.id≠x
 lt:i<u.kids.length
 none:∀k∈u.kids.take i,A0N x k=none
 find:A0N x u.kids[i]=some y
 eq:A1A x f u=B2n u (u.kids.set i (A1A x f u.kids[i]))
 route:A1h x u=u::A1h x u.kids[i]
def C1N{x:IdD}:∀{ks:List A0a} {i:Nat} (hi:i<ks.length),(∀k∈ks.take i,A0N x k=none)->(A0N x ks[i]).isSome=true->A3w x ks=A1h x ks[i]
 |[],i,hi,_,_=>by simp at hi
 |k::ks,i,hi,hn,hs=>by
  cases i with
  |zero=>
   rw[A3w];simp only[Z2O]at hs|-;cases hr:A1h x k with
   |nil=>rw[A3N,hr]at hs;simp at hs
   |cons r rs=>rfl
  |succ i=>have h0:A0N x k=none:=hn k Q1;(have hr:A1h x k=[]:=by rw[A3N,List.getLast?_eq_none_iff]at h0;exact h0);rw[A3w,hr];simp only[Z1P]at hs|-;exact C1N ZAS (λq hq=>hn q (by simp[Z1h,hq])) hs
def A2W{x:IdD}(f:A0a->A0a){u y:A0a}(h:A0N x u=some y):(u.id=x/\y=u/\A1A x f u=f u/\A1h x u=[u])\/∃i,D8h x f u y i:=by
 obtain⟨id,k,l,hd,w,ks⟩:=u;rw[A0N]at h;by_cases he:id=x
 .rw[Z0c he]at h;simp only[Z0b]at h;exact .inl ⟨he,h.symm,by rw[A1A,Z0c he],by rw[A1h,Z0c he]⟩
 .rw[Z0d he]at h;obtain⟨i,hi,h1,h2⟩:=C5g h;have hs:(A0N x ks[i]).isSome=true:=by rw[h2];rfl
  refine .inr ⟨i,he,hi,h1,h2,?_,?_⟩
  .rw[A1A,Z0d he,B5h hi h1 hs];rfl
  .rw[A1h,Z0d he,C1N hi h1 hs];show _=A0a.mk id k l hd w ks::A1h x ks[i];cases hr:A1h x ks[i]with
   |nil=>rw[A3N,hr]at hs;simp at hs
   |cons r rs=>rfl
def A5a{u:A0a}{i:Nat}(h:i<u.kids.length):SizeOf.sizeOf u.kids[i]<SizeOf.sizeOf u:=A0a.kid_lt (Z0s h)
def A6F:∀a b:List A0a,A2Y (a++b)=A2Y a++A2Y b
 |[],b=>by simp[A2Y]
 |k::a,b=>by rw[Z0Q,A2Y,A2Y,A6F a b,Z0F]
def A4Q(u:A0a):A0V u=u.id::A2Y u.kids:=by obtain⟨a,b,c,d,e,f⟩:=u;rw[A0V];rfl
def A7c{α:Type}{l:List α}{i:Nat}(h:i<l.length)(z:α):l=l.take i++l[i]::l.drop (i+1)/\l.set i z=l.take i++z::l.drop (i+1):=by refine⟨by rw[<-Z0m h,Z1j],?_⟩;rw[Z2r,Z0c h]
def A9B{x:IdD}(f:A0a->A0a):∀(u y:A0a),A0N x u=some y->∃A B,A0V u=A++A0V y++B/\A0V (A1A x f u)=A++A0V (f y)++B:=by
 intro u y h;rcases A2W f h with⟨_,rfl,e,_⟩|⟨i,s⟩
 .exact⟨[],[],Q1,by simp[e]⟩
 .have hi:=s.lt;have hlt:=A5a hi;obtain⟨A,B,h1,h2⟩:=A9B f u.kids[i] y s.find;obtain⟨e1,e2⟩:=A7c s.lt (A1A x f u.kids[i]);refine⟨u.id::(A2Y (u.kids.take i)++A),B++A2Y (u.kids.drop (i+1)),?_,?_⟩
  .rw[A4Q]
   conv=>lhs;rw[e1]
   rw[A6F,A2Y,h1];simp
  .rw[s.eq,A4Q];show u.id::A2Y (u.kids.set i _)=_;rw[e2,A6F,A2Y,h2];simp
termination_by u=>SizeOf.sizeOf u
def C9t{x:IdD}(f:A0a->A0a){u y:A0a}(h:A0N x u=some y)(hk:kl (f y)=kl y):kl (A1A x f u)=kl u:=by
 rcases A2W f h with⟨_,rfl,e,_⟩|⟨i,s⟩
 .rw[e,hk]
 .rw[s.eq];rfl
def D6X{x:IdD}(f:A0a->A0a){u y:A0a}(h:A0N x u=some y)(hk:(f y).id=y.id):(A1A x f u).id=u.id:=by
 rcases A2W f h with⟨_,rfl,e,_⟩|⟨i,s⟩
 .rw[e,hk]
 .rw[s.eq];rfl
def C7n{ks:List A0a}{i:Nat}(h:i<ks.length){z:A0a}(hz:kl z=kl ks[i]):(ks.set i z).map kl=ks.map kl:=by
 rw[List.map_set,hz];apply Z4y Q1;intro n h1 h2;rw[List.getElem_set];split
 .rename_i e;subst e;simp
 .rfl
def C7r{u:A0a}{i:Nat}(h:i<u.kids.length){z:A0a}(hr:A1u u=true)(hz:A1u z=true)(hk:kl z=kl u.kids[i]):A1u (B2n u (u.kids.set i z))=true:=by
 obtain⟨h1,h2,h3⟩:=(A2k _).1 hr;refine(A2k _).2 ⟨B0h h1 (by rw[Z1Q];simp only[A2R,Z0h,Z0n]at h1;exact h1.1.1.1.2),?_,?_⟩
 .intro q hq;have hq:q∈u.kids.set i z:=hq;rcases Z2x hq with hq|rfl
  .exact h2 q hq
  .refine⟨?_,hz⟩;have:=(h2 _ (Z0s h)).1;rw[show q.kind=u.kids[i].kind from congrArg Prod.fst hk];exact this
 .show((u.kids.set i z).map kl).Nodup;rw[C7n h hk];exact h3
def B7b{x:IdD}(f:A0a->A0a):∀(u y:A0a),A0N x u=some y->A1u u=true->A1u (f y)=true->kl (f y)=kl y->A1u (A1A x f u)=true:=by
 intro u y h hr hy hk;rcases A2W f h with⟨_,rfl,e,_⟩|⟨i,s⟩
 .rw[e];exact hy
 .have hi:=s.lt;have hlt:=A5a hi;rw[s.eq];refine C7r s.lt hr ?_ (C9t f s.find hk);exact B7b f _ y s.find (B1V hr _ (Z0s s.lt)) hy hk
termination_by u=>SizeOf.sizeOf u
def A3u{x:IdD}:∀(u y:A0a),A0N x u=some y->A1u u=true->A1u y=true:=by
 intro u y h hr;rcases A2W (λu=>u) h with⟨_,rfl,e,_⟩|⟨i,s⟩
 .exact hr
 .have hi:=s.lt;have hlt:=A5a hi;exact A3u _ y s.find (B1V hr _ (Z0s s.lt))
termination_by u=>SizeOf.sizeOf u
def B2m{u:A0a}{ks:List A0a}(h:u.good)(hl:ks.length<=maxLen)(hk:∀k∈ks,k.good):(B2n u ks).good:=by obtain⟨g1,g2,g3,g4,g5,g6,g7,g8,g9⟩:=(A0a.good_iff _).1 h;exact(A0a.good_iff _).2 ⟨g1,g2,g3,g4,g5,g6,g7,hl,hk⟩
def C1r{x:IdD}(f:A0a->A0a):∀(u y:A0a),A0N x u=some y->u.good->(f y).good->(A1A x f u).good:=by
 intro u y h hg hy;rcases A2W f h with⟨_,rfl,e,_⟩|⟨i,s⟩
 .rw[e];exact hy
 .have hi:=s.lt;have hlt:=A5a hi;obtain⟨_,_,_,_,_,_,_,g8,g9⟩:=(A0a.good_iff _).1 hg;rw[s.eq];refine B2m hg (by rw[Z1Q];exact g8) λk hk=>?_;rcases Z2x hk with hk|rfl
  .exact g9 k hk
  .exact C1r f _ y s.find (g9 _ (Z0s s.lt)) hy
termination_by u=>SizeOf.sizeOf u
def A6g{x:IdD}:∀(u y:A0a),A0N x u=some y->u.good->y.good:=by
 intro u y h hg;rcases A2W (λu=>u) h with⟨_,rfl,e,_⟩|⟨i,s⟩
 .exact hg
 .have hi:=s.lt;have hlt:=A5a hi;obtain⟨_,_,_,_,_,_,_,g8,g9⟩:=(A0a.good_iff _).1 hg;exact A6g _ y s.find (g9 _ (Z0s s.lt))
termination_by u=>SizeOf.sizeOf u
def A4A:∀a b:List A0a,A1P (a++b)=max (A1P a) (A1P b)
 |[],b=>by simp[A1P]
 |k::a,b=>by rw[Z0Q,A1P,A1P,A4A a b];omega
def A3M(u:A0a):A1m u=A1P u.kids:=by obtain⟨a,b,c,d,e,f⟩:=u;rw[A1m];rfl
def A6d{x:IdD}(f:A0a->A0a):∀(u y:A0a),A0N x u=some y->1<=(A1h x u).length/\(A1h x u).length-1+A1m y<=A1m u/\A1m (A1A x f u)<=max (A1m u) ((A1h x u).length-1+A1m (f y)):=by
 intro u y h;rcases A2W f h with⟨_,rfl,e,r⟩|⟨i,s⟩
 .rw[e,r];simp;omega
 .have hi:=s.lt;have hlt:=A5a hi;obtain⟨h0,h1,h2⟩:=A6d f u.kids[i] y s.find;obtain⟨e1,e2⟩:=A7c s.lt (A1A x f u.kids[i]);have hu:A1m u=max (A1P (u.kids.take i)) (max (1+A1m u.kids[i]) (A1P (u.kids.drop (i+1)))):=by
   rw[A3M]
   conv=>lhs;rw[e1]
   rw[A4A,A1P]
  have hw:A1m (A1A x f u)=max (A1P (u.kids.take i)) (max (1+A1m (A1A x f u.kids[i])) (A1P (u.kids.drop (i+1)))):=by rw[s.eq,A3M];show A1P (u.kids.set i _)=_;rw[e2,A4A,A1P]
  rw[s.route,Z0r,hu,hw];omega
termination_by u=>SizeOf.sizeOf u
def B9g{s:ByteArray}(h:A1z s=true):s.size<=7:=by simp only[A1z,Z0h,Z0n,Z2C]at h;have:=h.1.1.1.2;have:=h.1.2;omega
def B9v:∀u:A0a,A1u u=true->u.lims:=by
 intro u hr;obtain⟨h1,h2,h3⟩:=(A2k _).1 hr;have hk:∀k∈u.kids,k.lims:=λk hk=>by have:=A0a.kid_lt hk;exact B9v k (h2 k hk).2
 obtain⟨id,k,l,h,w,ks⟩:=u;rw[A0a.lims];refine⟨?_,A4l.2 hk⟩;simp only[A2R,Z0h]at h1;obtain⟨⟨⟨⟨c1,c2⟩,c3⟩,c4⟩,c5⟩:=h1;have c2:ks.length<=64:=Z1C c2;have c3:A3o h=true:=c3;have c4:A3o w=true:=c4;have c5:(if k=0 then decide (l.size=0)&&decide (h.length=0)&&decide (w.length=0)else A1z l)=true:=c5;have r1:=(A5K c3).1;have r2:=(A5K c4).1;refine⟨?_,?_,?_,?_⟩
 .show h.length<=_;omega
 .show w.length<=_;omega
 .show ks.length<=_;omega
 .show l.size<=1000;by_cases hk0:k=0
  .rw[Z0c hk0]at c5;simp only[Z0h,Z0n]at c5;omega
  .rw[Z0d hk0]at c5;have:=B9g c5;omega
termination_by u=>SizeOf.sizeOf u
def B5u:∀ks:List A0a,A2Y ks=(ks.map A0V).flatten
 |[]=>by simp[A2Y]
 |k::ks=>by rw[A2Y,B5u ks];simp
def B3y{u:A0a}(hn:(A0V u).Nodup){i j:Nat}(hi:i<u.kids.length)(hj:j<u.kids.length){a:IdD}(h1:a∈A0V u.kids[i])(h2:a∈A0V u.kids[j]):i=j:=by
 rw[A4Q,Z1B,B5u]at hn;have hp:=(List.pairwise_flatten.1 hn.2).2;rw[Z1G]at hp;rcases Nat.lt_trichotomy i j with h|h|h
 .exact absurd rfl (hp i j ZAS ZAP h a ZBF a ZAU)
 .exact h
 .exact absurd rfl (hp j i ZAP ZAS h a ZAU a ZBF)
def C1A{u:A0a}(hn:(A0V u).Nodup){k:A0a}(hk:k∈u.kids):(A0V k).Nodup:=B9q hn k (A7B u u (A4G u) k hk)
def A7p{u v:A0a}(h:v∈A2j u):v.id∈A0V u:=by rw[<-A5D];exact Z0C.2 ⟨v,h,rfl⟩
def D6T{u:A0a}{i:Nat}(hi:i<u.kids.length){a:IdD}(h:a∈A0V u.kids[i]):a∈A2Y u.kids:=by rw[B5u];exact Z3K.2 ⟨_,Z0C.2 ⟨_,Z0s hi,rfl⟩,h⟩
def C0Y{u:A0a}(hn:(A0V u).Nodup){i:Nat}(hi:i<u.kids.length):u.id∉A0V u.kids[i]:=λh=>by rw[A4Q,Z1B]at hn;exact hn.1 (D6T hi h)
def C0O{α:Type}(f:α->Bool):∀(l:List α) (k i:Nat),A2l f l k=((k+i:Nat):Int)->∀h:i<l.length,f l[i]=true
 |[],k,i,h,hi=>by simp at hi
 |a::l,k,i,h,hi=>by
  rw[A2l]at h;split at h
  .rename_i ha;have:i=0:=Q0;subst this;exact ha
  .rename_i ha;cases i with
   |zero=>exfalso;rcases idxL_dec f l (k+1)with e|e<;>omega
   |succ i=>simp only[Z1P];exact C0O f l (k+1) i (by rw[h];omega) ZAS
where
 idxL_dec (f:α->Bool):∀(l:List α) (k:Nat),A2l f l k=-1\/(k:Int)<=A2l f l k
  |[],k=>.inl (by rw[A2l])
  |a::l,k=>by
   rw[A2l];split
   .exact .inr (Int.le_refl _)
   .rcases idxL_dec f l (k+1)with e|e
    .exact .inl e
    .exact .inr Q0
def B3Q{x:IdD}{u p y:A0a}{i:Nat}(hn:(A0V u).Nodup)(hp:A5G x u p i)(h:A0N x u=some y):p.kids[i]'hp.lt=y:=by obtain⟨h1,q,h2,h3⟩:=B2f x u p hp.par;have hq:A0N q.id u=some q:=A8U hn (A7B u p h1 q h2);rw[h3,h]at hq;simp only[Z0b]at hq;subst hq;obtain⟨j,hj,e⟩:=Z3Z h2;have hs:=C0O _ p.kids 0 i (by rw[hp.idx,Z0P]) hp.lt;obtain⟨w,hw⟩:=Z3s.1 hs;obtain⟨a,b⟩:=A2U hw;have q1:=A7p b;rw[a]at q1;have q2:=A7p (A4G y);rw[h3,<-e]at q2;have:i=j:=B3y (B9q hn p h1) hp.lt hj q1 q2;subst this;exact e
def C0Z(u:A0a):A0N u.id u=some u:=by obtain⟨a,b,c,d,e,f⟩:=u;rw[A0N,Z0c (show a=(A0a.mk a b c d e f).id from rfl)]
def C0u(f:A0a->A0a)(u:A0a):A1A u.id f u=f u:=by obtain⟨a,b,c,d,e,g⟩:=u;rw[A1A,Z0c (show a=(A0a.mk a b c d e g).id from rfl)]
def B7f{x:IdD}{u y:A0a}(h:A0N x u=some y):A1h x u≠[]:=λe=>by rw[A3N,e]at h;simp at h
def D3u{x:IdD}{u y:A0a}{i:Nat}{f:A0a->A0a}(s:D8h x f u y i)(a:(u.kids[i]'s.lt).id≠x):A7R x u=A7R x (u.kids[i]'s.lt):=by
 have hr:=s.route;rcases A2W (λu=>u) s.find with⟨h,_⟩|⟨j,t⟩
 .exact absurd h a
 .have hR:=B7f t.find;unfold A7R;rw[hr,t.route];obtain⟨r,rs,e⟩:=Z3l hR;rw[e];simp[List.dropLast,List.getLast?_cons]
def C3s{x:IdD}{u y:A0a}(hn:(A0V u).Nodup)(h:A0N x u=some y)(a:u.id≠x):∃p i,A5G x u p i:=by
 rcases A9L x hn with e|h'
 .exfalso;rcases A2W (λu=>u) h with⟨e1,_⟩|⟨i,s⟩
  .exact a e1
  .have hR:=B7f s.find;obtain⟨r,rs,er⟩:=Z3l hR;unfold A7R at e;rw[s.route,er]at e;simp[List.dropLast,List.getLast?_cons]at e
 .exact h'
def C4Y{x:IdD}(f:A0a->A0a):∀(u y:A0a),(A0V u).Nodup->A0N x u=some y->u.id≠x->∀p i,A5G x u p i->A1A x f u=A1A p.id (λp=>B2n p (p.kids.set i (f y))) u:=by
 intro u y hn h k p i hp;rcases A2W f h with⟨e,_⟩|⟨j,s⟩
 .exact absurd e k
 .have hj:=s.lt;have hlt:=A5a hj;by_cases hk:u.kids[j].id=x
  .have hy:u.kids[j]=y:=by have h1:=s.find;have h2:=C0Z u.kids[j];rw[hk]at h2;rw[h1]at h2;simpa using h2.symm
   (have o:A7R x u=some u:=by rw[<-hk];exact C6Z hn (A4G u) (Z0s hj));have b:=hp.par
   rw[o]at b;simp only[Z0b]at b;subst b;have e1:=B3Q hn hp h;have q1:=A7p (A4G u.kids[j]);rw[hk]at q1;have q2:=q1;rw[hy,<-e1]at q2;have n:i=j:=B3y hn hp.lt hj q2 q1;subst n;rw[C0u,s.eq];congr 2;have:=C0u f u.kids[i];rw[hk]at this;rw[this,hy]
  .have hd:=D3u s hk;have d:=C1A hn (Z0s hj);(have c:A7R x u.kids[j]=some p:=by rw[<-hd];exact hp.par);have hm:=(B2f x _ p c).1;have g:A5G x u.kids[j] p i:=⟨c,hp.idx,hp.lt,A8U d hm⟩;have ih:=C4Y f u.kids[j] y d s.find hk p i g;rcases A2W (λp=>B2n p (p.kids.set i (f y))) hp.find with⟨e,e2,_⟩|⟨m,t⟩
   .exfalso;exact C0Y hn hj (by rw[e];exact A7p hm)
   .have l:m=j:=B3y hn t.lt hj (a:=p.id) (A7p (A2U t.find).2) (A7p hm);subst l;rw[s.eq,t.eq,ih]
termination_by u=>SizeOf.sizeOf u
def C0s{x:IdD}(f:A0a->A0a):∀(u y:A0a),A0N x u=some y->(f y).id=x->A0N x (A1A x f u)=some (f y):=by
 intro u y h g;rcases A2W f h with⟨_,rfl,e,_⟩|⟨i,s⟩
 .rw[e,<-g,C0Z]
 .have hi:=s.lt;have hlt:=A5a hi;have ih:=C0s f _ y s.find g;obtain⟨e1,e2⟩:=A7c hi (A1A x f u.kids[i]);rw[s.eq];obtain⟨a,b,c,d,e,ks⟩:=u;have j:a≠x:=s.ne;show A0N x (.mk a b c d e (ks.set i _))=_;rw[A0N,Z0d j];have hl:i<(ks.set i (A1A x f ks[i])).length:=by rw[Z1Q];exact hi
  refine B9n hl (λk hk=>s.none k ?_) ?_
  .rw[Z3Y (Z0j _)]at hk;exact hk
  .have:(ks.set i (A1A x f ks[i]))[i]=A1A x f ks[i]:=List.getElem_set_self hl;exact(congrArg (A0N x) this).trans ih
termination_by u=>SizeOf.sizeOf u
structure A2m (u:A0a):Prop where
 kind:u.kind=0
 id:u.id=idZ
 right:A1u u=true
 depth:A1m u<=8
 count:A0y u<=1024
 ids:(A0V u).Nodup
 good:u.good
def A2m.fit{u:A0a}(h:A2m u):Fit u:=⟨h.good,B9v u h.right,Z0J h.count Q0⟩
def A6k:A2m A2x:=by refine⟨rfl,rfl,by rfl,ZAR,ZAR,ZAR,?_⟩;refine(A0a.good_iff _).2 ⟨⟨?_,?_,?_⟩,?_,?_,?_,?_,?_,?_,?_,?_⟩<;>simp[A2x,inI,maxLen,A0a.kind,A0a.kids,A0a.head,A0a.words,A0a.label,A0a.id,ByteArray.size]
def B9a{p k:Int}(h:A4p p k=true):k≠0:=by rintro rfl;simp only[A4p,Z0h,Z0n]at h;obtain⟨⟨h1,h2⟩,h3⟩:=h;have:p=0\/p=1\/p=2\/p=3\/p=4\/p=5\/p=6\/p=7:=Q0;rcases this with rfl|rfl|rfl|rfl|rfl|rfl|rfl|rfl<;>revert h3<;>decide
def C7V{x:IdD}(f:A0a->A0a){u y:A0a}(h:A0N x u=some y):A0y (A1A x f u)+A0y y=A0y u+A0y (f y):=by obtain⟨A,B,h1,h2⟩:=A9B f u y h;have e1:=congrArg List.length h1;have e2:=congrArg List.length h2;simp only[Z0k,A3P]at e1 e2;omega
section
variable {u p y:A0a} {t x:IdD}
def B0u{f:A0a->A0a}(hs:A2m u)(h:A0N t u=some p)(b:(f p).id=p.id)(a:kl (f p)=kl p)(hr:A1u (f p)=true)(hg:(f p).good) (hn:(A0V (A1A t f u)).Nodup)(hc:A0y (f p)+A0y u<=1024+A0y p)(hd:(A1h t u).length-1+A1m (f p)<=8):A2m (A1A t f u):=by
 have hk:=C9t f h a
 refine⟨?_,?_,B7b f u p h hs.right hr a,?_,?_,hn,C1r f u p h hs.good hg⟩
 .rw[<-hs.kind];exact congrArg Prod.fst hk
 .rw[D6X f h b];exact hs.id
 .have:=(A6d f u p h).2.2;have:=hs.depth;omega
 .have:=C7V f h;omega
def B8F{f:A0a->A0a}(hs:A2m u)(h:A0N x u=some y)(a:(f y).id=y.id)(hk:(f y).kids=y.kids)(b:kl (f y)=kl y)(hr:A1u (f y)=true)(hg:(f y).good):A2m (A1A x f u):=by
 have e:A0V (f y)=A0V y:=by rw[A4Q,A4Q,a,hk]
 have ec:A0y (f y)=A0y y:=by rw[<-A3P,<-A3P,e]
 have ed:A1m (f y)=A1m y:=by rw[A3M,A3M,hk]
 refine B0u hs h a b hr hg ?_ ?_ ?_
 .obtain⟨A,B,h1,h2⟩:=A9B f u y h;rw[h2,e,<-h1];exact hs.ids
 .have:=hs.count;omega
 .have:=(A6d f u y h).2.1;have:=hs.depth;omega
def D0e(i:Nat)(p:A0a)(h:i<p.kids.length):A0V p=p.id::A2Y (p.kids.take i)++A0V p.kids[i]++A2Y (p.kids.drop (i+1))/\A0V (B0V i p)=p.id::A2Y (p.kids.take i)++A2Y (p.kids.drop (i+1)):=by
 constructor
 .rw[A4Q]
  conv=>lhs;rw[(A7c h p).1]
  rw[A6F,A2Y];simp
 .rw[A4Q];show p.id::A2Y (p.kids.eraseIdx i)=_;rw[Z2y,A6F];simp
def D1a(i:Nat)(p:A0a):A1m (B0V i p)<=A1m p:=by
 rw[A3M,A3M];show A1P (p.kids.eraseIdx i)<=_;rw[Z2y,A4A];by_cases h:i<p.kids.length
 .conv=>rhs;rw[(A7c h p).1]
  rw[A4A,A1P];omega
 .rw[Z0e Q0,Z1u Q0];simp[A1P]
def B5o(h:A2R u=true):u.kids.length<=64:=by simp only[A2R,Z0h,Z0n]at h;exact h.1.1.1.2
def A9Z{i:Nat}(hs:A2m u)(hp:A5G x u p i)(hy:A0N x u=some y):A2m (A1Z x u)/\(∃A B,A0V u=A++A0V y++B/\A0V (A1Z x u)=A++B)/\A0N p.id (A1Z x u)=some (B0V i p):=by
 have hw:A1Z x u=A1A p.id (B0V i) u:=by unfold A1Z;rw[hp.parI]
 have hlt:=hp.lt;have c:=B3Q hs.ids hp hy;rw[hw];have e:=A3u u p hp.find hs.right;have d:=A6g u p hp.find hs.good;obtain⟨s1,s2⟩:=D0e i p hp.lt;rw[c]at s1;obtain⟨A,B,h1,h2⟩:=A9B (B0V i) u p hp.find;have a:(p.kids.eraseIdx i).Sublist p.kids:=Z4M _ _;obtain⟨r1,r2,r3⟩:=(A2k p).1 e;obtain⟨_,_,_,_,_,_,_,g8,g9⟩:=(A0a.good_iff _).1 d;have hl:(p.kids.eraseIdx i).length<=p.kids.length:=a.length_le;have e1:A0V u=(A++(p.id::A2Y (p.kids.take i)))++A0V y++(A2Y (p.kids.drop (i+1))++B):=by rw[h1,s1];simp
 have e2:A0V (A1A p.id (B0V i) u)=(A++(p.id::A2Y (p.kids.take i)))++(A2Y (p.kids.drop (i+1))++B):=by rw[h2,s2];simp
 have b:=hs.ids;rw[e1]at b;refine⟨B0u hs hp.find rfl rfl ?_ (B2m d (Z0J hl g8) λk hk=>g9 k (a.subset hk)) ?_ ?_ ?_,⟨_,_,e1,e2⟩,C0s _ u p hp.find rfl⟩
 .refine(A2k _).2 ⟨B0h r1 (Z0J hl (B5o r1)),λq hq=>r2 q (a.subset hq),?_⟩;exact r3.sublist (a.map kl)
 .rw[e2];refine b.sublist ?_;exact(List.sublist_append_left _ _).append (Z4n _)
 .have:=congrArg List.length s1;have:=congrArg List.length s2;have:=hs.count;simp only[Z0k,Z0r,A3P]at*;omega
 .have:=(A6d (B0V i) u p hp.find).2.1;have:=D1a i p;have:=hs.depth;omega
def D7A(n:Nat)(z p:A0a):(A0V (A9t n z p)).Perm (A0V p++A0V z):=by
 rw[A4Q,A4Q];show(p.id::A2Y (p.kids.take n++z::p.kids.drop n)).Perm _
 conv=>rhs;rw[<-Z1j n p.kids]
 rw[A6F,A6F,A2Y];simp only[Z0Q,Z0F];refine List.Perm.cons _ (Z3f _ ?_);exact Z3R
def B8A{z:A0a}(h:A4f p z=0):A4p p.kind z.kind=true/\∀k∈p.kids,kl k≠kl z:=by
 unfold A4f at h;split at h
 .exact absurd h ZAR
 .rename_i h1;split at h
  .exact absurd h ZAR
  .rename_i h2;refine⟨ZBF,λk hk e=>h2 (Z3g.2 ⟨k,hk,?_⟩)⟩;simp only[kl,Z0i]at e;simp[kl2,e.1,e.2]
def C0W{n:Nat}{z:A0a}(hs:A2m u)(h:A0N t u=some p)(hz:A1u z=true)(f:z.good)(ht:A4f p z=0)(o:p.kids.length<64)(j:(A1h t u).length+A1m z<=8) (hc:A0y u+A0y z<=1024)(hn:(A0V u++A0V z).Nodup):A2m (A1A t (A9t n z) u):=by
 obtain⟨t1,t2⟩:=B8A ht
 have d:=A3u u p h hs.right
 have c:=A6g u p h hs.good
 obtain⟨r1,r2,r3⟩:=(A2k p).1 d
 obtain⟨_,_,_,_,_,_,_,g8,g9⟩:=(A0a.good_iff _).1 c
 have a:(p.kids.take n++z::p.kids.drop n).Perm (z::p.kids):=by
  conv=>rhs;rw[<-Z1j n p.kids]
  exact List.perm_middle
 have hl:=a.length_eq
 rw[Z0r]at hl
 have hm:maxLen=9223372036854775807:=rfl
 obtain⟨A,B,h1,h2⟩:=A9B (A9t n z) u p h
 have b:=D7A n z p
 have i:=b.length_eq
 simp only[Z0k,A3P]at i
 refine B0u hs h rfl rfl ?_ (B2m c Q0 λk hk=>?_) ?_ Q0 ?_
 .refine(A2k _).2 ⟨B0h r1 Q0,λq hq=>?_,?_⟩
  .rcases Z0p.1 (a.mem_iff.1 hq)with rfl|hq
   .exact⟨t1,hz⟩
   .exact r2 q hq
  .refine((a.map kl).nodup_iff).2 ?_;rw[Z0x,Z1B];refine⟨λhm=>?_,r3⟩;obtain⟨k,hk,e⟩:=Z0C.1 hm;exact t2 k hk e
 .rcases Z0p.1 (a.mem_iff.1 hk)with rfl|hk
  .exact f
  .exact g9 k hk
 .have g:(A++A0V (A9t n z p)++B).Perm (A++A0V p++B++A0V z):=by refine((b.append_left A).append_right B).trans ?_;simp only[Z0F];refine Z3f _ (Z3f _ ?_);exact Z3R
  rw[h2];refine g.nodup_iff.2 ?_;rw[<-h1];exact hn
 .have l:=A6d (A9t n z) u p h;have:=hs.depth;have m:A1m (A9t n z p)<=max (A1m p) (1+A1m z):=by
   rw[A3M,A3M p];show A1P (p.kids.take n++z::p.kids.drop n)<=_
   conv=>rhs;rw[<-Z1j n p.kids]
   rw[A4A,A4A,A1P];omega
  omega
def C7l{lab:ByteArray}(h:A1u y=true)(hk:y.kind≠0)(hl:A1z lab=true):A1u (A6p lab y)=true:=by obtain⟨r1,r2,r3⟩:=(A2k y).1 h;refine(A2k _).2 ⟨?_,r2,r3⟩;obtain⟨a,k,l,hd,w,k0⟩:=y;have hk:k≠0:=hk;simp only[A2R,Z0h,Z0n]at r1|-;refine⟨r1.1,?_⟩;show(if k=0 then _ else A1z lab)=true;rw[Z0d hk];exact hl
def D1c{lab:ByteArray}(h:y.good)(hl:lab.size<=maxLen):(A6p lab y).good:=by obtain⟨g1,g2,g3,g4,g5,g6,g7,g8,g9⟩:=(A0a.good_iff _).1 h;exact(A0a.good_iff _).2 ⟨g1,g2,hl,g4,g5,g6,g7,g8,g9⟩
def D0o{i:Nat}{lab:ByteArray}(hs:A2m u)(hp:A5G x u p i)(hy:A0N x u=some y)(l:u.id≠x)(hl:A1z lab=true)(ht:A4f p (A6p lab y)≠10):A2m (A1A x (A6p lab) u):=by
 rw[C4Y (A6p lab) u y hs.ids hy l p i hp];have hlt:=hp.lt;have b:=B3Q hs.ids hp hy;have j:=A3u u p hp.find hs.right;have d:=A6g u p hp.find hs.good;obtain⟨r1,r2,r3⟩:=(A2k p).1 j;obtain⟨_,_,_,_,_,_,_,g8,g9⟩:=(A0a.good_iff _).1 d;have g:y∈p.kids:=by rw[<-b];exact Z0s hlt
 obtain⟨n1,n2⟩:=r2 y g;have o:A4f p (A6p lab y)=0:=by
  unfold A4f at ht|-;rw[Z0d (by rw[show(A6p lab y).kind=y.kind from rfl,n1];simp)]at ht|-;split at ht
  .exact absurd rfl ht
  .rename_i h;rw[Z0d h]
 obtain⟨t1,t2⟩:=B8A o;obtain⟨e1,e2⟩:=A7c hlt (A6p lab y);rw[b]at e1;have f:A0V (A6p lab y)=A0V y:=by rw[A4Q,A4Q];rfl
 have a:A0V (B2n p (p.kids.set i (A6p lab y)))=A0V p:=by
  rw[A4Q,A4Q];show p.id::A2Y (p.kids.set i (A6p lab y))=_;rw[e2]
  conv=>rhs;rw[e1]
  rw[A6F,A6F,A2Y,A2Y,f]
 have m:A1m (B2n p (p.kids.set i (A6p lab y)))=A1m p:=by
  rw[A3M,A3M];show A1P (p.kids.set i (A6p lab y))=_;rw[e2]
  conv=>rhs;rw[e1]
  rw[A4A,A4A,A1P,A1P,A3M (A6p lab y),A3M y];rfl
 have hc:A0y (B2n p (p.kids.set i (A6p lab y)))=A0y p:=by rw[<-A3P,<-A3P,a]
 have r:=B9g hl;have hm:maxLen=9223372036854775807:=rfl;refine B0u hs hp.find rfl rfl ?_ (B2m d (by rw[Z1Q];exact g8) λk hk=>?_) ?_ ?_ ?_
 .refine(A2k _).2 ⟨B0h r1 (by rw[Z1Q];exact B5o r1),λq hq=>?_,?_⟩
  .rcases Z2x hq with hq|rfl
   .exact r2 q hq
   .exact⟨t1,C7l n2 (B9a n1) hl⟩
  .show((p.kids.set i (A6p lab y)).map kl).Nodup;(have n:((p.kids.set i (A6p lab y)).map kl).Perm (kl (A6p lab y)::(p.kids.take i++p.kids.drop (i+1)).map kl):=by rw[e2];simp only[Z1f,Z0x];exact List.perm_middle);(have c:(p.kids.take i++p.kids.drop (i+1)).Sublist p.kids:=by rw[<-Z2y];exact Z4M _ _);refine n.nodup_iff.2 (Z1B.2 ⟨λhm=>?_,r3.sublist (c.map kl)⟩);obtain⟨k,hk,e⟩:=Z0C.1 hm;exact t2 k (c.subset hk) e
 .rcases Z2x hk with hk|rfl
  .exact g9 k hk
  .exact D1c (g9 y g) Q0
 .obtain⟨A,B,h1,h2⟩:=A9B (λp=>B2n p (p.kids.set i (A6p lab y))) u p hp.find;rw[h2,a,<-h1];exact hs.ids
 .show A0y (B2n p (p.kids.set i (A6p lab y)))+_<=_;rw[hc];have:=hs.count;omega
 .show _+A1m (B2n p (p.kids.set i (A6p lab y)))<=_;rw[m];have:=(A6d (B0V i) u p hp.find).2.1;have:=hs.depth;omega
end
def B8y{u y:A0a}{t:IdD}{w:Int}(hn:(A0V u).Nodup)(ht:A0N t u=some y)(h:(A2s u t w).2=0):∃p,A0N (A2s u t w).1.1 u=some p/\(A2s u t w).1.2<=p.kids.length:=by
 have hb:∀k≤1,(A2H u t k).2=0->∃p,A0N (A2H u t k).1.1 u=some p/\(A2H u t k).1.2<=p.kids.length:=λk hk h=>by
  rcases A9L t hn with e|⟨p,i,e⟩
  .rw[A2H,e]at h;simp at h
  .have h2:=e.lt;refine⟨p,?_,?_⟩
   .simp only[A2H,e.par];exact e.find
   .simp only[A2H,e.par,D0F,e.idx,Z3E];omega
 unfold A2s at h|-;split at h
 .rename_i h0;rw[Z0c h0];exact⟨y,ht,Q1⟩
 rename_i h0;rw[Z0d h0];split at h
 .rename_i h1;rw[Z0c h1];exact⟨y,ht,by simp[A5W,ht]⟩
 rename_i h1;rw[Z0d h1];split at h
 .rename_i h2;rw[Z0c h2];exact hb 1 Q0 h
 .rename_i h2;rw[Z0d h2];exact hb 0 Q0 h
def B5M{u:A0a}{p:List A1o}{w:Int}(hn:(A0V u).Nodup)(hv:A1T p=true)(h:(A5r u p w).2=0):∃y,A0N (A5r u p w).1.1 u=some y/\(A5r u p w).1.2<=y.kids.length:=by
 have a:A5r u p w=if(A2c u p).2=0 then(if(A2s u (A2c u p).1 w).2=0 then A2s u (A2c u p).1 w else((idZ,0),(A2s u (A2c u p).1 w).2))else((idZ,0),(A2c u p).2):=rfl;by_cases h1:(A2c u p).2=0
 .rw[Z0c h1]at a;by_cases h2:(A2s u (A2c u p).1 w).2=0
  .rw[Z0c h2]at a;rw[a];obtain⟨y,hy,_,_⟩:=A7l hn hv h1;exact B8y hn hy h2
  .rw[Z0d h2]at a;rw[a]at h;exact absurd h h2
 .rw[Z0d h1]at a;rw[a]at h;exact absurd h h1
def B0o{M1:Mem}{x:IdD}:A0k (some 3) (M1++[A0m.cells 28 [I 0,I 0,I 0],A0m.cells 3 [I 0]]) (.ptr M1.length 0) (.agg [I x.act,I x.item,I x.n])=some (M1++[A0m.cells 28 [I x.act,I x.item,I x.n],A0m.cells 3 [I 0]]):=by
 have:(M1++[A0m.cells 28 [I 0,I 0,I 0],A0m.cells 3 [I 0]])[M1.length]?=some (A0m.cells 28 [I 0,I 0,I 0]):=ZBG
 rw[A0f this];simp[A0o,A0n,A0e]
def B0i{M1 M2:Mem}{x:IdD}{n:Nat}(h:M2=M1++[A0m.cells 28 [I x.act,I x.item,I x.n],A0m.cells 3 [I n]]):A0k (some 1) (M1++[A0m.cells 28 [I x.act,I x.item,I x.n],A0m.cells 3 [I 0]]) (.ptr (M1.length+1) 0) (I n)=some M2:=by
 have:(M1++[A0m.cells 28 [I x.act,I x.item,I x.n],A0m.cells 3 [I 0]])[M1.length+1]?=some (A0m.cells 3 [I 0]):=by simp[Z0Z]
 rw[A0f this];simp[A0e,h,List.set_append,AV.storable,AV.cells]
section
variable (gl:Nat->AV)
def C5K(u x:A0a)(t:IdD)(M:Mem)(hf:Fit u)(e:Fit x):A0c (WC gl) 163 [.agg u.row,.agg t.row,.agg x.row] M (λv M'=>v=B (B1T u t x)/\M'=M):=by
 have b:=λM=>C1O gl u t M hf;have k:=A5T t u;have o:=hf.2.2;have g:=λM=>B8f gl x M e.1 e.2.2;have m:=B9B x;have l:=e.2.2;have i:t.row=[I t.act,I t.item,I t.n]:=rfl;have c:(A1h t u).dropLast.reverse.map A0a.id=B0F t u:=rfl;have p:(B0F t u).length<=3000:=by rw[<-c];simp;omega
 rw[c]at b;have j:B1T u t x=decide (8<(B0F t u).length+1+A1m x):=rfl;rw[j];generalize B0F t u=a at*;have d:∀M,A0c (WC gl) 240 [.agg x.row] M (λv M'=>v=I (A1m x)/\M'=M):=λM=>(g M).mono λv M' h=>⟨by obtain⟨⟨y,h1,h2⟩,_⟩:=h;rw[h1,h2],h.2⟩;have w1:IntKind.i64.wrap ((a.length:Int)+1)=(a.length:Int)+1:=ZBN
 have w2:IntKind.i64.wrap ((a.length:Int)+1+A1m x)=(a.length:Int)+1+A1m x:=ZBN
 rw[i]at b|-;rw[x.row_eq]at d|-;rw[u.row_eq]at b|-;refine A0r hB func163 ?_;simp -dsimp -implicitDefEqProofs;refine A0X hB (A0B gl) (λ_=>0) (λ_=>0) (by rfl) Q2 ?_;simp -dsimp -implicitDefEqProofs;refine A2y func239 b ?_;simp -dsimp -implicitDefEqProofs[w1];refine A2y func240 d ?_;by_cases hc:8<a.length+1+A1m x
 .have f:(8:Int)<(a.length:Int)+1+A1m x:=Q0;simp -dsimp -implicitDefEqProofs[w2,hc,f]
 .have f:¬(8:Int)<(a.length:Int)+1+A1m x:=Q0;simp -dsimp -implicitDefEqProofs[w2,hc,f]
def B8g(u:A0a)(M:Mem)(hg:u.good)(hc:A0y u<=3000):A0c (WC gl) 165 [.agg u.row] M (λv M'=>v=.list 3 (A7x (A0V u)) .no/\M'=M):=A0c.still (enc:=IdD.row) (λ_=>rfl) C7m (D4i gl u M hg hc)
set_option maxHeartbeats 2000000 in
def C6z(b7:gl 2=A1t)(u y:A0a)(d:EnD)(M:Mem)(hf:Fit u)(hn:(A0V u).Nodup)(hk:d.it.h.kind=0)(hv:A1T d.it.h.at_=true)(hw:0<=d.it.h.where_/\d.it.h.where_<=3)
 (bd:Fit d.it.h.unit)(b6:wcU d.it.h.unit<=1000000000)(hx:Fit (A3j d.act d.item d.it.h.unit 0 0)):
 A0c (WC gl) 114 [.agg u.row,.agg y.row,.agg d.row] M (λv M'=>v=.tuple [.agg (A7V u d).1.row,I (A7V u d).2]/\M'=M):=by
 refine A0c.dataX ?_
 obtain⟨b,hb⟩:=ex (M.length)
 obtain⟨M1,a4⟩:=ex (M++[z8])
 have h1:M1[b]?=some z8:=by rw[a4,hb];simp
 have az:Grow M M1:=by rw[a4];exact A0d.app none _ _
 have i:=C7o gl u d.it M1 hf hn hk hv hw
 have av:=λh=>B5M (u:=u) (p:=d.it.h.at_) (w:=d.it.h.where_) hn hv h
 have a6:=λM=>D4L gl d.it.h.unit d.act d.item M bd b6
 obtain⟨x,au⟩:=ex (A3j d.act d.item d.it.h.unit 0 0)
 rw[<-au]at hx a6
 have b0:A7V u d=(let r:=A5r u d.it.h.at_ d.it.h.where_;if r.2≠0 then(u,r.2)else
  if A4f (A5W r.1.1 u) x≠0 then(u,A4f (A5W r.1.1 u) x)
  else if(decide (64<=(A5W r.1.1 u).kids.length)||B1T u r.1.1 x||decide (1024<A0y u+A0y x))=true then(u,6)
  else if(A0V x).any (λy=>(A0V u).any λz=>decide (z=y))=true then(u,5)
  else(A1A r.1.1 (A9t r.1.2 x) u,0)):=by rw[au];rfl
 rw[b0]
 clear b0
 generalize A5r u d.it.h.at_ d.it.h.where_=r at*
 obtain⟨⟨t,n⟩,e⟩:=r
 simp only at i av|-
 have ap:t.row=[I t.act,I t.item,I t.n]:=rfl
 obtain⟨M2,a1⟩:=ex (M1++[A0m.cells 28 [I t.act,I t.item,I t.n],A0m.cells 3 [I n]])
 obtain⟨p,hp⟩:=ex (M1.length)
 have ac:M2[p]?=some (A0m.cells 28 [I t.act,I t.item,I t.n]):=by rw[a1,hp];simp
 have b4:M2[p+1]?=some (A0m.cells 3 [I n]):=by rw[a1,hp];simp[Z0Z]
 have ai:Grow M1 M2:=by rw[a1];exact A0d.app none _ _
 have h2:=ai.get h1 Q1
 have b2:b<M2.length:=(Z0a.1 h2).1
 have j:=A1F b u
 rw[u.row_eq]at j
 rw[ap]at i
 have hdr:d.row=I d.act::I d.item::I d.day::d.it.row:=rfl
 rw[hdr]
 rw[d.it.row_eq,A1W.row]at i|-
 by_cases he:e=0
 case neg=>rw[Z0c he];rw[u.row_eq]at i|-;rw[y.row_eq];refine A0r hB func114 ?_;simp -dsimp -implicitDefEqProofs[A0j];rw[<-a4,<-hb];refine A0g func160 i ?_;simp -dsimp -implicitDefEqProofs[A0j,B0o,B0i a1,he,A0f h2,A0o,A0n,A0u b2,A0h];refine⟨A0w (az.trans ai) Q0,.tuple (.same ?_ (.same trivial .nil)) .nil⟩;simp only[bdd];exact j
 rw[Z0d (λh=>h he)]
 obtain⟨q,hq,b8⟩:=av he
 have b9:A5W t u=q:=by simp[A5W,hq]
 rw[b9]
 have ad:Fit q:=A7W u hf q (A2U hq).2
 have ar:=A8M ad
 have o:=B2k gl u t M2 hf
 rw[hq]at o
 obtain⟨s,hs⟩:=ex (M2.length)
 obtain⟨M3,ah⟩:=ex (M2++[A0m.cells 31 [I q.id.act,I q.id.item,I q.id.n,I q.kind,S q.label,.list 4 (A0i q.head) .no,.list 4 (A0i q.words) .no,.list 8 (A0t q.kids) .no]])
 have b5:M3[s]?=some (A0m.cells 31 [I q.id.act,I q.id.item,I q.id.n,I q.kind,S q.label,.list 4 (A0i q.head) .no,.list 4 (A0i q.words) .no,.list 8 (A0t q.kids) .no]):=by rw[ah,hs];simp
 have bb:Grow M2 M3:=by rw[ah];exact A0d.app none _ _
 obtain⟨r,hr⟩:=ex (M3.length)
 obtain⟨M4,aa⟩:=ex (M3++[A0m.cells 31 [I x.id.act,I x.id.item,I x.id.n,I x.kind,S x.label,.list 4 (A0i x.head) .no,.list 4 (A0i x.words) .no,.list 8 (A0t x.kids) .no]])
 have l:M4[r]?=some (A0m.cells 31 [I x.id.act,I x.id.item,I x.id.n,I x.kind,S x.label,.list 4 (A0i x.head) .no,.list 4 (A0i x.words) .no,.list 8 (A0t x.kids) .no]):=by rw[aa,hr];simp
 have aw:Grow M3 M4:=ZCK
 have f:=bb.trans aw
 have h4:=f.get h2 Q1
 have a5:b<M4.length:=(Z0a.1 h4).1
 have ab:=aw.get b5 Q1
 have aq:=f.get ac Q1
 have g:Grow M M4:=(az.trans ai).trans f
 have ae:=B7S gl b7 q x M4 ar
 have c:=λM=>C5K gl u x t M hf hx
 have a7:=λM=>B9G gl u M hf.1 hf.2.2
 have a9:=λM=>B9G gl x M hx.1 hx.2.2
 have bf:=hf.2.2
 have be:=hx.2.2
 obtain⟨z,hz⟩:=ex (M4.length)
 obtain⟨iu,an⟩:=ex (A0V u)
 obtain⟨ix,al⟩:=ex (A0V x)
 obtain⟨M5,aj⟩:=ex (M4++[A0m.cells 73 [.list 3 (A7x iu) .no]])
 have bc:M5[z]?=some (A0m.cells 73 [.list 3 (A7x iu) .no]):=by rw[aj,hz];simp
 have a2:Grow M4 M5:=by rw[aj];exact A0d.app none _ _
 have m:=B8g gl u M4 hf.1 hf.2.2
 have a0:=B8g gl x M5 hx.1 hx.2.2
 rw[<-an]at m|-
 rw[<-al]at a0|-
 have ao:iu.length<=3000:=by rw[an,A3P];exact hf.2.2
 have am:ix.length<=3000:=by rw[al,A3P];exact hx.2.2
 have b1:=D6Z gl (λy=>iu.any λz=>decide (z=y)) 167 [.ptr z 0] ix .no M5 am (λy _=>A0l func167 rfl rfl (C7d gl iu y z M5 ao bc))
 have p1:=(f.trans a2).get ac Q1
 have p2:=(f.trans a2).get b4 Q1
 have r1:=a2.get l Q1
 have h5:=a2.get h4 Q1
 have ax:b<M5.length:=(Z0a.1 h5).1
 have a8:Grow M M5:=g.trans a2
 have a3:=A8Q gl u t 170 [.ptr (p+1) 0,.ptr r 0] (A9t n x) M5 hf (λa ha=>by rw[hq]at ha;obtain rfl:=Z1a ha;exact E1d gl q x n b8 ar (p+1) r M5 p2 (by rw[x.row_eq];exact r1))
 generalize A1A t (A9t n x) u=R at*
 have ay:=A1F b R
 have w1:IntKind.i64.wrap ((A0y u:Int)+A0y x)=(A0y u:Int)+A0y x:=ZBN
 have ba:=x.row_eq
 have b3:=d.it.h.unit.row_eq
 rw[ap]at o c a3
 rw[A4F,q.row_eq]at o
 rw[ba]at a6 ae c a9 a0
 rw[b3]at a6
 rw[q.row_eq]at ae
 rw[R.row_eq]at a3 ay
 rw[u.row_eq]at i o c a7 m a3|-
 rw[y.row_eq]
 have af:A0k (some 1) (M4++[A0m.cells 73 [A0C]]) (.ptr M4.length 0) (.list 3 (A7x iu) .no)=some M5:=by
  have:(M4++[A0m.cells 73 [A0C]])[M4.length]?=some (A0m.cells 73 [A0C]):=ZBG
  rw[A0f this];simp[A0e,aj,AV.storable,AV.cells]
 refine A0r hB func114 ?_
 simp -dsimp -implicitDefEqProofs[A0j]
 rw[<-a4,<-hb]
 refine A0g func160 i ?_
 simp -dsimp -implicitDefEqProofs[A0j,B0o,B0i a1,he]
 rw[<-hp]
 simp -dsimp -implicitDefEqProofs[A0b ac]
 refine A0g func99 o ?_
 simp -dsimp -implicitDefEqProofs[A0j,B3z ah]
 rw[<-hs]
 refine A0g func161 (a6 M3) ?_
 simp -dsimp -implicitDefEqProofs[A0j,B3z aa]
 rw[<-hr]
 simp -dsimp -implicitDefEqProofs[A0b ab,A0b l]
 refine A0g func162 ae ?_
 by_cases ht:A4f q x=0
 case neg=>rw[Z0c ht,u.row_eq];simp -dsimp -implicitDefEqProofs[ht,A0f h4,A0o,A0n,A0u a5,A0h];refine⟨A0w g Q0,.tuple (.same ?_ (.same trivial .nil)) .nil⟩;simp only[bdd];exact j
 rw[Z0d (λh=>h ht)]
 simp -dsimp -implicitDefEqProofs[ht]
 refine A0X hB (A0B gl) (λk=>if k=1\/k=6\/k=7\/k=13 then 1 else 0) (λk=>if k=1 then s else if k=6 then p else r) (by rfl) Q2 ?_
 by_cases c1:64<=q.kids.length
 .have ag:(64:Int)<=q.kids.length:=Q0;rw[Z0c (by simp[c1]),u.row_eq];simp -dsimp -implicitDefEqProofs[A0b ab,A0b l,A0b aq,A1e,A5t,ag];simp -dsimp -implicitDefEqProofs[A0f h4,A0o,A0n,A0u a5,A0h];refine⟨A0w g Q0,.tuple (.same ?_ (.same trivial .nil)) .nil⟩;simp only[bdd];exact j
 have ag:¬(64:Int)<=q.kids.length:=Q0
 simp -dsimp -implicitDefEqProofs[A0b ab,A0b l,A0b aq,A1e,A5t,ag]
 refine A2y func163 c ?_
 cases c2:B1T u t x
 case true=>rw[Z0c Q1,u.row_eq];simp -dsimp -implicitDefEqProofs[A0f h4,A0o,A0n,A0u a5,A0h];refine⟨A0w g Q0,.tuple (.same ?_ (.same trivial .nil)) .nil⟩;simp only[bdd];exact j
 simp -dsimp -implicitDefEqProofs
 refine A2y func164 a7 ?_
 simp -dsimp -implicitDefEqProofs[A0b l,A1e,A5t]
 refine A2y func164 a9 ?_
 by_cases c3:1024<A0y u+A0y x
 .have ak:(1024:Int)<(A0y u:Int)+A0y x:=Q0;rw[Z0c (by simp[c3]),u.row_eq];simp -dsimp -implicitDefEqProofs[w1,ak];simp -dsimp -implicitDefEqProofs[A0f h4,A0o,A0n,A0u a5,A0h];refine⟨A0w g Q0,.tuple (.same ?_ (.same trivial .nil)) .nil⟩;simp only[bdd];exact j
 have ak:¬(1024:Int)<(A0y u:Int)+A0y x:=Q0
 rw[Z0d (by simp only[Z1V,Z0n,Z4F];exact⟨⟨c1,Q1⟩,c3⟩)]
 simp -dsimp -implicitDefEqProofs[w1,ak]
 refine A0g func165 m ?_
 simp -dsimp -implicitDefEqProofs[A0j,af]
 rw[<-hz]
 simp -dsimp -implicitDefEqProofs[A0b r1]
 refine A0g func165 a0 ?_
 simp -dsimp -implicitDefEqProofs
 refine A0g func166 b1 ?_
 cases c4:ix.any λy=>iu.any λz=>decide (z=y)
 case true=>rw[Z0c rfl,u.row_eq];simp -dsimp -implicitDefEqProofs[A0f h5,A0o,A0n,A0u ax,A0h];refine⟨A0w a8 Q0,.tuple (.same ?_ (.same trivial .nil)) .nil⟩;simp only[bdd];exact j
 rw[Z0d Q1,R.row_eq]
 simp -dsimp -implicitDefEqProofs[A0b p1]
 refine A0g func169 a3 ?_
 simp -dsimp -implicitDefEqProofs[A0f h5,A0o,A0n,A0u ax,A0h]
 refine⟨A0w a8 Q0,.tuple (.same ?_ (.same trivial .nil)) .nil⟩
 simp only[bdd];exact ay
end
def B1X{u v w:A0a}(hv:v∈A2j u)(hw:w∈A2j v):w∈A2j u:=C2F (λz=>z∈A2j u) (λz hz k hk=>A7B u z hz k hk) v hv w hw
def C8R{u v:A0a}(hv:v∈A2j u){a:IdD}(ha:a∈A0V v):a∈A0V u:=by rw[<-A5D]at ha;obtain⟨w,hw,rfl⟩:=Z0C.1 ha;exact A7p (B1X hv hw)
def B1Z{u v:A0a}(h:v∈A2j u):v=u\/∃j,∃hj:j<u.kids.length,v∈A2j (u.kids[j]'hj):=by
 obtain⟨a,b,c,d,e,ks⟩:=u;rw[A2j]at h;rcases Z0p.1 h with rfl|h
 .exact .inl rfl
 .obtain⟨k,hk,hq⟩:=B9M h;obtain⟨j,hj,rfl⟩:=Z3Z hk;exact .inr ⟨j,hj,hq⟩
def B3Y{u k v:A0a}(hk:k∈u.kids)(h:v∈A2j k):v∈A2j u:=B1X (A7B u u (A4G u) k hk) h
def D2w{a:IdD}{u T:A0a}(h:A0N a u=some T):a∈A0V u:=by obtain⟨h1,h2⟩:=A2U h;rw[<-h1];exact A7p h2
def B8B{t:IdD}:∀(u T X:A0a),(A0V u).Nodup->A0N t u=some T->X∈A2j u->t∈A0V X->X∈A1h t u:=by
 intro u T X hn h hX ht;rcases A2W (λu=>u) h with⟨e,rfl,_,r⟩|⟨j,s⟩
 .rw[r];rcases B1Z hX with rfl|⟨m,hm,hq⟩
  .simp
  .exact absurd (by rw[e];exact C8R hq ht) (C0Y hn hm)
 .have hj:=s.lt;have hlt:=A5a hj;rw[s.route];rcases B1Z hX with rfl|⟨m,hm,hq⟩
  .simp
  .have:m=j:=B3y hn hm hj (C8R hq ht) (D2w s.find);subst this;exact Z1v _ (B8B _ T X (C1A hn (Z0s hj)) s.find hq ht)
termination_by u=>SizeOf.sizeOf u
def D8J{t:IdD}{u T X:A0a}(hn:(A0V u).Nodup)(h:A0N t u=some T)(hX:X∈A2j u)(ht:t∈A0V X)(b:t≠X.id):X.id∈B0F t u:=by
 have hr:=B8B u T X hn h hX ht;have hl:(A1h t u).getLast?=some T:=by rw[<-A3N];exact h
 have a:=B7f h;rw[List.getLast?_eq_some_getLast a]at hl;simp only[Z0b]at hl;rw[<-Z4d a,hl]at hr;unfold B0F;rcases Z0N.1 hr with hr|hr
 .exact Z0C.2 ⟨X,List.mem_reverse.2 hr,rfl⟩
 .have:X=T:=by simpa using hr
  subst this;exact absurd (A2U h).1.symm b
def C3F{x:IdD}(f:A0a->A0a):∀(u p:A0a),A0N x u=some p->(∀q∈A2j u,q∈A2j p\/∃q'∈A2j (A1A x f u),q'.id=q.id/\q'.kids.length=q.kids.length)/\∀q∈A2j (f p),q∈A2j (A1A x f u):=by
 intro u p h;rcases A2W f h with⟨_,rfl,e,_⟩|⟨i,s⟩
 .rw[e];exact⟨λq hq=>.inl hq,λq hq=>hq⟩
 .have hi:=s.lt;have hlt:=A5a hi;obtain⟨h1,h2⟩:=C3F f _ p s.find;rw[s.eq];obtain⟨e1,e2⟩:=A7c hi (A1A x f u.kids[i]);have a:A1A x f u.kids[i]∈(B2n u (u.kids.set i (A1A x f u.kids[i]))).kids:=by show _∈u.kids.set i _;rw[e2];simp
  constructor
  .intro q hq;rcases B1Z hq with rfl|⟨m,hm,hq⟩
   .refine .inr ⟨_,A4G _,rfl,?_⟩;show(List.set _ _ _).length=_;rw[Z1Q]
   .by_cases hmi:m=i
    .subst hmi;rcases h1 q hq with h1|⟨q',h1,h3⟩
     .exact .inl h1
     .exact .inr ⟨q',B3Y a h1,h3⟩
    .refine .inr ⟨q,B3Y ?_ hq,rfl,rfl⟩;show _∈u.kids.set i _;(have b:m<(u.kids.set i (A1A x f u.kids[i])).length:=by rw[Z1Q];exact hm);have:=Z0s b;rw[List.getElem_set_ne (λe=>hmi e.symm)]at this;exact this
  .intro q hq;exact B3Y a (h2 q hq)
termination_by u=>SizeOf.sizeOf u
def D7L{u p X:A0a}{x:IdD}{i:Nat}(hs:A2m u)(hp:A5G x u p i)(hX:A0N x u=some X){q:A0a}(hq:q∈A2j u)(g:q.id≠p.id)(j:q.id∉A0V X):∃q',A0N q.id (A1Z x u)=some q'/\q'.kids.length=q.kids.length:=by
 have hw:A1Z x u=A1A p.id (B0V i) u:=by unfold A1Z;rw[hp.parI]
 have hn:=(A9Z hs hp hX).1.ids
 have hlt:=hp.lt
 have e:=B3Q hs.ids hp hX
 obtain⟨h1,h2⟩:=C3F (B0V i) u p hp.find
 rw[<-hw]at h1 h2
 suffices∃q'∈A2j (A1Z x u),q'.id=q.id/\q'.kids.length=q.kids.length by obtain⟨q',a,b,c⟩:=this;exact⟨q',by rw[<-b];exact A8U hn a,c⟩
 rcases h1 q hq with h1|h1
 .rcases B1Z h1 with rfl|⟨m,hm,d⟩
  .exact absurd rfl g
  ·(have f:m≠i:=by rintro rfl;rw[e]at d;exact j (A7p d));refine⟨q,h2 q (B3Y ?_ d),rfl,rfl⟩;show _∈p.kids.eraseIdx i;exact List.mem_eraseIdx_iff_getElem.2 ⟨m,hm,f,rfl⟩
 .exact h1
def D2v{u T X:A0a}{t:IdD}{w:Int}(hn:(A0V u).Nodup)(ht:A0N t u=some T)(hX:X∈A2j u)(c:t≠X.id)(ha:X.id∉B0F t u)(h:(A2s u t w).2=0):(A2s u t w).1.1∉A0V X:=by
 have key:t∉A0V X:=λe=>ha (D8J hn ht hX e c);have a:∀k,(A2H u t k).2=0->(A2H u t k).1.1∉A0V X:=by
  intro k h;unfold A2H at h|-;cases hp:A7R t u with
  |none=>rw[hp]at h;exact absurd (show(9:Int)=0 from h) ZAR
  |some P=>show P.id∉A0V X;intro e;obtain⟨h1,y,h2,h3⟩:=B2f t u P hp;rw[<-A5D]at e;obtain⟨P',b,e⟩:=Z0C.1 e;have e1:=A8U hn h1;have e2:=A8U hn (B1X hX b);rw[e,e1]at e2;simp only[Z0b]at e2;subst e2;refine key ?_;rw[<-h3];exact A7p (B1X b (A7B P P (A4G P) y h2))
 unfold A2s at h|-;split at h
 .rename_i e;rw[Z0c e];exact key
 .rename_i e;rw[Z0d e];split at h
  .rename_i e;rw[Z0c e];exact key
  .rename_i e;rw[Z0d e];split at h
   .rename_i e;rw[Z0c e];exact a 1 h
   .rename_i e;rw[Z0d e];exact a 0 h
def D1J{u p X T:A0a}{x t:IdD}{i:Nat}{w:Int}(hs:A2m u)(hp:A5G x u p i)(hX:A0N x u=some X)(ht:A0N t u=some T)(h:(A8v u x t w).2=0):∃q,A0N (A8v u x t w).1.1 (A1Z x u)=some q/\(A8v u x t w).1.2<=q.kids.length:=by
 obtain⟨g,m⟩:=A2U hX
 have a:=(A9Z hs hp hX).2.2
 have hlt:=hp.lt
 have f:(B0V i p).kids.length=p.kids.length-1:=by show(p.kids.eraseIdx i).length=_;rw[List.length_eraseIdx,Z0c hlt]
 unfold A8v at h|-
 rw[hp.parI]at h|-
 split at h
 .exact absurd h ZAR
 .rename_i c1;rw[Z0d c1];simp only[Z4F,not_and]at c1;split at h
  .rename_i e;rw[Z0c e];exact⟨_,a,by rw[f];show i<=_;omega⟩
  .rename_i e;rw[Z0d e];have ha:x∉B0F t u:=c1.2.1 e;have b:(A2s u t w).2=0:=by
    simp only at h;split at h
    .rename_i c;exact c.1
    .exact h
   obtain⟨P,hP,n⟩:=B8y hs.ids ht b;have j:=D2v hs.ids ht m (by rw[g];exact e) (by rw[g];exact ha) b;obtain⟨d,k⟩:=A2U hP;simp only;by_cases hpe:(A2s u t w).1.1=p.id
   ·(have l:P=p:=by rw[hpe,hp.find]at hP;simpa using hP.symm);subst l;by_cases hlt2:i<(A2s u t w).1.2
    .rw[Z0c ⟨b,hpe,hlt2⟩];refine⟨_,by show A0N (A2s u t w).1.1 _=_;rw[hpe];exact a,?_⟩;rw[f];show(A2s u t w).1.2-1<=_;omega
    .rw[Z0d (λc=>hlt2 c.2.2)];exact⟨_,by rw[hpe];exact a,by rw[f];omega⟩
   .rw[Z0d (λc=>hpe c.2.1)];obtain⟨q',h1,h2⟩:=D7L hs hp hX k (by rw[d];exact hpe) (by rw[d];exact j);rw[d]at h1;exact⟨q',h1,Q0⟩
section
variable (gl:Nat->AV)
set_option maxHeartbeats 2000000 in
def D4T(b0:gl 2=A1t)(u x pp:A0a)(i:Nat)(d:EnD)(M:Mem)(hf:Fit u)(hn:(A0V u).Nodup)(hk:d.it.h.kind=6)(hv:A1T d.it.h.at_=true)(aw:A1T d.it.h.to=true)(hw:0<=d.it.h.where_/\d.it.h.where_<=3)
 (a4:A5G x.id u pp i)(ap:Fit pp)(b3:Fit x)(a3:Fit (A1Z x.id u))(an:(A8E u d.it.h).2=0->∃p,A0N (A8E u d.it.h).1.1 (A1Z x.id u)=some p/\(A8E u d.it.h).1.2<=p.kids.length):
 A0c (WC gl) 120 [.agg u.row,.agg x.row,.agg d.row] M (λv M'=>v=.tuple [.agg (B2B u x d.it.h).1.row,I (B2B u x d.it.h).2]/\M'=M):=by
 refine A0c.dataX ?_
 obtain⟨b,hb⟩:=ex (M.length)
 obtain⟨M1,a1⟩:=ex (M++[z8])
 have h1:M1[b]?=some z8:=by rw[a1,hb];simp
 have aq:Grow M M1:=by rw[a1];exact A0d.app none _ _
 have j:=C6T gl u d.it M1 hf hn hk hv aw hw
 have ar:B2B u x d.it.h=(let r:=A8E u d.it.h;if r.2≠0 then(u,r.2)else
  if A4f (A5W r.1.1 (A1Z x.id u)) x≠0 then(u,A4f (A5W r.1.1 (A1Z x.id u)) x)
  else if((decide (r.1.1≠pp.id)&&decide (64<=(A5W r.1.1 (A1Z x.id u)).kids.length))||B1T (A1Z x.id u) r.1.1 x)=true then(u,6)
  else(A1A r.1.1 (A9t r.1.2 x) (A1Z x.id u),0)):=by unfold B2B;rw[a4.parI]
 rw[ar]
 clear ar
 generalize A8E u d.it.h=r at*
 obtain⟨⟨t,n⟩,e⟩:=r
 simp only at j an|-
 have ah:t.row=[I t.act,I t.item,I t.n]:=rfl
 have al:x.id.row=[I x.id.act,I x.id.item,I x.id.n]:=rfl
 have am:pp.id.row=[I pp.id.act,I pp.id.item,I pp.id.n]:=rfl
 obtain⟨M2,a0⟩:=ex (M1++[A0m.cells 28 [I t.act,I t.item,I t.n],A0m.cells 3 [I n]])
 obtain⟨p,hp⟩:=ex (M1.length)
 have ak:M2[p]?=some (A0m.cells 28 [I t.act,I t.item,I t.n]):=by rw[a0,hp];simp
 have ay:M2[p+1]?=some (A0m.cells 3 [I n]):=by rw[a0,hp];simp[Z0Z]
 have ad:Grow M1 M2:=by rw[a0];exact A0d.app none _ _
 have h2:=ad.get h1 Q1
 have ax:b<M2.length:=(Z0a.1 h2).1
 have m:=A1F b u
 rw[u.row_eq]at m
 rw[ah]at j
 have hdr:d.row=I d.act::I d.item::I d.day::d.it.row:=rfl
 rw[hdr]
 rw[d.it.row_eq,A1W.row]at j|-
 by_cases he:e=0
 case neg=>rw[Z0c he];rw[u.row_eq]at j|-;rw[x.row_eq];refine A0r hB func120 ?_;simp -dsimp -implicitDefEqProofs[A0j];rw[<-a1,<-hb];refine A0g func160 j ?_;simp -dsimp -implicitDefEqProofs[A0j,B0o,B0i a0,he,A0f h2,A0o,A0n,A0u ax,A0h];refine⟨A0w (aq.trans ad) Q0,.tuple (.same ?_ (.same trivial .nil)) .nil⟩;simp only[bdd];exact m
 rw[Z0d (λh=>h he)]
 obtain⟨q,hq,b1⟩:=an he
 have z:=A9X gl u x.id M2 hf
 rw[B3N a4.par,a4.idx,al,am]at z
 obtain⟨M3,aa⟩:=ex (M2++[A0m.cells 28 [I pp.id.act,I pp.id.item,I pp.id.n]])
 obtain⟨w,ai⟩:=ex (M2.length)
 have av:M3[w]?=some (A0m.cells 28 [I pp.id.act,I pp.id.item,I pp.id.n]):=by rw[aa,ai];simp
 have ao:Grow M2 M3:=ZCK
 have a2:=B9r gl u x.id pp i M3 hf a4 ap
 generalize A1Z x.id u=R0 at*
 have b2:A5W t R0=q:=by simp[A5W,hq]
 rw[b2]
 have a7:Fit q:=A7W R0 a3 q (A2U hq).2
 have aj:=A8M a7
 obtain⟨M4,a6⟩:=ex (M3++[A0m.cells 31 [I R0.id.act,I R0.id.item,I R0.id.n,I R0.kind,S R0.label,.list 4 (A0i R0.head) .no,.list 4 (A0i R0.words) .no,.list 8 (A0t R0.kids) .no]])
 obtain⟨s,hs⟩:=ex (M3.length)
 have ag:M4[s]?=some (A0m.cells 31 [I R0.id.act,I R0.id.item,I R0.id.n,I R0.kind,S R0.label,.list 4 (A0i R0.head) .no,.list 4 (A0i R0.words) .no,.list 8 (A0t R0.kids) .no]):=by rw[a6,hs];simp
 have ab:Grow M3 M4:=by rw[a6];exact A0d.app none _ _
 have y:=B2k gl R0 t M4 a3
 rw[hq]at y
 obtain⟨M5,ae⟩:=ex (M4++[A0m.cells 31 [I q.id.act,I q.id.item,I q.id.n,I q.kind,S q.label,.list 4 (A0i q.head) .no,.list 4 (A0i q.words) .no,.list 8 (A0t q.kids) .no]])
 obtain⟨r,hr⟩:=ex (M4.length)
 have a5:M5[r]?=some (A0m.cells 31 [I q.id.act,I q.id.item,I q.id.n,I q.kind,S q.label,.list 4 (A0i q.head) .no,.list 4 (A0i q.words) .no,.list 8 (A0t q.kids) .no]):=by rw[ae,hr];simp
 have af:Grow M4 M5:=by rw[ae];exact A0d.app none _ _
 have k:=(ao.trans ab).trans af
 have p4:=(ao.trans ab).get ak Q1
 have p5:=k.get ak Q1
 have az:=k.get ay Q1
 have w5:=(ab.trans af).get av Q1
 have s5:=af.get ag Q1
 have h5:=k.get h2 Q1
 have o:b<M5.length:=(Z0a.1 h5).1
 have f:Grow M M5:=(aq.trans ad).trans k
 have a8:=B7S gl b0 q x M5 aj
 have c:=C5K gl R0 x t M5 a3 b3
 have l:=A8Q gl R0 t 181 [.ptr (p+1) 0,.cptr x.row] (A9t n x) M5 a3 (λa ha=>by rw[hq]at ha;obtain rfl:=Z1a ha;exact E1i gl q x n b1 aj (p+1) M5 az)
 generalize A1A t (A9t n x) R0=R at*
 have ac:=A1F b R
 have g:=C9A t pp.id
 rw[ah]at y c l
 rw[al]at a2
 rw[A4F,q.row_eq]at y
 rw[R.row_eq]at l ac
 rw[x.row_eq]at a8 c l
 rw[q.row_eq]at a8
 rw[R0.row_eq]at a2 y c l
 rw[u.row_eq]at j z a2|-
 rw[x.row_eq]
 refine A0r hB func120 ?_
 simp -dsimp -implicitDefEqProofs[A0j]
 rw[<-a1,<-hb]
 refine A0g func160 j ?_
 simp -dsimp -implicitDefEqProofs[A0j,B0o,B0i a0,he]
 rw[<-hp]
 refine A0g func179 z ?_
 simp -dsimp -implicitDefEqProofs[A0j,A7Y aa]
 rw[<-ai]
 refine A0g func172 a2 ?_
 simp -dsimp -implicitDefEqProofs[A0j,B3z a6]
 rw[<-hs]
 simp -dsimp -implicitDefEqProofs[A0b ag,A0b p4]
 refine A0g func99 y ?_
 simp -dsimp -implicitDefEqProofs[A0j,B3z ae]
 rw[<-hr]
 simp -dsimp -implicitDefEqProofs[A0b a5]
 refine A0g func162 a8 ?_
 by_cases ht:A4f q x=0
 case neg=>rw[Z0c ht,u.row_eq];simp -dsimp -implicitDefEqProofs[ht,A0f h5,A0o,A0n,A0u o,A0h];refine⟨A0w f Q0,.tuple (.same ?_ (.same trivial .nil)) .nil⟩;simp only[bdd];exact m
 rw[Z0d (λh=>h ht)]
 simp -dsimp -implicitDefEqProofs[ht,A0b p5,A0b w5]
 by_cases c0:t≠pp.id/\64<=q.kids.length
 .obtain⟨c0,c1⟩:=c0;have a9:(64:Int)<=q.kids.length:=Q0;rw[Z0I c0]at g;rw[Z0c (by simp[c0,c1]),u.row_eq];simp -dsimp -implicitDefEqProofs[g,A0b a5,a9,A0f h5,A0o,A0n,A0u o,A0h];refine⟨A0w f Q0,.tuple (.same ?_ (.same trivial .nil)) .nil⟩;simp only[bdd];exact m
 have au:(decide (t≠pp.id)&&decide (64<=q.kids.length))=false:=by rw[Z3D];intro h;rw[Z0h,Z0n,Z0n]at h;exact c0 h
 rw[au,Z2G]
 by_cases c2:t=pp.id
 .rw[Z0A c2]at g;simp -dsimp -implicitDefEqProofs[g,A0b s5,A0b p5];refine A0g func163 c ?_;cases c4:B1T R0 t x;case true=>rw[Z0c rfl,u.row_eq];simp -dsimp -implicitDefEqProofs[A0f h5,A0o,A0n,A0u o,A0h];refine⟨A0w f Q0,.tuple (.same ?_ (.same trivial .nil)) .nil⟩;simp only[bdd];exact m
  rw[Z0d Q1,R.row_eq];simp -dsimp -implicitDefEqProofs[A0b s5,A0b p5];refine A0g func169 l ?_;simp -dsimp -implicitDefEqProofs[A0f h5,A0o,A0n,A0u o,A0h];refine⟨A0w f Q0,.tuple (.same ?_ (.same trivial .nil)) .nil⟩;simp only[bdd];exact ac
 .rw[Z0I c2]at g;have a9:¬(64:Int)<=q.kids.length:=λh=>c0 ⟨c2,Q0⟩;simp -dsimp -implicitDefEqProofs[g,A0b a5,a9,A0b s5,A0b p5];refine A0g func163 c ?_;cases c4:B1T R0 t x;case true=>rw[Z0c rfl,u.row_eq];simp -dsimp -implicitDefEqProofs[A0f h5,A0o,A0n,A0u o,A0h];refine⟨A0w f Q0,.tuple (.same ?_ (.same trivial .nil)) .nil⟩;simp only[bdd];exact m
  rw[Z0d Q1,R.row_eq];simp -dsimp -implicitDefEqProofs[A0b s5,A0b p5];refine A0g func169 l ?_;simp -dsimp -implicitDefEqProofs[A0f h5,A0o,A0n,A0u o,A0h];refine⟨A0w f Q0,.tuple (.same ?_ (.same trivial .nil)) .nil⟩;simp only[bdd];exact ac
end
def doF(k:Int):FuncId:=(114+k).toNat
def D9F{k:Int}(h:A1a k=true):A5i doL k=some (doF k):=by simp only[A1a,Z0h,Z0n]at h;have:k=0\/k=1\/k=2\/k=3\/k=4\/k=5\/k=6:=Q0;rcases this with rfl|rfl|rfl|rfl|rfl|rfl|rfl<;>rfl
def D3V{M:Mem}{b:Nat}(h:M[b]?=some (.map doE 7)){k:Int}(hk:A1a k=true):A1Y prog 162 M (.mapr b) (I k) true=some (.tuple [fnV (doF k),B true]):=by rw[D7e h k,D9F hk,hk]
section
variable (gl:Nat->AV)
set_option maxHeartbeats 2000000 in
def D4I(az:gl 0=.cptr [fnV 356,fnV 357])(b1:gl 2=A1t)(b2:gl 8=A1E)(u:A0a)(d:EnD)(M:Mem)(hf:Fit u)(hn:(A0V u).Nodup)(hk:A1a d.kind=true)(hs:B0P d.it)
 (hD:A2E d.it=true->(A2c u d.it.h.at_).2=0->(A2c u d.it.h.at_).1≠u.id\/d.kind=0->∀x,A0N (A2c u d.it.h.at_).1 u=some x->∀M,A2Z (WC gl) (doF d.kind) [.agg u.row,.agg x.row,.agg d.row] M (λv M'=>v=.tuple [.agg (A9T u x d).1.row,I (A9T u x d).2]/\M'=M)):
 A0c (WC gl) 59 [.agg u.row,.agg d.row] M (λv M'=>v=.tuple [.agg (A2a u d).1.row,I (A2a u d).2]/\M'=M):=by
 refine A0c.dataX ?_
 obtain⟨b,hb⟩:=ex (M.length)
 obtain⟨M1,a6⟩:=ex (M++[z8])
 have h1:M1[b]?=some z8:=by rw[a6,hb];simp
 have ap:Grow M M1:=by rw[a6];exact A0d.app none _ _
 obtain⟨m,hm⟩:=ex (M1.length)
 obtain⟨M2,aa⟩:=ex (M1++[A0m.map doE 7])
 have b0:M2[m]?=some (.map doE 7):=by rw[aa,hm];simp
 have l:Grow M1 M2:=ZCK
 have h2:=l.get h1 Q1
 have ae:b<M2.length:=(Z0a.1 h2).1
 have ad:=D4V gl M1
 rw[<-aa,<-hm]at ad
 have ag:=C6v gl az b1 b2 d.it M2 hk hs
 have al:=A1F b u
 have af:A2a u d=if A2E d.it=false then(u,1)else if(A2c u d.it.h.at_).2≠0 then(u,(A2c u d.it.h.at_).2)
  else if(A2c u d.it.h.at_).1≠u.id\/d.kind=0 then A9T u (A5W (A2c u d.it.h.at_).1 u) d
  else if d.kind=6/\(A2c u d.it.h.to).2≠0 then(u,(A2c u d.it.h.to).2)else(u,9):=rfl
 rw[af]
 clear af
 have hdr:d.row=I d.act::I d.item::I d.day::d.it.row:=rfl
 have ay:=D3V b0 hk
 have c:=λhv=>B2d gl u d.it.h.at_ M2 hf hn hv
 have g:=λhv M=>B2d gl u d.it.h.to M hf hn hv
 have au:A2E d.it=true->A1T d.it.h.at_=true:=λh=>by simp only[A2E,Z0h]at h;exact h.1.1.2.1.1
 have av:A2E d.it=true->d.kind=6->A1T d.it.h.to=true:=λh a9=>by have a9:d.it.h.kind=6:=a9;simp only[A2E,Z0h]at h;have h2:=h.2;simp only[A7O,a9]at h2;simp at h2;exact h2.2
 have ah:=λhv h=>A7l (u:=u) (p:=d.it.h.at_) hn hv h
 generalize A2c u d.it.h.at_=O at*
 obtain⟨x,e⟩:=O
 have am:x.row=[I x.act,I x.item,I x.n]:=rfl
 simp only at c hD ah|-
 rw[hdr]
 rw[hdr]at hD
 rw[d.it.row_eq,A1W.row]at ag hD|-
 rw[u.row_eq]at al c g hD|-
 rw[am]at c
 have f:∀(Mx:Mem) (n:Int),Grow M Mx->b<Mx.length->Grow M (Mx.set b (.cells 31 [I u.id.act,I u.id.item,I u.id.n,I u.kind,S u.label,.list 4 (A0i u.head) .no,.list 4 (A0i u.words) .no,.list 8 (A0t u.kids) .no]))/\Still (Mx.set b (.cells 31 [I u.id.act,I u.id.item,I u.id.n,I u.kind,S u.label,.list 4 (A0i u.head) .no,.list 4 (A0i u.words) .no,.list 8 (A0t u.kids) .no])) b (bdd b) [.tuple [.agg [I u.id.act,I u.id.item,I u.id.n,I u.kind,S u.label,.list 4 (A0i u.head) .no,.list 4 (A0i u.words) .no,.list 8 (A0t u.kids) .no],I n]] [.tuple [.agg [I u.id.act,I u.id.item,I u.id.n,I u.kind,S u.label,.list 4 (A0i u.head) .no,.list 4 (A0i u.words) .no,.list 8 (A0t u.kids) .no],I n]]:=λMx n hg hl=>by refine⟨A0w hg Q0,.tuple (.same ?_ (.same trivial .nil)) .nil⟩;simp only[bdd];exact al
 refine A0r hB func59 ?_
 simp -dsimp -implicitDefEqProofs[A0j]
 rw[<-a6,<-hb]
 refine A9V hB (A0B gl) (λk=>if k=0 then 2 else if k=4 then 1 else 0) (λ_=>m) (λk=>k==4) [] (by intro i h1 h2;simp only[Z1R,ne_eq]at h1 h2;by_cases h0:i=0<;>simp[h0,h2]at h1) (by rfl) Q2 ?_
 simp -dsimp -implicitDefEqProofs
 refine A5R (A0l func97 rfl rfl ad) ?_
 simp -dsimp -implicitDefEqProofs[ay,A1e]
 refine A0g func98 ag ?_
 cases hvi:A2E d.it with
 |false=>
  rw[Z0c rfl,u.row_eq]
  simp -dsimp -implicitDefEqProofs[A0f h2,A0o,A0n,A0u ae,A0h]
  exact f M2 1 (ap.trans l) ae
 |true=>
 have a2:=au hvi
 rw[Z0d Q1]
 simp -dsimp -implicitDefEqProofs
 refine A0g func10 (c a2) ?_
 obtain⟨q,hq⟩:=ex (M2.length)
 obtain⟨M3,a7⟩:=ex (M2++[A0m.cells 28 [I x.act,I x.item,I x.n]])
 have ai:M3[q]?=some (A0m.cells 28 [I x.act,I x.item,I x.n]):=by rw[a7,hq];simp
 have an:Grow M2 M3:=by rw[a7];exact A0d.app none _ _
 have h3:=an.get h2 Q1
 have aq:b<M3.length:=(Z0a.1 h3).1
 have a1:Grow M M3:=(ap.trans l).trans an
 simp -dsimp -implicitDefEqProofs[A0j,A7Y a7]
 rw[<-hq]
 by_cases he:e=0
 case neg=>rw[Z0c he,u.row_eq];simp -dsimp -implicitDefEqProofs[he,A0f h3,A0o,A0n,A0u aq,A0h];exact f M3 e a1 aq
 simp -dsimp -implicitDefEqProofs[he,A0b ai]
 rw[Z0d (λh=>h he)]
 obtain⟨y,hy,_,b3⟩:=ah a2 he
 have aw:A5W x u=y:=by simp[A5W,hy]
 rw[aw]
 have aj:=B2k gl u x M3 hf
 rw[hy,am,A4F,y.row_eq,u.row_eq]at aj
 obtain⟨r,hr⟩:=ex (M3.length)
 obtain⟨M4,a5⟩:=ex (M3++[A0m.cells 31 [I y.id.act,I y.id.item,I y.id.n,I y.kind,S y.label,.list 4 (A0i y.head) .no,.list 4 (A0i y.words) .no,.list 8 (A0t y.kids) .no]])
 have ak:M4[r]?=some (A0m.cells 31 [I y.id.act,I y.id.item,I y.id.n,I y.kind,S y.label,.list 4 (A0i y.head) .no,.list 4 (A0i y.words) .no,.list 8 (A0t y.kids) .no]):=by rw[a5,hr];simp
 have a8:Grow M3 M4:=by rw[a5];exact A0d.app none _ _
 have h4:=a8.get h3 Q1
 have s:=a8.get ai Q1
 have o:b<M4.length:=(Z0a.1 h4).1
 have j:Grow M M4:=a1.trans a8
 have a:=C9A x u.id
 refine A0g func99 aj ?_
 simp -dsimp -implicitDefEqProofs[A0j,B3z a5]
 rw[<-hr]
 by_cases hc:x≠u.id\/d.kind=0
 .rw[Z0c hc];have a4:=hD hvi he hc y hy M4;generalize A9T u y d=R at*;have ao:=A1F b R.1;rw[y.row_eq,R.1.row_eq]at a4;rw[R.1.row_eq]at ao|-;have a3:Grow M (M4.set b (.cells 31 [I R.1.id.act,I R.1.id.item,I R.1.id.n,I R.1.kind,S R.1.label,.list 4 (A0i R.1.head) .no,.list 4 (A0i R.1.words) .no,.list 8 (A0t R.1.kids) .no]))/\Still (M4.set b (.cells 31 [I R.1.id.act,I R.1.id.item,I R.1.id.n,I R.1.kind,S R.1.label,.list 4 (A0i R.1.head) .no,.list 4 (A0i R.1.words) .no,.list 8 (A0t R.1.kids) .no])) b (bdd b) [.tuple [.agg [I R.1.id.act,I R.1.id.item,I R.1.id.n,I R.1.kind,S R.1.label,.list 4 (A0i R.1.head) .no,.list 4 (A0i R.1.words) .no,.list 8 (A0t R.1.kids) .no],I R.2]] [.tuple [.agg [I R.1.id.act,I R.1.id.item,I R.1.id.n,I R.1.kind,S R.1.label,.list 4 (A0i R.1.head) .no,.list 4 (A0i R.1.words) .no,.list 8 (A0t R.1.kids) .no],I R.2]]:=by refine⟨A0w j Q0,.tuple (.same ?_ (.same trivial .nil)) .nil⟩;simp only[bdd];exact ao
  by_cases hx:x=u.id
  .have z:d.it.h.kind=0:=hc.elim (λh=>absurd hx h) (λh=>h);have ek:=Z2u z;rw[Z0A hx]at a;simp -dsimp -implicitDefEqProofs[A0b s,a,ek,A0b ak];refine A0s a4 ?_;rintro _ _ ⟨rfl,e⟩;rw[e];simp -dsimp -implicitDefEqProofs[A0f h4,A0o,A0n,A0u o,A0h];exact a3
  .rw[Z0I hx]at a;simp -dsimp -implicitDefEqProofs[A0b s,a,A0b ak];refine A0s a4 ?_;rintro _ _ ⟨rfl,e⟩;rw[e];simp -dsimp -implicitDefEqProofs[A0f h4,A0o,A0n,A0u o,A0h];exact a3
 rw[Z0d hc]
 have hx:x=u.id:=Z3o λh=>hc (.inl h)
 have z:¬d.it.h.kind=0:=λh=>hc (.inr h)
 rw[Z0A hx]at a
 by_cases h6:d.it.h.kind=6
 case neg=>have e0:=Z3N z;have e6:=Z3N h6;rw[Z0d (λh=>h6 h.1),u.row_eq];simp -dsimp -implicitDefEqProofs[A0b s,a,e0,e6,A0f h4,A0o,A0n,A0u o,A0h];exact f M4 9 j o
 have e0:=Z3N z
 have e6:=Z2u h6
 have ac:=g (av hvi h6) M4
 generalize A2c u d.it.h.to=O2 at*
 obtain⟨t,e2⟩:=O2
 have ax:t.row=[I t.act,I t.item,I t.n]:=rfl
 simp only at ac
 rw[ax]at ac
 obtain⟨M5,ab⟩:=ex (M4++[A0m.cells 28 [I t.act,I t.item,I t.n]])
 have ar:Grow M4 M5:=by rw[ab];exact A0d.app none _ _
 have h5:=ar.get h4 Q1
 have w:b<M5.length:=(Z0a.1 h5).1
 have a0:Grow M M5:=j.trans ar
 simp -dsimp -implicitDefEqProofs[A0b s,a,e0,e6]
 refine A0g func10 ac ?_
 by_cases he2:e2=0
 .rw[Z0d (λh=>h.2 he2),u.row_eq];simp -dsimp -implicitDefEqProofs[A0j,A7Y ab,he2,A0f h5,A0o,A0n,A0u w,A0h];exact f M5 9 a0 w
 .rw[Z0c ⟨h6,he2⟩,u.row_eq];simp -dsimp -implicitDefEqProofs[A0j,A7Y ab,he2,A0f h5,A0o,A0n,A0u w,A0h];exact f M5 e2 a0 w
end
def okW(w:A0z):Prop:=A2J w.text=true/\w.good
def D2S{l:List A0z}(h1:l.length<=256)(h2:∀w∈l,okW w):A3o l=true:=by simp only[A3o,Z0h,Z0n,Z0D];exact⟨h1,λw hw=>(h2 w hw).1⟩
def D5W{l:List A0z}(h:A3o l=true)(hg:∀w∈l,w.good):∀w∈l,okW w:=λw hw=>by simp only[A3o,Z0h,Z0n,Z0D]at h;exact⟨h.2 w hw,hg w hw⟩
def D4b{s:ByteArray}(h:A2J s=true):s.size<=maxLen:=by simp only[A2J,Z0h,Z0n]at h;have hm:maxLen=9223372036854775807:=rfl;omega
def B7H{a i:Int}(ha:inI a)(hi:inI i):∀(l:List ByteArray) (n:Nat),(∀t∈l,A2J t=true)->n+l.length<=2000000000->∀w∈A2p a i n l,okW w
 |[],n,_,_,w,hw=>by simp[A2p]at hw
 |t::l,n,ht,hn,w,hw=>by
  rw[A2p]at hw;simp only[Z0r]at hn;rcases Z0p.1 hw with rfl|hw
  .have h:=ht t Q1;refine⟨h,D4b h,ha,hi,?_⟩;simp only[inI];omega
  .exact B7H ha hi l (n+1) (λq hq=>ht q ZBH) Q0 w hw
def B8n{l:List ByteArray}{n:Int}(h:A4b l n=true):l.length<=256/\(∀t∈l,A2J t=true)/\n<=l.length:=by simp only[A4b,Z0h,Z0n,Z0D]at h;exact⟨h.1.1,h.1.2,h.2⟩
def C4D{a i:Int}(ha:inI a)(hi:inI i)(c:Nat)(b:List ByteArray)(hf:b.length<=256)(hw:∀t∈b,A2J t=true):∀(ps:List Nat) (w:List A0z) (k:Nat),k+ps.length<=1000->(∀q∈w,okW q)->∀q∈B0v c b a i w ps k,okW q
 |[],w,k,_,h,q,hq=>by rw[B0v]at hq;exact h q hq
 |p::ps,w,k,hk,h,q,hq=>by
  simp only[Z0r]at hk;rw[B0v,C6d]at hq;have ih:=C4D ha hi c b hf hw ps w (k+1) Q0 h;rcases Z0N.1 hq with hq|hq
  .rcases Z0N.1 hq with hq|hq
   .exact ih q (Z1x hq)
   .refine B7H ha hi b _ hw ?_ q hq;have:k*b.length<=1000*256:=Z4L Q0 hf;omega
  .exact ih q (Z1w hq)
def B7V{a i:Int}(ha:inI a)(hi:inI i){w:List A0z}{c:Nat}{b:List ByteArray}{ps:List Nat}(hf:b.length<=256)(hw:∀t∈b,A2J t=true)(hp:ps.length<=1000)(h:∀q∈w,okW q) (he:(B2t w ps c b a i).2=0):(B2t w ps c b a i).1.length<=256/\∀q∈(B2t w ps c b a i).1,okW q:=by
 unfold B2t at he|-
 split at he
 .exact absurd he ZAR
 .rename_i hl;rw[Z0d hl];exact⟨by show(B0v c b a i w ps 0).length<=_;omega,C4D ha hi c b hf hw ps w 0 Q0 h⟩
def C4x{a i:Int}(ha:inI a)(hi:inI i){w:List A0z}{d b:List ByteArray}{c:Int}(hl:w.length<=256)(hf:b.length<=256)(hw:∀t∈b,A2J t=true)(h:∀q∈w,okW q) (he:(A4T w d b c a i).2=0):(A4T w d b c a i).1.length<=256/\∀q∈(A4T w d b c a i).1,okW q:=by
 have e:=B0C w d c
 unfold A4T at he|-
 simp only at he|-
 split at he
 .exact absurd he ZAR
 .rename_i hl;rw[Z0d hl];exact B7V ha hi hf hw Q0 h he
def C2r{a i:Int}(ha:inI a)(hi:inI i){w:List A0z}{d b:List ByteArray}{c:Int}(hl:w.length<=256)(hf:b.length<=256)(hw:∀t∈b,A2J t=true)(h:∀q∈w,okW q) (he:(A3V w d b c a i).2=0):(A3V w d b c a i).1.length<=256/\∀q∈(A3V w d b c a i).1,okW q:=by
 have f:=B0C w d c
 unfold A3V at he|-
 simp only at he|-
 split at he
 .rename_i e;rw[Z0c e];exact B7V ha hi hf hw Q1 h he
 .rename_i e;rw[Z0d e];split at he
  .exact absurd he ZAR
  .rename_i hl;rw[Z0d hl];exact B7V ha hi hf hw (by rw[Z0W];omega) h he
section
variable {u x p y:A0a}
def C7g{ws:List A0z}(h:A1u y=true)(hk:y.kind≠0)(hw:A3o ws=true):A1u (B2L ws y)=true:=by obtain⟨r1,r2,r3⟩:=(A2k y).1 h;refine(A2k _).2 ⟨?_,r2,r3⟩;obtain⟨a,k,l,hd,w,k0⟩:=y;have hk:k≠0:=hk;simp only[A2R,Z0h,Z0n]at r1|-;refine⟨⟨⟨r1.1.1.1,r1.1.1.2⟩,hw⟩,?_⟩;have c5:(if k=0 then decide (l.size=0)&&decide (hd.length=0)&&decide (w.length=0)else A1z l)=true:=r1.2;rw[Z0d hk]at c5;show(if k=0 then _ else A1z l)=true;rw[Z0d hk];exact c5
def C8j{ws:List A0z}(h:A1u y=true)(hk:y.kind≠0)(hw:A3o ws=true):A1u (C0g ws y)=true:=by obtain⟨r1,r2,r3⟩:=(A2k y).1 h;refine(A2k _).2 ⟨?_,r2,r3⟩;obtain⟨a,k,l,hd,w,k0⟩:=y;have hk:k≠0:=hk;simp only[A2R,Z0h,Z0n]at r1|-;refine⟨⟨⟨r1.1.1.1,hw⟩,r1.1.2⟩,?_⟩;have c5:(if k=0 then decide (l.size=0)&&decide (hd.length=0)&&decide (w.length=0)else A1z l)=true:=r1.2;rw[Z0d hk]at c5;show(if k=0 then _ else A1z l)=true;rw[Z0d hk];exact c5
def C8L{n:Nat}(h:n<=256):n<=maxLen:=by have hm:maxLen=9223372036854775807:=rfl;omega
def D0v{ws:List A0z}(h:y.good)(hl:ws.length<=256)(hw:∀w∈ws,w.good):(B2L ws y).good:=by obtain⟨g1,g2,g3,g4,g5,g6,g7,g8,g9⟩:=(A0a.good_iff _).1 h;exact(A0a.good_iff _).2 ⟨g1,g2,g3,g4,g5,C8L hl,hw,g8,g9⟩
def D0x{ws:List A0z}(h:y.good)(hl:ws.length<=256)(hw:∀w∈ws,w.good):(C0g ws y).good:=by obtain⟨g1,g2,g3,g4,g5,g6,g7,g8,g9⟩:=(A0a.good_iff _).1 h;exact(A0a.good_iff _).2 ⟨g1,g2,g3,C8L hl,hw,g6,g7,g8,g9⟩
def C3A{x:IdD}{i:Nat}(hs:A2m u)(hp:A5G x u p i)(hy:A0N x u=some y):y.kind≠0:=by have hlt:=hp.lt;have a:=B3Q hs.ids hp hy;have b:=A3u u p hp.find hs.right;exact B9a (((A2k p).1 b).2.1 y (by rw[<-a];exact Z0s hlt)).1
def B6l{i:Nat}{r:List A0z×Int}(hs:A2m u)(hy:A0N y.id u=some y)(hp:A5G y.id u p i)(hr:r.2=0->r.1.length<=256/\∀q∈r.1,okW q):A2m (A7h u y r).1:=by
 unfold A7h;split
 .exact hs
 .rename_i e;obtain⟨h1,h2⟩:=hr (by simpa using e);exact B8F hs hy rfl rfl rfl (C7g (A3u u y hy hs.right) (C3A hs hp hy) (D2S h1 h2)) (D0v (A6g u y hy hs.good) h1 λw hw=>(h2 w hw).2)
end
structure A6a (d:EnD):Prop where
 small:B0P d.it
 act:inI d.act
 item:inI d.item
def C6a{x:A0a}(h:B2w x=true):A1u x=true/\A0y x<=1024:=by simp only[B2w,C1e,B0z,Z0h,Z0n,B1P]at h;exact⟨h.1.1.1.1.1.1,h.1.1.1.1.2⟩
def C1y{x:IdD}{u y:A0a}(h:A0N x u=some y):(A1h x u).length=(B0F x u).length+1:=by have:=(A6d (λu=>u) u y h).1;simp only[B0F,Z0W,List.length_reverse,List.length_dropLast];omega
def B6x{d:EnD}(hd:A6a d)(hu:B2w d.it.h.unit=true):A1u (A3j d.act d.item d.it.h.unit 0 0)=true/\Fit (A3j d.act d.item d.it.h.unit 0 0)/\(A0V (A3j d.act d.item d.it.h.unit 0 0)).Nodup/\wcU d.it.h.unit<=1000000000:=by obtain⟨h1,h2⟩:=C6a hu;have hw:=C4Q _ h1;obtain⟨f1,f2⟩:=C0I hd.act hd.item d.it.h.unit 0 0 hd.small.unit.1 hd.small.unit.2.1 Q0 Q0;refine⟨B6v _ _ _ _ _ h1,⟨f1,f2,by rw[B5J];omega⟩,by rw[C0l];exact C6V _ _ _ _,Q0⟩
def C1P{u:A0a}{d:EnD}(hs:A2m u)(hd:A6a d)(hv:A1T d.it.h.at_=true)(hu:B2w d.it.h.unit=true):A2m (A7V u d).1:=by
 obtain⟨x1,x2,x3,_⟩:=B6x hd hu;have c:=λh=>B5M (u:=u) (p:=d.it.h.at_) (w:=d.it.h.where_) hs.ids hv h;unfold A7V;simp only;generalize A5r u d.it.h.at_ d.it.h.where_=r at*;generalize A3j d.act d.item d.it.h.unit 0 0=x at*;split
 .exact hs
 rename_i e0;split
 .exact hs
 rename_i e1;split
 .exact hs
 rename_i e2;split
 .exact hs
 rename_i e3;obtain⟨p,hp,g⟩:=c (by simpa using e0);have f:A5W r.1.1 u=p:=by simp[A5W,hp]
 rw[f]at e1 e2;have i:=C1y hp;simp only[Z1V,Z0n,B1T,Z4F]at e2;obtain⟨⟨e4,e5⟩,e6⟩:=e2;refine C0W hs hp x1 x2.1 (by simpa using e1) Q0 Q0 Q0 (Z2D.2 ⟨hs.ids,x3,?_⟩);intro a ha b hb e;subst e;refine e3 (Z3g.2 ⟨a,hb,Z3g.2 ⟨a,ha,Q1⟩⟩)
def C0r{u p X:A0a}{i:Nat}{h:A1W}(hs:A2m u)(hp:A5G X.id u p i)(hX:A0N X.id u=some X)(he:(A2c u h.at_).1=X.id)(a:A1T h.to=true)(h0:(A8E u h).2=0):∃q,A0N (A8E u h).1.1 (A1Z X.id u)=some q/\(A8E u h).1.2<=q.kids.length:=by
 unfold A8E at h0|-
 rw[he]at h0|-
 split at h0
 .rename_i c1;rw[Z0c c1];split at h0
  .rename_i c2;rw[Z0c c2];obtain⟨T,hT,_⟩:=A7l hs.ids a c2;have hg:=λhh=>D1J (w:=h.where_) hs hp hX hT hh;generalize A8v u X.id (A2c u h.to).1 h.where_=r at*;simp only at h0|-;split at h0
   .rename_i c3;rw[Z0c c3];exact hg c3
   .rename_i c3;exact absurd h0 c3
  .rename_i c;exact absurd h0 c
 .rename_i c;exact absurd h0 c
def C7v{u p X:A0a}{i:Nat}{h:A1W}(hs:A2m u)(hp:A5G X.id u p i)(hX:A0N X.id u=some X)(he:(A2c u h.at_).1=X.id)(b:A1T h.to=true):A2m (B2B u X h).1:=by
 have hdr:=λh0=>C0r (h:=h) hs hp hX he b h0;obtain⟨r1,⟨A,B,r2,r3⟩,r4⟩:=A9Z hs hp hX;unfold B2B;simp only;generalize A8E u h=r at*;have hlt:=hp.lt;rw[hp.parI];split
 .exact hs
 rename_i e0;split
 .exact hs
 rename_i e1;split
 .exact hs
 rename_i e2;obtain⟨q,hq,f⟩:=hdr (by simpa using e0);have a:A5W r.1.1 (A1Z X.id u)=q:=by simp[A5W,hq]
 rw[a]at e1 e2;have e:=C1y hq;simp only[Z1V,Z0h,Z0n,B1T,Z4F,not_and]at e2;have d:=A3u u X hX hs.right;have c:=A6g u X hX hs.good;have c1:=congrArg List.length r2;have c2:=congrArg List.length r3;simp only[Z0k,A3P]at c1 c2;have hc:=hs.count;refine C0W r1 hq d c (by simpa using e1) ?_ Q0 Q0 ?_
 .by_cases ht:r.1.1=p.id
  .rw[ht,r4]at hq;simp only[Z0b]at hq;subst hq;show(p.kids.eraseIdx i).length<64;rw[List.length_eraseIdx,Z0c hlt];have:=B5o ((A2k p).1 (A3u u p hp.find hs.right)).1;omega
  .have:=e2.1 ht;omega
 .rw[r3];have:(A++B++A0V X).Perm (A++A0V X++B):=by simp only[Z0F];exact Z3f _ Z3R
  refine this.nodup_iff.2 ?_;rw[<-r2];exact hs.ids
end Go.Abs
