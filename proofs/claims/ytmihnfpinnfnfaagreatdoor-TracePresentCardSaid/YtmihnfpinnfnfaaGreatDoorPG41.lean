/- The texts EhH, EhK, EiA, EhL, EhM, EhN. -/
import Derived.Test.YtmihnfpinnfnfaaGreatDoorPG32
import Derived.Test.YtmihnfpinnfnfaaGreatDoorPG30
import Derived.Test.YtmihnfpinnfnfaaGreatDoorPG39
set_option linter.all false
set_option maxRecDepth 100000
namespace Go.Abs
open Go.Proofs TryTypes Tryz
section
variable (gl:Nat->AV)
def A8j{u:A0a}(h:Fit u):u.kids.length<=3000:=by have h1:=A2t u.kids;have h2:=A5M u;have h3:=h.2.2;omega
def B3q{x:IdD}{u p:A0a}(h:A7s x u=some p):C3L x u=.tuple [.agg p.id.row,I (A3b (λk=>(A0O x k).isSome) p.kids 0),B true]:=by simp[C3L,h]
structure A5q (x:IdD) (u p:A0a) (i:Nat):Prop where
 par:A7s x u=some p
 idx:A3b (λk=>(A0O x k).isSome) p.kids 0=(i:Int)
 lt:i<p.kids.length
 find:A0O p.id u=some p
def A5q.parI{x:IdD}{u p:A0a}{i:Nat}(h:A5q x u p i):parI x u=(p.id,i):=by simp only[Go.Abs.parI,h.par,C8S,h.idx,Z3r]
def B8D(u:A0a)(x:IdD)(p:A0a)(i:Nat)(M:Mem)(hf:Fit u)(hp:A5q x u p i)(l:Fit p):A0c (WC gl) 138 [.agg u.row,.agg x.row] M (λv M'=>v=.agg (A1T x u).row/\M'=M):=by
 refine A0c.dataX ?_;have hx:x.row=[I x.act,I x.item,I x.n]:=rfl;have f:p.id.row=[I p.id.act,I p.id.item,I p.id.n]:=rfl;obtain⟨b,hb⟩:=ex (M.length);obtain⟨M1,d⟩:=ex (M++[z8]);have h1:M1[b]?=some z8:=by rw[d,hb];simp
 have o:Grow M M1:=by rw[d];exact A0d.app none _ _
 have a:=A9w gl u x M1 hf;rw[B3q hp.par,hp.idx,hx,f]at a;obtain⟨M2,c⟩:=ex (M1++[A0l.cells 23 [I p.id.act,I p.id.item,I p.id.n],A0l.cells 3 [I i]]);have hq:M2[M1.length+1]?=some (A0l.cells 3 [I i]):=by rw[c];simp[Z0Y]
 have m:M2[M1.length]?=some (A0l.cells 23 [I p.id.act,I p.id.item,I p.id.n]):=by rw[c];simp
 have g:Grow M1 M2:=by rw[c];exact A0d.app none _ _
 have hw:=A8p gl u p.id 222 [.ptr (M1.length+1) 0] (B0s i) M2 hf (λy hy=>by rw[hp.find]at hy;obtain rfl:=Z1t hy;exact E0q gl p i hp.lt (A8j l) _ M2 hq);have j:A1T x u=A1v p.id (B0s i) u:=by rw[A1T,hp.parI]
 rw[j];generalize A1v p.id (B0s i) u=R at*;rw[f]at hw;have h2:=g.get h1 Q1;have k:b<M2.length:=(Z0a.1 h2).1;rw[u.row_eq]at a hw;rw[u.row_eq,hx];rw[R.row_eq]at hw|-;have e:=A1I b R;rw[R.row_eq]at e;refine A0t hB func138 ?_;simp -dsimp -implicitDefEqProofs[A0j];rw[<-d,<-hb];refine A0h func145 a ?_;simp -dsimp -implicitDefEqProofs[A0j,A0k,A0e,A0o,A0n];rw[<-c];simp -dsimp -implicitDefEqProofs[A0b m];refine A0h func135 hw ?_;simp -dsimp -implicitDefEqProofs[A0f h2,A0o,A0n,A0r k,A0g];exact⟨A0u (o.trans g) Q0,.same (by simp only[bdd];exact e) .nil⟩
def C8c(u x p:A0a)(i:Nat)(d:EnD)(M:Mem)(hf:Fit u)(hp:A5q x.id u p i)(f:Fit p):A0c (WC gl) 89 [.agg u.row,.agg x.row,.agg d.row] M (λv M'=>v=.tuple [.agg (A1T x.id u).row,I 0]/\M'=M):=by
 refine A0c.dataX ?_;have hx:x.id.row=[I x.id.act,I x.id.item,I x.id.n]:=rfl;obtain⟨b,hb⟩:=ex (M.length);obtain⟨M1,a⟩:=ex (M++[z8]);have h1:M1[b]?=some z8:=by rw[a,hb];simp
 have g:Grow M M1:=by rw[a];exact A0d.app none _ _
 have e:b<M1.length:=(Z0a.1 h1).1;have hw:=B8D gl u x.id p i M1 hf hp f;generalize A1T x.id u=R at*;have c:=A1I b R;rw[hx]at hw;rw[u.row_eq]at hw|-;rw[R.row_eq]at hw c|-;rw[x.row_eq];refine A0t hB func89 ?_;simp -dsimp -implicitDefEqProofs[A0j];rw[<-a,<-hb];refine A0h func138 hw ?_;simp -dsimp -implicitDefEqProofs[A0f h1,A0o,A0n,A0r e,A0g];exact⟨A0u g Q0,.tuple (.same (by simp only[bdd];exact c) (.same trivial .nil)) .nil⟩
def D0U(u x:A0a)(d:EnD)(M:Mem)(hf:Fit u)(o:A0O x.id u=some x)(l:x.words.length<=900)(h3:d.it.h.old≠[])(h4:d.it.h.old.length<=1000)(h5:d.it.h.new.length<=1000)(h6:0<=d.it.h.nth):A0c (WC gl) 90 [.agg u.row,.agg x.row,.agg d.row] M (λv M'=>v=.tuple [.agg (A8J u x (A4M x.words d.it.h.old d.it.h.new d.it.h.nth d.act d.item)).1.row,I (A8J u x (A4M x.words d.it.h.old d.it.h.new d.it.h.nth d.act d.item)).2]/\M'=M):=by
 refine A0c.dataX ?_;have hx:x.id.row=[I x.id.act,I x.id.item,I x.id.n]:=rfl;obtain⟨b,hb⟩:=ex (M.length);obtain⟨M1,e⟩:=ex (M++[z8]);have h1:M1[b]?=some z8:=by rw[e,hb];simp
 have j:Grow M M1:=by rw[e];exact A0d.app none _ _
 have hr:=C5L gl x.words d.it.h.old d.it.h.new d.it.h.nth d.act d.item M1 l h3 h4 h5 h6;generalize(A4M x.words d.it.h.old d.it.h.new d.it.h.nth d.act d.item)=W at*;obtain⟨M2,c⟩:=ex (M1++[A0l.cells 27 [.list 4 (A0i W.1) .no]]);have hq:M2[M1.length]?=some (A0l.cells 27 [.list 4 (A0i W.1) .no]):=by rw[c];simp
 have f:Grow M1 M2:=by rw[c];exact A0d.app none _ _
 have h2:=f.get h1 Q1;have i:b<M2.length:=(Z0a.1 h2).1;have hw:=A8p gl u x.id 140 [.ptr M1.length 0] (B2n W.1) M2 hf (λy hy=>by rw[o]at hy;obtain rfl:=Z1t hy;exact E0j gl x W.1 _ M2 hq);have k:A8J u x W=if W.2≠0 then(u,W.2)else(A1v x.id (B2n W.1) u,0):=rfl;rw[k];generalize A1v x.id (B2n W.1) u=R at*;have g:=A1I b R;have a:=A1I b u;rw[hx]at hw;rw[R.row_eq]at hw g;rw[u.row_eq]at hw a;rw[u.row_eq,x.row_eq,EnD.row,d.it.row_eq,A1Q.row];refine A0t hB func90 ?_;simp -dsimp -implicitDefEqProofs[A0j];rw[<-e,<-hb];refine A0h func139 hr ?_;simp -dsimp -implicitDefEqProofs[A0j,A0k,A0e,A0o,A0n,AV.storable,AV.cells];rw[<-c];by_cases he:W.2=0
 .have m:¬W.2≠0:=λh=>h he;rw[Z0d m,R.row_eq];simp -dsimp -implicitDefEqProofs[he];refine A0h func135 hw ?_;simp -dsimp -implicitDefEqProofs[A0f h2,A0o,A0n,A0r i,A0g];exact⟨A0u (j.trans f) Q0,.tuple (.same (by simp only[bdd];exact g) (.same trivial .nil)) .nil⟩
 .rw[Z0c he,u.row_eq];simp -dsimp -implicitDefEqProofs[he,h2,ouC,A0o,A0n,A0r i,A0g];exact⟨A0u (j.trans f) Q0,.tuple (.same (by simp only[bdd];exact a) (.same trivial .nil)) .nil⟩
def D5O(u x:A0a)(d:EnD)(M:Mem)(hf:Fit u)(o:A0O x.id u=some x)(l:x.words.length<=900)(h3:d.it.h.new≠[])(h4:d.it.h.old.length<=1000)(h5:d.it.h.new.length<=1000)(h6:0<=d.it.h.nth)(h7:d.it.h.old=[]->d.it.h.nth=0):A0c (WC gl) 91 [.agg u.row,.agg x.row,.agg d.row] M (λv M'=>v=.tuple [.agg (A8J u x (A3K x.words d.it.h.old d.it.h.new d.it.h.nth d.act d.item)).1.row,I (A8J u x (A3K x.words d.it.h.old d.it.h.new d.it.h.nth d.act d.item)).2]/\M'=M):=by
 refine A0c.dataX ?_;have hx:x.id.row=[I x.id.act,I x.id.item,I x.id.n]:=rfl;obtain⟨b,hb⟩:=ex (M.length);obtain⟨M1,e⟩:=ex (M++[z8]);have h1:M1[b]?=some z8:=by rw[e,hb];simp
 have j:Grow M M1:=by rw[e];exact A0d.app none _ _
 have hr:=C2m gl x.words d.it.h.old d.it.h.new d.it.h.nth d.act d.item M1 l h4 h3 h5 h6 h7;generalize(A3K x.words d.it.h.old d.it.h.new d.it.h.nth d.act d.item)=W at*;obtain⟨M2,c⟩:=ex (M1++[A0l.cells 27 [.list 4 (A0i W.1) .no]]);have hq:M2[M1.length]?=some (A0l.cells 27 [.list 4 (A0i W.1) .no]):=by rw[c];simp
 have f:Grow M1 M2:=by rw[c];exact A0d.app none _ _
 have h2:=f.get h1 Q1;have i:b<M2.length:=(Z0a.1 h2).1;have hw:=A8p gl u x.id 142 [.ptr M1.length 0] (B2n W.1) M2 hf (λy hy=>by rw[o]at hy;obtain rfl:=Z1t hy;exact D9H gl x W.1 _ M2 hq);have k:A8J u x W=if W.2≠0 then(u,W.2)else(A1v x.id (B2n W.1) u,0):=rfl;rw[k];generalize A1v x.id (B2n W.1) u=R at*;have g:=A1I b R;have a:=A1I b u;rw[hx]at hw;rw[R.row_eq]at hw g;rw[u.row_eq]at hw a;rw[u.row_eq,x.row_eq,EnD.row,d.it.row_eq,A1Q.row];refine A0t hB func91 ?_;simp -dsimp -implicitDefEqProofs[A0j];rw[<-e,<-hb];refine A0h func141 hr ?_;simp -dsimp -implicitDefEqProofs[A0j,A0k,A0e,A0o,A0n,AV.storable,AV.cells];rw[<-c];by_cases he:W.2=0
 .have m:¬W.2≠0:=λh=>h he;rw[Z0d m,R.row_eq];simp -dsimp -implicitDefEqProofs[he];refine A0h func135 hw ?_;simp -dsimp -implicitDefEqProofs[A0f h2,A0o,A0n,A0r i,A0g];exact⟨A0u (j.trans f) Q0,.tuple (.same (by simp only[bdd];exact g) (.same trivial .nil)) .nil⟩
 .rw[Z0c he,u.row_eq];simp -dsimp -implicitDefEqProofs[he,h2,ouC,A0o,A0n,A0r i,A0g];exact⟨A0u (j.trans f) Q0,.tuple (.same (by simp only[bdd];exact a) (.same trivial .nil)) .nil⟩
def C5n(u x:A0a)(d:EnD)(M:Mem)(hf:Fit u)(j:A0O x.id u=some x)(h5:d.it.h.new.length<=1000):A0c (WC gl) 92 [.agg u.row,.agg x.row,.agg d.row] M (λv M'=>v=.tuple [.agg (A1v x.id (B9s (A2h d.act d.item 0 d.it.h.new)) u).row,I 0]/\M'=M):=by
 refine A0c.dataX ?_;have hx:x.id.row=[I x.id.act,I x.id.item,I x.id.n]:=rfl;obtain⟨b,hb⟩:=ex (M.length);obtain⟨M1,c⟩:=ex (M++[z8]);have h1:M1[b]?=some z8:=by rw[c,hb];simp
 have i:Grow M M1:=by rw[c];exact A0d.app none _ _
 have hr:=B2G gl d.it.h.new .no d.act d.item 0 M1 Q0 Q0;generalize A2h d.act d.item 0 d.it.h.new=W at*;obtain⟨M2,a⟩:=ex (M1++[A0l.cells 27 [.list 4 (A0i W) .no]]);have hq:M2[M1.length]?=some (A0l.cells 27 [.list 4 (A0i W) .no]):=by rw[a];simp
 have f:Grow M1 M2:=by rw[a];exact A0d.app none _ _
 have h2:=f.get h1 Q1;have g:b<M2.length:=(Z0a.1 h2).1;have hw:=A8p gl u x.id 144 [.ptr M1.length 0] (B9s W) M2 hf (λy hy=>by rw[j]at hy;obtain rfl:=Z1t hy;exact E1g gl x W _ M2 hq);generalize A1v x.id (B9s W) u=R at*;have e:=A1I b R;rw[hx]at hw;rw[R.row_eq]at hw e|-;rw[u.row_eq]at hw;rw[u.row_eq,x.row_eq,EnD.row,d.it.row_eq,A1Q.row];refine A0t hB func92 ?_;simp -dsimp -implicitDefEqProofs[A0j];rw[<-c,<-hb];refine A0h func143 hr ?_;simp -dsimp -implicitDefEqProofs[A0j,A0k,A0e,A0o,A0n,AV.storable,AV.cells];rw[<-a];refine A0h func135 hw ?_;simp -dsimp -implicitDefEqProofs[A0f h2,A0o,A0n,A0r g,A0g];exact⟨A0u (i.trans f) Q0,.tuple (.same (by simp only[bdd];exact e) (.same trivial .nil)) .nil⟩
def hRl:A2j:=⟨λd=>d !=4,λ_=>false,λ_=>false⟩
@[simp] def E2O:hRl.imm=λd=>d !=4:=(rfl)
def C6n(ad:gl 2=A1C)(u x p:A0a)(i:Nat)(d:EnD)(M:Mem)(hf:Fit u)(ab:A0O x.id u=some x)(hp:A5q x.id u p i)(af:Fit p):A0c (WC gl) 93 [.agg u.row,.agg x.row,.agg d.row] M (λv M'=>v=.tuple [.agg (A9f u x d.it.h.lab).1.row,I (A9f u x d.it.h.lab).2]/\M'=M):=by
 refine A0c.dataX ?_;have hx:x.id.row=[I x.id.act,I x.id.item,I x.id.n]:=rfl;have a2:p.id.row=[I p.id.act,I p.id.item,I p.id.n]:=rfl;obtain⟨b,hb⟩:=ex (M.length);obtain⟨M1,e⟩:=ex (M++[A0l.cells 30 [I x.id.act,I x.id.item,I x.id.n,I x.kind,S x.label,.list 4 (A0i x.head) .no,.list 4 (A0i x.words) .no,.list 8 (A0q x.kids) .no],z8]);have h0:M1[b]?=some (A0l.cells 30 [I x.id.act,I x.id.item,I x.id.n,I x.kind,S x.label,.list 4 (A0i x.head) .no,.list 4 (A0i x.words) .no,.list 8 (A0q x.kids) .no]):=by rw[e,hb];simp
 have h1:M1[b+1]?=some z8:=by rw[e,hb];simp[Z0Y]
 have aa:Grow M M1:=by rw[e];exact A0d.app none _ _
 have a:=A9w gl u x.id M1 hf;rw[B3q hp.par,hp.idx,hx,a2]at a;obtain⟨q,hq⟩:=ex (M1.length);obtain⟨M2,o⟩:=ex (M1++[A0l.cells 23 [I p.id.act,I p.id.item,I p.id.n]]);have aj:M2[q]?=some (A0l.cells 23 [I p.id.act,I p.id.item,I p.id.n]):=by rw[o,hq];simp
 have f:Grow M1 M2:=by rw[o];exact A0d.app none _ _
 have g:=B1J gl u p.id M2 hf;rw[hp.find,a2]at g;obtain⟨r,hr⟩:=ex (M2.length);obtain⟨M3,l⟩:=ex (M2++[A0l.cells 30 [I p.id.act,I p.id.item,I p.id.n,I p.kind,S p.label,.list 4 (A0i p.head) .no,.list 4 (A0i p.words) .no,.list 8 (A0q p.kids) .no]]);have a3:M3[r]?=some (A0l.cells 30 [I p.id.act,I p.id.item,I p.id.n,I p.kind,S p.label,.list 4 (A0i p.head) .no,.list 4 (A0i p.words) .no,.list 8 (A0q p.kids) .no]):=by rw[l,hr];simp
 have m:Grow M2 M3:=by rw[l];exact A0d.app none _ _
 obtain⟨y,hy⟩:=ex (A5R d.it.h.lab x);have a1:=(f.trans m).get h0 Q1;have a5:=(f.trans m).get h1 Q1;have ag:b<M3.length:=(Z0a.1 a1).1;have ai:b<r:=by have:=(Z0a.1 (f.get h0 Q1)).1;omega
 obtain⟨M4,c⟩:=ex (M3.set b (.cells 30 y.row));have w:M4[b]?=some (A0l.cells 30 [I y.id.act,I y.id.item,I y.id.n,I y.kind,S y.label,.list 4 (A0i y.head) .no,.list 4 (A0i y.words) .no,.list 8 (A0q y.kids) .no]):=by rw[c,y.row_eq];simp[ag]
 have k:M4[b+1]?=some z8:=by rw[c,Z0f Q0];exact a5
 have a6:M4[r]?=some (A0l.cells 30 [I p.id.act,I p.id.item,I p.id.n,I p.kind,S p.label,.list 4 (A0i p.head) .no,.list 4 (A0i p.words) .no,.list 8 (A0q p.kids) .no]):=by rw[c,Z0f Q0];exact a3
 have a4:b+1<M4.length:=(Z0a.1 k).1;have a0:Grow M M4:=by rw[c];exact A0u (aa.trans (f.trans m)) Q0
 have a9:y.row=[I x.id.act,I x.id.item,I x.id.n,I x.kind,S d.it.h.lab,.list 4 (A0i x.head) .no,.list 4 (A0i x.words) .no,.list 8 (A0q x.kids) .no]:=by rw[hy,A0a.row_eq];rfl
 have a8:y.id=x.id:=by rw[hy];rfl
 have a7:A0k (some 1) M3 (.ptr b 4) (S d.it.h.lab)=some M4:=by rw[A0f a1,c,a9];rfl
 have t:=B7h gl ad p y M4 (A8j af);have ah:A9f u x d.it.h.lab=if A3W p y=10 then(u,10)else(A1v x.id (A5R d.it.h.lab) u,0):=by
  have:A5B (parI x.id u).1 u=p:=by rw[hp.parI];simp[A5B,hp.find]
  rw[A9f,this,hy]
 have hw:=A8p gl u x.id 146 [.cptr d.row] (A5R d.it.h.lab) M4 hf (λz hz=>by rw[ab]at hz;obtain rfl:=Z1t hz;exact E0B gl x d M4);rw[ah];generalize A1v x.id (A5R d.it.h.lab) u=R at*;have s:=A1I b R;have j:=A1I b u;have ac:y.id.row=[I y.id.act,I y.id.item,I y.id.n]:=rfl;rw[<-a8,ac,EnD.row,d.it.row_eq,A1Q.row]at hw;rw[R.row_eq]at hw s;rw[p.row_eq,y.row_eq]at t;rw[u.row_eq]at a g hw j;rw[u.row_eq,x.row_eq,EnD.row,d.it.row_eq,A1Q.row];rw[A4z,p.row_eq]at g;refine A0t hRl func93 ?_;simp -dsimp -implicitDefEqProofs[A0j];rw[<-e,<-hb];simp -dsimp -implicitDefEqProofs[A0b h0];refine A0h func145 a ?_;simp -dsimp -implicitDefEqProofs[A0j,A0k,A0e,A0o,A0n];rw[<-o,<-hq];refine A0h func63 g ?_;have ae:A0k (some 8) (M2++[z8]) (.ptr M2.length 0) (.agg [I p.id.act,I p.id.item,I p.id.n,I p.kind,S p.label,.list 4 (A0i p.head) .no,.list 4 (A0i p.words) .no,.list 8 (A0q p.kids) .no])=some M3:=by
  have:(M2++[z8])[M2.length]?=some z8:=by simp
  rw[A0f this];simp[A0o,A0n,l,A0e]
 simp -dsimp -implicitDefEqProofs[A0j,ae];rw[<-hr];simp -dsimp -implicitDefEqProofs[a7,A0b a3,A0b a6,A0b w];refine A0h func128 t ?_;by_cases he:A3W p y=10
 .rw[Z0c he,u.row_eq];simp -dsimp -implicitDefEqProofs[he,A0f k,A0o,A0n,A0r a4,A0g];exact⟨A0u a0 Q0,.tuple (.same (by simp only[bdd];exact j) (.same trivial .nil)) .nil⟩
 .rw[Z0d he,R.row_eq];simp -dsimp -implicitDefEqProofs[he,A0b w];refine A0h func135 hw ?_;simp -dsimp -implicitDefEqProofs[A0f k,A0o,A0n,A0r a4,A0g];exact⟨A0u a0 Q0,.tuple (.same (by simp only[bdd];exact s) (.same trivial .nil)) .nil⟩
end
section
mutual
def C4P(x:IdD):∀(u r:A0a) (rs:List A0a),A1f x u=r::rs->r=u
 |.mk id k l h w ks,r,rs,hr=>by
  rw[A1f]at hr;split at hr
  .simp at hr;exact hr.1.symm
  .split at hr
   .simp at hr
   .simp at hr;exact hr.1.symm
end
def B7j(x:IdD):∀(ks:List A0a) (r:A0a) (rs:List A0a),A3g x ks=r::rs->∃k∈ks,A1f x k=r::rs
 |[],r,rs,h=>by rw[A3g]at h;simp at h
 |k::ks,r,rs,h=>by
  rw[A3g]at h;split at h
  .obtain⟨q,hq,e⟩:=B7j x ks r rs h;exact⟨q,by simp[hq],e⟩
  .rename_i r' rs' e;exact⟨k,Q1,by rw[e];exact h⟩
def B1B(x:IdD):∀(u p:A0a),A7s x u=some p->p∈A2a u/\∃y∈p.kids,y.id=x
 |.mk id k l h w ks,p,hp=>by
  unfold A7s at hp;rw[A1f]at hp;split at hp
  .simp at hp
  .rename_i hne;split at hp
   .simp at hp
   .rename_i r rs e;obtain⟨q,hq,hr⟩:=B7j x ks r rs e;have a:=C4P x q r rs hr;subst a;cases rs with
    |nil=>simp at hp;subst hp;refine⟨A4A _,r,hq,?_⟩;have:=A3z x r;rw[hr]at this;exact(A2K this).1
    |cons r2 rs=>have c:SizeOf.sizeOf r<SizeOf.sizeOf (A0a.mk id k l h w ks):=A0a.kid_lt (u:=.mk id k l h w ks) hq;(have b:A7s x r=some p:=by unfold A7s;rw[hr];simpa using hp);obtain⟨h1,h2⟩:=B1B x r p b;refine⟨?_,h2⟩;rw[A2a];have:=B3W h1 hq;exact Z1y _ this
termination_by u=>SizeOf.sizeOf u
decreasing_by exact c
def C7n{α:Type}(f:α->Bool):∀(l:List α) (i:Nat),(∃y∈l,f y=true)->∃j:Nat,A3b f l i=((i+j:Nat):Int)/\j<l.length
 |[],i,⟨y,h,_⟩=>by simp at h
 |a::l,i,⟨y,h,hy⟩=>by
  by_cases ha:f a=true
  .exact⟨0,by rw[A3b,Z0c ha];rfl,Q1⟩
  .rcases Z0r.1 h with rfl|h
   .exact absurd hy ha
   .obtain⟨j,h1,h2⟩:=C7n f l (i+1) ⟨y,h,hy⟩;refine⟨j+1,?_,by simp;omega⟩;rw[A3b,Z0d ha,h1];congr 1;omega
def B6Y:∀{L:List A0a} {v:A0a},(L.map A0a.id).Nodup->v∈L->L.find? (λw=>decide (w.id=v.id))=some v
 |[],v,_,h=>by simp at h
 |a::L,v,hn,h=>by
  rw[Z0w,Z1D]at hn;rcases Z0r.1 h with rfl|h
  .simp
  .have b:a.id≠v.id:=λe=>hn.1 (by rw[e];exact Z0H.2 ⟨v,h,rfl⟩);rw[List.find?_cons,Z0I b];exact B6Y hn.2 h
def A8u{u v:A0a}(hn:(A0T u).Nodup)(hv:v∈A2a u):A0O v.id u=some v:=by rw[A9d];exact B6Y (by rw[A5n];exact hn) hv
def D7w{u p:A0a}{x:IdD}(hn:(A0T u).Nodup)(h:A7s x u=some p):∃i,A5q x u p i:=by
 obtain⟨h1,y,h2,h3⟩:=B1B x u p h;have hy:(A0O x y).isSome=true:=by obtain⟨a,b,c,d,e,f⟩:=y;rw[A0O,Z0c (show a=x from h3)];rfl
 obtain⟨j,h4,h5⟩:=C7n (λk=>(A0O x k).isSome) p.kids 0 ⟨y,h2,hy⟩;exact⟨j,h,by rw[h4,Z0P],h5,A8u hn h1⟩
def A9n{u:A0a}(x:IdD)(hn:(A0T u).Nodup):A7s x u=none\/∃p i,A5q x u p i:=by
 cases h:A7s x u with
 |none=>exact .inl rfl
 |some p=>exact .inr ⟨p,D7w hn h⟩
def B6o{u p:A0a}{x:IdD}(hf:Fit u)(h:A7s x u=some p):Fit p:=A7v u hf p (B1B x u p h).1
def B5K{p:List A1n}(hv:A1O p=true):p.length<=9/\∀i (h:i<p.length),C1y i p[i]:=by
 simp only[A1O,Z0h,Z0m,Z0D]at hv;refine⟨hv.1,λi h=>?_⟩;have:=hv.2 i (by simp[h]);rw[Z1Q,Z0i h,Z1E]at this;simp only[B0P,Z1V,Z0h,Z0m]at this;rcases this with⟨h1,h2⟩|⟨⟨h1,h2⟩,h3⟩
 .refine .inl ⟨h1,?_⟩;simp only[B0j,Z0h,Z0m]at h2;cases hs:p[i];rw[hs]at h2;simp only at h2;rw[h2.1,h2.2];rfl
 .exact .inr ⟨h1,h2,h3⟩
section
variable (gl:Nat->AV)
def B1y(u:A0a)(p:List A1n)(M:Mem)(hf:Fit u)(hn:(A0T u).Nodup)(hv:A1O p=true):A0c (WC gl) 9 [.agg u.row,.list 2 (A0P p) .no] M (λv M'=>v=.tuple [.agg (A2c u p).1.row,I (A2c u p).2]/\M'=M):=by
 refine A0c.dataX ?_;obtain⟨hl,hs⟩:=B5K hv;have hR:(A6A u p).length<=3000:=by
  cases p with
  |nil=>simp[A6A]
  |cons s r=>exact Z0L (Sel.follow hn r _ (B4r hn s)).len hf.2.2
 have g:A2c u p=match A6A u p with|[]=>(idZ,7)|[x]=>(x.id,0)|_=>(idZ,8):=by
  rw[A2c,B2p,Z0c hv];cases A6A u p with
  |nil=>rfl
  |cons x r=>cases r<;>rfl
 obtain⟨Ma,d⟩:=ex (M++[A0l.cells 23 [I 0,I 0,I 0]]);have c:Grow M Ma:=by rw[d];exact A0d.app none _ _
 have a:Ma[M.length]?=some (A0l.cells 23 [I 0,I 0,I 0]):=by rw[d];simp
 have b:M.length<Ma.length:=(Z0a.1 a).1;have e:=C6M gl u (.list 2 (A0P p) .no) (A6A u p) Ma hR (λM=>D0n gl u p .no M hf hn hl hs);rw[g];generalize A6A u p=R at*;rw[u.row_eq]at e|-;refine A0t hB func9 ?_;simp -dsimp -implicitDefEqProofs[A0j];rw[<-d];refine A0h func18 e ?_
 match R with
 |[]=>simp -dsimp -implicitDefEqProofs[A0f a,A5X,A0o,A0n,A0r b,A0g];exact⟨A0u c (Z0j _),.same (by simp[bdd,A1l,IdD.row]) .nil⟩
 |[x]=>have f:x.id.row=[I x.id.act,I x.id.item,I x.id.n]:=rfl;simp -dsimp -implicitDefEqProofs[A0f a,f,A0o,A0n,A0r b,A0g];exact⟨A0u c (Z0j _),.same (by simp[bdd,A1l]) .nil⟩
 |x::y::r=>have h0:¬((r.length:Int)+1+1=0):=Q0;have h1:¬((r.length:Int)+1+1=1):=Q0;simp -dsimp -implicitDefEqProofs[h0,h1,A0f a,A5X,A0o,A0n,A0r b,A0g];exact⟨A0u c (Z0j _),.same (by simp[bdd,A1l,IdD.row]) .nil⟩
end
end
open Go.Proofs TryTypes
def B8Y(a i:Int)(n c:Nat):List IdD:=(List.range' n c).map λm=>⟨a,i,((m+1:Nat):Int)⟩
def C3M(a i:Int)(n c d:Nat):B8Y a i n (c+d)=B8Y a i n c++B8Y a i (n+c) d:=by unfold B8Y;rw[<-Z1c,<-List.range'_append_1]
def D1A(a i:Int)(n c:Nat):B8Y a i n (1+c)=⟨a,i,((n+1:Nat):Int)⟩::B8Y a i (n+1) c:=by rw[C3M];simp[B8Y]
mutual
def B9x(a i:Int):∀(t:A0a) (n w:Nat),A0T (A2U a i t n w)=B8Y a i n (A0x t)
 |.mk _ k l h ws ks,n,w=>by rw[A2U,A0T,B8S a i ks,A0x,D1A]
def B8S(a i:Int):∀(ks:List A0a) (n w:Nat),A2N (A2d a i ks n w)=B8Y a i n (A0H ks)
 |[],n,w=>by rw[A2d,A2N,A0H];rfl
 |k::ks,n,w=>by rw[A2d,A2N,A0H,B9x a i k,B8S a i ks,C3M]
end
mutual
def B4Z(a i:Int):∀(t:A0a) (n w:Nat),A0x (A2U a i t n w)=A0x t
 |.mk _ k l h ws ks,n,w=>by rw[A2U,A0x,B3F a i ks,A0x]
def B3F(a i:Int):∀(ks:List A0a) (n w:Nat),A0H (A2d a i ks n w)=A0H ks
 |[],n,w=>by rw[A2d]
 |k::ks,n,w=>by rw[A2d,A0H,B4Z a i k,B3F a i ks,A0H]
end
def C5y(a i:Int)(n c:Nat):(B8Y a i n c).Nodup:=by unfold B8Y List.Nodup;rw[Z3Z];refine List.Pairwise.imp ?_ (List.nodup_range' (s:=n) (n:=c) (step:=1));intro x y h e;simp only[IdD.mk.injEq,Z2B]at e;omega
def B4j{a i:Int}(ha:inI a)(hi:inI i):∀(l:List ByteArray) (n:Nat),(∀t∈l,t.size<=maxLen)->n+l.length<=2000000000->∀w∈A2h a i n l,w.good
 |[],n,_,_,w,hw=>by simp[A2h]at hw
 |t::l,n,ht,hn,w,hw=>by
  rw[A2h]at hw;simp only[Z0q]at hn;rcases Z0r.1 hw with rfl|hw
  .refine⟨ht t Q1,ha,hi,?_⟩;simp only[inI];omega
  .exact B4j ha hi l (n+1) (λq hq=>ht q (by simp[hq])) Q0 w hw
def B7q{l:List A0z}(h:∀w∈l,w.good):∀t∈A1k l,t.size<=maxLen:=by intro t ht;obtain⟨w,hw,rfl⟩:=Z0H.1 ht;exact(h w hw).1
mutual
def B9Q{a i:Int}(ha:inI a)(hi:inI i):∀(t:A0a) (n w:Nat),t.good->t.lims->n+A0x t<=1000000->w+wcU t<=1000000000->(A2U a i t n w).good/\(A2U a i t n w).lims
 |.mk id k l h ws ks,n,w,hg,hl,hn,hw=>by
  obtain⟨g1,g2,g3,g4,g5,g6,g7,g8,g9⟩:=(A0a.good_iff _).1 hg;obtain⟨⟨l1,l2,l3,l4⟩,l5⟩:=A3T _ hl;rw[A0x]at hn;rw[wcU]at hw;have g5:∀w∈h,w.good:=g5;have g7:∀w∈ws,w.good:=g7;have g9:∀k∈ks,k.good:=g9;have l3:ks.length<=3000:=l3;have l1:h.length<=100000000:=l1;have l2:ws.length<=100000000:=l2;have g8:ks.length<=maxLen:=g8;have hk:=B8e ha hi ks (n+1) (w+h.length+ws.length) g9 (A4d.1 l5) Q0 Q0;have t1:(A1k h).length=h.length:=by simp[A1k]
  have t2:(A1k ws).length=ws.length:=by simp[A1k]
  rw[A2U];have hm:∀n:Nat,n<=100000000->n<=maxLen:=λn h=>by show n<=9223372036854775807;omega
  refine⟨(A0a.good_iff _).2 ⟨⟨ha,hi,?_⟩,g2,g3,?_,?_,?_,?_,?_,λk hk'=>(hk k hk').1⟩,?_⟩
  .show inI ((n+1:Nat):Int);simp only[inI];omega
  .show(A2h _ _ _ _).length<=maxLen;rw[A6F,t1];exact hm _ l1
  .exact B4j ha hi _ _ (B7q g5) (by rw[t1];omega)
  .show(A2h _ _ _ _).length<=maxLen;rw[A6F,t2];exact hm _ l2
  .exact B4j ha hi _ _ (B7q g7) (by rw[t2];omega)
  .show(A2d _ _ _ _ _).length<=maxLen;rw[A7J];exact g8
  .rw[A0a.lims];refine⟨⟨?_,?_,?_,l4⟩,A4d.2 λk hk'=>(hk k hk').2⟩
   .show(A2h _ _ _ _).length<=_;rw[A6F,t1];exact l1
   .show(A2h _ _ _ _).length<=_;rw[A6F,t2];exact l2
   .show(A2d _ _ _ _ _).length<=_;rw[A7J];exact l3
def B8e{a i:Int}(ha:inI a)(hi:inI i):∀(ks:List A0a) (n w:Nat),(∀k∈ks,k.good)->(∀k∈ks,k.lims)->n+A0H ks<=1000000->w+wcL ks<=1000000000->∀k∈A2d a i ks n w,k.good/\k.lims
 |[],n,w,_,_,_,_,k,hk=>by rw[A2d]at hk;simp at hk
 |t::ks,n,w,hg,hl,hn,hw,k,hk=>by
  rw[A0H]at hn;rw[wcL]at hw;rw[A2d]at hk;rcases Z0r.1 hk with rfl|hk
  .exact B9Q ha hi t n w (hg t Q1) (hl t Q1) Q0 Q0
  .exact B8e ha hi ks _ _ (λq hq=>hg q (by simp[hq])) (λq hq=>hl q (by simp[hq])) Q0 Q0 k hk
end
mutual
def C3z:∀t:A0a,A1o t=true->wcU t<=512*A0x t
 |.mk id k l h ws ks,hr=>by obtain⟨_,h1,h2⟩:=A4Q (A4L hr);have h1:A3a h=true:=h1;have h2:A3a ws=true:=h2;have:=(A5t h1).1;have:=(A5t h2).1;have hk:=C0s ks (λq hq=>B1q hr q hq);rw[wcU,A0x];omega
def C0s:∀ks:List A0a,(∀k∈ks,A1o k=true)->wcL ks<=512*A0H ks
 |[],_=>by rw[wcL];omega
 |k::ks,h=>by have:=C3z k (h k Q1);have:=C0s ks λq hq=>h q (by simp[hq]);rw[wcL,A0H];omega
end
def C2r(a i:Int)(t:A0a)(n w:Nat):(A2U a i t n w).kind=t.kind/\(A2U a i t n w).label=t.label:=by obtain⟨x,k,l,h,ws,ks⟩:=t;rw[A2U];exact⟨rfl,rfl⟩
def kl(u:A0a):Int×ByteArray:=(u.kind,u.label)
def D5c(a b:A0a):A8F a b=decide (kl a=kl b):=by simp only[A8F,kl,Z0g];rw[Z4m]
def B9h(p:Int):∀(ks b:List A0a),A4g p ks b=true<->(∀k∈ks,A4h p k.kind=true/\A1o k=true)/\(∀a∈b,∀k∈ks,kl a≠kl k)/\(ks.map kl).Nodup
 |[],b=>by simp[A4g]
 |k::ks,b=>by
  rw[A4g];simp only[Z0h,Z2N,B9h p ks (b++[k]),Z0w,Z1D,Z0r,Z0T,Z0R,List.any_eq_false,D5c,Z0m,Z0H,not_exists,not_and];constructor
  .rintro⟨⟨⟨h1,h2⟩,h3⟩,h4,h5,h6⟩;refine⟨?_,?_,?_,h6⟩
   .rintro q (rfl|hq)
    .exact⟨h1,h2⟩
    .exact h4 q hq
   .rintro a ha q (rfl|hq)
    .exact h3 a ha
    .exact h5 a (.inl ha) q hq
   .intro q hq e;exact h5 k (.inr (.inl rfl)) q hq e.symm
  .rintro⟨h1,h2,h3,h4⟩;refine⟨⟨⟨(h1 k (.inl rfl)).1,(h1 k (.inl rfl)).2⟩,λa ha=>h2 a ha k (.inl rfl)⟩,λq hq=>h1 q (.inr hq),?_,h4⟩;rintro a (ha|(rfl|ha)) q hq
   .exact h2 a ha q (.inr hq)
   .exactλe=>h3 q hq e.symm
   .simp at ha
def A2f(u:A0a):A1o u=true<->A2J u=true/\(∀k∈u.kids,A4h u.kind k.kind=true/\A1o k=true)/\(u.kids.map kl).Nodup:=by obtain⟨a,k,l,h,w,ks⟩:=u;rw[A1o,Z0h,B9h];simp[A0a.kind,A0a.kids]
def A9H{u:A0a}{ks:List A0a}(h:A2J u=true)(hl:ks.length<=64):A2J (B1M u ks)=true:=by obtain⟨a,k,l,hd,w,k0⟩:=u;simp only[A2J,Z0h,Z0m]at h|-;exact⟨⟨⟨⟨h.1.1.1.1,hl⟩,h.1.1.2⟩,h.1.2⟩,h.2⟩
def C2w(a i:Int):∀(l:List A0z) (n:Nat),A3a l=true->A3a (A2h a i n (A1k l))=true:=by
 intro l n h;simp only[A3a,Z0h,Z0m,Z0D]at h|-;refine⟨by rw[A6F];simpa[A1k]using h.1,?_⟩;have:∀(q:List ByteArray) (n:Nat),(∀t∈q,A2B t=true)->∀w∈A2h a i n q,A2B w.text=true:=by
  intro q;induction q with
  |nil=>intro n _ w hw;simp[A2h]at hw
  |cons t q ih=>
   intro n ht w hw;rw[A2h]at hw;rcases Z0r.1 hw with rfl|hw
   .exact ht t Q1
   .exact ih (n+1) (λt h=>ht t (by simp[h])) w hw
 exact this _ n λt ht=>by obtain⟨w,hw,rfl⟩:=Z0H.1 ht;exact h.2 w hw
mutual
def B5J(a i:Int):∀(t:A0a) (n w:Nat),A1o t=true->A1o (A2U a i t n w)=true
 |.mk x k l h ws ks,n,w,hr=>by
  obtain⟨h1,h2,h3⟩:=(A2f _).1 hr;have h2:∀q∈ks,A4h k q.kind=true/\A1o q=true:=h2;have h3:(ks.map kl).Nodup:=h3;obtain⟨e1,e2⟩:=B3Q a i ks (n+1) (w+h.length+ws.length) (λq hq=>(h2 q hq).2);rw[A2U,A2f];refine⟨?_,λq hq=>⟨?_,e2 q hq⟩,?_⟩
  .simp only[A2J,Z0h,Z0m]at h1|-;obtain⟨⟨⟨⟨c1,c2⟩,c3⟩,c4⟩,c5⟩:=h1;refine⟨⟨⟨⟨c1,?_⟩,?_⟩,?_⟩,?_⟩
   .show(A2d _ _ _ _ _).length<=64;rw[A7J];exact c2
   .exact C2w _ _ _ _ c3
   .exact C2w _ _ _ _ c4
   ·(have m1:∀(l:List A0z) n,(A2h a i n (A1k l)).length=l.length:=λl n=>by rw[B3l];simp[A1k]);by_cases hk:k=0
    .have c5:(if k=0 then decide (l.size=0)&&decide (h.length=0)&&decide (ws.length=0)else A1u l)=true:=c5;rw[Z0c hk]at c5;show(if k=0 then decide (l.size=0)&&decide ((A2h a i w (A1k h)).length=0)&&decide ((A2h a i (w+h.length) (A1k ws)).length=0)else A1u l)=true;rw[Z0c hk,m1,m1];exact c5
    .have c5:(if k=0 then decide (l.size=0)&&decide (h.length=0)&&decide (ws.length=0)else A1u l)=true:=c5;rw[Z0d hk]at c5;show(if k=0 then _ else A1u l)=true;rw[Z0d hk];exact c5
  .have:kl q∈(A2d a i ks (n+1) (w+h.length+ws.length)).map kl:=Z0H.2 ⟨q,hq,rfl⟩;rw[e1]at this;obtain⟨z,hz,e⟩:=Z0H.1 this;have:=(h2 z hz).1;rw[show q.kind=z.kind from(congrArg Prod.fst e).symm];exact this
  .show((A2d a i ks (n+1) (w+h.length+ws.length)).map kl).Nodup;rw[e1];exact h3
def B3Q(a i:Int):∀(ks:List A0a) (n w:Nat),(∀k∈ks,A1o k=true)->(A2d a i ks n w).map kl=ks.map kl/\∀k∈A2d a i ks n w,A1o k=true
 |[],n,w,_=>by rw[A2d];simp
 |t::ks,n,w,hr=>by
  obtain⟨e1,e2⟩:=B3Q a i ks (n+A0x t) (w+wcU t) (λq hq=>hr q (by simp[hq]));rw[A2d];refine⟨?_,?_⟩
  .rw[Z0w,Z0w,e1];congr 1;exact Prod.ext (C2r a i t n w).1 (C2r a i t n w).2
  .intro k hk;rcases Z0r.1 hk with rfl|hk
   .exact B5J a i t n w (hr t Q1)
   .exact e2 k hk
end
def A2n(r:IdD×Nat):List AV:=[I r.1.act,I r.1.item,I r.1.n,I r.2]
@[simp] def D9p(r:IdD×Nat):(A2n r).length=4:=(rfl)
def B0Z:List AV:=[fnV 279,fnV 282,fnV 284,fnV 286]
def C3p:A0A prog 303 [(0,fnV 279),(1,fnV 282),(2,fnV 284),(3,fnV 286)]=none:=Q2
def D7M:B0J prog 303 [(0,fnV 279),(1,fnV 282),(2,fnV 284),(3,fnV 286)]=some (.agg B0Z):=Q2
section
variable (gl:Nat->AV)
def D2Q(k:Int)(M:Mem):A0c (WC gl) 281 [I k] M (λv M'=>v=I 0/\M'=M):=by refine A0t hB func281 ?_;simp -dsimp -implicitDefEqProofs
def D1T(k:Int)(M:Mem):A0c (WC gl) 283 [I k] M (λv M'=>v=I k/\M'=M):=by refine A0t hB func283 ?_;simp -dsimp -implicitDefEqProofs
def A7G(k:Int)(M:Mem):A0c (WC gl) 206 [I k] M (λv M'=>v=B (decide (0<=k)&&decide (k<=3))/\M'=M):=by
 refine A0t hB func206 ?_;by_cases h1:0<=k
 .by_cases h2:k<=3
  .simp -dsimp -implicitDefEqProofs[h1,h2]
  .simp -dsimp -implicitDefEqProofs[h1,h2]
 .simp -dsimp -implicitDefEqProofs[h1]
def B0K(M:Mem):A0c (WC gl) 256 [] M (λv M'=>v=.agg B0Z/\M'=M):=by
 refine A0c.dataX ?_;obtain⟨M1,a⟩:=ex (M++[A0l.cells 303 [.val .nilFunc,.val .nilFunc,.val .nilFunc,.val .nilFunc]]);have h1:M1[M.length]?=some (A0l.cells 303 [.val .nilFunc,.val .nilFunc,.val .nilFunc,.val .nilFunc]):=by rw[a];simp
 have c:M.length<M1.length:=(Z0a.1 h1).1;have b:Grow M M1:=by rw[a];exact A0d.app none _ _
 refine A0t hB func256 ?_;simp -dsimp -implicitDefEqProofs[A0j,C3p];rw[<-a];simp -dsimp -implicitDefEqProofs[A0W,A0I,A1P,A1R,A1a,C3p,D7M,A0f h1,A0o,A0n,B0Z,A0r c,A0g];exact⟨A0u b (Z0j _),.same (by simp[bdd,A1l]) .nil⟩
def C7J(u y:A0a)(x:IdD)(g:FuncId)(m:Nat)(M:Mem)(hf:Fit u)(l:A0O x u=some y)(hm:∀M,A3E (WC gl) g [I y.kids.length] M (λv M'=>v=I m/\M'=M)):
 A0c (WC gl) 280 [.agg u.row,.agg x.row,fnV g] M (λv M'=>v=.tuple [.agg (A2n (x,m)),I 0]/\M'=M):=by
 refine A0c.dataX ?_
 have hx:x.row=[I x.act,I x.item,I x.n]:=rfl
 obtain⟨b,hb⟩:=ex (M.length)
 obtain⟨M1,d⟩:=ex (M++[z4])
 have h1:M1[b]?=some z4:=by rw[d,hb];simp
 have j:Grow M M1:=by rw[d];exact A0d.app none _ _
 have c:=B1J gl u x M1 hf
 rw[l,hx]at c
 obtain⟨M2,a⟩:=ex (M1++[A0l.cells 30 y.row])
 have hp:M2[M1.length]?=some (A0l.cells 30 [I y.id.act,I y.id.item,I y.id.n,I y.kind,S y.label,.list 4 (A0i y.head) .no,.list 4 (A0i y.words) .no,.list 8 (A0q y.kids) .no]):=by rw[a,y.row_eq];simp
 have e:Grow M1 M2:=by rw[a];exact A0d.app none _ _
 have h2:=e.get h1 Q1
 have f:b<M2.length:=(Z0a.1 h2).1
 have i:A0A prog 258 [(0,.agg [I x.act,I x.item,I x.n]),(1,I m)]=some (.agg (A2n (x,m))):=by simp[A0A,A1m,putCells,A0e,AV.cells,AV.storable,A2n]
 rw[hx]
 rw[A4z,y.row_eq]at c
 rw[y.row_eq]at a
 rw[u.row_eq]at c|-
 refine A0t hB func280 ?_
 simp -dsimp -implicitDefEqProofs[A0j]
 rw[<-d,<-hb]
 refine A0h func63 c ?_
 simp -dsimp -implicitDefEqProofs[A0j,A0k,A0e,A0o,A0n]
 rw[<-a]
 refine A0Z hB (A0E gl) (λk=>if k=3 then 1 else if k=7 then 2 else 0) (λ_=>M1.length) (by rfl) Q2 ?_
 simp -dsimp -implicitDefEqProofs[A0b hp,A1g,A5S]
 refine A1J hm ?_
 simp -dsimp -implicitDefEqProofs[i,A0f h2,A2n,A0o,A0n,A0r f,A0g]
 exact⟨A0u (j.trans e) Q0,.same (by simp[bdd,A1l]) .nil⟩
def B9U(u:A0a)(x:IdD)(k:Nat)(M:Mem)(hf:Fit u)(hn:(A0T u).Nodup)(hk:k<=1):A0c (WC gl) 285 [.agg u.row,.agg x.row,I k] M (λv M'=>v=.tuple [.agg (A2n (A2y u x k).1),I (A2y u x k).2]/\M'=M):=by
 refine A0c.dataX ?_;have hx:x.row=[I x.act,I x.item,I x.n]:=rfl;obtain⟨b,hb⟩:=ex (M.length);obtain⟨M1,e⟩:=ex (M++[z4]);have h1:M1[b]?=some z4:=by rw[e,hb];simp
 have l:Grow M M1:=by rw[e];exact A0d.app none _ _
 have a:=A9w gl u x M1 hf;rw[hx]at a|-;have o:A0A prog 258 []=some (.agg [I 0,I 0,I 0,I 0]):=by simp[A0A,A1m]
 rcases A9n x hn with h|⟨p,i,h⟩
 .have j:A2y u x k=((idZ,0),9):=by rw[A2y,h]
  have r:C3L x u=.tuple [.agg [I 0,I 0,I 0],I (-1),B false]:=by rw[C3L,h]
  rw[r]at a;rw[j];obtain⟨M2,c⟩:=ex (M1++[A0l.cells 23 [I 0,I 0,I 0]]);have d:Grow M1 M2:=by rw[c];exact A0d.app none _ _
  have h2:=d.get h1 Q1;have f:b<M2.length:=(Z0a.1 h2).1;have g:A0k (some 3) (M1++[A0l.cells 23 [I 0,I 0,I 0]]) (.ptr M1.length 0) (.agg [I 0,I 0,I 0])=some M2:=by
   (have:(M1++[A0l.cells 23 [I 0,I 0,I 0]])[M1.length]?=some (A0l.cells 23 [I 0,I 0,I 0]):=by simp);rw[A0f this]
   simp[A0o,A0n,c,A0e]
  rw[u.row_eq]at a|-;refine A0t hB func285 ?_;simp -dsimp -implicitDefEqProofs[A0j];rw[<-e,<-hb];refine A0h func145 a ?_;simp -dsimp -implicitDefEqProofs[A0j,g,o,A0f h2,A0o,A0n,A0r f,A0g];exact⟨A0u (l.trans d) Q0,.same (by simp[bdd,A1l,A2n]) .nil⟩
 .have s:p.id.row=[I p.id.act,I p.id.item,I p.id.n]:=rfl;have z:=A8j (B6o hf h.par);have y:=h.lt;have j:A2y u x k=((p.id,i+k),0):=by simp only[A2y,h.par,C8S,h.idx,Z3r]
  rw[B3q h.par,h.idx,s]at a;obtain⟨m,hm⟩:=ex (i+k);rw[j,<-hm];have w1:IntKind.i64.wrap ((i:Int)+k)=(m:Int):=by rw[A0R Q0 Q0];omega
  obtain⟨q,hq⟩:=ex (M1.length);obtain⟨M2,c⟩:=ex (M1++[A0l.cells 23 [I p.id.act,I p.id.item,I p.id.n]]);have w:M2[q]?=some (A0l.cells 23 [I p.id.act,I p.id.item,I p.id.n]):=by rw[c,hq];simp
  have d:Grow M1 M2:=by rw[c];exact A0d.app none _ _
  have h2:=d.get h1 Q1;have f:b<M2.length:=(Z0a.1 h2).1;have g:A0k (some 3) (M1++[A0l.cells 23 [I 0,I 0,I 0]]) (.ptr M1.length 0) (.agg [I p.id.act,I p.id.item,I p.id.n])=some M2:=by
   (have:(M1++[A0l.cells 23 [I 0,I 0,I 0]])[M1.length]?=some (A0l.cells 23 [I 0,I 0,I 0]):=by simp);rw[A0f this]
   simp[A0o,A0n,c,A0e]
  have t:A0A prog 258 [(0,.agg [I p.id.act,I p.id.item,I p.id.n]),(1,I m)]=some (.agg (A2n (p.id,m))):=by simp[A0A,A1m,putCells,A0e,AV.cells,AV.storable,A2n]
  rw[u.row_eq]at a|-;refine A0t hB func285 ?_;simp -dsimp -implicitDefEqProofs[A0j];rw[<-e,<-hb];refine A0h func145 a ?_;simp -dsimp -implicitDefEqProofs[A0j,g];rw[<-hq];simp -dsimp -implicitDefEqProofs[A0b w,w1,t,A0f h2,A2n,A0o,A0n,A0r f,A0g];exact⟨A0u (l.trans d) Q0,.same (by simp[bdd,A1l]) .nil⟩
def D6m(w:Int):FuncId:=if w=0 then 279 else if w=1 then 282 else if w=2 then 284 else 286
def C6F(u y:A0a)(x:IdD)(M:Mem)(hf:Fit u)(hn:(A0T u).Nodup)(g:A0O x u=some y):A0c (WC gl) 279 [.agg u.row,.agg x.row] M (λv M'=>v=.tuple [.agg (A2n (A2k u x 0).1),I (A2k u x 0).2]/\M'=M):=by
 refine A0c.dataX ?_;have hx:x.row=[I x.act,I x.item,I x.n]:=rfl;obtain⟨b,hb⟩:=ex (M.length);obtain⟨M1,c⟩:=ex (M++[z4]);have h1:M1[b]?=some z4:=by rw[c,hb];simp
 have f:Grow M M1:=by rw[c];exact A0d.app none _ _
 have e:b<M1.length:=(Z0a.1 h1).1;have a:=C7J gl u y x 281 0 M1 hf g (λM=>A0m func281 rfl rfl (D2Q gl _ M));have d:A2k u x 0=((x,0),0):=by rfl
 rw[d];generalize((x,0):IdD×Nat)=r at*;rw[hx]at a|-;rw[u.row_eq]at a|-;refine A0t hB func279 ?_;simp -dsimp -implicitDefEqProofs[A0j];rw[<-c,<-hb];refine A0h func280 a ?_;simp -dsimp -implicitDefEqProofs[A0f h1,A2n,A0o,A0n,A0r e,A0g];exact⟨A0u f Q0,.same (by simp[bdd,A1l]) .nil⟩
def C5q(u y:A0a)(x:IdD)(M:Mem)(hf:Fit u)(hn:(A0T u).Nodup)(d:A0O x u=some y):A0c (WC gl) 282 [.agg u.row,.agg x.row] M (λv M'=>v=.tuple [.agg (A2n (A2k u x 1).1),I (A2k u x 1).2]/\M'=M):=by
 refine A0c.dataX ?_;have hx:x.row=[I x.act,I x.item,I x.n]:=rfl;obtain⟨b,hb⟩:=ex (M.length);obtain⟨M1,c⟩:=ex (M++[z4]);have h1:M1[b]?=some z4:=by rw[c,hb];simp
 have g:Grow M M1:=by rw[c];exact A0d.app none _ _
 have f:b<M1.length:=(Z0a.1 h1).1;have a:=C7J gl u y x 283 y.kids.length M1 hf d (λM=>A0m func283 rfl rfl (D1T gl _ M));have e:A2k u x 1=((x,y.kids.length),0):=by simp[A2k,A5B,d]
 rw[e];generalize((x,y.kids.length):IdD×Nat)=r at*;rw[hx]at a|-;rw[u.row_eq]at a|-;refine A0t hB func282 ?_;simp -dsimp -implicitDefEqProofs[A0j];rw[<-c,<-hb];refine A0h func280 a ?_;simp -dsimp -implicitDefEqProofs[A0f h1,A2n,A0o,A0n,A0r f,A0g];exact⟨A0u g Q0,.same (by simp[bdd,A1l]) .nil⟩
def C6O(u y:A0a)(x:IdD)(M:Mem)(hf:Fit u)(hn:(A0T u).Nodup)(g:A0O x u=some y):A0c (WC gl) 284 [.agg u.row,.agg x.row] M (λv M'=>v=.tuple [.agg (A2n (A2k u x 2).1),I (A2k u x 2).2]/\M'=M):=by
 refine A0c.dataX ?_;have hx:x.row=[I x.act,I x.item,I x.n]:=rfl;obtain⟨b,hb⟩:=ex (M.length);obtain⟨M1,c⟩:=ex (M++[z4]);have h1:M1[b]?=some z4:=by rw[c,hb];simp
 have f:Grow M M1:=by rw[c];exact A0d.app none _ _
 have e:b<M1.length:=(Z0a.1 h1).1;have a:=B9U gl u x 1 M1 hf hn Q0;have d:A2k u x 2=A2y u x 1:=by rfl
 rw[d];generalize A2y u x 1=r at*;rw[hx]at a|-;rw[u.row_eq]at a|-;refine A0t hB func284 ?_;simp -dsimp -implicitDefEqProofs[A0j];rw[<-c,<-hb];refine A0h func285 a ?_;simp -dsimp -implicitDefEqProofs[A0f h1,A2n,A0o,A0n,A0r e,A0g];exact⟨A0u f Q0,.same (by simp[bdd,A1l]) .nil⟩
def C6g(u y:A0a)(x:IdD)(M:Mem)(hf:Fit u)(hn:(A0T u).Nodup)(g:A0O x u=some y):A0c (WC gl) 286 [.agg u.row,.agg x.row] M (λv M'=>v=.tuple [.agg (A2n (A2k u x 3).1),I (A2k u x 3).2]/\M'=M):=by
 refine A0c.dataX ?_;have hx:x.row=[I x.act,I x.item,I x.n]:=rfl;obtain⟨b,hb⟩:=ex (M.length);obtain⟨M1,c⟩:=ex (M++[z4]);have h1:M1[b]?=some z4:=by rw[c,hb];simp
 have f:Grow M M1:=by rw[c];exact A0d.app none _ _
 have e:b<M1.length:=(Z0a.1 h1).1;have a:=B9U gl u x 0 M1 hf hn Q0;have d:A2k u x 3=A2y u x 0:=by rfl
 rw[d];generalize A2y u x 0=r at*;rw[hx]at a|-;rw[u.row_eq]at a|-;refine A0t hB func286 ?_;simp -dsimp -implicitDefEqProofs[A0j];rw[<-c,<-hb];refine A0h func285 a ?_;simp -dsimp -implicitDefEqProofs[A0f h1,A2n,A0o,A0n,A0r e,A0g];exact⟨A0u f Q0,.same (by simp[bdd,A1l]) .nil⟩
def C7R(u y:A0a)(x:IdD)(w:Int)(M:Mem)(hf:Fit u)(hn:(A0T u).Nodup)(a:A0O x u=some y)(hw:0<=w/\w<=3):A3E (WC gl) (D6m w) [.agg u.row,.agg x.row] M (λv M'=>v=.tuple [.agg (A2n (A2k u x w).1),I (A2k u x w).2]/\M'=M):=by
 have:w=0\/w=1\/w=2\/w=3:=Q0;rcases this with rfl|rfl|rfl|rfl
 .exact A0m func279 rfl rfl (C6F gl u y x M hf hn a)
 .exact A0m func282 rfl rfl (C5q gl u y x M hf hn a)
 .exact A0m func284 rfl rfl (C6O gl u y x M hf hn a)
 .exact A0m func286 rfl rfl (C6g gl u y x M hf hn a)
def E4n:B6X prog (some (.array 4 302)) (.agg B0Z) (I 0)=some (fnV 279):=Q2
def E4N:B6X prog (some (.array 4 302)) (.agg B0Z) (I 1)=some (fnV 282):=Q2
def E4w:B6X prog (some (.array 4 302)) (.agg B0Z) (I 2)=some (fnV 284):=Q2
def E4s:B6X prog (some (.array 4 302)) (.agg B0Z) (I 3)=some (fnV 286):=Q2
def B0A{w:Int}(hw:0<=w/\w<=3):B6X prog (some (.array 4 302)) (.agg B0Z) (I w)=some (fnV (D6m w)):=by
 have:w=0\/w=1\/w=2\/w=3:=Q0;rcases this with rfl|rfl|rfl|rfl
 .exact E4n
 .exact E4N
 .exact E4w
 .exact E4s
def A6M{u:A0a}{p:List A1n}(hn:(A0T u).Nodup)(hv:A1O p=true)(h:(A2c u p).2=0):∃y,A0O (A2c u p).1 u=some y/\y∈A2a u/\y.id=(A2c u p).1:=by
 have hf:B2p u p=A6A u p:=by rw[B2p,Z0c hv]
 have hs:∀x∈A6A u p,x∈A2a u:=by
  cases p with
  |nil=>intro x hx;simp only[A6A,Z0R]at hx;rw[hx];exact A4A u
  |cons s r=>exact(Sel.follow hn r _ (B4r hn s)).sub
 rw[<-hf]at hs;unfold A2c at h|-;generalize B2p u p=R at*
 match R,h with
 |[x],_=>exact⟨x,A8u hn (hs x Q1),hs x Q1,rfl⟩
def D2L(u:A0a)(p:List A1n)(w:Int)(M:Mem)(hf:Fit u)(hn:(A0T u).Nodup)(hv:A1O p=true)(hw:0<=w/\w<=3):A0c (WC gl) 205 [.agg u.row,.list 2 (A0P p) .no,I w] M (λv M'=>v=.tuple [.agg (A5f u p w).1.1.row,I (A5f u p w).1.2,I (A5f u p w).2]/\M'=M):=by
 refine A0c.dataX ?_
 obtain⟨b,hb⟩:=ex (M.length)
 obtain⟨M1,d⟩:=ex (M++[A0l.cells 23 [I 0,I 0,I 0]])
 have h1:M1[b]?=some (A0l.cells 23 [I 0,I 0,I 0]):=by rw[d,hb];simp
 have l:Grow M M1:=by rw[d];exact A0d.app none _ _
 have a:=B1y gl u p M1 hf hn hv
 have z:(decide (0<=w)&&decide (w<=3))=true:=by simp[hw.1,hw.2]
 have a7:A5f u p w=if(A2c u p).2=0 then(if(A2k u (A2c u p).1 w).2=0 then A2k u (A2c u p).1 w else((idZ,0),(A2k u (A2c u p).1 w).2))else((idZ,0),(A2c u p).2):=rfl
 have a1:=λh=>A6M (u:=u) (p:=p) hn hv h
 rw[a7]
 generalize A2c u p=O at*
 obtain⟨id,e⟩:=O
 simp only at a1 a|-
 have i:id.row=[I id.act,I id.item,I id.n]:=rfl
 obtain⟨M2,m⟩:=ex (M1++[A0l.cells 23 [I id.act,I id.item,I id.n]])
 obtain⟨q,hq⟩:=ex (M1.length)
 have a3:M2[q]?=some (A0l.cells 23 [I id.act,I id.item,I id.n]):=by rw[m,hq];simp
 have f:Grow M1 M2:=by rw[m];exact A0d.app none _ _
 have h2:=f.get h1 Q1
 have a6:b<M2.length:=(Z0a.1 h2).1
 have a2:A0k (some 3) (M1++[A0l.cells 23 [I 0,I 0,I 0]]) (.ptr M1.length 0) (.agg [I id.act,I id.item,I id.n])=some M2:=by
  have:(M1++[A0l.cells 23 [I 0,I 0,I 0]])[M1.length]?=some (A0l.cells 23 [I 0,I 0,I 0]):=by simp
  rw[A0f this];simp[A0o,A0n,m,A0e]
 have aa:∀(n:Int),bdd M.length (.agg [I 0,I 0,I 0]):=by simp[bdd,A1l]
 rw[i]at a
 by_cases he:e=0
 case neg=>rw[Z0d he];rw[u.row_eq]at a|-;refine A0t hB func205 ?_;simp -dsimp -implicitDefEqProofs[A0j];rw[<-d,<-hb];refine A0h func206 (A7G gl w M1) ?_;simp -dsimp -implicitDefEqProofs[z];refine A0h func9 a ?_;simp -dsimp -implicitDefEqProofs[A0j,a2,he,A5X,A0f h2,A0o,A0n,A0r a6,A0g];exact⟨A0u (l.trans f) Q0,.tuple (.same (by simp[bdd,A1l,IdD.row]) (.same trivial (.same trivial .nil))) .nil⟩
 obtain⟨y,hy,_,_⟩:=a1 he
 rw[Z0c he]
 have g:=λM=>C7R gl u y id w M hf hn hy hw
 generalize A2k u id w=r at*
 obtain⟨⟨ri,rn⟩,re⟩:=r
 obtain⟨M3,c⟩:=ex (M2++[A0l.cells 258 (A2n (ri,rn))])
 obtain⟨s,hs⟩:=ex (M2.length)
 have a4:M3[s]?=some (A0l.cells 258 [I ri.act,I ri.item,I ri.n,I rn]):=by rw[c,hs];simp[A2n]
 have j:Grow M2 M3:=by rw[c];exact A0d.app none _ _
 have h3:=j.get h2 Q1
 have a0:b<M3.length:=(Z0a.1 h3).1
 have o:q<M2.length:=(Z0a.1 a3).1
 have x:∀X,(M2++[A0l.cells 258 X])[q]?=M2[q]?:=λX=>by rw[Z0n o]
 have a9:b≠s:=Q0
 have a8:∀X,(M3.set b X)[s]?=M3[s]?:=λX=>Z0f Q0
 rw[i]at g
 rw[u.row_eq]at a g|-
 refine A0t hB func205 ?_
 simp -dsimp -implicitDefEqProofs[A0j]
 rw[<-d,<-hb]
 refine A0h func206 (A7G gl w M1) ?_
 simp -dsimp -implicitDefEqProofs[z]
 refine A0h func9 a ?_
 simp -dsimp -implicitDefEqProofs[A0j,a2,he]
 rw[<-hq]
 refine B1d hB (A0E gl) (λk=>if k=4 then 1 else if k=9\/k=10 then 2 else 0) (λ_=>q) (λ_=>false) [q] (by intros;simp) (by rfl) Q2 ?_
 simp -dsimp -implicitDefEqProofs
 refine A2p func256 (λM=>B0K gl M) ?_
 simp -dsimp -implicitDefEqProofs[B0A hw,A0b a3,A1g,A5S]
 refine A1J g ?_
 have t:A0k (some 4) (M2++[z4]) (.ptr M2.length 0) (.agg (A2n (ri,rn)))=some M3:=by
  have:(M2++[z4])[M2.length]?=some z4:=by simp
  rw[A0f this];simp[A0o,A0n,c,A0e]
 have a5:M3[q]?=M2[q]?:=by rw[c];exact x _
 simp only at g
 simp -dsimp -implicitDefEqProofs[A0j,t,x,a5]
 rw[<-hs]
 by_cases hre:re=0
 .rw[Z0c hre];subst hre;simp -dsimp -implicitDefEqProofs;refine B1d hB (A0E gl) (λk=>if k=1\/k=3 then 1 else if k=4 then 2 else 0) (λ_=>s) (λ_=>false) [s] (by intros;simp) (by rfl) Q2 ?_;simp -dsimp -implicitDefEqProofs[A0b a4,A1g,A5S,a8,A0f h3,A0o,A0n,A0r a0,A0g];exact⟨A0u ((l.trans f).trans j) Q0,.tuple (.same (by simp[bdd,A1l,IdD.row]) (.same trivial (.same trivial .nil))) .nil⟩
 .rw[Z0d hre];simp -dsimp -implicitDefEqProofs[hre,A5X,A0f h3,A0o,A0n,A0r a0,A0g];exact⟨A0u ((l.trans f).trans j) Q0,.tuple (.same (by simp[bdd,A1l,IdD.row]) (.same trivial (.same trivial .nil))) .nil⟩
end
def C7K(a b:IdD):A1A prog .neq 23 (.agg [I a.act,I a.item,I a.n]) (.agg [I b.act,I b.item,I b.n])=some (B (!decide (a=b))):=by
 have h0:A3f prog .neq 23 (.agg [I a.act,I a.item,I a.n]) (.agg [I b.act,I b.item,I b.n])=none:=by simp[A3f,A3P]
 have:=(C7v 338 4 Q2).eq a b;simp only[C7q,IdD.row]at this;simp only[A1A,h0,A4t,C0x,this];rfl
def C5s(u y:A0a)(t:IdD)(w:Int)(hf:Fit u)(hn:(A0T u).Nodup)(ht:A0O t u=some y):(A2k u t w).1.2<=3001:=by
 have hy:Fit y:=A7v u hf y (A2K ht).2;have hb:∀k≤1,(A2y u t k).1.2<=3001:=λk hk=>by
  rcases A9n t hn with h|⟨p,i,h⟩
  .rw[A2y,h];simp
  .have h1:=A8j (B6o hf h.par);have h2:=h.lt;simp only[A2y,h.par,C8S,h.idx,Z3r];omega
 unfold A2k;split
 .simp
 split
 .have:=A8j hy;simp only[A5B,ht,Z1E];omega
 split
 .exact hb 1 Q0
 .exact hb 0 Q0
section
variable (gl:Nat->AV)
set_option maxHeartbeats 4000000 in
def D4J(u yx yt:A0a)(x t:IdD)(w:Int)(M:Mem)(hf:Fit u)(hn:(A0T u).Nodup)(hx:A0O x u=some yx)(ht:A0O t u=some yt)(hw:0<=w/\w<=3):A0c (WC gl) 207 [.agg u.row,.agg x.row,.agg t.row,I w] M (λv M'=>v=.tuple [.agg (A2n (A7V u x t w).1),I (A7V u x t w).2]/\M'=M):=by
 refine A0c.dataX ?_
 have ap:x.row=[I x.act,I x.item,I x.n]:=rfl
 have ai:t.row=[I t.act,I t.item,I t.n]:=rfl
 obtain⟨b,hb⟩:=ex (M.length)
 obtain⟨M1,g⟩:=ex (M++[z4])
 have h1:M1[b]?=some z4:=by rw[g,hb];simp
 have a1:Grow M M1:=by rw[g];exact A0d.app none _ _
 have a:=A9w gl u x M1 hf
 have f:=λM=>C0V gl u t M hf
 have ax:=A5y t u
 have ay:=hf.2.2
 have d:=λM=>B8o gl ((A1f t u).dropLast.reverse.map A0a.id) .no x M (by simp;omega)
 have ak:(((A1f t u).dropLast.reverse.map A0a.id).any λy=>decide (y=x))=decide (x∈B0d t u):=by
  unfold B0d;rw[Z2u,Z2R,Z0m];constructor
  .rintro⟨y,hy,e⟩;rw[Z0m]at e;rw[<-e];exact hy
  .intro h;exact⟨x,h,Q1⟩
 rw[ak]at d
 have ad:B0d t u=(A1f t u).dropLast.reverse.map A0a.id:=rfl
 rw[<-ad]at f d
 obtain⟨b1,aw⟩:=ex (B0d t u)
 have c:=C7K t x
 have o:=C1B t x
 have z:((w=2)=True/\(w=3)=False)\/((w=2)=False/\(w=3)=True)\/((w=2)=False/\(w=3)=False):=by
  have:w=2\/w=3\/(w≠2/\w≠3):=Q0;rcases this with h|h|h
  .exact .inl ⟨Z2o h,Z3B Q0⟩
  .exact .inr (.inl ⟨Z3B Q0,Z2o h⟩)
  .exact .inr (.inr ⟨Z3B h.1,Z3B h.2⟩)
 have a7:A0A prog 258 []=some (.agg [I 0,I 0,I 0,I 0]):=by simp[A0A,A1m]
 rw[ap]at a d|-
 rw[ai]at f|-
 rcases A9n x hn with h|⟨p,i,h⟩
 .have ac:A7V u x t w=((idZ,0),9):=Z0c (.inl h);have au:C3L x u=.tuple [.agg [I 0,I 0,I 0],I (-1),B false]:=by rw[C3L,h]
  rw[au]at a;rw[ac];obtain⟨M2,a8⟩:=ex (M1++[A0l.cells 23 [I 0,I 0,I 0]]);have l:Grow M1 M2:=by rw[a8];exact A0d.app none _ _
  have h2:=l.get h1 Q1;have a0:b<M2.length:=(Z0a.1 h2).1;have j:A0k (some 3) (M1++[A0l.cells 23 [I 0,I 0,I 0]]) (.ptr M1.length 0) (.agg [I 0,I 0,I 0])=some M2:=by
   (have:(M1++[A0l.cells 23 [I 0,I 0,I 0]])[M1.length]?=some (A0l.cells 23 [I 0,I 0,I 0]):=by simp);rw[A0f this]
   simp[A0o,A0n,a8,A0e]
  rw[u.row_eq]at a f|-;refine A0t hB func207 ?_;by_cases hto:t=x
  .rw[Z0B hto]at c;rcases z with⟨e2,e3⟩|⟨e2,e3⟩|⟨e2,e3⟩<;>
   (simp -dsimp -implicitDefEqProofs[A0j,e2,e3]
    rw[<-g,<-hb]
    refine A0h func145 a ?_
    simp -dsimp -implicitDefEqProofs[A0j,j]
    refine A0Z hB (A0E gl) (λ_=>0) (λ_=>0) (by rfl) Q2 ?_
    simp -dsimp -implicitDefEqProofs[c]
    simp -dsimp -implicitDefEqProofs[a7,A0f h2,A0o,A0n,A0r a0,A0g]
    exact⟨A0u (a1.trans l) Q0,.same (by simp[bdd,A1l,A2n]) .nil⟩)
  .rw[Z0I hto]at c;generalize decide (x∈B0d t u)=db at*;rcases z with⟨e2,e3⟩|⟨e2,e3⟩|⟨e2,e3⟩<;>
   (simp -dsimp -implicitDefEqProofs[A0j,e2,e3]
    rw[<-g,<-hb]
    refine A0h func145 a ?_
    simp -dsimp -implicitDefEqProofs[A0j,j]
    refine A0Z hB (A0E gl) (λ_=>0) (λ_=>0) (by rfl) Q2 ?_
    simp -dsimp -implicitDefEqProofs[c]
    refine A2p func212 f ?_
    simp -dsimp -implicitDefEqProofs
    refine A2p func134 d ?_
    simp -dsimp -implicitDefEqProofs[a7,A0f h2,A0o,A0n,A0r a0,A0g]
    exact⟨A0u (a1.trans l) Q0,.same (by simp[bdd,A1l,A2n]) .nil⟩)
 .have ao:p.id.row=[I p.id.act,I p.id.item,I p.id.n]:=rfl;have b0:=A8j (B6o hf h.par);have az:=h.lt;have an:=h.parI;have ac:A7V u x t w=if(t≠x/\x∈B0d t u)\/(t=x/\¬(w=2\/w=3))then((idZ,0),9)else if t=x then((p.id,i),0)
   else(if(A2k u t w).2=0/\(A2k u t w).1.1=p.id/\i<(A2k u t w).1.2 then(((A2k u t w).1.1,(A2k u t w).1.2-1),0)else A2k u t w):=by
   unfold A7V
   rw[an,h.par]
   simp
  rw[ac];rw[B3q h.par,h.idx,ao]at a;obtain⟨q,hq⟩:=ex (M1.length);obtain⟨M2,a8⟩:=ex (M1++[A0l.cells 23 [I p.id.act,I p.id.item,I p.id.n]]);have ab:M2[q]?=some (A0l.cells 23 [I p.id.act,I p.id.item,I p.id.n]):=by rw[a8,hq];simp
  have l:Grow M1 M2:=by rw[a8];exact A0d.app none _ _
  have h2:=l.get h1 Q1;have a0:b<M2.length:=(Z0a.1 h2).1;have j:A0k (some 3) (M1++[A0l.cells 23 [I 0,I 0,I 0]]) (.ptr M1.length 0) (.agg [I p.id.act,I p.id.item,I p.id.n])=some M2:=by
   (have:(M1++[A0l.cells 23 [I 0,I 0,I 0]])[M1.length]?=some (A0l.cells 23 [I 0,I 0,I 0]):=by simp);rw[A0f this]
   simp[A0o,A0n,a8,A0e]
  have ah:A0A prog 258 [(0,.agg [I p.id.act,I p.id.item,I p.id.n]),(1,I i)]=some (.agg (A2n (p.id,i))):=by simp[A0A,A1m,putCells,A0e,AV.cells,AV.storable,A2n]
  have a2:=λM=>C7R gl u yt t w M hf hn ht hw;have av:=C5s u yt t w hf hn ht;generalize A2k u t w=r at*;obtain⟨⟨ri,rn⟩,re⟩:=r;simp only at a2 av|-;rw[ai]at a2;rw[u.row_eq]at a f a2|-;refine A0t hB func207 ?_;by_cases hto:t=x
  .rw[Z0B hto]at c o;rcases z with⟨e2,e3⟩|⟨e2,e3⟩|⟨e2,e3⟩
   .rw[Z0d (by simp[hto,e2]),Z0c hto];simp -dsimp -implicitDefEqProofs[A0j,e2,e3];rw[<-g,<-hb];refine A0h func145 a ?_;simp -dsimp -implicitDefEqProofs[A0j,j];rw[<-hq];refine A0Z hB (A0E gl) (λ_=>0) (λ_=>0) (by rfl) Q2 ?_;simp -dsimp -implicitDefEqProofs[c];simp -dsimp -implicitDefEqProofs[c,o,a7,e2,e3,A0b ab,ah,A2n,A0f h2,A0o,A0n,A0r a0,A0g];exact⟨A0u (a1.trans l) Q0,.same (by simp[bdd,A1l,A2n]) .nil⟩
   .rw[Z0d (by simp[hto,e3]),Z0c hto];simp -dsimp -implicitDefEqProofs[A0j,e2,e3];rw[<-g,<-hb];refine A0h func145 a ?_;simp -dsimp -implicitDefEqProofs[A0j,j];rw[<-hq];refine A0Z hB (A0E gl) (λ_=>0) (λ_=>0) (by rfl) Q2 ?_;simp -dsimp -implicitDefEqProofs[c];simp -dsimp -implicitDefEqProofs[c,o,a7,e2,e3,A0b ab,ah,A2n,A0f h2,A0o,A0n,A0r a0,A0g];exact⟨A0u (a1.trans l) Q0,.same (by simp[bdd,A1l,A2n]) .nil⟩
   .rw[Z0c (.inr ⟨hto,by simp[e2,e3]⟩)];simp -dsimp -implicitDefEqProofs[A0j,e2,e3];rw[<-g,<-hb];refine A0h func145 a ?_;simp -dsimp -implicitDefEqProofs[A0j,j];rw[<-hq];refine A0Z hB (A0E gl) (λ_=>0) (λ_=>0) (by rfl) Q2 ?_;simp -dsimp -implicitDefEqProofs[c];simp -dsimp -implicitDefEqProofs[c,o,a7,e2,e3,A0b ab,ah,A2n,A0f h2,A0o,A0n,A0r a0,A0g];exact⟨A0u (a1.trans l) Q0,.same (by simp[bdd,A1l,A2n]) .nil⟩
  rw[Z0I hto]at c o;by_cases hbe:x∈B0d t u
  .rw[Z0c (.inl ⟨hto,hbe⟩)];rw[Z0B hbe]at d;rcases z with⟨e2,e3⟩|⟨e2,e3⟩|⟨e2,e3⟩<;>
   (simp -dsimp -implicitDefEqProofs[A0j,e2,e3]
    rw[<-g,<-hb]
    refine A0h func145 a ?_
    simp -dsimp -implicitDefEqProofs[A0j,j]
    rw[<-hq]
    refine A0Z hB (A0E gl) (λ_=>0) (λ_=>0) (by rfl) Q2 ?_
    simp -dsimp -implicitDefEqProofs[c]
    refine A2p func212 f ?_
    simp -dsimp -implicitDefEqProofs
    refine A2p func134 d ?_
    simp -dsimp -implicitDefEqProofs[a7,A0f h2,A0o,A0n,A0r a0,A0g]
    exact⟨A0u (a1.trans l) Q0,.same (by simp[bdd,A1l,A2n]) .nil⟩)
  rw[Z0d (λe=>e.elim (λe=>hbe e.2) (λe=>hto e.1)),Z0d hto];rw[Z0I hbe]at d;obtain⟨M3,ae⟩:=ex (M2++[A0l.cells 258 (A2n (ri,rn))]);obtain⟨s,hs⟩:=ex (M2.length);have a5:M3[s]?=some (A0l.cells 258 [I ri.act,I ri.item,I ri.n,I rn]):=by rw[ae,hs];simp[A2n]
  have af:Grow M2 M3:=by rw[ae];exact A0d.app none _ _
  have h3:=af.get h2 Q1;have aa:=af.get ab Q1;have ag:b<M3.length:=(Z0a.1 h3).1;have aj:s<M3.length:=(Z0a.1 a5).1;have a3:A0k (some 4) (M2++[z4]) (.ptr M2.length 0) (.agg (A2n (ri,rn)))=some M3:=by
   (have:(M2++[z4])[M2.length]?=some z4:=by simp);rw[A0f this]
   simp[A0o,A0n,ae,A0e]
  have a6:=C1B ri p.id;have a4:Grow M M3:=(a1.trans l).trans af;by_cases hre:re=0/\ri=p.id/\i<rn
  .rw[Z0c hre];obtain⟨r1,r2,r3⟩:=hre;rw[Z0B r2]at a6;obtain⟨m,hm⟩:=ex (rn-1);rw[<-hm];have c1:(i:Int)<rn:=Q0;(have w1:IntKind.i64.wrap ((rn:Int)-1)=(m:Int):=by rw[A0R Q0 Q0];omega);obtain⟨M4,a9⟩:=ex (M3.set s (A0l.cells 258 [I ri.act,I ri.item,I ri.n,I m]));(have al:M4[s]?=some (A0l.cells 258 [I ri.act,I ri.item,I ri.n,I m]):=by rw[a9];simp[aj]);(have h4:M4[b]?=some z4:=by rw[a9,Z0f Q0];exact h3);have am:b<M4.length:=(Z0a.1 h4).1;(have aq:Grow M M4:=by rw[a9];exact A0u a4 Q0);(have ar:A0k (some 1) M3 (.ptr s 3) (I m)=some M4:=by rw[A0f a5,a9];rfl);rcases z with⟨e2,e3⟩|⟨e2,e3⟩|⟨e2,e3⟩<;>
   (simp -dsimp -implicitDefEqProofs[A0j,e2,e3]
    rw[<-g,<-hb]
    refine A0h func145 a ?_
    simp -dsimp -implicitDefEqProofs[A0j,j]
    rw[<-hq]
    refine A0Z hB (A0E gl) (λ_=>0) (λ_=>0) (by rfl) Q2 ?_
    simp -dsimp -implicitDefEqProofs[c]
    refine A2p func212 f ?_
    simp -dsimp -implicitDefEqProofs
    refine A2p func134 d ?_
    simp -dsimp -implicitDefEqProofs[o]
    refine A0Z hB (A0E gl) (λk=>if k=9\/k=10 then 2 else 0) (λ_=>0) (by rfl) Q2 ?_
    simp -dsimp -implicitDefEqProofs
    refine A2p func256 (λM=>B0K gl M) ?_
    simp -dsimp -implicitDefEqProofs[B0A hw]
    refine A1J a2 ?_
    simp -dsimp -implicitDefEqProofs[A0j,a3]
    rw[<-hs]
    simp -dsimp -implicitDefEqProofs[r1,A0b a5,A0b aa,a6,c1,w1,ar,A0b al,A0f h4,A0o,A0n,A0r am,A0g]
    exact⟨A0u aq Q0,.same (by simp[bdd,A1l,A2n]) .nil⟩)
  .rw[Z0d hre];by_cases r1:re=0
   .by_cases r2:ri=p.id
    .rw[Z0B r2]at a6;have c1:¬(i:Int)<rn:=λe=>hre ⟨r1,r2,Q0⟩;rcases z with⟨e2,e3⟩|⟨e2,e3⟩|⟨e2,e3⟩<;>
     (simp -dsimp -implicitDefEqProofs[A0j,e2,e3]
      rw[<-g,<-hb]
      refine A0h func145 a ?_
      simp -dsimp -implicitDefEqProofs[A0j,j]
      rw[<-hq]
      refine A0Z hB (A0E gl) (λ_=>0) (λ_=>0) (by rfl) Q2 ?_
      simp -dsimp -implicitDefEqProofs[c]
      refine A2p func212 f ?_
      simp -dsimp -implicitDefEqProofs
      refine A2p func134 d ?_
      simp -dsimp -implicitDefEqProofs[o]
      refine A0Z hB (A0E gl) (λk=>if k=9\/k=10 then 2 else 0) (λ_=>0) (by rfl) Q2 ?_
      simp -dsimp -implicitDefEqProofs
      refine A2p func256 (λM=>B0K gl M) ?_
      simp -dsimp -implicitDefEqProofs[B0A hw]
      refine A1J a2 ?_
      simp -dsimp -implicitDefEqProofs[A0j,a3]
      rw[<-hs]
      simp -dsimp -implicitDefEqProofs[r1,A0b a5,A0b aa,a6,c1,A0f h3,A0o,A0n,A0r ag,A0g]
      exact⟨A0u a4 Q0,.same (by simp[bdd,A1l,A2n]) .nil⟩)
    .rw[Z0I r2]at a6;rcases z with⟨e2,e3⟩|⟨e2,e3⟩|⟨e2,e3⟩<;>
     (simp -dsimp -implicitDefEqProofs[A0j,e2,e3]
      rw[<-g,<-hb]
      refine A0h func145 a ?_
      simp -dsimp -implicitDefEqProofs[A0j,j]
      rw[<-hq]
      refine A0Z hB (A0E gl) (λ_=>0) (λ_=>0) (by rfl) Q2 ?_
      simp -dsimp -implicitDefEqProofs[c]
      refine A2p func212 f ?_
      simp -dsimp -implicitDefEqProofs
      refine A2p func134 d ?_
      simp -dsimp -implicitDefEqProofs[o]
      refine A0Z hB (A0E gl) (λk=>if k=9\/k=10 then 2 else 0) (λ_=>0) (by rfl) Q2 ?_
      simp -dsimp -implicitDefEqProofs
      refine A2p func256 (λM=>B0K gl M) ?_
      simp -dsimp -implicitDefEqProofs[B0A hw]
      refine A1J a2 ?_
      simp -dsimp -implicitDefEqProofs[A0j,a3]
      rw[<-hs]
      simp -dsimp -implicitDefEqProofs[r1,A0b a5,A0b aa,a6,A0f h3,A0o,A0n,A0r ag,A0g]
      exact⟨A0u a4 Q0,.same (by simp[bdd,A1l,A2n]) .nil⟩)
   .rcases z with⟨e2,e3⟩|⟨e2,e3⟩|⟨e2,e3⟩<;>
    (simp -dsimp -implicitDefEqProofs[A0j,e2,e3]
     rw[<-g,<-hb]
     refine A0h func145 a ?_
     simp -dsimp -implicitDefEqProofs[A0j,j]
     rw[<-hq]
     refine A0Z hB (A0E gl) (λ_=>0) (λ_=>0) (by rfl) Q2 ?_
     simp -dsimp -implicitDefEqProofs[c]
     refine A2p func212 f ?_
     simp -dsimp -implicitDefEqProofs
     refine A2p func134 d ?_
     simp -dsimp -implicitDefEqProofs[o]
     refine A0Z hB (A0E gl) (λk=>if k=9\/k=10 then 2 else 0) (λ_=>0) (by rfl) Q2 ?_
     simp -dsimp -implicitDefEqProofs
     refine A2p func256 (λM=>B0K gl M) ?_
     simp -dsimp -implicitDefEqProofs[B0A hw]
     refine A1J a2 ?_
     simp -dsimp -implicitDefEqProofs[A0j,a3]
     rw[<-hs]
     simp -dsimp -implicitDefEqProofs[r1,A0b a5,A0b aa,A0f h3,A0o,A0n,A0r ag,A0g]
     exact⟨A0u a4 Q0,.same (by simp[bdd,A1l,A2n]) .nil⟩)
end
section
variable (gl:Nat->AV)
def A7y{M1 M2:Mem}{x:IdD}(h:M2=M1++[A0l.cells 23 [I x.act,I x.item,I x.n]]):A0k (some 3) (M1++[A0l.cells 23 [I 0,I 0,I 0]]) (.ptr M1.length 0) (.agg [I x.act,I x.item,I x.n])=some M2:=by
 have:(M1++[A0l.cells 23 [I 0,I 0,I 0]])[M1.length]?=some (A0l.cells 23 [I 0,I 0,I 0]):=by simp
 rw[A0f this];simp[A0o,A0n,h,A0e]
def D1I{M1 M2:Mem}{r:IdD×Nat}(h:M2=M1++[A0l.cells 258 (A2n r)]):A0k (some 4) (M1++[z4]) (.ptr M1.length 0) (.agg (A2n r))=some M2:=by
 have:(M1++[z4])[M1.length]?=some z4:=by simp
 rw[A0f this];simp[A0o,A0n,h,A0e]
def B3d{M1 M2:Mem}{u:A0a}(h:M2=M1++[A0l.cells 30 [I u.id.act,I u.id.item,I u.id.n,I u.kind,S u.label,.list 4 (A0i u.head) .no,.list 4 (A0i u.words) .no,.list 8 (A0q u.kids) .no]]):A0k (some 8) (M1++[z8]) (.ptr M1.length 0) (.agg [I u.id.act,I u.id.item,I u.id.n,I u.kind,S u.label,.list 4 (A0i u.head) .no,.list 4 (A0i u.words) .no,.list 8 (A0q u.kids) .no])=some M2:=by
 have:(M1++[z8])[M1.length]?=some z8:=by simp
 rw[A0f this];simp[A0o,A0n,h,A0e]
def C5R(u:A0a)(it:A0G)(M:Mem)(hf:Fit u)(hn:(A0T u).Nodup)(hk:it.h.kind=0)(hv:A1O it.h.at_=true)(hw:0<=it.h.where_/\it.h.where_<=3):A0c (WC gl) 126 [.agg u.row,.agg it.row] M (λv M'=>v=.tuple [.agg (A5f u it.h.at_ it.h.where_).1.1.row,I (A5f u it.h.at_ it.h.where_).1.2,I (A5f u it.h.at_ it.h.where_).2]/\M'=M):=by
 refine A0c.dataX ?_
 obtain⟨b,hb⟩:=ex (M.length)
 obtain⟨M1,c⟩:=ex (M++[A0l.cells 23 [I 0,I 0,I 0]])
 have h1:M1[b]?=some (A0l.cells 23 [I 0,I 0,I 0]):=by rw[c,hb];simp
 have f:Grow M M1:=by rw[c];exact A0d.app none _ _
 have e:b<M1.length:=(Z0a.1 h1).1
 have a:=D2L gl u it.h.at_ it.h.where_ M1 hf hn hv hw
 generalize A5f u it.h.at_ it.h.where_=r at*
 have d:r.1.1.row=[I r.1.1.act,I r.1.1.item,I r.1.1.n]:=rfl
 rw[d]at a|-
 rw[it.row_eq,A1Q.row]
 rw[u.row_eq]at a|-
 refine A0t hB func126 ?_
 simp -dsimp -implicitDefEqProofs[A0j,hk]
 rw[<-c,<-hb]
 refine A0h func205 a ?_
 simp -dsimp -implicitDefEqProofs[A0f h1,A0o,A0n,A0r e,A0g]
 exact⟨A0u f Q0,.tuple (.same (by simp[bdd,A1l]) (.same trivial (.same trivial .nil))) .nil⟩
def C5w(u:A0a)(it:A0G)(M:Mem)(hf:Fit u)(hn:(A0T u).Nodup)(hk:it.h.kind=6)(hv:A1O it.h.at_=true)(a2:A1O it.h.to=true)(hw:0<=it.h.where_/\it.h.where_<=3):A0c (WC gl) 126 [.agg u.row,.agg it.row] M (λv M'=>v=.tuple [.agg (A8d u it.h).1.1.row,I (A8d u it.h).1.2,I (A8d u it.h).2]/\M'=M):=by
 refine A0c.dataX ?_
 obtain⟨b,hb⟩:=ex (M.length)
 obtain⟨M1,f⟩:=ex (M++[A0l.cells 23 [I 0,I 0,I 0]])
 have h1:M1[b]?=some (A0l.cells 23 [I 0,I 0,I 0]):=by rw[f,hb];simp
 have o:Grow M M1:=by rw[f];exact A0d.app none _ _
 have w:(decide (0<=it.h.where_)&&decide (it.h.where_<=3))=true:=by simp[hw.1,hw.2]
 have a:=B1y gl u it.h.at_ M1 hf hn hv
 have d:=λM=>B1y gl u it.h.to M hf hn a2
 have hd:A8d u it.h=if(A2c u it.h.at_).2=0 then(if(A2c u it.h.to).2=0 then(if(A7V u (A2c u it.h.at_).1 (A2c u it.h.to).1 it.h.where_).2=0 then A7V u (A2c u it.h.at_).1 (A2c u it.h.to).1 it.h.where_ else((idZ,0),(A7V u (A2c u it.h.at_).1 (A2c u it.h.to).1 it.h.where_).2))else((idZ,0),(A2c u it.h.to).2))else((idZ,0),(A2c u it.h.at_).2):=rfl
 have a7:=λh=>A6M (u:=u) (p:=it.h.at_) hn hv h
 have a6:=λh=>A6M (u:=u) (p:=it.h.to) hn a2 h
 rw[hd]
 clear hd
 have c:=λx t yx yt M=>D4J gl u yx yt x t it.h.where_ M hf hn
 generalize A2c u it.h.at_=O at*
 generalize A2c u it.h.to=O2 at*
 obtain⟨x,e⟩:=O
 obtain⟨t,e2⟩:=O2
 simp only at a7 a6 a d|-
 have a0:x.row=[I x.act,I x.item,I x.n]:=rfl
 have a4:t.row=[I t.act,I t.item,I t.n]:=rfl
 obtain⟨M2,g⟩:=ex (M1++[A0l.cells 23 [I x.act,I x.item,I x.n]])
 obtain⟨q,hq⟩:=ex (M1.length)
 have af:M2[q]?=some (A0l.cells 23 [I x.act,I x.item,I x.n]):=by rw[g,hq];simp
 have l:Grow M1 M2:=by rw[g];exact A0d.app none _ _
 have h2:=l.get h1 Q1
 have a9:b<M2.length:=(Z0a.1 h2).1
 rw[it.row_eq,A1Q.row]
 rw[a0]at a
 rw[a4]at d
 by_cases he:e=0
 case neg=>rw[Z0d he];rw[u.row_eq]at a|-;refine A0t hB func126 ?_;simp -dsimp -implicitDefEqProofs[A0j,hk];rw[<-f,<-hb];refine A0h func206 (A7G gl it.h.where_ M1) ?_;simp -dsimp -implicitDefEqProofs[w];refine A0h func9 a ?_;simp -dsimp -implicitDefEqProofs[A0j,A7y g,he,A5X,A0f h2,A0o,A0n,A0r a9,A0g];exact⟨A0u (o.trans l) Q0,.tuple (.same (by simp[bdd,A1l,IdD.row]) (.same trivial (.same trivial .nil))) .nil⟩
 rw[Z0c he]
 obtain⟨M3,i⟩:=ex (M2++[A0l.cells 23 [I t.act,I t.item,I t.n]])
 obtain⟨s,hs⟩:=ex (M2.length)
 have a8:M3[s]?=some (A0l.cells 23 [I t.act,I t.item,I t.n]):=by rw[i,hs];simp
 have j:Grow M2 M3:=by rw[i];exact A0d.app none _ _
 have h3:=j.get h2 Q1
 have ae:=j.get af Q1
 have ad:b<M3.length:=(Z0a.1 h3).1
 by_cases he2:e2=0
 case neg=>rw[Z0d he2];rw[u.row_eq]at a d|-;refine A0t hB func126 ?_;simp -dsimp -implicitDefEqProofs[A0j,hk];rw[<-f,<-hb];refine A0h func206 (A7G gl it.h.where_ M1) ?_;simp -dsimp -implicitDefEqProofs[w];refine A0h func9 a ?_;simp -dsimp -implicitDefEqProofs[A0j,A7y g,he];refine A0h func9 (d M2) ?_;simp -dsimp -implicitDefEqProofs[A0j,A7y i,he2,A5X,A0f h3,A0o,A0n,A0r ad,A0g];exact⟨A0u ((o.trans l).trans j) Q0,.tuple (.same (by simp[bdd,A1l,IdD.row]) (.same trivial (.same trivial .nil))) .nil⟩
 rw[Z0c he2]
 obtain⟨yx,ab,_,_⟩:=a7 he
 obtain⟨yt,ac,_,_⟩:=a6 he2
 have c:=c x t yx yt M3 ab ac hw
 generalize A7V u x t it.h.where_=r at*
 obtain⟨⟨ri,rn⟩,re⟩:=r
 simp only at c|-
 obtain⟨M4,m⟩:=ex (M3++[A0l.cells 258 (A2n (ri,rn))])
 obtain⟨z,hz⟩:=ex (M3.length)
 have a5:M4[z]?=some (A0l.cells 258 [I ri.act,I ri.item,I ri.n,I rn]):=by rw[m,hz];simp[A2n]
 have a1:Grow M3 M4:=by rw[m];exact A0d.app none _ _
 have h4:=a1.get h3 Q1
 have a3:b<M4.length:=(Z0a.1 h4).1
 have y:Grow M M4:=((o.trans l).trans j).trans a1
 have aa:∀X,(M4.set b X)[z]?=M4[z]?:=λX=>Z0f Q0
 rw[a0,a4]at c
 rw[u.row_eq]at a d c|-
 refine A0t hB func126 ?_
 simp -dsimp -implicitDefEqProofs[A0j,hk]
 rw[<-f,<-hb]
 refine A0h func206 (A7G gl it.h.where_ M1) ?_
 simp -dsimp -implicitDefEqProofs[w]
 refine A0h func9 a ?_
 simp -dsimp -implicitDefEqProofs[A0j,A7y g,he]
 refine A0h func9 (d M2) ?_
 simp -dsimp -implicitDefEqProofs[A0j,A7y i,he2]
 rw[<-hq,<-hs]
 simp -dsimp -implicitDefEqProofs[A0b ae,A0b a8]
 refine A0h func207 c ?_
 simp -dsimp -implicitDefEqProofs[A0j,D1I m]
 rw[<-hz]
 by_cases hre:re=0
 .rw[Z0c hre];subst hre;simp -dsimp -implicitDefEqProofs;refine B1d hB (A0E gl) (λk=>if k=1\/k=3 then 1 else if k=4 then 2 else 0) (λ_=>z) (λ_=>false) [z] (by intros;simp) (by rfl) Q2 ?_;simp -dsimp -implicitDefEqProofs[A0b a5,A1g,A5S,aa,A0f h4,A0o,A0n,A0r a3,A0g];exact⟨A0u y Q0,.tuple (.same (by simp[bdd,A1l,IdD.row]) (.same trivial (.same trivial .nil))) .nil⟩
 .rw[Z0d hre];simp -dsimp -implicitDefEqProofs[hre,A5X,A0f h4,A0o,A0n,A0r a3,A0g];exact⟨A0u y Q0,.tuple (.same (by simp[bdd,A1l,IdD.row]) (.same trivial (.same trivial .nil))) .nil⟩
end
end Go.Abs
