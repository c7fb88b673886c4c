/- The texts CeB, CeC, CeD, CeE, CeF, CeG, CeH, CeI, CeJ, CeK, CeL, CeM, CbJ, EjA, EjB, EhB0, EhF, EhG, EhQ. -/
import Derived.Test.YtjmjekcaifkboaaGreatDoorQG25
import Derived.Test.YtjmjekcaifkboaaGreatDoorQG24
import Derived.Test.YtjmjekcaifkboaaGreatDoorQG23
set_option linter.all false
set_option maxRecDepth 100000
namespace Go.Abs
open Go.Proofs TryTypes Tryz
section
def C8V{u:A0a}(h:Fit u):∀k∈u.kids,Fit k:=by obtain⟨h1,h2,h3⟩:=h;intro k hk;have:=A3O hk;rw[A6h]at h3;exact⟨((A0a.good_iff _).1 h1).2.2.2.2.2.2.2.2 k hk,A4l.1 (A4c u h2).2 k hk,Q0⟩
def A8l(l:List A0a)(i:Nat)(h:i<l.length):(A0t l)[i]?=some (l[i]).row:=by rw[A3h];simp[h]
def D6J{x:IdD}{u v:A0a}(h:(A1h x u).getLast?=some v):v.id=x/\v∈A2j u:=by rw[<-A3N]at h;rw[A9C]at h;exact⟨by have:=List.find?_some h;simpa using this,Z4p h⟩
mutual
def A7W:∀u:A0a,Fit u->∀v∈A2j u,Fit v
 |.mk a b c d e ks,h,v,hv=>by
  rw[A2j]at hv;rcases Z0p.1 hv with rfl|hv
  .exact h
  .refine C4h ks (λk hm=>?_) v hv;have h1:=((A0a.good_iff _).1 h.1).2.2.2.2.2.2.2.2;have h2:=A4l.1 (A4c _ h.2.1).2;have h3:=h.2.2;have h4:=A3O hm;rw[A0y]at h3;exact⟨h1 k hm,h2 k hm,Q0⟩
def C4h:∀ks:List A0a,(∀k∈ks,Fit k)->∀v∈A3F ks,Fit v
 |[],_,v,hv=>by rw[A3F]at hv;simp at hv
 |k::ks,h,v,hv=>by
  rw[A3F]at hv;rcases Z0N.1 hv with hv|hv
  .exact A7W k (h k Q1) v hv
  .exact C4h ks (λq hq=>h q ZBH) v hv
end
section
variable (gl:Nat->AV)
def B2k(u:A0a)(x:IdD)(M:Mem)(hf:Fit u):A0c (WC gl) 99 [.agg u.row,.agg x.row] M (λv M'=>v=.tuple [.agg (A4F (A0N x u)),B (A0N x u).isSome]/\M'=M):=by
 refine A0c.dataX ?_;have hx:x.row=[I x.act,I x.item,I x.n]:=rfl;obtain⟨Ma,c⟩:=ex (M++[z8]);have q:Grow M Ma:=ZAG
 have d:Ma[M.length]?=some z8:=by rw[c];simp
 have b:=B1y gl u x Ma hf.1 hf.2.2;have o:=A5T x u;have a4:=hf.2.2;have a1:=A3N x u;rw[u.row_eq,hx]at b|-;rw[a1];refine A0r hB func99 ?_;simp -dsimp[A0j];rw[<-c];refine A0g func125 b ?_;generalize hr:A1h x u=r at*;rcases Z3d r with rfl|⟨rs,w,rfl⟩
 .have hlt:M.length<Ma.length:=(Z0a.1 d).1;simp -dsimp[A5u,A0f d,A0o,A0n,A0u hlt,A0h];exact⟨A0w q (Z0j _),.tuple (.same (D0h _ none) (.same trivial .nil)) .nil⟩
 .rw[Z4I]at*;have hw:=D6J (x:=x) (u:=u) (v:=w) (by rw[hr];simp);have g:=A7W u hf w hw.2;have y:A5u (rs++[w])=.list 8 (A0t (rs++[w])) .no:=by rw[<-hr];exact B5Z (by rw[hr];simp)
  have hi:rs.length<(rs++[w]).length:=ZBG
  have z:(A0t (rs++[w]))[rs.length]?=some w.row:=by rw[A8l _ _ hi];simp
  have w1:IntKind.i64.wrap (rs.length:Int)=rs.length:=by rw[A0R Q0 (by simp at o;omega)]
  have t:¬(rs.length:Int)+1=0:=Q0;have l:(rs.length:Int)<rs.length+1:=Q0;have i:=B5q gl w (.list 8 (A0t w.kids) .no) Ma (.inl rfl) g.1 g.2.1 g.2.2;rw[show A3C w (.list 8 (A0t w.kids) .no)=w.row from(w.row_eq).symm]at i;rw[y];simp -dsimp[t,w1,z,l];refine A3R func126 i ?_;rintro _ M2 ⟨hv,wv,kw,rfl,a⟩;obtain⟨p,a3⟩:=a.still;have j:=p.get d Q1;have s:M.length<M2.length:=(Z0a.1 j).1;simp -dsimp[A0f j,A0o,A0n,A0u s,A0h];have a2:Ma.length=M.length+1:=by rw[c];simp
  obtain⟨M3,e⟩:=ex (M2.set M.length (A0m.cells 31 (D3U w hv wv kw)));have hs:∀f,f≠M.length->M3[f]?=M2[f]?:=λf h1=>by rw[e,Z0f Q0]
  have l1:=a.h.lat;have l2:=a.w.lat;have l3:=a.k.lat;have g1:=(a.h.stay (M':=M3) (λf h=>hs f (by have:=l1 f h;omega))).weak (m:=M.length) Q0;have g2:=(a.w.stay (M':=M3) (λf h=>hs f (by have:=l2 f h;omega))).weak (m:=M.length) Q0;have g3:=a.k.stay (M':=M3) (λf h=>hs f (by have:=l3 f h;omega));have a0:Grow M M3:=by rw[e];exact A0w (q.trans p) (Z0j _)
  rw[<-e];refine⟨a0,.tuple ?_ .nil⟩;rw[A4F,w.row_eq,A3h];exact .agg (.same trivial (.same trivial (.same trivial (.same trivial (.same trivial (g1.still (λ_=>rfl) A4H (g2.still (λ_=>rfl) A4H (A3i A0a.row_len A1F g3.own (λf h=>by have:=l3 f h;omega))))))))) (.same trivial .nil)
def C8Y(p:A0a->Bool)(g:FuncId)(cap:List AV)(l:List A0a)(o:Own)(M:Mem)(hl:l.length<=3000)(hp:∀u∈l,A2Z (WC gl) g (.agg u.row::cap) M (λv M'=>v=B (p u)/\M'=M)):
 A0c (WC gl) 254 [.list 8 (A0t l) o,.func (.func g) [] cap] M (λv M'=>v=I (A2l p l 0)/\M'=M):=by
 refine A0r hB func254 ?_
 simp -dsimp
 refine A1y hB l.length 8 (λT M1=>∃i:Nat,i<=l.length/\M1=M/\T 0=.list 8 (A0t l) o/\T 1=.func (.func g) [] cap/\T 7=I l.length/\T 8=I i/\A2l p l 0=A2l p (l.drop i) i) ?_ ?_
 .exact⟨0,Q0,rfl,Q1,Q1,Q1,Q1,Q1⟩
 .rintro T M1 ⟨i,i1,rfl,t0,t1,t7,t8,ho⟩;by_cases hi:i<l.length
  .have a:(i:Int)<l.length:=Q0;have w1:=A1O (i:=i) Q0;have hd:l.drop i=l[i]::l.drop (i+1):=Z0m hi;rw[hd,A2l]at ho;have b:=A8l l i hi;simp -dsimp[t0,t1,t7,t8,hi,a,b];refine A0s (hp l[i] (Z0s hi)) ?_;rintro _ _ ⟨rfl,rfl⟩;cases hq:p l[i]
   .rw[hq,Z0d Q1]at ho;simp -dsimp[t0,t1,t7,t8,w1];exact⟨⟨i+1,Q3,rfl,ho⟩,Q3⟩
   .rw[hq,Z0c rfl]at ho;simp -dsimp[t0,t1,t7,t8,ho]
  .have a:¬(i:Int)<l.length:=Q0;rw[show l.drop i=[]from Z0v Q0]at ho;simp -dsimp[t0,t1,t7,t8,a,ho,A2l]
def D7b(p:A0a->Bool)(g:FuncId)(cap:List AV)(l:List A0a)(o:Own)(M:Mem)(hl:l.length<=3000)(hp:∀u∈l,A2Z (WC gl) g (.agg u.row::cap) M (λv M'=>v=B (p u)/\M'=M)):
 A0c (WC gl) 237 [.list 8 (A0t l) o,.func (.func g) [] cap] M (λv M'=>v=B (l.any p)/\M'=M):=by
 refine A0r hB func237 ?_
 simp -dsimp
 refine A0g func254 (C8Y gl p g cap l o M hl hp) ?_
 rw[<-A5J _ l 0]
 simp -dsimp
def D6V(u:A0a)(x:IdD)(M:Mem)(hf:Fit u):A0c (WC gl) 255 [.agg u.row,.cptr [I x.act,I x.item,I x.n]] M (λv M'=>v=B (A0N x u).isSome/\M'=M):=by
 have a:=B1y gl u x M hf.1 hf.2.2;have hx:x.row=[I x.act,I x.item,I x.n]:=rfl;have c:=A3N x u;rw[u.row_eq,hx]at a;rw[u.row_eq,c];refine A0r hB func255 ?_;simp -dsimp;refine A0g func125 a ?_;cases hr:A1h x u with
 |nil=>simp -dsimp[A5u]
 |cons r rs=>
  have b:A0t (r::rs)=r.row::A0t rs:=by rw[A0t]
  have hs:((r::rs).getLast?).isSome=true:=ZBG
  simp -dsimp[A5u,b,hs]
end
end
section
def D9l{α:Type}(r:List α):r=[]\/(∃w,r=[w])\/∃rs p w,r=rs++[p,w]:=by
 rcases Z3d r with rfl|⟨q,w,rfl⟩
 .exact .inl rfl
 .rcases Z3d q with rfl|⟨rs,p,rfl⟩
  .exact .inr (.inl ⟨w,rfl⟩)
  .exact .inr (.inr ⟨rs,p,w,Q1⟩)
def A7R(x:IdD)(u:A0a):Option A0a:=(A1h x u).dropLast.getLast?
def C5b(x:IdD)(u:A0a):AV:=match A7R x u with
 |none=>.tuple [.agg [I 0,I 0,I 0],I (-1),B false]
 |some p=>.tuple [.agg p.id.row,I (A2l (λk=>(A0N x k).isSome) p.kids 0),B true]
mutual
def C1E(x:IdD):∀u:A0a,∀v∈A1h x u,v∈A2j u
 |.mk id k l h w ks,v,hv=>by
  rw[A1h]at hv;rw[A2j];split at hv
  .simp only[Z0L]at hv;subst hv;simp
  .split at hv
   .simp at hv
   .rename_i r rs e;rcases Z0p.1 hv with rfl|hv
    .simp
    .exact Z1v _ (B8w x ks v (by rw[e];exact hv))
def B8w(x:IdD):∀ks:List A0a,∀v∈A3w x ks,v∈A3F ks
 |[],v,hv=>by rw[A3w]at hv;simp at hv
 |k::ks,v,hv=>by
  rw[A3w]at hv;rw[A3F];split at hv
  .exact Z3e _ (B8w x ks v hv)
  .rename_i r rs e;exact Z2A _ (C1E x k v (by rw[e];exact hv))
end
section
variable (gl:Nat->AV)
def A9X(u:A0a)(x:IdD)(M:Mem)(hf:Fit u):A0c (WC gl) 179 [.agg u.row,.agg x.row] M (λv M'=>v=C5b x u/\M'=M):=by
 refine A0c.dataX ?_;have hx:x.row=[I x.act,I x.item,I x.n]:=rfl;obtain⟨z3,a2⟩:=ex (A0m.cells 28 [I 0,I 0,I 0]);obtain⟨Ma,l⟩:=ex (M++[z3]);have o:Grow M Ma:=by rw[l];exact A0d.app none _ _
 have i:Ma[M.length]?=some (A0m.cells 28 [I 0,I 0,I 0]):=by rw[l,a2];simp
 have hlt:M.length<Ma.length:=(Z0a.1 i).1;have g:=B1y gl u x Ma hf.1 hf.2.2;have z:=A5T x u;have ae:=hf.2.2;have a1:=C1E x u;unfold C5b A7R;rw[u.row_eq,hx]at g|-;refine A0r hB func179 ?_;simp -dsimp[A0j];rw[<-a2,<-l];refine A0g func125 g ?_;generalize hr:A1h x u=r at*;rcases D9l r with rfl|⟨w,rfl⟩|⟨rs,p,w,rfl⟩
 .simp -dsimp[A5u,A0f i,A0o,A0n,A0u hlt,A0h];exact⟨A0w o (Z0j _),.same ZBE .nil⟩
 .have a9:A0t [w]=[w.row]:=by rw[A0t,A0t]
  simp -dsimp[A5u,a9,A0f i,A0o,A0n,A0u hlt,A0h];exact⟨A0w o (Z0j _),.same ZBE .nil⟩
 .have a5:A5u (rs++[p,w])=.list 8 (A0t (rs++[p,w])) .no:=by rw[<-hr];exact B5Z (by rw[hr];simp)
  have hi:rs.length<(rs++[p,w]).length:=ZBG
  have aa:(A0t (rs++[p,w]))[rs.length]?=some p.row:=by rw[A8l _ _ hi];simp
  have w1:IntKind.i64.wrap (rs.length:Int)=rs.length:=by rw[A0R Q0 (by simp at z;omega)]
  have a4:¬(rs.length:Int)+2<2:=Q0;have y:(rs.length:Int)<rs.length+2:=Q0;have j:=A7W u hf p (a1 p Q1);obtain⟨M2,q⟩:=ex (Ma++[A0m.cells 31 p.row]);have a0:Grow Ma M2:=by rw[q];exact A0d.app none _ _
  have m:M2[Ma.length]?=some (A0m.cells 31 p.row):=by rw[q];simp
  have s:=a0.get i Q1;have a3:M.length<M2.length:=(Z0a.1 s).1;have ab:=A2D p.kids;have ad:A0I p.kids<A0y p:=by obtain⟨a,b,c,d,e,f⟩:=p;rw[A0y];show A0I f<_;omega
  have ac:=j.2.2;have a7:=((A0a.good_iff _).1 j.1).2.2.2.2.2.2.2.2;have a6:=A4l.1 (A4c _ j.2.1).2;have t:=C8Y gl (λk=>(A0N x k).isSome) 255 [.cptr [I x.act,I x.item,I x.n]] p.kids .no M2 Q0 (λk hk=>A0l func255 rfl rfl (D6V gl k x M2 ⟨a7 k hk,a6 k hk,by have:=A3O hk;omega⟩));rw[a5];simp -dsimp[a4,w1,aa,y,A0j,A0k,A0e,A0o,A0n];rw[<-q];rw[A0a.row_eq]at m;simp -dsimp[A0b m];refine A0g func254 t ?_;have a8:p.id.row=[I p.id.act,I p.id.item,I p.id.n]:=rfl;simp -dsimp[A0b m,A0f s,A0o,A0n,A0u a3,A0h,a8];exact⟨A0w (o.trans a0) (Z0j _),.same ZBE .nil⟩
end
end
def kl2(x k:A0a):Bool:=decide (k.kind=x.kind)&&decide (k.label=x.label)
def A4f(p x:A0a):Int:=if A4p p.kind x.kind=false then 9 else if p.kids.any (kl2 x)=true then 10 else 0
section
variable (gl:Nat->AV)
def D1S(k x:A0a)(M:Mem):A0c (WC gl) 238 [.agg k.row,.cptr x.row] M (λv M'=>v=B (kl2 x k)/\M'=M):=by
 rw[k.row_eq,x.row_eq];refine A0r hB func238 ?_;by_cases h1:k.kind=x.kind
 .by_cases h2:k.label=x.label
  .simp -dsimp[kl2,h1,h2]
  .have h3:¬x.label=k.label:=λh=>h2 h.symm;simp -dsimp[kl2,h1,h2,h3]
 .have h3:¬x.kind=k.kind:=λh=>h1 h.symm;simp -dsimp[kl2,h1,h3]
def B7S(a:gl 2=A1t)(p x:A0a)(M:Mem)(hp:p.kids.length<=3000):A0c (WC gl) 162 [.agg p.row,.agg x.row] M (λv M'=>v=I (A4f p x)/\M'=M):=by
 have h2:=D7b gl (kl2 x) 238 [.cptr x.row] p.kids .no M hp (λk _=>A0l func238 rfl rfl (D1S gl k x M));rw[x.row_eq]at h2|-;rw[p.row_eq];refine A0r hB func162 ?_;simp -dsimp;refine A0g func236 (B2E gl M a p.kind x.kind) ?_;unfold A4f;cases h:A4p p.kind x.kind
 .simp -dsimp
 .simp -dsimp;refine A0g func237 h2 ?_;cases p.kids.any (kl2 x)<;>simp -dsimp
def D5Z(p:IdD->Bool)(g:FuncId)(cap:List AV)(l:List IdD)(o:Own)(M:Mem)(hl:l.length<=3000)(hp:∀x∈l,A2Z (WC gl) g (.agg x.row::cap) M (λv M'=>v=B (p x)/\M'=M)):
 A0c (WC gl) 244 [.list 3 (A7x l) o,.func (.func g) [] cap] M (λv M'=>v=I (A2l p l 0)/\M'=M):=by
 refine A0r hB func244 ?_
 simp -dsimp
 refine A1y hB l.length 8 (λT M1=>∃i:Nat,i<=l.length/\M1=M/\T 0=.list 3 (A7x l) o/\T 1=.func (.func g) [] cap/\T 7=I l.length/\T 8=I i/\A2l p l 0=A2l p (l.drop i) i) ?_ ?_
 .exact⟨0,Q0,rfl,Q1,Q1,Q1,Q1,Q1⟩
 .rintro T M1 ⟨i,i1,rfl,t0,t1,t7,t8,ho⟩;by_cases hi:i<l.length
  .have a:(i:Int)<l.length:=Q0;have w1:=A1O (i:=i) Q0;have hd:l.drop i=l[i]::l.drop (i+1):=Z0m hi;(have b:(A7x l)[i]?=some l[i].row:=by simp[A7x,hi]);rw[hd,A2l]at ho;simp -dsimp[t0,t1,t7,t8,hi,a,b];refine A0s (hp l[i] (Z0s hi)) ?_;rintro _ _ ⟨rfl,rfl⟩;cases hq:p l[i]
   .rw[hq,Z0d Q1]at ho;simp -dsimp[t0,t1,t7,t8,w1];exact⟨⟨i+1,Q3,rfl,ho⟩,Q3⟩
   .rw[hq,Z0c rfl]at ho;simp -dsimp[t0,t1,t7,t8,ho]
  .have a:¬(i:Int)<l.length:=Q0;rw[show l.drop i=[]from Z0v Q0]at ho;simp -dsimp[t0,t1,t7,t8,a,ho,A2l]
def D6Z(p:IdD->Bool)(g:FuncId)(cap:List AV)(l:List IdD)(o:Own)(M:Mem)(hl:l.length<=3000)(hp:∀x∈l,A2Z (WC gl) g (.agg x.row::cap) M (λv M'=>v=B (p x)/\M'=M)):
 A0c (WC gl) 166 [.list 3 (A7x l) o,.func (.func g) [] cap] M (λv M'=>v=B (l.any p)/\M'=M):=by
 refine A0r hB func166 ?_
 simp -dsimp
 refine A0g func244 (D5Z gl p g cap l o M hl hp) ?_
 rw[<-A5J _ l 0]
 simp -dsimp
def C3H(l:List IdD)(o:Own)(x:IdD)(M:Mem)(hl:l.length<=3000):A0c (WC gl) 245 [.list 3 (A7x l) o,.agg x.row] M (λv M'=>v=I (A2l (λy:IdD=>decide (y=x)) l 0)/\M'=M):=by
 have hx:x.row=[I x.act,I x.item,I x.n]:=rfl;rw[hx];refine A0r hB func245 ?_;simp -dsimp;refine A1y hB l.length 8 (λT M1=>∃i:Nat,i<=l.length/\M1=M/\T 0=.list 3 (A7x l) o/\T 3=.cptr [I x.act,I x.item,I x.n]/\T 7=I l.length/\T 8=I i/\A2l (λy:IdD=>decide (y=x)) l 0=A2l (λy:IdD=>decide (y=x)) (l.drop i) i) ?_ ?_
 .exact⟨0,Q0,rfl,Q1,Q1,Q1,Q1,Q1⟩
 .rintro T M1 ⟨i,i1,rfl,t0,t3,t7,t8,ho⟩;by_cases hi:i<l.length
  .have a:(i:Int)<l.length:=Q0;have w1:=A1O (i:=i) Q0;have hd:l.drop i=l[i]::l.drop (i+1):=Z0m hi;(have b:(A7x l)[i]?=some l[i].row:=by simp[A7x,hi]);have hy:l[i].row=[I l[i].act,I l[i].item,I l[i].n]:=rfl;have he:=C2D x l[i];rw[hd,A2l]at ho;simp -dsimp[t0,t3,t7,t8,hi,a];refine A0X hB (A0B gl) (λ_=>0) (λ_=>0) (by rfl) Q2 ?_;simp -dsimp[t0,t3,t7,t8,hi,a,b,hy,he];by_cases hq:l[i]=x
   .rw[Z0A hq,Z0c rfl]at ho;simp -dsimp[t0,t3,t7,t8,ho,hq]
   .rw[Z0I hq,Z0d Q1]at ho;have c:¬x=l[i]:=λh=>hq h.symm;simp -dsimp[t0,t3,t7,t8,w1,c];exact⟨⟨i+1,Q3,rfl,ho⟩,Q3⟩
  .have a:¬(i:Int)<l.length:=Q0;rw[show l.drop i=[]from Z0v Q0]at ho;simp -dsimp[t0,t3,t7,t8,a,ho,A2l]
def B9b(l:List IdD)(o:Own)(x:IdD)(M:Mem)(hl:l.length<=3000):A0c (WC gl) 168 [.list 3 (A7x l) o,.agg x.row] M (λv M'=>v=B (l.any λy=>decide (y=x))/\M'=M):=by have hx:x.row=[I x.act,I x.item,I x.n]:=rfl;have a:=C3H gl l o x M hl;rw[hx]at a|-;refine A0r hB func168 ?_;simp -dsimp;refine A0g func245 a ?_;rw[<-A5J _ l 0];simp -dsimp
def C7d(l:List IdD)(x:IdD)(b:Nat)(M:Mem)(hl:l.length<=3000)(hb:M[b]?=some (.cells 73 [.list 3 (A7x l) .no])):A0c (WC gl) 167 [.agg x.row,.ptr b 0] M (λv M'=>v=B (l.any λy=>decide (y=x))/\M'=M):=by have hx:x.row=[I x.act,I x.item,I x.n]:=rfl;have a:=B9b gl l .no x M hl;rw[hx]at a|-;refine A0r hB func167 ?_;simp -dsimp[A0b hb];refine A0g func168 a ?_;simp -dsimp
end
def A2p(act item:Int):Nat->List ByteArray->List A0z
 |_,[]=>[]
 |n,s::l=>⟨s,act,item,n⟩::A2p act item (n+1) l
@[simp] def A7f(b a:Int):∀(l:List ByteArray) (n:Nat),(A2p b a n l).length=l.length
 |[],_=>rfl
 |s::l,n=>by simp[A2p,A7f b a l (n+1)]
def C1g(d c:Int):∀(a b:List ByteArray) (n:Nat),A2p d c n (a++b)=A2p d c n a++A2p d c (n+a.length) b
 |[],b,n=>by simp[A2p]
 |s::a,b,n=>by rw[Z0Q,A2p,C1g d c a b (n+1),A2p,Z0Q,Z0r,show n+1+a.length=n+(a.length+1)by omega]
section
variable (gl:Nat->AV)
def B8h(ws:List A0z)(o:Own)(M:Mem)(hl:ws.length<=100000000):A0c (WC gl) 284 [.list 4 (A0i ws) o] M (λv M'=>v=.list 1 (A0K (A1q ws)) .no/\M'=M):=by
 refine A0c.dataX ?_;refine A0r (hQ [16]) func284 ?_;simp -dsimp;refine A1y (hQ [16]) ws.length 8 (λT M1=>∃i:Nat,i<=ws.length/\T 0=.list 4 (A0i ws) o/\T 6=.list 4 (A0i ws) o/\T 7=I ws.length/\T 8=I i/\A1r 9 1 A8m M1 (T 3) (A1q (ws.take i))/\Grow M M1/\A1L M.length (T 3)) ?_ ?_
 .exact⟨0,Q0,Q1,Q1,Q1,Q1,by simpa[A1q]using A1r.nil,Grow.refl _,by simp[A1L]⟩
 rintro T M1 ⟨i,i1,t0,t6,t7,t8,hv,hg,hL⟩;by_cases hi:i<ws.length
 .have a:(i:Int)<ws.length:=Q0;have w1:IntKind.i64.wrap ((i:Int)+1)=(i+1:Nat):=by rw[A0R Q0 Q0];omega
  generalize c:T 3=ov at*;have d:(M1++[A0m.cells 259 [S ws[i].text,I ws[i].act,I ws[i].item,I ws[i].at_]])[M1.length]?=some (A0m.cells 259 [S ws[i].text,I ws[i].act,I ws[i].item,I ws[i].at_]):=ZBG
  have b:A1r 9 1 A8m (M1++[A0m.cells 259 [S ws[i].text,I ws[i].act,I ws[i].item,I ws[i].at_]]) ov (A1q (ws.take i)):=hv.keep (A0d.app none M1 _) Q1;have ht:A1q (ws.take (i+1))=A1q (ws.take i)++[ws[i].text]:=by rw[A1q,A1q,Z0z,Z0g hi,Z1f];rfl
  simp -dsimp[t0,t6,t7,t8,hi,a,c,A0j,A0k,A0e,A0z.row,A0b d,A0x,A1g];refine A3B (C:=WC gl) (enc:=A8m) (e:=9) (sz:=1) (news:=[ws[i].text]) B7u C3S D3I (λ_=>rfl) b ZDC (by simp[A1q];omega) rfl ?_;intro v' M' h1 h2 h3 _;obtain⟨k1,k2⟩:=A3f hg hL h2 h3;simp -dsimp[t0,t6,t7,t8,w1];exact⟨⟨i+1,Q3,rfl,by rw[ht];exact h1,k1,k2⟩,Q3⟩
 .have a:¬(i:Int)<ws.length:=Q0;rw[Z0e Q0]at hv;simp -dsimp[t0,t6,t7,t8,a];refine⟨hg,?_⟩;have:=A3i (enc:=A8m) (λ_=>rfl) (λn x=>by simp[A1i,bdd]) hv hL;exact this
def B3c(l:List ByteArray)(o:Own)(b a:Int)(n:Nat)(M:Mem)(hl:l.length<=100000000)(hn:n<=1000000000):A0c (WC gl) 177 [.list 1 (A0K l) o,I b,I a,I n] M (λv M'=>v=.list 4 (A0i (A2p b a n l)) .no/\M'=M):=by
 refine A0c.dataX ?_;refine A0r (hQ [29]) func177 ?_;simp -dsimp;refine A1y (hQ [29]) l.length 14 (λT M1=>∃i:Nat,i<=l.length/\T 1=I b/\T 2=I a/\T 3=I n/\T 12=.list 1 (A0K l) o/\T 13=I l.length/\T 14=I i/\A1r 259 4 A0z.row M1 (T 9) (A2p b a n (l.take i))/\Grow M M1/\A1L M.length (T 9)) ?_ ?_
 .exact⟨0,Q0,Q1,Q1,Q1,Q1,Q1,Q1,by simpa[A2p]using A1r.nil,Grow.refl _,by simp[A1L]⟩
 rintro T M1 ⟨i,i1,t1,t2,t3,g,d,f,hv,hg,hL⟩;by_cases hi:i<l.length
 .have c:(i:Int)<l.length:=Q0;have w1:IntKind.i64.wrap ((i:Int)+1)=(i+1:Nat):=by rw[A0R Q0 Q0];omega
  have w2:IntKind.i64.wrap ((n:Int)+i)=(n:Int)+i:=ZBN
  generalize k:T 9=ov at*;have j:(A0K l)[i]?=some [S l[i]]:=by simp[A0K,hi]
  have ht:A2p b a n (l.take (i+1))=A2p b a n (l.take i)++[⟨l[i],b,a,(n:Int)+i⟩]:=by rw[Z0z,Z0g hi,C1g];simp[A2p,Z1F (Z4t hi)]
  have p:A0A prog 257 [(0,I b),(1,I a),(2,I ((n:Int)+i))]=some (.agg [I b,I a,I ((n:Int)+i)]):=ZAC
  have m:A0A prog 259 [(0,S l[i]),(1,.agg [I b,I a,I ((n:Int)+i)])]=some (.agg [S l[i],I b,I a,I ((n:Int)+i)]):=ZAC
  simp -dsimp[t1,t2,t3,g,d,f,hi,c,j,k,w2,p,m,A0x,A1g,AV.storable,AV.cells];refine A3B (C:=WC gl) (enc:=A0z.row) (e:=259) (sz:=4) (news:=[⟨l[i],b,a,(n:Int)+i⟩]) B9K C8M C2M (λ_=>rfl) hv (by simp[A0D,A0z.row]) ZAB rfl ?_;intro v' M' h1 h2 h3 _;obtain⟨k1,k2⟩:=A3f (X:=[]) hg hL ZAU ZBR;simp -dsimp[t1,t2,t3,g,d,f,w1];exact⟨⟨i+1,Q3,rfl,by rw[ht];exact h1,k1,k2⟩,Q3⟩
 .have c:¬(i:Int)<l.length:=Q0;rw[Z0e Q0]at hv;simp -dsimp[t1,t2,t3,g,d,f,c];refine⟨hg,?_⟩;exact A3i (enc:=A0z.row) (λ_=>rfl) A4H hv hL
end
abbrev A8J(act item:Int)(n w:Nat):A0m:=.cells 282 [I act,I item,I n,I w]
section
variable (gl:Nat->AV)
def C1x(ws:List A0z)(o:Own)(c a:Int)(n w b:Nat)(M:Mem)(hl:ws.length<=100000000)(hw:w<=1000000000)(hb:M[b]?=some (A8J c a n w)):A0c (WC gl) 280 [.ptr b 0,.list 4 (A0i ws) o] M (λv M'=>v=.list 4 (A0i (A2p c a w (A1q ws))) .no/\M'=M.set b (A8J c a n (w+ws.length))):=by
 have hs:=λM=>B8h gl ws o M hl
 have hm:=λM=>B3c gl (A1q ws) .no c a w M (by simpa[A1q]using hl) hw
 have w1:IntKind.i64.wrap ((w:Int)+ws.length)=(w:Int)+ws.length:=ZBN
 have d:(A1q ws).length=ws.length:=by simp[A1q]
 refine A0r hB func280 ?_
 simp -dsimp
 refine A0X hB (A0B gl) (λk=>if k=5\/k=9\/k=13 then 1 else 0) (λ_=>b) (by rfl) Q2 ?_
 simp -dsimp
 refine A2y func284 hs ?_
 simp -dsimp[A0b hb,A1e,A5t]
 refine A2y func177 hm ?_
 simp -dsimp[A0b hb,A0f hb,d,w1,A8J]
end
mutual
def wcU:A0a->Nat
 |.mk _ _ _ h ws ks=>h.length+ws.length+wcL ks
def wcL:List A0a->Nat
 |[]=>0
 |k::ks=>wcU k+wcL ks
end
mutual
def A3j(a i:Int):A0a->Nat->Nat->A0a
 |.mk _ k l h ws ks,n,w=>.mk ⟨a,i,(n+1:Nat)⟩ k l (A2p a i w (A1q h)) (A2p a i (w+h.length) (A1q ws)) (A2i a i ks (n+1) (w+h.length+ws.length))
def A2i(a i:Int):List A0a->Nat->Nat->List A0a
 |[],_,_=>[]
 |k::ks,n,w=>A3j a i k n w::A2i a i ks (n+A0y k) (w+wcU k)
end
def A8h(a i:Int):∀(ks:List A0a) (n w:Nat),(A2i a i ks n w).length=ks.length
 |[],_,_=>by simp[A2i]
 |k::ks,n,w=>by rw[A2i,Z0r,A8h a i ks,Z0r]
def B8X(a i:Int):∀(xs ys:List A0a) (n w:Nat),A2i a i (xs++ys) n w=A2i a i xs n w++A2i a i ys (n+A0I xs) (w+wcL xs)
 |[],ys,n,w=>by simp[A2i,A0I,wcL]
 |x::xs,ys,n,w=>by rw[Z0Q,A2i,B8X a i xs ys,A2i,A0I,wcL,Z0Q];simp only[Z2F]
def B0e:∀(xs ys:List A0a),A0I (xs++ys)=A0I xs+A0I ys
 |[],ys=>by rw[A0I];simp
 |x::xs,ys=>by rw[Z0Q,A0I,A0I,B0e xs ys];omega
def C8P:∀(xs ys:List A0a),wcL (xs++ys)=wcL xs+wcL ys
 |[],ys=>by rw[wcL];simp
 |x::xs,ys=>by rw[Z0Q,wcL,wcL,C8P xs ys];omega
def C8E:∀{ks:List A0a} {i:Nat} (h:i<ks.length),wcL (ks.take i)+wcU ks[i]<=wcL ks
 |k::ks,0,h=>by simp[wcL]
 |k::ks,i+1,h=>by have:=C8E (ks:=ks) (i:=i) ZAJ;simp only[Z1h,wcL,Z1P];omega
def B3F{M:Mem}{v:AV}{l:List A0a}(h:A1r 31 8 A0a.row M v l){i:Nat}(hi:i<l.length)(y:A0a):∃f g M',v=.vref f g 8 0 l.length/\A0E prog 31 M (.vptr f g (i*8))=some (.agg l[i].row)/\A0k (some 8) M (.vptr f g (i*8)) (.agg y.row)=some M'/\A1r 31 8 A0a.row M' v (l.set i y)/\M'.length=M.length/\∀j,j≠f->M'[j]?=M[j]?:=by
 have d:=h.at_ (P:=prog) (t:=31) A0a.row_len D2q D0r hi
 rcases h with⟨rfl,rfl⟩|⟨f,g,b,rfl,hm,hl⟩
 .simp at hi
 have hlt:f<M.length:=(Z0a.1 hm).1
 have a:l=l.take i++l[i]::l.drop (i+1):=by rw[<-Z0m hi,Z1j]
 have c:((l.take i).flatMap A0a.row).length=i*8:=by rw[A2d A0a.row_len,Z0t,Z1F Q0]
 have e:A0e (l.flatMap A0a.row) (i*8) y.row=(l.set i y).flatMap A0a.row:=by
  have e1:l.set i y=l.take i++y::l.drop (i+1):=Z2r.trans (Z0c hi);rw[e1,Z1n,Z0y];unfold A0e
  conv=>lhs;rw[a]
  rw[Z1n,Z0y,Z1D Q0,Z0e Q0,Z0F];congr 2;rw[Z4v,c,Z1u (by rw[c];simp),Z1y,A0a.row_len,Nat.add_sub_cancel_left,Z4v,A0a.row_len,Z4w,Z1u Q1];rfl
 refine⟨f,g,M.set f (.vec 31 8 ((l.set i y).flatMap A0a.row) g (A0Q 8 g (i*8) b)),rfl,?_,?_,.inr ⟨f,g,A0Q 8 g (i*8) b,Q1,ZDE,?_⟩,Q1,λj hj=>Z0f Q0⟩
 .obtain⟨p,e1,_,e2,_⟩:=d;simp[hi]at e1;rw[<-e1]at e2;exact e2
 .simp only[A0k,hm,hl];rw[Z0c ZCB];simp only[AV.cells];rw[e]
 .unfold A0Q;rw[Z1Q];exact A3K _ hl
def D5V:B6S prog 31=some 120:=Q2
def C7b{ks:List A0a}{M:Mem}(hl:ks.length<=3000):∃zs,A5l prog 25 (I ks.length) (I ks.length) M=some (.vref M.length 0 8 0 ks.length,M++[.vec 31 8 zs 0 [(0,ks.length)]])/\A9k prog 25 25 (M++[.vec 31 8 zs 0 [(0,ks.length)]]) (.vref M.length 0 8 0 ks.length) (.list 8 (A0t ks) .no)=some (I ks.length,M++[.vec 31 8 (ks.flatMap A0a.row) 0 [(0,ks.length)]]):=by
 have hz:((List.replicate ks.length (zU)).flatten).length=ks.length*8:=by simp[Z3X,zU]
 refine⟨(List.replicate ks.length zU).flatten,?_,?_⟩
 .have h1:(ks.length:Int).toNat*8<=16777216:=Q0;have h2:ks.length*8<=16777216:=Q0;have h3:(120:Int)*ks.length<=281474976710656:=Q0;simp[A5l,zU,D5V,h2,h3]
 .have a:(ks.flatMap A0a.row).length=ks.length*8:=A2d A0a.row_len ks;have c:A0e (List.replicate ks.length zU).flatten 0 (ks.flatMap A0a.row)=ks.flatMap A0a.row:=by unfold A0e;rw[Z2c,Z1y,Z0P,Z1u (by rw[hz,a];exact Z0j _),Z1b]
  have b:(M++[A0m.vec 31 8 (List.replicate ks.length zU).flatten 0 [(0,ks.length)]])[M.length]?=some (.vec 31 8 (List.replicate ks.length zU).flatten 0 [(0,ks.length)]):=ZBG
  have hu:=E5U;simp only[A9k,A8p,D0r,A0D,A9Q,A8k,b,List.lookup,Z2h];by_cases h0:ks.length=0
  .have:ks=[]:=Z0w h0;subst this;simp
  .simp only[Z1S,c];simp[h0,A0Q,a,-List.length_flatMap]
def B8T{o:Option Nat}{M0 M:Mem}(h:A0d o M0 M):A0d o M0 (A3y M M0.length):=by refine⟨by simpa using h.1,λi hi ho=>?_⟩;have h2:=h.2 i hi ho;rw[<-h2];have:i<M.length:=Z0S hi h.1;rw[Z0g this];exact B3u (Z0g this) λ_ _ _ _ _ _=>hi
def D5U{α:Type}(xs ys:List α)(x y:α):(xs++x::ys).set xs.length y=xs++y::ys:=ZBG
def Still.any{M:Mem}{n:Nat}{ok:AV->Prop}{a d:List AV}(h:Still M n ok a d):Still M n (λ_=>True) a d:=by
 induction h with
 |nil=>exact .nil
 |same _ _ ih=>exact .same trivial ih
 |nilS _ ih=>exact .nilS ih
 |vec h1 h2 h3 h3' h4 h5 _ _ ih1 ih2=>exact .vec h1 h2 h3 h3' h4 h5 ih1 ih2
 |dis _ _ ih=>exact .dis trivial ih
 |agg _ _ ih1 ih2=>exact .agg ih1 ih2
 |tuple _ _ ih1 ih2=>exact .tuple ih1 ih2
structure TrM (M Mi:Mem) (b c:Nat) (sb:A0m) (cc:List AV):Prop where
 kb:A0d (some b) M Mi
 hb:Mi[b]?=some sb
 hc:Mi[c]?=some (.cells 31 cc)
 hr:Mi[c+1]?=some z8
section
variable {M Mi:Mem} {b c:Nat} {sb:A0m} {cc:List AV}
def TrM.setb(h:TrM M Mi b c sb cc)(a:b<c)(s':A0m):TrM M (Mi.set b s') b c s' cc:=by have hl:=(Z0a.1 h.hb).1;exact⟨h.kb.trans (A0d.set _ _ _),by simp[hl],by rw[Z0f Q0];exact h.hc,by rw[Z0f Q0];exact h.hr⟩
def TrM.setc(h:TrM M Mi b c sb cc)(a:b<c)(d:M.length<=c)(c':List AV):TrM M (Mi.set c (.cells 31 c')) b c sb c':=by have hl:=(Z0a.1 h.hc).1;refine⟨⟨by simpa using h.kb.1,λi hi ho=>by rw[Z0f Q0];exact h.kb.2 i hi ho⟩,by rw[Z0f Q0];exact h.hb,by simp[hl],by rw[Z0f Q0];exact h.hr⟩
def TrM.app(h:TrM M Mi b c sb cc)(X:Mem):TrM M (Mi++X) b c sb cc:=by have hk:Grow Mi (Mi++X):=A0d.app none _ _;exact⟨h.kb.trans hk.of_none,hk.get h.hb Q1,hk.get h.hc Q1,hk.get h.hr Q1⟩
end
def hTr:A2r:=⟨λd=>d !=3,λ_=>false,λ_=>false⟩
@[simp] def E4z:hTr.imm=λd=>d !=3:=(rfl)
def E0Y{a b c:Int}:A0A prog 28 [(0,I a),(1,I b),(2,I c)]=some (.agg [I a,I b,I c]):=ZAC
section
variable (gl:Nat->AV)
set_option maxHeartbeats 1000000 in
def B8d:∀(u:A0a) (d a:Int) (n w b:Nat) (M:Mem),u.good->u.lims->A0y u<=3000->n+A0y u<=1000000->w+wcU u<=1000000000->M[b]?=some (A8J d a n w)->
 A0c (WC gl) 235 [.ptr b 0,.agg u.row] M (λv M'=>v=.agg (A3j d a u n w).row/\A0d (some b) M M'/\M'[b]?=some (A8J d a (n+A0y u) (w+wcU u)))
 |.mk id kind lab hd ws ks,d,a,n,w,b,M,hg,hlm,a6,hn,hw,hb=>by
  obtain⟨_,_,bg,_,b6,_,ba,b3,a7⟩:=(A0a.good_iff _).1 hg;have a7:∀k∈ks,k.good:=a7;obtain⟨⟨ab,a8,bi,-⟩,aa⟩:=A4c _ hlm;have ab:hd.length<=100000000:=ab;have a8:ws.length<=100000000:=a8;have aa:=A4l.1 aa;have bf:1+A0I ks<=3000:=by rwa[A0y]at a6
  have bh:n+(1+A0I ks)<=1000000:=by rwa[A0y]at hn
  have bd:w+(hd.length+ws.length+wcL ks)<=1000000000:=by rwa[wcU]at hw
  have be:=A2D ks;have al:(A0a.mk id kind lab hd ws ks).row=[I id.act,I id.item,I id.n,I kind,S lab,.list 4 (A0i hd) .no,.list 4 (A0i ws) .no,.list 8 (A0t ks) .no]:=ZDD
  refine A0c.stillN ?_;rw[al];have am:b<M.length:=(Z0a.1 hb).1;obtain⟨c,hc⟩:=ex (M.length);obtain⟨M1,a9⟩:=ex (M++[A0m.cells 31 [I id.act,I id.item,I id.n,I kind,S lab,.list 4 (A0i hd) .no,.list 4 (A0i ws) .no,.list 8 (A0t ks) .no],z8]);have f1:TrM M M1 b c (A8J d a n w) [I id.act,I id.item,I id.n,I kind,S lab,.list 4 (A0i hd) .no,.list 4 (A0i ws) .no,.list 8 (A0t ks) .no]:=by rw[a9,hc];exact⟨A0d.app _ _ _,by rw[Z0o am];exact hb,Q1,by simp[Z0Z]⟩
  have m:b<c:=Q0;have y:M.length<=c:=Q0;have w1:IntKind.i64.wrap ((n:Int)+1)=(n:Int)+1:=ZBN
  refine A0r hTr func235 ?_;simp -dsimp[A0j];rw[<-a9,<-hc];clear a9;simp -dsimp[A0b f1.hb,A0f f1.hb,w1];have f2:=f1.setb m (A8J d a (n+1) w);rw[show(A0m.cells 282 [I d,I a,I ((n:Int)+1),I w])=A8J d a (n+1) w by simp[A8J]];generalize M1.set b (A8J d a (n+1) w)=M2 at*;refine A0X hTr (A0B gl) (λk=>if k=3\/k=7\/k=11 then 1 else if k=14 then 2 else 0) (λ_=>b) (by rfl) Q2 ?_;simp -dsimp[A0b f2.hb,A1e,A5t,E0Y,A0f f2.hc];have f3:=f2.setc m y [I d,I a,I ((n:Int)+1),I kind,S lab,.list 4 (A0i hd) .no,.list 4 (A0i ws) .no,.list 8 (A0t ks) .no];generalize M2.set c (.cells 31 [I d,I a,I ((n:Int)+1),I kind,S lab,.list 4 (A0i hd) .no,.list 4 (A0i ws) .no,.list 8 (A0t ks) .no])=M3 at*;simp -dsimp[A0b f3.hc];refine A3R func280 (C1x gl hd .no d a (n+1) w b M3 ab Q0 f3.hb) ?_;rintro _ _ ⟨rfl,rfl⟩;have f4:=f3.setb m (A8J d a (n+1) (w+hd.length));generalize M3.set b (A8J d a (n+1) (w+hd.length))=M4 at*;obtain⟨g,z⟩:∃g,g=A2p d a w (A1q hd):=⟨_,rfl⟩;rw[<-z];simp -dsimp[A0f f4.hc];have f5:=f4.setc m y [I d,I a,I ((n:Int)+1),I kind,S lab,.list 4 (A0i g) .no,.list 4 (A0i ws) .no,.list 8 (A0t ks) .no];generalize M4.set c (.cells 31 [I d,I a,I ((n:Int)+1),I kind,S lab,.list 4 (A0i g) .no,.list 4 (A0i ws) .no,.list 8 (A0t ks) .no])=M5 at*;simp -dsimp[A0b f5.hc];refine A3R func280 (C1x gl ws .no d a (n+1) (w+hd.length) b M5 a8 Q0 f5.hb) ?_;rintro _ _ ⟨rfl,rfl⟩;have f6:=f5.setb m (A8J d a (n+1) (w+hd.length+ws.length));generalize M5.set b (A8J d a (n+1) (w+hd.length+ws.length))=M6 at*;obtain⟨l,a5⟩:∃l,l=A2p d a (w+hd.length) (A1q ws):=⟨_,rfl⟩;rw[<-a5];simp -dsimp[A0f f6.hc];have f7:=f6.setc m y [I d,I a,I ((n:Int)+1),I kind,S lab,.list 4 (A0i g) .no,.list 4 (A0i l) .no,.list 8 (A0t ks) .no];generalize M6.set c (.cells 31 [I d,I a,I ((n:Int)+1),I kind,S lab,.list 4 (A0i g) .no,.list 4 (A0i l) .no,.list 8 (A0t ks) .no])=M7 at*;obtain⟨zs,aq,ai⟩:=C7b (ks:=ks) (M:=M7) Q0;have f8:=f7.app [A0m.vec 31 8 zs 0 [(0,ks.length)]];simp -dsimp[A0b f7.hc,aq,A0b f8.hc,ai];have f9:=f7.app [A0m.vec 31 8 (ks.flatMap A0a.row) 0 [(0,ks.length)]];have ad:A1r 31 8 A0a.row (M7++[A0m.vec 31 8 (ks.flatMap A0a.row) 0 [(0,ks.length)]]) (.vref M7.length 0 8 0 ks.length) ks:=.inr ⟨M7.length,0,[(0,ks.length)],rfl,Q1,ZAQ⟩;have b4:M.length<=M7.length:=f7.kb.1;have bc:c+1<M7.length:=(Z0a.1 f7.hr).1;obtain⟨f,hf⟩:=ex (M7.length);rw[<-hf]at ad|-;generalize M7++[A0m.vec 31 8 (ks.flatMap A0a.row) 0 [(0,ks.length)]]=M9 at*;refine A6V (.exit 0) (λT Mi=>T 3=.ptr c 0/\T 4=.ptr (c+1) 0/\T 5=.vref f 0 8 0 ks.length/\A1r 31 8 A0a.row Mi (.vref f 0 8 0 ks.length) (A2i d a ks (n+1) (w+hd.length+ws.length))/\TrM M Mi b c (A8J d a (n+1+A0I ks) (w+hd.length+ws.length+wcL ks)) [I d,I a,I ((n:Int)+1),I kind,S lab,.list 4 (A0i g) .no,.list 4 (A0i l) .no,.list 8 (A0t ks) .no]) ?_ ?_
  .refine A1y hTr ks.length 48 (λT Mi=>∃j:Nat,j<=ks.length/\T 0=.ptr b 0/\T 3=.ptr c 0/\T 4=.ptr (c+1) 0/\T 5=.vref f 0 8 0 ks.length/\T 47=I ks.length/\T 48=I j/\A1r 31 8 A0a.row Mi (.vref f 0 8 0 ks.length) (A2i d a (ks.take j) (n+1) (w+hd.length+ws.length)++ks.drop j)/\TrM M Mi b c (A8J d a (n+1+A0I (ks.take j)) (w+hd.length+ws.length+wcL (ks.take j))) [I d,I a,I ((n:Int)+1),I kind,S lab,.list 4 (A0i g) .no,.list 4 (A0i l) .no,.list 8 (A0t ks) .no]) ?_ ?_
   .exact⟨0,Q0,Q1,Q1,Q1,Q1,Q1,Q1,by simpa[A2i]using ad,by simpa[A0I,wcL]using f9⟩
   clear f1 f2 f3 f4 f5 f6 f7 f8 f9 ad aq ai;rintro T Mi ⟨j,j1,t0,t3,t4,t5,ah,af,o,fi⟩;by_cases hj:j<ks.length;(case neg=>have t:¬(j:Int)<ks.length:=Q0;rw[Z0e Q0,Z0v Q0,Z1b]at o;rw[Z0e Q0]at fi;simp -dsimp[t0,t3,t4,t5,ah,af,t];exact⟨o,fi⟩);have t:(j:Int)<ks.length:=Q0;have p:ks[j]∈ks:=Z0s hj;have bb:=A3O p;have:=A0a.kid_lt (u:=.mk id kind lab hd ws ks) p;have b9:=C8E hj;(have b5:A0I (ks.take j)+A0y ks[j]<=A0I ks:=by have:=B0e (ks.take j) (ks.drop j);rw[Z1j,Z0m hj,A0I]at this;omega);obtain⟨n',ag⟩:∃n',n'=n+1+A0I (ks.take j):=⟨_,rfl⟩;obtain⟨w',s⟩:∃w',w'=w+hd.length+ws.length+wcL (ks.take j):=⟨_,rfl⟩;have ac:=B8d ks[j] d a n' w' b Mi (a7 _ p) (aa _ p) Q0 Q0 Q0 (by rw[ag,s];exact fi.hb);have b1:=A8h d a (ks.take j) (n+1) (w+hd.length+ws.length);(have b7:(ks.take j).length=j:=by rw[Z0t,Z1F Q0]);obtain⟨xs,ao⟩:=ex (A2i d a (ks.take j) (n+1) (w+hd.length+ws.length));rw[<-ao]at o b1;have an:xs.length=j:=Q0;(have a0:(xs++ks.drop j).length=ks.length:=by simp;omega);(have ax:(xs++ks.drop j)[j]'Q0=ks[j]:=by rw[List.getElem_append_right Q0];simp[an]);obtain⟨f0,g0,-,e0,ak,-,-,-,-⟩:=B3F o (i:=j) Q0 ks[j];rw[a0]at e0;simp only[AV.vref.injEq,Z2J,Z1A]at e0;obtain⟨rfl,rfl⟩:=e0;rw[ax]at ak;(have ar:(xs++ks.drop j).set j (A3j d a ks[j] n' w')=A2i d a (ks.take (j+1)) (n+1) (w+hd.length+ws.length)++ks.drop (j+1):=by have e1:=D5U xs (ks.drop (j+1)) ks[j] (A3j d a ks[j] n' w');rw[an]at e1;rw[Z0m hj,e1,Z0z,Z0g hj,B8X,<-ao];simp[A2i,ag,s]);(have a6:n'+A0y ks[j]=n+1+A0I (ks.take (j+1)):=by rw[Z0z,Z0g hj,B0e];simp[A0I,ag];omega);(have ay:w'+wcU ks[j]=w+hd.length+ws.length+wcL (ks.take (j+1)):=by rw[Z0z,Z0g hj,C8P];simp[wcL,s];omega);simp -dsimp[t0,t3,t4,t5,ah,af,hj,t,ak];refine A3R func235 ac ?_;rintro _ M3 ⟨rfl,k1,k2⟩;have az:=o.keep k1 (λq hq e=>by simp at hq e;omega);obtain⟨f4,g4,M4,e4,-,ae,ap,b8,x⟩:=B3F az (i:=j) Q0 (A3j d a ks[j] n' w');rw[a0]at e4;simp only[AV.vref.injEq,Z2J,Z1A]at e4;obtain⟨rfl,rfl⟩:=e4;rw[ar]at ap;have b0:TrM M M4 b c (A8J d a (n+1+A0I (ks.take (j+1))) (w+hd.length+ws.length+wcL (ks.take (j+1)))) [I d,I a,I ((n:Int)+1),I kind,S lab,.list 4 (A0i g) .no,.list 4 (A0i l) .no,.list 8 (A0t ks) .no]:=by
    have a1:=k1.1;have a2:=(Z0a.1 fi.hc).1;have a3:=(Z0a.1 fi.hr).1;have a4:=fi.kb.1;refine⟨⟨Q0,λq hq ho=>?_⟩,?_,?_,?_⟩
    .rw[x q Q0,k1.2 q Q0 ho];exact fi.kb.2 q hq ho
    .rw[x b Q0,k2,a6,ay]
    .rw[x c Q0];exact k1.get fi.hc ZAB
    .rw[x (c+1) Q0];exact k1.get fi.hr ZAB
   have w2:=A1O (i:=j) Q0;simp -dsimp[t0,t3,t4,t5,ah,af,hj,t,ae,w2];exact⟨⟨j+1,by clear w2;omega,rfl,ap,b0⟩,by clear w2;omega⟩
  .rintro T Mi ⟨t3,t4,t5,o,fi⟩;have r:=fi.setc m y [I d,I a,I ((n:Int)+1),I kind,S lab,.list 4 (A0i g) .no,.list 4 (A0i l) .no,.vref f 0 8 0 ks.length];have bj:=(Z0a.1 fi.hr).1;have av:A1r 31 8 A0a.row (Mi.set c (.cells 31 [I d,I a,I ((n:Int)+1),I kind,S lab,.list 4 (A0i g) .no,.list 4 (A0i l) .no,.vref f 0 8 0 ks.length])) (.vref f 0 8 0 ks.length) (A2i d a ks (n+1) (w+hd.length+ws.length)):=o.keep (A0d.set _ _ _) (λq hq e=>by simp at hq e;omega);simp -dsimp[t3,t4,t5,A0f fi.hc];generalize Mi.set c (.cells 31 [I d,I a,I ((n:Int)+1),I kind,S lab,.list 4 (A0i g) .no,.list 4 (A0i l) .no,.vref f 0 8 0 ks.length])=Mj at*;have aj:c+1<Mj.length:=(Z0a.1 r.hr).1;simp -dsimp[t3,t4,t5,A0b r.hc,A0f r.hr,A0u aj,A0h];have au:=av.keep (A0d.set Mj (c+1) (.cells 31 [I d,I a,I ((n:Int)+1),I kind,S lab,.list 4 (A0i g) .no,.list 4 (A0i l) .no,.vref f 0 8 0 ks.length])) (λq hq e=>by simp at hq e;omega);have aw:A0d (some b) M (Mj.set (c+1) (.cells 31 [I d,I a,I ((n:Int)+1),I kind,S lab,.list 4 (A0i g) .no,.list 4 (A0i l) .no,.vref f 0 8 0 ks.length])):=⟨by simpa using r.kb.1,λi hi ho=>by rw[Z0f Q0];exact r.kb.2 i hi ho⟩;(have b2:(Mj.set (c+1) (.cells 31 [I d,I a,I ((n:Int)+1),I kind,S lab,.list 4 (A0i g) .no,.list 4 (A0i l) .no,.vref f 0 8 0 ks.length]))[b]?=some (A8J d a (n+1+A0I ks) (w+hd.length+ws.length+wcL ks)):=by rw[Z0f Q0];exact r.hb);refine⟨M.length,.agg (A3j d a (.mk id kind lab hd ws ks) n w).row,.agg ?_ .nil,rfl,B8T aw,?_⟩
   .rw[A3j,A0a.row,<-z,<-a5];have ae:=(B1q au (n:=M.length) (λq hq=>by simp at hq;omega)).any;simp only[Int.natCast_add,Int.cast_ofNat_Int];exact .same trivial (.same trivial (.same trivial (.same trivial (.same trivial (.same trivial (.same trivial ae))))))
   .rw[B3u b2 (λ_ _ _ _ _ h=>by simp at h),A0y,wcU];simp[A8J];omega
termination_by u=>SizeOf.sizeOf u
end
section
variable (gl:Nat->AV)
def D4L(u:A0a)(c a:Int)(M:Mem)(hf:Fit u)(hw:wcU u<=1000000000):A0c (WC gl) 161 [.agg u.row,I c,I a] M (λv M'=>v=.agg (A3j c a u 0 0).row/\M'=M):=by
 refine A0c.dataX ?_;obtain⟨b,hb⟩:=ex (M.length);obtain⟨M1,e⟩:=ex (M++[z8,A8J c a 0 0]);have h1:M1[b]?=some z8:=by rw[e,hb];simp
 have h2:M1[b+1]?=some (A8J c a 0 0):=by rw[e,hb];simp[Z0Z]
 have f:Grow M M1:=ZBJ
 have j:A0A prog 282 [(0,I c),(1,I a)]=some (.agg [I c,I a,I 0,I 0]):=ZAC
 have d:=B8d gl u c a 0 0 (b+1) M1 hf.1 hf.2.1 hf.2.2 (by have:=hf.2.2;omega) Q0 h2;rw[u.row_eq]at d|-;refine A0r hB func161 ?_;simp -dsimp[A0j,j,A0k,A0e,AV.storable,AV.cells];rw[show M++[z8,A0m.cells 282 [I c,I a,I 0,I 0]]=M1 by rw[e];simp[A8J],<-hb];refine A3R func235 d ?_;rintro _ M2 ⟨rfl,k1,k2⟩;have h3:=k1.get h1 Q1;have g:b<M2.length:=(Z0a.1 h3).1;have k:Grow M M2:=⟨by have:=f.1;have:=k1.1;omega,λi hi _=>by rw[k1.2 i (by have:=f.1;omega) ZAB];exact f.2 i hi Q1⟩;simp -dsimp[A0f h3,A0o,A0n,A0u g,A0h];exact⟨A0w k Q0,.same (by simp only[bdd];exact A1F _ _) .nil⟩
end
def B0L(s:A1o):Bool:=decide (s.k=0)&&decide (s.lab=⟨#[]⟩)
def C2B(i:Nat)(s:A1o):Prop:=(i=0/\s=A4i)\/(0<s.k/\s.k<=7/\A1z s.lab=true)
section
variable (gl:Nat->AV)
def B0s(s:A1o)(M:Mem):A0c (WC gl) 65 [.agg s.row] M (λv M'=>v=B (B0L s)/\M'=M):=by
 obtain⟨k,lab⟩:=s;have hr:(A1o.mk k lab).row=[I k,S lab]:=rfl;rw[hr];refine A0r hB func65 ?_;by_cases h1:k=0
 .by_cases h2:lab=⟨#[]⟩
  .simp -dsimp[h1,h2,B0L]
  .simp -dsimp[h1,h2,B0L]
 .simp -dsimp[h1,B0L]
set_option maxHeartbeats 1000000 in
def B6k(p:List A1o)(o:Own)(M:Mem)(hl:p.length<=9)(hp:∀i (h:i<p.length),C2B i p[i]):A0c (WC gl) 64 [.list 2 (A0O p) o] M (λv M'=>v=B true/\M'=M):=by
 refine A1N (λ_=>trivial) ?_;refine A0r hB func64 ?_;simp -dsimp;refine A1y hB p.length 7 (λT M1=>∃i:Nat,i<=p.length/\T 0=.list 2 (A0O p) o/\T 5=.list 2 (A0O p) o/\T 6=I p.length/\T 7=I i/\Grow M M1) ?_ ?_
 .exact⟨0,Q0,Q1,Q1,Q1,Q1,Grow.refl _⟩
 rintro T M1 ⟨i,i1,t0,t5,t6,t7,hg⟩;by_cases hi:i<p.length;case neg=>have a:¬(i:Int)<p.length:=Q0;have h9:(p.length:Int)<=9:=Q0;simp -dsimp[t0,t5,t6,t7,a,h9];exact hg
 have a:(i:Int)<p.length:=Q0;have w1:=A1O (i:=i) Q0;obtain⟨s,hs⟩:=ex (p[i]);have g:=hp i hi;rw[<-hs]at g;have l:p[i]=s:=hs.symm;have m:(A0O p)[i]?=some [I s.k,S s.lab]:=by simp[A0O,hi,hs,A1o.row]
 obtain⟨M2,b⟩:=ex (M1++[A0m.cells 78 [I s.k,S s.lab]]);have hX:M2[M1.length]?=some (A0m.cells 78 [I s.k,S s.lab]):=by rw[b];simp
 have e:Grow M M2:=by rw[b];exact hg.trans (A0d.app none _ _)
 have j:=B0s gl s M2;rw[show s.row=[I s.k,S s.lab]from rfl]at j;have c:∀M,A2Z (WC gl) 102 [S s.lab] M (λv M'=>v=B (A1z s.lab)/\M'=M):=λM=>A0l func102 rfl rfl (A1N (λ_=>trivial) (B3M gl M s.lab));have n:IntKind.i64.wrap 1=1:=ZAR
 by_cases h0:i=0
 .have r:(i:Int)=0:=Q0;subst h0;simp -dsimp[t0,t5,t6,t7,a,hi,m,l,A0j,A0k,A0e,A0o,A0n];rw[<-b];simp -dsimp[t0,t5,t6,t7,A0b hX];refine A0g func65 j ?_;cases hb:B0L s
  .rcases g with⟨_,rfl⟩|⟨q1,q2,q3⟩
   .simp[B0L,A4i]at hb
   have d:¬s.k<=0:=Q0;have f:¬s.k>7:=Q0;rw[q3]at c;simp -dsimp[t0,t5,t6,t7,A0b hX,d,f];refine A0s (c M2) ?_;rintro _ _ ⟨rfl,rfl⟩;simp -dsimp[t0,t5,t6,t7,w1,n];exact⟨⟨1,Q0,rfl,e⟩,Q0⟩
  .simp -dsimp[t0,t5,t6,t7,w1,n];exact⟨⟨1,Q0,rfl,e⟩,Q0⟩
 .rcases g with⟨q,_⟩|⟨q1,q2,q3⟩
  .exact absurd q h0
  have d:¬s.k<=0:=Q0;have f:¬s.k>7:=Q0;rw[q3]at c;simp -dsimp[t0,t5,t6,t7,a,hi,m,l,A0j,A0k,A0e,A0o,A0n];rw[<-b];simp -dsimp[t0,t5,t6,t7,A0b hX,h0,d,f];refine A0s (c M2) ?_;rintro _ _ ⟨rfl,rfl⟩;simp -dsimp[t0,t5,t6,t7,w1];exact⟨⟨i+1,Q3,rfl,e⟩,Q3⟩
end
def A2O(s:A1o)(k:A0a):Bool:=decide (k.kind=s.k)&&decide (k.label=s.lab)
section
variable (gl:Nat->AV)
def B4A(k:A0a)(s:A1o)(M:Mem):A0c (WC gl) 68 [.agg k.row,.agg s.row] M (λv M'=>v=B (A2O s k)/\M'=M):=by
 have hs:s.row=[I s.k,S s.lab]:=rfl;rw[k.row_eq,hs];refine A0r hB func68 ?_;by_cases h1:k.kind=s.k
 .by_cases h2:k.label=s.lab
  .simp -dsimp[A2O,h1,h2]
  .simp -dsimp[A2O,h1,h2]
 .simp -dsimp[A2O,h1]
def D1w(u:A0a)(o:Own)(M:Mem):A0c (WC gl) 46 [.agg u.row,.list 2 [] o] M (λv M'=>v=.list 8 (A0t [u]) .no/\M'=M):=by
 refine A0c.dataX ?_;have hv:=λM=>B6k gl [] o M Q1 Q1;simp only[A0O,Z1N]at hv;have a:A0t [u]=[u.row]:=by rw[A0t,A0t]
 have hb:=B5b M.length [u];rw[a]at hb|-;rw[u.row_eq]at hb|-;refine A0r (hQ [58]) func46 ?_;simp -dsimp;refine A0g func64 (hv M) ?_;simp -dsimp[A0j,A0x,A1g,AV.storable,AV.cells];exact⟨A0d.app none _ _,.dis hb .nil⟩
end
section
variable (gl:Nat->AV)
def C8s(u:A0a)(pv:AV)(R:List A0a)(M:Mem)(hR:R.length<=3000)(n:∀M,A0c (WC gl) 46 [.agg u.row,pv] M (λv M'=>v=.list 8 (A0t R) .no/\M'=M)):
 A0c (WC gl) 24 [.agg u.row,pv] M (λv M'=>v=.list 3 (A7x (R.map A0a.id)) .no/\M'=M):=by
 refine A0c.dataX ?_
 obtain⟨f,a⟩:=ex (R.map A0a.id)
 rw[<-a]
 have q:f.length=R.length:=ZCA
 rw[u.row_eq]at n|-
 refine A0r (hQ [20]) func24 ?_
 simp -dsimp
 refine A0g func46 (n M) ?_
 simp -dsimp
 refine A1y (hQ [20]) R.length 12 (λT M1=>∃i:Nat,i<=R.length/\T 10=.list 8 (A0t R) .no/\T 11=I R.length/\T 12=I i/\Grow M M1/\Arr 28 3 IdD.row M.length M1 (T 5) (f.take i)) ?_ ?_
 .exact⟨0,Q0,Q1,Q1,Q1,Grow.refl _,ZBX⟩
 rintro T M1 ⟨i,i1,b,d,c,hg,ha⟩
 by_cases hi:i<R.length
 case neg=>have g:¬(i:Int)<R.length:=Q0;rw[Z0e Q0]at ha;simp -dsimp[b,d,c,g];exact⟨hg,A3i (enc:=IdD.row) (λ_=>rfl) C7m ha.own ha.lat⟩
 have g:(i:Int)<R.length:=Q0
 have w1:=A1O (i:=i) Q0
 obtain⟨x,hx⟩:=ex (R[i])
 have o:R[i]=x:=hx.symm
 obtain⟨M2,j⟩:=ex (M1++[A0m.cells 31 x.row])
 have k:Grow M1 M2:=ZCM
 have hX:M2[M1.length]?=some (.cells 31 x.row):=by rw[j];simp
 have m:=ha.keep k
 have p:f.take (i+1)=f.take i++[x.id]:=by rw[Z0z,a,Z1i,Z0g hi,hx];rfl
 generalize l:T 5=ov at*
 simp -dsimp[b,d,c,l,hi,g,o,A0j,A0k,A0e,A0o,A0n]
 rw[<-j]
 rw[x.row_eq]at hX
 simp -dsimp[b,d,c,l,A0b hX,A0x,A1g,A0o,A0n]
 refine A3B (C:=WC gl) (enc:=IdD.row) (e:=28) (sz:=3) (news:=[x.id]) C8x D3R D3w (λ_=>rfl) m.own (by simp[A0D,IdD.row]) ZAB rfl ?_
 intro v' M' h1 h2 h3 _
 obtain⟨g1,g2⟩:=A3f (X:=[]) (hg.trans k) m.lat ZAU ZBR
 simp -dsimp[b,d,c,w1]
 exact⟨⟨i+1,Q3,rfl,g1,by rw[p];exact⟨h1,g2⟩⟩,Q3⟩
end
section
variable (gl:Nat->AV)
def C6s(l:List A0a)(M:Mem)(hl:l.length<=1000000):A0c (WC gl) 246 [.list 8 (A0t l) .no] M (λv M'=>A1r 31 8 A0a.row M' v l/\Grow M M'/\A1L M.length v):=by
 refine A0r hW func246 ?_;have tail:∀(K:AV->Mem->Prop) (tg:Tag K),(∀v M',(A1r 31 8 A0a.row M' v l/\Grow M M'/\A1L M.length v)->K v M')->A3s (WC gl) (A2e hW.own (some 7)) (A2e hW.vec (some 7)) 25 25 (.vref M.length 0 8 0 0) (.list 8 (A0t l) .no) (M++[.vec 31 8 [] 0 [(0,0)]]) K tg:=by intro K tg hk;have ho:A1r 31 8 A0a.row (M++[.vec 31 8 [] 0 [(0,0)]]) (.vref M.length 0 8 0 0) []:=.inr ⟨M.length,0,[(0,0)],rfl,Q1,ZAQ⟩;refine A3B (C:=WC gl) (enc:=A0a.row) (e:=31) (sz:=8) (news:=l) A8p B2D B1H A0a.row_len ho (by simp only[A0D,A8k,A9Q];simp) ZAB rfl ?_;intro v' M' h1 h2 h3 _;obtain⟨r1,r2⟩:=A3f (X:=[]) (A0d.app none M [.vec 31 8 [] 0 [(0,0)]]) (v:=.vref M.length 0 8 0 0) (λf hf=>by simp at hf;omega) ZAU ZBR;exact hk _ _ ⟨h1,r1,r2⟩
 cases l with
 |nil=>
  simp -dsimp[A0t];rw[A5B (.inl rfl) underlying25];intro b;cases b
  .simp -dsimp[A1C,A1g];refine tail _ _ λv M' h=>?_;simp -dsimp;exact h
  .simp -dsimp;exact⟨.nil,A0d.refl _ _,λf h=>by simp at h⟩
 |cons a l=>
  have hr:A0t (a::l)=a.row::A0t l:=by rw[A0t]
  rw[hr];simp -dsimp[A1C,A1g];rw[<-hr];refine tail _ _ λv M' h=>?_;simp -dsimp;exact h
end
mutual
def A8b(x:IdD):A0a->Option (List A1o)
 |.mk id _ _ _ _ ks=>if id=x then some []else B2r x ks
def B2r(x:IdD):List A0a->Option (List A1o)
 |[]=>none
 |k::ks=>match A8b x k with
  |some p=>some (⟨k.kind,k.label⟩::p)
  |none=>B2r x ks
end
mutual
def B9o(x:IdD):∀u:A0a,((A8b x u).getD []).length<=A0y u
 |.mk id _ _ _ _ ks=>by
  have:=B7l x ks;rw[A8b,A0y];split
  .simp
  .omega
def B7l(x:IdD):∀ks:List A0a,((B2r x ks).getD []).length<=A0I ks
 |[]=>by rw[B2r];simp
 |k::ks=>by
  have h1:=B9o x k;have h2:=B7l x ks;have h3:=A8q k;rw[B2r,A0I];cases hk:A8b x k with
  |none=>simp only;omega
  |some p=>rw[hk]at h1;simp only[Z1m,Z0r]at h1|-;have h4:=C9Y x k p hk;omega
def C9Y(x:IdD):∀(u:A0a) (p:List A1o),A8b x u=some p->p.length+1<=A0y u
 |.mk id _ _ _ _ ks,p,h=>by
  rw[A8b]at h;rw[A0y];split at h
  .simp only[Z0b]at h;subst h;simp
  .have:=B7l x ks;rw[h,Z1m]at this;omega
end
abbrev B4f(o:Option (List A1o)):AV:=.tuple [A5N (o.getD []),B o.isSome]
def B9c(p:List A1o):(p.map A1o.row).flatten=p.flatMap A1o.row:=by simp[List.flatMap]
def C1u{M:Mem}{n:Nat}{v:AV}{p:List A1o}(h:A1r 78 2 A1o.row M v p)(hn:A1L n v):Still M n (bdd n) [.tuple [v,B true]] [B4f (some p)]:=.tuple (Still.append (a:=[v]) (b:=[A5N p]) (c:=[B true]) (d:=[B true]) (A3i (enc:=A1o.row) (λ_=>rfl) C5I h hn) (.same trivial .nil)) .nil
section
variable (gl:Nat->AV)
def C3M{s:A1o}{M:Mem}:A1C prog 33 1 [(0,.agg [I s.k,S s.lab])] M=some (.vref M.length 0 2 0 1,M++[.vec 78 2 [I s.k,S s.lab] 0 [(0,1)]]):=by simp[A1C,A1g,AV.storable,AV.cells]
def D4t:∀(u:A0a) (x:IdD) (M:Mem),u.good->A0y u<=3000->A0c (WC gl) 27 [.agg u.row,.agg x.row] M (λv M'=>v=B4f (A8b x u)/\M'=M)
 |.mk id kind lab hd ws ks,x,M,hg,hc=>by
  obtain⟨_,_,a5,_,a3,_,a6,a1,q⟩:=(A0a.good_iff _).1 hg;have q:∀k∈ks,k.good:=q;have a4:1+A0I ks<=3000:=ZDP
  have a2:=A2D ks;have w:(A0a.mk id kind lab hd ws ks).row=[I id.act,I id.item,I id.n,I kind,S lab,.list 4 (A0i hd) .no,.list 4 (A0i ws) .no,.list 8 (A0t ks) .no]:=ZDD
  have hx:x.row=[I x.act,I x.item,I x.n]:=rfl;have he:=C2D id x;refine A0c.dataX ?_;rw[w,hx];refine A1f (hQ [33,35]) func27 rfl rfl rfl rfl rfl rfl ?_;by_cases h0:id=x
  .rw[Z0A h0]at he;(have hr:A8b x (.mk id kind lab hd ws ks)=some []:=by rw[A8b,Z0c h0]);rw[hr];simp -dsimp[he];exact⟨Grow.refl _,.tuple (.nilS (.same trivial .nil)) .nil⟩
  rw[Z0I h0]at he;have hr:A8b x (.mk id kind lab hd ws ks)=B2r x ks:=by rw[A8b,Z0d h0]
  rw[hr];generalize hR:B2r x ks=R;simp -dsimp[he];refine A0M (hQ [33,35]) (λT M1=>∃i:Nat,Grow M M1/\i<=ks.length/\T 3=.cptr [I x.act,I x.item,I x.n]/\T 15=.list 8 (A0t ks) .no/\T 16=I ks.length/\T 17=I i/\R=B2r x (ks.drop i)) (λT M1=>match T 17 with|.val (.int _ i)=>ks.length-i.toNat|_=>0) Q2 ?_ ?_
  .exact⟨0,Grow.refl _,Q0,Q1,Q1,Q1,Q1,by simp[hR]⟩
  rintro T M1 ⟨i,j,i1,t3,c,a,b,ho⟩;by_cases hi:i<ks.length;case neg=>have r:¬(i:Int)<ks.length:=Q0;rw[show ks.drop i=[]from Z0v Q0,B2r]at ho;subst ho;simp -dsimp[t3,c,a,b,r];exact⟨j,.tuple (.nilS (.same trivial .nil)) .nil⟩
  have r:(i:Int)<ks.length:=Q0;have w1:=A1O (i:=i) Q0;have d:ks[i]∈ks:=Z0s hi;have a7:=A3O d;rw[Z0m hi,B2r]at ho;obtain⟨M2,t⟩:=ex (M1++[A0m.cells 31 ks[i].row]);have m:Grow M1 M2:=ZCL
  have o:M2[M1.length]?=some (A0m.cells 31 ks[i].row):=by rw[t];simp
  have:=A0a.kid_lt (u:=.mk id kind lab hd ws ks) d;have g:=D4t ks[i] x M2 (q _ d) Q0;have l:=B9o x ks[i];rw[hx]at g;simp -dsimp[t3,c,a,b,hi,r,A0j,A0k,A0e,AV.storable,AV.cells];rw[<-t];simp -dsimp[t3,c,a,b,A0b o];refine A0s (A0l func27 rfl rfl g) ?_;rintro _ M2 ⟨rfl,rfl⟩;rw[A0a.row_eq]at o;cases hw:A8b x ks[i]with
  |none=>rw[hw]at ho;simp -dsimp[t3,c,a,b,w1];exact⟨⟨j.trans m,i+1,Q3,rfl,ho⟩,Q3⟩
  |some p=>rw[hw]at ho l;simp only[Z1m]at l;subst ho;obtain⟨s,hs⟩:=ex (⟨ks[i].kind,ks[i].label⟩:A1o);(have y:ks[i].kind=s.k:=by rw[hs]);(have z:ks[i].label=s.lab:=by rw[hs]);simp -dsimp[t3,c,a,b,A0b o,y,z,C3M];have a0:A1r 78 2 A1o.row (M2++[.vec 78 2 [I s.k,S s.lab] 0 [(0,1)]]) (.vref M2.length 0 2 0 1) [s]:=.inr ⟨M2.length,0,[(0,1)],rfl,by simp[A1o.row],ZAQ⟩;refine A3B (C:=WC gl) (enc:=A1o.row) (e:=78) (sz:=2) (news:=p) D2P D7S D8k (λ_=>rfl) a0 (by simp[A0D,B9c]) ZAB rfl ?_;intro v' M3 q1 q2 q3 _;obtain⟨r1,r2⟩:=A3f (X:=[]) ((j.trans m).trans (A0d.app none _ [.vec 78 2 [I s.k,S s.lab] 0 [(0,1)]])) (v:=.vref M2.length 0 2 0 1) (λf hf=>by simp at hf;have:=(j.trans m).1;omega) (by simpa using q2) (by simpa using q3);rw[<-hs];simp -dsimp;exact⟨r1,C1u q1 r2⟩
termination_by u=>SizeOf.sizeOf u
def A3a(u:A0a)(x:IdD):Option (List A1o):=(A8b x u).map (A4i::·)
def C2j(u:A0a)(x:IdD)(M:Mem)(hg:u.good)(hc:A0y u<=3000):A0c (WC gl) 12 [.agg u.row,.agg x.row] M (λv M'=>v=B4f (A3a u x)/\M'=M):=by
 refine A0c.dataX ?_;have hx:x.row=[I x.act,I x.item,I x.n]:=rfl;have a:=D4t gl u x M hg hc;have b:=B9o x u;rw[hx]at a|-;refine A1f (hQ [17,19]) func12 rfl rfl rfl rfl rfl rfl ?_;simp -dsimp;refine A0s (A0l func27 rfl rfl a) ?_;rintro _ M ⟨rfl,rfl⟩;cases hw:A8b x u with
 |none=>simp -dsimp[A3a,hw];exact⟨Grow.refl _,.tuple (.nilS (.same trivial .nil)) .nil⟩
 |some p=>
  rw[hw]at b;simp only[Z1m]at b;have hf:A3a u x=some (A4i::p):=by simp[A3a,hw]
  rw[hf];have hv:=C3M (s:=A4i) (M:=M);simp only[A4i]at hv;simp -dsimp[hv,C8v];have c:A1r 78 2 A1o.row (M++[.vec 78 2 [I 0,S ⟨#[]⟩] 0 [(0,1)]]) (.vref M.length 0 2 0 1) [A4i]:=.inr ⟨M.length,0,[(0,1)],rfl,by simp[A1o.row,A4i],ZAQ⟩;refine A3B (C:=WC gl) (enc:=A1o.row) (e:=78) (sz:=2) (news:=p) D2P D7S D8k (λ_=>rfl) c (by simp[A0D,B9c]) ZAB rfl ?_;intro v' M3 q1 q2 q3 _;obtain⟨r1,r2⟩:=A3f (X:=[]) ((Grow.refl M).trans (A0d.app none _ [.vec 78 2 [I 0,S ⟨#[]⟩] 0 [(0,1)]])) (v:=.vref M.length 0 2 0 1) (λf hf=>by simp at hf;omega) (by simpa using q2) (by simpa using q3);simp -dsimp;exact⟨r1,C1u q1 r2⟩
end
def A8n(l:List A0z):Bool:=l.all (λw=>decide (w.text.size<=100))&&decide (l.length<=300)
mutual
def B1Q:A0a->Bool
 |.mk _ _ l h w ks=>decide (l.size<=30)&&A8n h&&A8n w&&B0q ks
def B0q:List A0a->Bool
 |[]=>true
 |k::ks=>B1Q k&&B0q ks
end
mutual
def A9J:A0a->Int->Int->Int
 |.mk _ _ _ _ _ ks,deep,most=>if 20<deep then most+1 else A8j ks deep most 1
def A8j:List A0a->Int->Int->Int->Int
 |[],_,_,n=>n
 |k::ks,deep,most,n=>if n<=most then A8j ks deep most (n+A9J k (deep+1) (most-n))else n
end
mutual
def C3T:∀(u:A0a) (b a:Int),0<=a->1<=A9J u b a/\A9J u b a<=a+1
 |.mk _ _ _ _ _ ks,b,a,h=>by
  rw[A9J];split
  .omega
  .exact C5N ks b a 1 h Q0 Q0
def C5N:∀(ks:List A0a) (b a n:Int),0<=a->1<=n->n<=a+1->1<=A8j ks b a n/\A8j ks b a n<=a+1
 |[],b,a,n,h,h1,h2=>by rw[A8j];exact⟨h1,h2⟩
 |k::ks,b,a,n,h,h1,h2=>by
  rw[A8j];split
  .have:=C3T k (b+1) (a-n) Q0;exact C5N ks b a _ h Q0 Q0
  .exact⟨h1,h2⟩
end
def B9P(u:A0a)(most:Int):Bool:=decide (A9J u 0 most<=most)&&B1Q u
section
variable (gl:Nat->AV) (M:Mem)
def C1h(l:List A0z)(o:Own)(hl:l.length<=maxLen):A0c (WC gl) 159 [.list 4 (A0i l) o] M (λv M'=>v=B (A8n l)/\M'=M):=by
 refine A1f hB func159 rfl rfl rfl rfl rfl rfl ?_;have e:l.length<=9223372036854775807:=by simpa[maxLen]using hl
 simp -dsimp;refine A0M hB (λT M1=>∃i:Nat,i<=l.length/\T 0=.list 4 (A0i l) o/\T 3=I i/\M1=M/\A8n l=((l.drop i).all (λw=>decide (w.text.size<=100))&&decide (l.length<=300))) (λT _=>match T 3 with|.val (.int _ i)=>l.length-i.toNat|_=>0) Q2 ?_ ?_
 .exact⟨0,Q0,Q1,Q1,rfl,by simp[A8n]⟩
 .rintro T M1 ⟨i,i1,t0,t3,rfl,ho⟩;by_cases hi:i<l.length
  .have b:(i:Int)<l.length:=Q0;(have w1:IntKind.i64.wrap ((i:Int)+1)=(i+1:Nat):=by rw[A0R Q0 Q0];omega);have hd:l.drop i=l[i]::l.drop (i+1):=Z0m hi;rw[hd,Z2Q]at ho;by_cases h0:l[i].text.size<=100
   .have a:¬(100:Int)<l[i].text.size:=Q0;have c:¬(l[i].text.size:Int)>100:=a;rw[Z0A h0,Z0U]at ho;simp -dsimp[t0,t3,hi,b,a,c,w1,A0z.row];exact⟨⟨i+1,Q3,rfl,ho⟩,Q3⟩
   .have a:(100:Int)<l[i].text.size:=Q0;have c:(l[i].text.size:Int)>100:=a;rw[Z0I h0,Z0K,Z0K]at ho;simp -dsimp[t0,t3,hi,b,a,c,A0z.row,ho]
  .have b:¬(i:Int)<l.length:=Q0;rw[show l.drop i=[]from Z0v Q0,List.all_nil,Z0U]at ho;simp -dsimp[t0,t3,b,ho];by_cases h3:l.length<=300
   .have d:(l.length:Int)<=300:=Q0;simp[h3,d]
   .have d:¬(l.length:Int)<=300:=Q0;simp[h3,d]
end
section
variable (gl:Nat->AV)
def C1J:∀(u:A0a) (M:Mem),u.good->A0c (WC gl) 113 [.agg u.row] M (λv M'=>v=B (B1Q u)/\M'=M)
 |.mk id kind lab hd ws ks,M,hg=>by
  obtain⟨_,_,_,hh,_,hw,_,hk,g⟩:=(A0a.good_iff _).1 hg;have j:ks.length<=9223372036854775807:=hk;refine A1f hB func113 rfl rfl rfl rfl rfl rfl ?_;have a:B1Q (.mk id kind lab hd ws ks)=(decide (lab.size<=30)&&A8n hd&&A8n ws&&B0q ks):=by rw[B1Q]
  by_cases h1:lab.size<=30;case neg=>have b:(30:Int)<lab.size:=Q0;have d:(lab.size:Int)>30:=b;rw[Z0I h1]at a;simp only[Z0K]at a;simp -dsimp[A0a.row,b,d,a]
  have b:¬(30:Int)<lab.size:=Q0;have d:¬(lab.size:Int)>30:=b;rw[Z0A h1,Z0U]at a;simp -dsimp[A0a.row,b,d];refine A0s (A0l func159 rfl rfl (C1h gl M hd .no hh)) ?_;rintro _ _ ⟨rfl,rfl⟩;cases h2:A8n hd;case false=>rw[h2,Z0K,Z0K]at a;simp -dsimp[a]
  rw[h2,Z0U]at a;simp -dsimp;refine A0s (A0l func159 rfl rfl (C1h gl _ ws .no hw)) ?_;rintro _ M ⟨rfl,rfl⟩;cases h3:A8n ws;case false=>rw[h3,Z0K]at a;simp -dsimp[a]
  rw[h3,Z0U]at a;simp -dsimp;refine A0M hB (λT M1=>∃i:Nat,i<=ks.length/\T 1=.cptr [I id.act,I id.item,I id.n,I kind,S lab,.list 4 (A0i hd) .no,.list 4 (A0i ws) .no,.list 8 (A0t ks) .no]/\T 3=I i/\M1=M/\B0q ks=B0q (ks.drop i)) (λT _=>match T 3 with|.val (.int _ i)=>ks.length-i.toNat|_=>0) Q2 ?_ ?_
  .exact⟨0,Q0,Q1,Q1,rfl,Q1⟩
  .rintro T M1 ⟨i,i1,t1,t3,rfl,ho⟩;by_cases hi:i<ks.length
   .have e:(i:Int)<ks.length:=Q0;(have w1:IntKind.i64.wrap ((i:Int)+1)=(i+1:Nat):=by rw[A0R Q0 Q0];omega);have f:ks.drop i=ks[i]::ks.drop (i+1):=Z0m hi;have c:ks[i]∈ks:=Z0s hi;rw[f,B0q]at ho;simp -dsimp[t1,t3,hi,e];have:=A0a.kid_lt (u:=.mk id kind lab hd ws ks) c;refine A0s (A0l func113 rfl rfl (C1J ks[i] M1 (g _ c))) ?_;rintro _ _ ⟨rfl,rfl⟩;cases h4:B1Q ks[i]
    .rw[h4,Z0K]at ho;simp -dsimp[t1,t3,a,ho]
    .rw[h4,Z0U]at ho;simp -dsimp[t1,t3,w1];exact⟨⟨i+1,Q3,rfl,ho⟩,Q3⟩
   .have e:¬(i:Int)<ks.length:=Q0;rw[show ks.drop i=[]from Z0v Q0,B0q]at ho;simp -dsimp[t1,t3,e,a,ho]
termination_by u=>SizeOf.sizeOf u
def C5u:∀(u:A0a) (b a:Int) (M:Mem),u.good->0<=b->b<=30->0<=a->a<=1000->A0c (WC gl) 112 [.agg u.row,I b,I a] M (λv M'=>v=I (A9J u b a)/\M'=M)
 |.mk id kind lab hd ws ks,b,a,M,hg,d0,d1,m0,m1=>by
  obtain⟨_,_,_,hh,_,hw,_,hk,j⟩:=(A0a.good_iff _).1 hg;have k:ks.length<=9223372036854775807:=hk;refine A1f hB func112 rfl rfl rfl rfl rfl rfl ?_;have c:A9J (.mk id kind lab hd ws ks) b a=if 20<b then a+1 else A8j ks b a 1:=by rw[A9J]
  by_cases h1:20<b
  .have f:b>20:=h1;have w1:IntKind.i64.wrap (a+1)=a+1:=A0R Q0 Q0;rw[Z0c h1]at c;simp -dsimp[A0a.row,h1,f,w1,c]
  have f:¬b>20:=h1;rw[Z0d h1]at c;simp -dsimp[A0a.row,h1,f];refine A0M hB (λT M1=>∃i:Nat,i<=ks.length/\T 1=I b/\T 2=I a/\T 3=.cptr [I id.act,I id.item,I id.n,I kind,S lab,.list 4 (A0i hd) .no,.list 4 (A0i ws) .no,.list 8 (A0t ks) .no]/\T 8=I i/\M1=M/\∃n:Int,T 7=I n/\1<=n/\n<=a+1/\A8j ks b a 1=A8j (ks.drop i) b a n) (λT _=>match T 8 with|.val (.int _ i)=>ks.length-i.toNat|_=>0) Q2 ?_ ?_
  .exact⟨0,Q0,Q1,Q1,Q1,Q1,rfl,1,Q1,Q0,Q0,Q1⟩
  .rintro T M1 ⟨i,i1,t1,t2,t3,t8,rfl,n,t7,n1,n2,ho⟩;by_cases hi:i<ks.length
   .have d:(i:Int)<ks.length:=Q0;(have w1:IntKind.i64.wrap ((i:Int)+1)=(i+1:Nat):=by rw[A0R Q0 Q0];omega);have g:ks.drop i=ks[i]::ks.drop (i+1):=Z0m hi;have e:ks[i]∈ks:=Z0s hi;rw[g,A8j]at ho;by_cases hn:n<=a
    .rw[Z0c hn]at ho;have w2:IntKind.i64.wrap (b+1)=b+1:=A0R Q0 Q0;have w3:IntKind.i64.wrap (a-n)=a-n:=A0R Q0 Q0;simp -dsimp[t1,t2,t3,t7,t8,hi,d,hn,w2,w3];have:=A0a.kid_lt (u:=.mk id kind lab hd ws ks) e;refine A0s (A0l func112 rfl rfl (C5u ks[i] (b+1) (a-n) M1 (j _ e) Q0 Q0 Q0 Q0)) ?_;rintro _ _ ⟨rfl,rfl⟩;have hs:=C3T ks[i] (b+1) (a-n) Q0;generalize A9J ks[i] (b+1) (a-n)=z at*;have w4:IntKind.i64.wrap (n+z)=n+z:=A0R Q0 Q0;simp -dsimp[t1,t2,t3,t7,t8,w1,w4];exact⟨⟨i+1,Q3,rfl,Q0,Q0,ho⟩,Q3⟩
    .rw[Z0d hn]at ho;simp -dsimp[t1,t2,t3,t7,t8,hi,d,hn,c,ho]
   .have d:¬(i:Int)<ks.length:=Q0;rw[show ks.drop i=[]from Z0v Q0,A8j]at ho;simp -dsimp[t1,t2,t3,t7,t8,d,c,ho]
termination_by u=>SizeOf.sizeOf u
def D4n(u:A0a)(a:Int)(M:Mem)(hg:u.good)(m0:0<=a)(m1:a<=1000):A0c (WC gl) 96 [.agg u.row,I a] M (λv M'=>v=B (B9P u a)/\M'=M):=by
 refine A1f hB func96 rfl rfl rfl rfl rfl rfl ?_;simp -dsimp;refine A0s (A0l func112 rfl rfl (C5u gl u 0 a M hg Q0 Q0 m0 m1)) ?_;rintro _ _ ⟨rfl,rfl⟩;by_cases h1:A9J u 0 a<=a
 .simp -dsimp[h1];refine A0s (A0l func113 rfl rfl (C1J gl u _ hg)) ?_;rintro _ _ ⟨rfl,rfl⟩;simp -dsimp[B9P,h1]
 .simp -dsimp[h1,B9P]
end
def isP(p:Prop)(v:AV):Prop:=∃b,v=B b/\(b=true->p)
def A1D(p:Prop):isP p (.val (.bool false)):=⟨false,rfl,Q1⟩
structure B2p (h:A1W):Prop where
 ats:h.at_.length<=12
 tos:h.to.length<=12
 old:h.old.length<=300
 new:h.new.length<=300
 unit:B9P h.unit 30=true
section
variable (gl:Nat->AV)
set_option maxHeartbeats 4000000 in
def C3I:∀(x:A0H) (M:Mem),x.good->A0c (WC gl) 58 [.agg x.row] M (λv M'=>isP (B2p x.h/\∀y∈x.by_,B2p y.h) v/\M'=M)
 |.mk h by_,M,hg=>by
  obtain⟨a2,a9,w⟩:=(A0H.good_iff _).1 hg;have a1:=a2.2.2.2.2.2.1;have u:=D4n gl h.unit 30 M a1 Q0 Q0;have w:∀k∈by_,k.good:=w;rw[A0a.row_eq]at u;show A0c (WC gl) 58 [.agg (A0H.mk h by_).row] M (λv M'=>isP (B2p h/\∀y∈by_,B2p y.h) v/\M'=M);obtain⟨P,hP⟩:=ex ((B2p h/\∀y∈by_,B2p y.h));rw[<-hP];have hP:(B2p h/\∀y∈by_,B2p y.h)->P:=λe=>by rw[hP];exact e
  obtain⟨kind,at_,to,wh,p,unit,l,new,lab,m,start,q,o,day,ev⟩:=h;rw[A0H.row,A1W.row];simp only at u|-;have hH:=λq1 q2 q3 q4 q5=>B2p.mk (h:=⟨kind,at_,to,wh,p,unit,l,new,lab,m,start,q,o,day,ev⟩) q1 q2 q3 q4 q5;simp only at hH;generalize B9P unit 30=f6 at*;refine A1f hB func58 rfl rfl rfl rfl rfl rfl ?_;by_cases c1:(12:Int)<at_.length
  .have d1:(at_.length:Int)>12:=c1;simp -dsimp -implicitDefEqProofs[c1,d1,A1D]
  have d1:¬(at_.length:Int)>12:=c1;by_cases c2:(12:Int)<to.length
  .have d2:(to.length:Int)>12:=c2;simp -dsimp -implicitDefEqProofs[c1,d1,c2,d2,A1D]
  have d2:¬(to.length:Int)>12:=c2;by_cases c3:(300:Int)<l.length
  .have d3:(l.length:Int)>300:=c3;simp -dsimp -implicitDefEqProofs[c1,d1,c2,d2,c3,d3,A1D]
  have d3:¬(l.length:Int)>300:=c3;by_cases c4:(300:Int)<new.length
  .have d4:(new.length:Int)>300:=c4;simp -dsimp -implicitDefEqProofs[c1,d1,c2,d2,c3,d3,c4,d4,A1D]
  have d4:¬(new.length:Int)>300:=c4;by_cases c5:(100:Int)<lab.size
  .have d5:(lab.size:Int)>100:=c5;simp -dsimp -implicitDefEqProofs[c1,d1,c2,d2,c3,d3,c4,d4,c5,d5,A1D]
  have d5:¬(lab.size:Int)>100:=c5;by_cases c6:(100:Int)<m.size
  .have d6:(m.size:Int)>100:=c6;simp -dsimp -implicitDefEqProofs[c1,d1,c2,d2,c3,d3,c4,d4,c5,d5,c6,d6,A1D]
  have d6:¬(m.size:Int)>100:=c6;by_cases c7:(100:Int)<start.ev.size
  .have d7:(start.ev.size:Int)>100:=c7;simp -dsimp -implicitDefEqProofs[c1,d1,c2,d2,c3,d3,c4,d4,c5,d5,c6,d6,c7,d7,A1D]
  have d7:¬(start.ev.size:Int)>100:=c7;by_cases c8:(100:Int)<ev.size
  .have d8:(ev.size:Int)>100:=c8;simp -dsimp -implicitDefEqProofs[c1,d1,c2,d2,c3,d3,c4,d4,c5,d5,c6,d6,c7,d7,c8,d8,A1D]
  have d8:¬(ev.size:Int)>100:=c8;by_cases c9:(2:Int)<by_.length
  .have d9:(by_.length:Int)>2:=c9;simp -dsimp -implicitDefEqProofs[c1,d1,c2,d2,c3,d3,c4,d4,c5,d5,c6,d6,c7,d7,c8,d8,c9,d9,A1D]
  have d9:¬(by_.length:Int)>2:=c9;simp -dsimp -implicitDefEqProofs[c1,d1,c2,d2,c3,d3,c4,d4,c5,d5,c6,d6,c7,d7,c8,d8,c9,d9];refine A0s (A0l func96 rfl rfl u) ?_;rintro _ M ⟨rfl,rfl⟩;cases f6 with
  |false=>simp -dsimp -implicitDefEqProofs[A1D]
  |true=>
  have hH:=hH Q0 Q0 Q0 Q0 rfl;have hP:=λe=>hP ⟨hH,e⟩;simp -dsimp -implicitDefEqProofs;refine A0M hB (λT M1=>∃i:Nat,i<=l.length/\T 1=.cptr [I kind,.list 2 (A0O at_) .no,.list 2 (A0O to) .no,I wh,I p,I unit.id.act,I unit.id.item,I unit.id.n,I unit.kind,S unit.label,.list 4 (A0i unit.head) .no,.list 4 (A0i unit.words) .no,.list 8 (A0t unit.kids) .no,.list 1 (A0K l) .no,.list 1 (A0K new) .no,S lab,S m,I start.k,I start.day,S start.ev,I q,I o,I day,S ev,.list 25 (A1w by_) .no]/\T 3=I i/\M1=M) (λT _=>match T 3 with|.val (.int _ i)=>l.length-i.toNat|_=>0) Q2 ?_ ?_
  .exact⟨0,Q0,Q1,Q1,rfl⟩
  rintro T1 M ⟨i1,a7,t1,t3,rfl⟩;by_cases hi1:i1<l.length;case pos=>
   have g:(i1:Int)<l.length:=Q0;have w1:=A1O (i:=i1) Q0;by_cases c:(100:Int)<l[i1].size
   .have d:(l[i1].size:Int)>100:=c;simp -dsimp -implicitDefEqProofs[t1,t3,hi1,g,c,d,A1D]
   .have d:¬(l[i1].size:Int)>100:=c;simp -dsimp -implicitDefEqProofs[t1,t3,hi1,g,c,d,w1];exact⟨⟨i1+1,Q3,rfl⟩,Q3⟩
  have g:¬(i1:Int)<l.length:=Q0;simp -dsimp -implicitDefEqProofs[t1,t3,g];refine A0M hB (λT M1=>∃i:Nat,i<=new.length/\T 1=.cptr [I kind,.list 2 (A0O at_) .no,.list 2 (A0O to) .no,I wh,I p,I unit.id.act,I unit.id.item,I unit.id.n,I unit.kind,S unit.label,.list 4 (A0i unit.head) .no,.list 4 (A0i unit.words) .no,.list 8 (A0t unit.kids) .no,.list 1 (A0K l) .no,.list 1 (A0K new) .no,S lab,S m,I start.k,I start.day,S start.ev,I q,I o,I day,S ev,.list 25 (A1w by_) .no]/\T 4=I i/\M1=M) (λT _=>match T 4 with|.val (.int _ i)=>new.length-i.toNat|_=>0) Q2 ?_ ?_
  .exact⟨0,Q0,ZDR,Q1,rfl⟩
  rintro T2 M ⟨i2,a5,t1,t4,rfl⟩;by_cases hi2:i2<new.length;case pos=>
   have g:(i2:Int)<new.length:=Q0;have w1:=A1O (i:=i2) Q0;by_cases c:(100:Int)<new[i2].size
   .have d:(new[i2].size:Int)>100:=c;simp -dsimp -implicitDefEqProofs[t1,t4,hi2,g,c,d,A1D]
   .have d:¬(new[i2].size:Int)>100:=c;simp -dsimp -implicitDefEqProofs[t1,t4,hi2,g,c,d,w1];exact⟨⟨i2+1,Q3,rfl⟩,Q3⟩
  have g:¬(i2:Int)<new.length:=Q0;simp -dsimp -implicitDefEqProofs[t1,t4,g];refine A0M hB (λT M1=>∃i:Nat,i<=at_.length/\T 1=.cptr [I kind,.list 2 (A0O at_) .no,.list 2 (A0O to) .no,I wh,I p,I unit.id.act,I unit.id.item,I unit.id.n,I unit.kind,S unit.label,.list 4 (A0i unit.head) .no,.list 4 (A0i unit.words) .no,.list 8 (A0t unit.kids) .no,.list 1 (A0K l) .no,.list 1 (A0K new) .no,S lab,S m,I start.k,I start.day,S start.ev,I q,I o,I day,S ev,.list 25 (A1w by_) .no]/\T 5=I i/\M1=M) (λT _=>match T 5 with|.val (.int _ i)=>at_.length-i.toNat|_=>0) Q2 ?_ ?_
  .exact⟨0,Q0,ZDR,Q1,rfl⟩
  rintro T3 M ⟨i3,a6,t1,t5,rfl⟩;by_cases hi3:i3<at_.length;case pos=>
   have g:(i3:Int)<at_.length:=Q0;have w1:=A1O (i:=i3) Q0;by_cases c:(100:Int)<at_[i3].lab.size
   .have d:(at_[i3].lab.size:Int)>100:=c;simp -dsimp -implicitDefEqProofs[t1,t5,hi3,g,A1o.row,c,d,A1D]
   .have d:¬(at_[i3].lab.size:Int)>100:=c;simp -dsimp -implicitDefEqProofs[t1,t5,hi3,g,A1o.row,c,d,w1];exact⟨⟨i3+1,Q3,rfl⟩,Q3⟩
  have g:¬(i3:Int)<at_.length:=Q0;simp -dsimp -implicitDefEqProofs[t1,t5,g];refine A0M hB (λT M1=>∃i:Nat,i<=to.length/\T 1=.cptr [I kind,.list 2 (A0O at_) .no,.list 2 (A0O to) .no,I wh,I p,I unit.id.act,I unit.id.item,I unit.id.n,I unit.kind,S unit.label,.list 4 (A0i unit.head) .no,.list 4 (A0i unit.words) .no,.list 8 (A0t unit.kids) .no,.list 1 (A0K l) .no,.list 1 (A0K new) .no,S lab,S m,I start.k,I start.day,S start.ev,I q,I o,I day,S ev,.list 25 (A1w by_) .no]/\T 6=I i/\M1=M) (λT _=>match T 6 with|.val (.int _ i)=>to.length-i.toNat|_=>0) Q2 ?_ ?_
  .exact⟨0,Q0,ZDR,Q1,rfl⟩
  rintro T4 M ⟨i4,a4,t1,t6,rfl⟩;by_cases hi4:i4<to.length;case pos=>
   have g:(i4:Int)<to.length:=Q0;have w1:=A1O (i:=i4) Q0;by_cases c:(100:Int)<to[i4].lab.size
   .have d:(to[i4].lab.size:Int)>100:=c;simp -dsimp -implicitDefEqProofs[t1,t6,hi4,g,A1o.row,c,d,A1D]
   .have d:¬(to[i4].lab.size:Int)>100:=c;simp -dsimp -implicitDefEqProofs[t1,t6,hi4,g,A1o.row,c,d,w1];exact⟨⟨i4+1,Q3,rfl⟩,Q3⟩
  have g:¬(i4:Int)<to.length:=Q0;simp -dsimp -implicitDefEqProofs[t1,t6,g];refine A0M hB (λT M1=>∃i:Nat,i<=by_.length/\T 1=.cptr [I kind,.list 2 (A0O at_) .no,.list 2 (A0O to) .no,I wh,I p,I unit.id.act,I unit.id.item,I unit.id.n,I unit.kind,S unit.label,.list 4 (A0i unit.head) .no,.list 4 (A0i unit.words) .no,.list 8 (A0t unit.kids) .no,.list 1 (A0K l) .no,.list 1 (A0K new) .no,S lab,S m,I start.k,I start.day,S start.ev,I q,I o,I day,S ev,.list 25 (A1w by_) .no]/\T 7=I i/\M1=M/\∀k,(h:k<by_.length)->k<i->B2p by_[k].h) (λT _=>match T 7 with|.val (.int _ i)=>by_.length-i.toNat|_=>0) Q2 ?_ ?_
  .exact⟨0,Q0,ZDR,Q1,rfl,Q0⟩
  rintro T5 M ⟨j,a8,t1,t7,rfl,z⟩;by_cases hj:j<by_.length;case neg=>have r:¬(j:Int)<by_.length:=Q0;simp -dsimp -implicitDefEqProofs[t1,t7,r];refine⟨true,rfl,λ_=>hP λy hy=>?_⟩;obtain⟨k,hk,rfl⟩:=Z2z.1 hy;exact z k hk Q0
  have r:(j:Int)<by_.length:=Q0;have w1:=A1O (i:=j) Q0;have s:by_[j]∈by_:=Z0s hj;have hlt:=A0H.by_lt (x:=.mk ⟨kind,at_,to,wh,p,unit,l,new,lab,m,start,q,o,day,ev⟩ by_) s;have ih:=C3I by_[j] M (w _ s);obtain⟨h2,b2,hb⟩:∃h2 b2,by_[j]=.mk h2 b2:=by
   cases hq:by_[j]with
   |mk a b=>exact⟨a,b,rfl⟩
  have hr:by_[j].row=h2.row (.list 25 (A1w b2) .no):=by rw[hb,A0H.row]
  rw[hr,A1W.row]at ih;rw[A1W.row]at hr;by_cases c:0<b2.length;case neg=>
   have c':¬(0:Int)<b2.length:=Q0;have d:¬(b2.length:Int)>0:=c';simp -dsimp -implicitDefEqProofs[t1,t7,hj,r,hr,c,c',d];refine A0s (A0l func58 rfl rfl ih) ?_;rintro _ M ⟨⟨b,rfl,t⟩,rfl⟩;cases b with
   |false=>simp -dsimp -implicitDefEqProofs[A1D]
   |true=>
    simp -dsimp -implicitDefEqProofs[t1,t7,w1];refine⟨⟨j+1,Q3,rfl,λk hk hlt=>?_⟩,Q3⟩;by_cases e:k=j
    .subst e;exact(t rfl).1
    .exact z k hk Q3
  have c':(0:Int)<b2.length:=Q0;have d:(b2.length:Int)>0:=c';obtain⟨h3,b3,a3⟩:∃h3 b3,b2[0]=.mk h3 b3:=by
   cases hq:b2[0]with
   |mk a b=>exact⟨a,b,rfl⟩
  have a0:b2[0].row=h3.row (.list 25 (A1w b3) .no):=by rw[a3,A0H.row]
  rw[A1W.row]at a0;by_cases e:0<b3.length;case pos=>have e':(0:Int)<b3.length:=Q0;have f:(b3.length:Int)>0:=e';simp -dsimp -implicitDefEqProofs[t1,t7,hj,r,hr,c,c',d,a0,e,e',f,A1D]
  have e':¬(0:Int)<b3.length:=Q0;have f:¬(b3.length:Int)>0:=e';simp -dsimp -implicitDefEqProofs[t1,t7,hj,r,hr,c,c',d,a0,e,e',f];refine A0s (A0l func58 rfl rfl ih) ?_;rintro _ M ⟨⟨b,rfl,t⟩,rfl⟩;cases b with
  |false=>simp -dsimp -implicitDefEqProofs[A1D]
  |true=>
   simp -dsimp -implicitDefEqProofs[t1,t7,w1];refine⟨⟨j+1,Q3,rfl,λk hk hlt=>?_⟩,Q3⟩;by_cases e:k=j
   .subst e;exact(t rfl).1
   .exact z k hk Q3
termination_by x=>SizeOf.sizeOf x
end
mutual
def A1A(x:IdD)(f:A0a->A0a):A0a->A0a
 |.mk id k l h w ks=>if id=x then f (.mk id k l h w ks)else .mk id k l h w (A8V x f ks)
def A8V(x:IdD)(f:A0a->A0a):List A0a->List A0a
 |[]=>[]
 |k::ks=>if(A0N x k).isSome=true then A1A x f k::ks else k::A8V x f ks
end
def B2n(u:A0a)(ks:List A0a):A0a:=.mk u.id u.kind u.label u.head u.words ks
def B2L(ws:List A0z)(u:A0a):A0a:=.mk u.id u.kind u.label u.head ws u.kids
def C0g(ws:List A0z)(u:A0a):A0a:=.mk u.id u.kind u.label ws u.words u.kids
def A6p(l:ByteArray)(u:A0a):A0a:=.mk u.id u.kind l u.head u.words u.kids
def B0V(i:Nat)(u:A0a):A0a:=B2n u (u.kids.eraseIdx i)
def A9t(i:Nat)(x:A0a)(u:A0a):A0a:=B2n u (u.kids.take i++x::u.kids.drop i)
def B3g(l part:List ByteArray):Nat->Nat->List Nat
 |0,_=>[]
 |n+1,i=>if i+part.length<=l.length then(if(l.drop i).take part.length=part then i::B3g l part n (i+part.length)else B3g l part n (i+1))else[]
def B4z(l part:List ByteArray):List Nat:=if part=[]then[]else B3g l part (l.length+1) 0
def A6x(w:List A0z)(part:List ByteArray)(nth:Int):List Nat:=
 let l:=B4z (A1q w) part
 if nth=0 then l else if nth>l.length then[]else(l.drop (nth.toNat-1)).take 1
def C6d(w:List A0z)(at_ gone:Nat)(fresh:List A0z):List A0z:=w.take at_++fresh++w.drop (at_+gone)
def B0v(gone:Nat)(fresh:List ByteArray)(act item:Int)(w:List A0z):List Nat->Nat->List A0z
 |[],_=>w
 |p::ps,i=>C6d (B0v gone fresh act item w ps (i+1)) p gone (A2p act item (i*fresh.length) fresh)
def B2t(w:List A0z)(l:List Nat)(gone:Nat)(fresh:List ByteArray)(act item:Int):List A0z×Int:=if 256<(B0v gone fresh act item w l 0).length then([],6)else(B0v gone fresh act item w l 0,0)
def A4T(w:List A0z)(old new:List ByteArray)(nth act item:Int):List A0z×Int:=
 let l:=A6x w old nth
 if l=[]then([],4)else B2t w l old.length new act item
def A3V(w:List A0z)(part new:List ByteArray)(nth act item:Int):List A0z×Int:=
 if part=[]then B2t w [0] 0 new act item
 else(let l:=A6x w part nth;if l=[]then([],4)else B2t w (l.map (·+part.length)) 0 new act item)
def AWp.pre_still{C:Ctx}{N:Nat}{c:Code}{Q:Exit->Env->Mem->Prop}{T:Env}{M:Mem}(n:Nat)(T2:Env)(h1:∀k,Still M n (λ_=>True) [T k] [T2 k])(h:AWp C N c Q T2 (A3y M n)):AWp C N c Q T M:=by
 intro G w a hi he;obtain⟨G2,g1,g2,g3⟩:=B3m hi n;refine Code.wp_mono ?_ (h G2 w a g2 ⟨he.defers,he.size,λi hi=>?_⟩)
 .rintro e a' w' ⟨T1,M1,G1,k2,k3,k4,k5,k6⟩;exact⟨T1,M1,G1,k2,g1.trans k3,k4,k5,k6⟩
 have hr:=g3 _ _ [a.tmps.getD i undef] (h1 i) (by simp only[A0v];exact⟨_,[],rfl,he.at_ i hi,rfl⟩);simp only[A0v]at hr;obtain⟨y,ys,e,hd,-⟩:=hr;simp only[Z2e]at e;obtain⟨rfl,rfl⟩:=e;exact hd
section
variable {P:Program} {t e:TypeId} {sz:Nat} {rows:List (List AV)} {own:Own} {i h:Nat}
def C0J(he:A1b P t=some e)(hs:A1n P e=some sz)(h1:i<=h)(h2:h<=rows.length):A1Q P t (.list sz rows own) (some (I i)) (some (I h)) none=some (.list sz ((rows.take h).drop i) (A6H rows.length i h none own)):=by have e1:(h:Int)<=rows.length:=Q0;have e2:(i:Int)<=h:=Q0;simp[A1Q,A3S,A3Y,A1s,he,hs,e1,e2]
def D0N(he:A1b P t=some e)(hs:A1n P e=some sz)(h1:i<=rows.length):A1Q P t (.list sz rows own) (some (I i)) none none=some (.list sz (rows.drop i) (A6H rows.length i rows.length none own)):=by have e2:(i:Int)<=rows.length:=Q0;simp[A1Q,A3S,A3Y,A1s,he,hs,e2]
def D0z(he:A1b P t=some e)(hs:A1n P e=some sz)(h2:h<=rows.length):A1Q P t (.list sz rows own) none (some (I h)) (some (I h))=some (.list sz (rows.take h) .full):=by have e1:(h:Int)<=rows.length:=Q0;simp[A1Q,A3S,A3Y,A1s,he,hs,e1,A6H]
end
def E1b{C:Ctx}{N:Nat}{c:Code}{Q:Post}{T:Env}{M:Mem}{tg:Tag (c,Q)}(n:Nat)(T2:Env)(h1:∀k,Still M n (λ_=>True) [T k] [T2 k])(h:wWp C N c Q T2 (A3y M n) ⟨⟩):wWp C N c Q T M tg:=AWp.pre_still n T2 h1 h
def D8M{C:Ctx}{N:Nat}{c:Code}{Q:Post}{T:Env}{M:Mem}{tg:Tag (c,Q)}(n s:Nat)(d:AV)(h1:Still M n (λ_=>True) [T s] [d])(h:wWp C N c Q (λk=>if k=s then d else T k) (A3y M n) ⟨⟩):wWp C N c Q T M tg:=
 E1b n _ (λk=>by
  by_cases hk:k=s;· subst hk;simpa using h1
  .simp only[hk,Z2f];exact .same trivial .nil) h
def D5k{C:Ctx}{own vec:Bool}{st xt e:TypeId}{sz bytes:Nat}{s x:AV}{M:Mem}{K:AV->Mem->Prop}{r:AV×Mem}{tg:Tag K}(h1:A1b C.P st=some e)(h2:A4j C.P xt)(h3:A4g C.P e sz bytes)(hv:B6O vec s=false)(hs:(B2c sz s&&B2c sz x)=true) (h6:(A7n s+A7n x)*bytes<=140737488355328)(ha:A9N own sz s x M=some r)(hk:K r.1 r.2):A3s C own vec st xt s x M K tg:=by
 refine⟨e,sz,bytes,⟨h1,h2,h3⟩,?_⟩
 have e1:A6L own vec e sz bytes s x M=some r:=by simp only[A6L,hv,hs,h6,ha];rfl
 rw[e1];exact hk
def A6X(n:Nat):List AV:=[I n]
abbrev A8B(l:List Nat):List (List AV):=l.map A6X
def D3d(m n:Nat):A1i m (A6X n):=by simp[A6X,A1i,bdd]
section
variable (gl:Nat->AV)
def C1a(p q:List ByteArray)(o1 o2:Own)(M:Mem)(hp:p.length<=1000000):A0c (WC gl) 208 [.list 1 (A0K p) o1,.list 1 (A0K q) o2] M (λv M'=>v=B (decide (p=q))/\M'=M):=by
 refine A0r hB func208 ?_;by_cases hl:p.length=q.length;case neg=>have b:¬(p.length:Int)=q.length:=Q0;have hr:¬p=q:=λe=>hl (by rw[e]);simp -dsimp[b,hr]
 have b:(p.length:Int)=q.length:=Q0;simp -dsimp[b];refine A0M hB (λT M1=>∃i:Nat,M1=M/\i<=p.length/\T 0=.list 1 (A0K p) o1/\T 1=.list 1 (A0K q) o2/\T 12=I q.length/\T 13=I i/\(p=q<->p.drop i=q.drop i)) (λT M1=>match T 13 with|.val (.int _ i)=>p.length-i.toNat|_=>0) Q2 ?_ ?_
 .exact⟨0,rfl,Q0,Q1,Q1,by simp[b],Q1,Q1⟩
 rintro T M1 ⟨i,rfl,h1,t0,t1,d,f,h2⟩;by_cases hi:i<p.length
 .have a:(i:Int)<q.length:=Q0;have g:(i:Int)<p.length:=Q0;have hq:i<q.length:=Q0;have w1:=A1O (i:=i) Q0;rw[Z0m hi,Z0m hq,Z2e]at h2;simp -dsimp[t0,t1,d,f,a];refine A0X hB (A0B gl) (λ_=>0) (λ_=>0) (by rfl) Q2 ?_;by_cases c:p[i]=q[i]
  .simp -dsimp[t0,t1,d,f,hi,a,hq,g,c,w1];exact⟨⟨i+1,Q3,rfl,h2.trans ⟨λh=>h.2,λh=>⟨c,h⟩⟩⟩,Q3⟩
  .have hr:¬p=q:=λe=>c (h2.1 e).1;simp -dsimp[t0,t1,d,f,hi,a,hq,g,c,hr]
 .have a:¬(i:Int)<q.length:=Q0;rw[Z0v Q0,Z0v Q0]at h2;have hr:p=q:=h2.2 rfl;simp -dsimp[t0,t1,d,f,a,hr]
def D0Z(l part:List ByteArray)(o1 o2:Own)(M:Mem)(hl:l.length<=1000000)(hp:part.length<=1000000):A0c (WC gl) 283 [.list 1 (A0K l) o1,.list 1 (A0K part) o2] M (λv M'=>Grow M M'/\Arr 3 1 A6X M.length M' v (B4z l part)):=by
 refine A0r (hQ [32]) func283 ?_;by_cases h0:part=[]
 .have g:((part.length:Nat):Int)=0:=by rw[h0];rfl
  have:B4z l part=[]:=Z0c h0;rw[this];simp -dsimp[g,h0];exact⟨Grow.refl _,Arr.nil⟩
 have r:0<part.length:=Z1K.2 h0;have g:¬((part.length:Nat):Int)=0:=Q0;have k:B4z l part=B3g l part (l.length+1) 0:=Z0d h0;simp -dsimp[g,h0];refine A0M (hQ [32]) (λT Mi=>∃(i n:Nat) (b:List Nat),i<=l.length/\l.length+1<=n+i/\B4z l part=b++B3g l part n i/\b.length<=i/\T 0=.list 1 (A0K l) o1/\T 1=.list 1 (A0K part) o2/\T 6=I i/\Grow M Mi/\Arr 3 1 A6X M.length Mi (T 5) b) (λT M1=>match T 6 with|.val (.int _ i)=>l.length+1-i.toNat|_=>0) Q2 ?_ ?_
 .exact⟨0,l.length+1,[],Q0,Q0,by rw[k];rfl,Q1,Q1,Q1,Q1,Grow.refl _,ZBX⟩
 rintro T Mi ⟨i,n,b,hi,hn,a,u,t0,t1,t6,hg,ha⟩;obtain⟨n,rfl⟩:∃m,n=m+1:=⟨n-1,Q0⟩;rw[B3g]at a;have w1:IntKind.i64.wrap ((i:Int)+part.length)=(i:Int)+part.length:=ZBN
 generalize f:T 5=ov at*;by_cases hin:i+part.length<=l.length;case neg=>have c:¬(i:Int)+part.length<=l.length:=Q0;rw[Z0d hin,Z1b]at a;rw[a];simp -dsimp[t0,t1,t6,f,w1,c];exact⟨hg,ha⟩
 rw[Z0c hin]at a;obtain⟨m,hm⟩:=ex (i+part.length);have p:(i:Int)+part.length=(m:Nat):=Q0;replace w1:=w1.trans p;have c:(m:Int)<=l.length:=Q0;have d:=C0J (P:=prog) (t:=48) (e:=9) (sz:=1) (rows:=A0K l) (own:=o1) (i:=i) (h:=m) Q1 Q1 Q0 ZAB;obtain⟨ow,q⟩:=ex (A6H (A0K l).length i m none o1);rw[<-q]at d;have j:((A0K l).take m).drop i=A0K ((l.drop i).take part.length):=by rw[hm,Z2K,show i+part.length-i=part.length by omega];simp only[A0K,Z3m,Z4P]
 rw[j]at d;obtain⟨w,hw⟩:=ex ((l.drop i).take part.length);rw[<-hw]at a d;have s:w.length=part.length:=by rw[hw,Z0t,Z0G];omega
 have o:=C1a gl w part ow o2 Mi Q0;have w2:IntKind.i64.wrap ((i:Int)+1)=(i+1:Nat):=ZAW
 simp -dsimp[t0,t1,t6,f,w1,c,d];refine A0g func208 o ?_;by_cases hc:w=part
 .rw[Z0c hc]at a;rw[Z0A hc];simp -dsimp[t0,t1,t6,f,A0x,A1g,AV.storable,AV.cells];refine A3B (C:=WC gl) (enc:=A6X) (e:=3) (sz:=1) (news:=[i]) B0M B4F D0y (λ_=>rfl) ha.own (by simp[A0D,A6X]) ZAB rfl ?_;intro v' M' h1 h2 h3 _;obtain⟨g1,g2⟩:=A3f (X:=[]) hg ha.lat ZAU ZBR;simp -dsimp[t0,t1,t6,w1];refine⟨⟨m,Q0,n,Q0,b++[i],by rw[a,Z0F,hm];rfl,ZAB,rfl,g1,⟨h1,g2⟩⟩,Q0⟩
 .rw[Z0d hc]at a;rw[Z0I hc];simp -dsimp[t0,t1,t6,f,w2];refine⟨⟨i+1,Q0,n,Q0,b,a,Q0,Q1,hg,ha⟩,Q0⟩
def C4L(l part:List ByteArray)(o1 o2:Own)(M:Mem)(hl:l.length<=1000000)(hp:part.length<=1000000):A0c (WC gl) 283 [.list 1 (A0K l) o1,.list 1 (A0K part) o2] M (λv M'=>v=.list 1 (A8B (B4z l part)) .no/\M'=M):=A0c.still (enc:=A6X) (λ_=>rfl) D3d ((D0Z gl l part o1 o2 M hl hp).mono λ_ _ h=>⟨h.2.own,h.1,h.2.lat⟩)
def B8v(l part:List ByteArray):∀(n i:Nat),(B3g l part n i).length<=n
 |0,i=>by simp[B3g]
 |n+1,i=>by
  have h1:=B8v l part n (i+part.length);have h2:=B8v l part n (i+1);rw[B3g];split
  .split
   .simpa using h1
   .omega
  .simp
def C6g(l part:List ByteArray):(B4z l part).length<=l.length+1:=by
 unfold B4z;split
 .simp
 .exact B8v _ _ _ _
def C0C(w:List A0z)(part:List ByteArray)(o:Own)(b:Int)(M:Mem)(hw:w.length<=1000000)(hp:part.length<=1000000)(hn:0<=b):A0c (WC gl) 251 [.list 4 (A0i w) .no,.list 1 (A0K part) o,I b] M (λv M'=>v=.list 1 (A8B (A6x w part b)) .no/\M'=M):=by
 refine A0c.dataX ?_;have h1:=B8h gl w .no M Q0;have h2:=C4L gl (A1q w) part .no o M (by simp[A1q];omega) hp;obtain⟨l,hl⟩:=ex (B4z (A1q w) part);have hb:∀l:List Nat,bdd M.length (.list 1 (A8B l) .no):=λl=>by
  simp only[bdd,Z1A];induction l with
  |nil=>simp[A4n]
  |cons a l ih=>simp only[Z0x,A4n]at ih|-;exact⟨by simp[A6X,A1i,bdd],ih⟩
 rw[<-hl]at h2;have d:A6x w part b=if b=0 then l else if b>l.length then[]else(l.drop (b.toNat-1)).take 1:=by rw[hl];rfl
 rw[d];obtain⟨q,hq⟩:=ex ((l.drop (b.toNat-1)).take 1);have j:l.length<=1000001:=by
  rw[hl];have h:=C6g (A1q w) part;have e:(A1q w).length=w.length:=by simp[A1q]
  omega
 rw[<-hq];refine A0r hB func251 ?_;simp -dsimp;refine A0g func284 h1 ?_;simp -dsimp;refine A0g func283 h2 ?_;by_cases h0:b=0
 .simp -dsimp[h0];exact⟨Grow.refl _,.same (hb l) .nil⟩
 by_cases h3:b>l.length
 .simp -dsimp[h0,h3];exact⟨Grow.refl _,.nilS .nil⟩
 obtain⟨m,hm⟩:∃m:Nat,b=(m:Int)+1:=⟨(b-1).toNat,Q0⟩;have w1:IntKind.i64.wrap (b-1)=(m:Nat):=ZAW
 have g:b=((m+1:Nat):Int):=Q0;have c:=C0J (P:=prog) (t:=100) (e:=3) (sz:=1) (rows:=A8B l) (own:=.no) (i:=m) (h:=m+1) Q1 Q1 Q0 ZAB;rw[<-g]at c;have f:((A8B l).take (m+1)).drop m=A8B ((l.drop (b.toNat-1)).take 1):=by rw[show b.toNat-1=m by omega,Z2K,show m+1-m=1 by omega];simp only[Z3m,Z4P]
 rw[f,<-hq]at c;simp -dsimp[h0,h3,w1,c];exact⟨Grow.refl _,.dis (hb _) .nil⟩
def C8w{ws:List A0z}{M:Mem}(hl:ws.length<=100000):∃zs,A5l prog 29 (I ws.length) (I ws.length) M=some (.vref M.length 0 4 0 ws.length,M++[.vec 259 4 zs 0 [(0,ws.length)]])/\A9k prog 29 29 (M++[.vec 259 4 zs 0 [(0,ws.length)]]) (.vref M.length 0 4 0 ws.length) (.list 4 (A0i ws) .no)=some (I ws.length,M++[.vec 259 4 (ws.flatMap A0z.row) 0 [(0,ws.length)]]):=by
 have hz:((List.replicate ws.length [AV.val (.string ⟨#[]⟩),I 0,I 0,I 0]).flatten).length=ws.length*4:=by simp[Z3X]
 have c:B6S prog 259=some 40:=Q2
 refine⟨(List.replicate ws.length [AV.val (.string ⟨#[]⟩),I 0,I 0,I 0]).flatten,?_,?_⟩
 .have h1:(ws.length:Int).toNat*4<=16777216:=Q0;have h2:ws.length*4<=16777216:=Q0;have h3:(40:Int)*ws.length<=281474976710656:=Q0;simp[A5l,c,h2,h3]
 .have a:(ws.flatMap A0z.row).length=ws.length*4:=A2d (enc:=A0z.row) (sz:=4) (λ_=>rfl) ws;have f:A0e (List.replicate ws.length [AV.val (.string ⟨#[]⟩),I 0,I 0,I 0]).flatten 0 (ws.flatMap A0z.row)=ws.flatMap A0z.row:=by unfold A0e;rw[Z2c,Z1y,Z0P,Z1u (by rw[hz,a];exact Z0j _),Z1b]
  have b:(M++[A0m.vec 259 4 (List.replicate ws.length [AV.val (.string ⟨#[]⟩),I 0,I 0,I 0]).flatten 0 [(0,ws.length)]])[M.length]?=some (.vec 259 4 (List.replicate ws.length [AV.val (.string ⟨#[]⟩),I 0,I 0,I 0]).flatten 0 [(0,ws.length)]):=ZBG
  have d:(A0i ws).flatten=ws.flatMap A0z.row:=by simp[A0i,List.flatMap]
  have e:(A0i ws).length=ws.length:=ZBG
  simp only[A9k,B9K,E1N,A0D,e,d,b,List.lookup,Z2h];by_cases h0:ws.length=0
  .have:ws=[]:=Z0w h0;subst this;simp
  .simp only[Z1S,f];simp[h0,A0Q,a,-List.length_flatMap]
def B3H(c b:Int):∀(l:List ByteArray) (n:Nat),(A2p c b n l).length=l.length
 |[],n=>by simp[A2p]
 |a::l,n=>by simp[A2p,B3H c b l]
def C4i(c:Nat)(d:List ByteArray)(f e:Int)(w:List A0z):∀(ps:List Nat) (i q:Nat),(∀p∈ps,p+c<=w.length)->(q::ps).Pairwise (λa b=>a+c<=b)->q+c<=w.length->q+c<=(B0v c d f e w ps i).length
 |[],i,q,_,_,h=>by rw[B0v];exact h
 |p::ps,i,q,hin,hpw,h=>by obtain⟨h1,h2⟩:=Z1c.1 hpw;have:=C4i c d f e w ps (i+1) p (λx hx=>hin x (by simp[hx])) h2 (hin p Q1);have:=h1 p Q1;rw[B0v];simp only[C6d,Z0k,Z0t,Z0G];omega
def C1M(b:Nat)(a:List ByteArray)(d c:Int)(w:List A0z):∀(ps:List Nat) (i:Nat),(B0v b a d c w ps i).length<=w.length+ps.length*a.length
 |[],i=>by rw[B0v];simp
 |p::ps,i=>by have:=C1M b a d c w ps (i+1);rw[B0v];simp only[C6d,Z0k,Z0t,Z0G,B3H,Z0r];rw[Z0R];omega
def hPu:A2r:=⟨λ_=>true,λd=>d==52,λ_=>false⟩
@[simp] def E3g:hPu.own=λd=>d==52:=(rfl)
@[simp] def E3I:hPu.vec=λ_=>false:=(rfl)
def B5m(w:List A0z)(ps:List Nat)(d:Nat)(c:List ByteArray)(o o2:Own)(u g:Int)(M:Mem)(hw:w.length<=1000)(av:ps.length<=1000)(ag:c.length<=1000)(b0:d<=1000)
 (ae:∀p∈ps,p+d<=w.length)(aj:ps.Pairwise λa b=>a+d<=b):
 A0c (WC gl) 252 [.list 4 (A0i w) .no,.list 1 (A8B ps) o2,I d,.list 1 (A0K c) o,I u,I g] M (λv M'=>v=.tuple [.list 4 (A0i (B2t w ps d c u g).1) .no,I (B2t w ps d c u g).2]/\M'=M):=by
 refine A0c.dataX ?_
 obtain⟨zs,ah,a5⟩:=C8w (ws:=w) (M:=M) Q0
 have w0:IntKind.i64.wrap ((ps.length:Int)-1)=(ps.length:Int)-1:=ZBN
 refine A0r hPu func252 ?_
 simp -dsimp[ah,a5,w0]
 have ho:A1r 259 4 A0z.row (M++[A0m.vec 259 4 (w.flatMap A0z.row) 0 [(0,w.length)]]) (.vref M.length 0 4 0 w.length) w:=.inr ⟨M.length,0,[(0,w.length)],rfl,Q1,ZAQ⟩
 have ac:=(A3i (n:=M.length) (enc:=A0z.row) (λ_=>rfl) A4H ho (λf hf=>by simp at hf;omega)).any
 refine D8M M.length 14 _ (by simpa using ac) ?_
 have ai:Grow M (A3y (M++[A0m.vec 259 4 (w.flatMap A0z.row) 0 [(0,w.length)]]) M.length):=B8T (A0d.app none M _)
 clear ho ac ah a5
 generalize A3y (M++[A0m.vec 259 4 (w.flatMap A0z.row) 0 [(0,w.length)]]) M.length=M0 at*
 refine A0M hPu (λT Mi=>∃(i:Nat) (ow:Own),i<=ps.length/\T 1=.list 1 (A8B ps) o2/\T 2=I d/\T 3=.list 1 (A0K c) o/\T 4=I u/\T 5=I g/\T 14=.list 4 (A0i (B0v d c u g w (ps.drop i) i)) ow/\T 15=I ((i:Int)-1)/\Grow M Mi) (λT _=>match T 15 with|.val (.int _ i)=>(i+1).toNat|_=>0) Q2 ?_ ?_
 .exact⟨ps.length,.no,Q0,Q1,Q1,Q1,Q1,Q1,by simp[B0v,A0i],Q1,ai⟩
 clear ai
 rintro T Mi ⟨i,ow,hi,t1,t2,t3,t4,t5,a0,y,hg⟩
 cases i with
 |zero=>
  rw[Z1z]at a0
  have y:T 15=I (-1):=by rw[y];rfl
  obtain⟨s,z⟩:=ex (B0v d c u g w ps 0)
  have aq:B2t w ps d c u g=if 256<s.length then([],6)else(s,0):=by rw[z];rfl
  rw[<-z]at a0
  rw[aq]
  have hb:∀l:List A0z,bdd M.length (.list 4 (A0i l) .no):=λl=>by simp only[bdd,Z1A];exact A2G _ _
  by_cases hc:256<s.length
  .have a3:(256:Int)<s.length:=Q0;rw[Z0c hc];simp -dsimp[t1,t2,t3,t4,t5,a0,y,a3];exact⟨hg,.tuple (.nilS (.same trivial .nil)) .nil⟩
  .have a3:¬(256:Int)<s.length:=Q0;rw[Z0d hc];simp -dsimp[t1,t2,t3,t4,t5,a0,y,a3];exact⟨hg,.tuple (.dis (hb s) (.same trivial .nil)) .nil⟩
 |succ j=>
  obtain⟨s,z⟩:=ex (B0v d c u g w (ps.drop (j+1)) (j+1))
  obtain⟨p,hp⟩:=ex (ps[j])
  have ab:ps.drop j=p::ps.drop (j+1):=by rw[Z0m Q0,hp]
  have al:p∈ps:=by rw[hp];exact Z0s _
  have ax:p+d<=s.length:=by rw[z];exact C4i d c u g w _ _ p (λx hx=>ae x (Z1w hx)) (by rw[<-ab];exact aj.sublist (List.drop_sublist _ _)) (ae p al)
  have ay:s.length<=1001000:=by have h1:=C1M d c u g w (ps.drop (j+1)) (j+1);rw[<-z]at h1;have h2:(ps.drop (j+1)).length*c.length<=1000*1000:=Z4L ZAB ag;omega
  rw[<-z]at a0
  have y:T 15=I j:=by rw[y];congr 2;omega
  have hj:j<ps.length:=Q0
  have ap:(j:Int)<ps.length:=Q0
  have am:(j:Int)>=0:=Q0
  have an:ps[j]=p:=hp.symm
  obtain⟨m,hm⟩:=ex (p+d)
  obtain⟨mj,a2⟩:=ex (j*c.length)
  have w1:IntKind.i64.wrap ((p:Int)+d)=(m:Int):=ZAW
  have a7:j*c.length<=1000*1000:=Z4L Q0 ag
  have w2:IntKind.i64.wrap ((j:Int)*c.length)=(mj:Int):=by rw[<-Int.natCast_mul,<-a2,A0R Q0 Q0]
  have w3:IntKind.i64.wrap ((j:Int)-1)=(j:Int)-1:=ZBN
  rw[<-a2]at a7
  have a8:=D0N (P:=prog) (t:=29) (e:=259) (sz:=4) (rows:=A0i s) (own:=ow) (i:=m) Q1 Q1 ZAB
  have aa:=D0z (P:=prog) (t:=29) (e:=259) (sz:=4) (rows:=A0i s) (own:=ow) (h:=p) Q1 Q1 ZAB
  obtain⟨aw,a6⟩:=ex (A6H (A0i s).length m (A0i s).length none ow)
  rw[<-a6,show(A0i s).drop m=A0i (s.drop m)by simp[A0i,Z4P]]at a8
  rw[show(A0i s).take p=A0i (s.take p)by simp[A0i,Z3m]]at aa
  have ad:=λM=>B3c gl c o u g mj M Q0 Q0
  obtain⟨fr,a1⟩:=ex (A2p u g mj c)
  have au:fr.length=c.length:=by rw[a1,B3H]
  rw[<-a1]at ad
  simp -dsimp[t1,t2,t3,t4,t5,a0,y,hj,ap,am,an,A6X,w1,a8]
  refine A0X hPu (A0B gl) (λk=>if k=12\/k=14 then 2 else 0) (λ_=>0) (by rfl) Q2 ?_
  simp -dsimp[t1,t2,t3,t4,t5,a0,y,aa,w2]
  refine A2y func177 ad ?_
  simp -dsimp[t1,t2,t3,t4,t5,a0,y]
  obtain⟨A,hA⟩:=ex (s.take p)
  obtain⟨D,hD⟩:=ex (s.drop m)
  have hAl:A.length<=1001000:=by rw[hA,Z0t];omega
  have az:D.length<=1001000:=by rw[hD,Z0G];omega
  rw[<-hA,<-hD]
  obtain⟨q,hq⟩:=ex (Mi.length)
  obtain⟨M2,a4⟩:=ex (Mi++[A0m.fam (A.length+fr.length) 4])
  have ar:M2[q]?=some (A0m.fam (A.length+fr.length) 4):=by rw[a4,hq];simp
  have ao:Grow M M2:=hg.trans (by rw[a4];exact A0d.app none _ _)
  have ak:A0i A++A0i fr=A0i (A++fr):=by simp[A0i]
  have af:A0i (A++fr)++A0i D=A0i (A++fr++D):=by simp[A0i]
  refine D5k (e:=259) (sz:=4) (bytes:=40) (r:=(.list 4 (A0i (A++fr)) (.fam q),M2)) B9K C8M C2M (by cases A<;>rfl) rfl (by simp[A7n,A9o];omega) (by simp[A9N,A9o,a4,hq,ak]) ?_
  simp -dsimp[t1,t2,t3,t4,t5,a0,y]
  refine D5k (e:=259) (sz:=4) (bytes:=40) (r:=(.list 4 (A0i (A++fr++D)) (.fam q),M2.set q (.fam (A.length+fr.length+D.length) 4))) B9K C8M C2M (by cases A<;>cases fr<;>rfl) rfl (by simp[A7n,A9o];omega) (by simp only[A9N,A9o,ar,D0T,Z0k];rw[Z0c ⟨trivial,trivial⟩,af]) ?_
  simp -dsimp[t1,t2,t3,t4,t5,a0,y,w3]
  have a9:B0v d c u g w (ps.drop j) j=A++fr++D:=by rw[ab,B0v,<-z,C6d,hA,a1,hD,a2,hm]
  exact⟨j,Q0,by rw[a9,Z0F],rfl,A0w ao (by have:=hg.1;omega)⟩
end
def B6T(l part:List ByteArray):∀(n i:Nat),∀p∈B3g l part n i,i<=p/\p+part.length<=l.length
 |0,i,p,h=>by rw[B3g]at h;simp at h
 |n+1,i,p,h=>by
  rw[B3g]at h;split at h
  .split at h
   .rcases Z0p.1 h with rfl|h
    .omega
    .have:=B6T l part n _ p h;omega
   .have:=B6T l part n _ p h;omega
  .simp at h
def C2W(l part:List ByteArray):∀(n i:Nat),(B3g l part n i).Pairwise λa b=>a+part.length<=b
 |0,i=>by rw[B3g];exact .nil
 |n+1,i=>by
  rw[B3g];split
  .split
   .exact Z1c.2 ⟨λp hp=>(B6T l part n _ p hp).1,C2W l part n _⟩
   .exact C2W l part n _
  .exact .nil
def B2M(w:List A0z)(part:List ByteArray)(nth:Int):(A6x w part nth).Sublist (B4z (A1q w) part):=by
 unfold A6x;simp only;split
 .exact Z4n _
 .split
  .exact List.nil_sublist _
  .exact(List.take_sublist _ _).trans (List.drop_sublist _ _)
def D6b(l part:List ByteArray):∀p∈B4z l part,p+part.length<=l.length:=by
 unfold B4z;split
 .simp
 .exactλp h=>(B6T l part _ _ p h).2
def D7a(l part:List ByteArray):(B4z l part).Pairwise λa b=>a+part.length<=b:=by
 unfold B4z;split
 .exact .nil
 .exact C2W _ _ _ _
section
variable (w:List A0z) (part:List ByteArray) (nth:Int)
def C0F:∀p∈A6x w part nth,p+part.length<=w.length:=λp h=>by have:=D6b (A1q w) part p ((B2M w part nth).subset h);simpa[A1q]using this
def C1f:(A6x w part nth).Pairwise λa b=>a+part.length<=b:=(D7a (A1q w) part).sublist (B2M w part nth)
def B0C:(A6x w part nth).length<=w.length+1:=by
 have h1:=(B2M w part nth).length_le;have h2:=C6g (A1q w) part;have e:(A1q w).length=w.length:=by simp[A1q]
 omega
end
def B8s(k i:Nat)(l:List Nat):List Nat:=(l.take i).map (·+k)++l.drop i
section
variable {k i:Nat} {l:List Nat}
def B9k:(B8s k i l).length=l.length:=by simp[B8s];omega
def D3o:B8s k l.length l=l.map (·+k):=by simp[B8s]
def D4B(h:i<l.length):(B8s k i l)[i]'(by rw[B9k];exact h)=l[i]:=by simp[B8s,List.getElem_append,Z1F (Z4t h)]
def D3m(h:i<l.length):(B8s k i l).set i (l[i]+k)=B8s k (i+1) l:=by
 unfold B8s;rw[Z3Q _ _ ZAB,show i-((l.take i).map (·+k)).length=0 by simp;omega]
 conv=>lhs;rw[Z0m h]
 rw[Z4f,Z1s h,Z1f,Z0F];rfl
end
section
variable (gl:Nat->AV)
def B5t(n:Nat)(l:List A0z):bdd n (.list 4 (A0i l) .no):=ZBM
def C7i(w:List A0z)(a new:List ByteArray)(nth c b:Int)(M:Mem)(hw:w.length<=900)(ho:a≠[])(j:a.length<=1000)(f:new.length<=1000)(hn:0<=nth):A0c (WC gl) 173 [.list 4 (A0i w) .no,.list 1 (A0K a) .no,.list 1 (A0K new) .no,I nth,I c,I b] M (λv M'=>v=.tuple [.list 4 (A0i (A4T w a new nth c b).1) .no,I (A4T w a new nth c b).2]/\M'=M):=by
 refine A0c.dataX ?_
 have h1:=C0C gl w a .no nth M Q0 Q0 hn
 obtain⟨ps,d⟩:=ex (A6x w a nth)
 have i:ps.length<=1000:=by rw[d];have:=B0C w a nth;omega
 have h2:=B5m gl w ps a.length new .no .no c b M Q0 i f j (by rw[d];exact C0F w a nth) (by rw[d];exact C1f w a nth)
 have hr:A4T w a new nth c b=if ps=[]then([],4)else B2t w ps a.length new c b:=by rw[d];rfl
 rw[hr]
 rw[<-d]at h1
 have l:0<a.length:=Z1K.2 ho
 have g:¬(a.length:Int)=0:=Q0
 have e:¬nth<0:=Q0
 refine A0r hB func173 ?_
 simp -dsimp[ho,g,e]
 refine A0g func251 h1 ?_
 by_cases h0:ps=[]
 .rw[Z0c h0];simp -dsimp[h0];exact⟨Grow.refl _,.tuple (.nilS (.same trivial .nil)) .nil⟩
 .rw[Z0d h0];have k:¬(ps.length:Int)=0:=by have:=Z1K.2 h0;omega
  generalize B2t w ps a.length new c b=R at*;simp -dsimp[h0,k];refine A0g func252 h2 ?_;simp -dsimp;exact⟨Grow.refl _,.tuple (.same (B5t _ _) (.same trivial .nil)) .nil⟩
def D1M(l:List Nat)(M:Mem)(hl:l.length<=1000000000):A0c (WC gl) 253 [.list 1 (A8B l) .no] M (λv M'=>A1r 3 1 A6X M' v l/\Grow M M'/\A1L M.length v):=by
 refine A0r hW func253 ?_;have tail:∀(K:AV->Mem->Prop) (tg:Tag K),(∀v M',(A1r 3 1 A6X M' v l/\Grow M M'/\A1L M.length v)->K v M')->A3s (WC gl) (A2e hW.own (some 7)) (A2e hW.vec (some 7)) 100 100 (.vref M.length 0 1 0 0) (.list 1 (A8B l) .no) (M++[.vec 3 1 [] 0 [(0,0)]]) K tg:=by intro K tg hk;have ho:A1r 3 1 A6X (M++[.vec 3 1 [] 0 [(0,0)]]) (.vref M.length 0 1 0 0) []:=.inr ⟨M.length,0,[(0,0)],rfl,Q1,ZAQ⟩;refine A3B (C:=WC gl) (enc:=A6X) (e:=3) (sz:=1) (news:=l) B0M B4F D0y (λ_=>rfl) ho (by simp[A0D,List.flatMap]) ZAB rfl ?_;intro v' M' h1 h2 h3 _;obtain⟨r1,r2⟩:=A3f (X:=[]) (A0d.app none M [.vec 3 1 [] 0 [(0,0)]]) (v:=.vref M.length 0 1 0 0) (λf hf=>by simp at hf;omega) ZAU ZBR;exact hk _ _ ⟨h1,r1,r2⟩
 cases l with
 |nil=>
  simp -dsimp;rw[A5B (.inl rfl) underlying100];intro b;cases b
  .simp -dsimp[A1C,A1g];refine tail _ _ λv M' h=>?_;simp -dsimp;exact h
  .simp -dsimp;exact⟨.nil,A0d.refl _ _,λf h=>by simp at h⟩
 |cons a l=>simp -dsimp[A1C,A1g];refine tail _ _ λv M' h=>?_;simp -dsimp;exact h
def D6s{n:Nat}{M:Mem}{v:AV}{l:List Nat}(h:Arr 3 1 A6X n M v l){i:Nat}(hi:i<l.length)(y:Nat):∃f g M',v=.vref f g 1 0 l.length/\A0E prog 3 M (.vptr f g i)=some (I l[i])/\A0k (some 1) M (.vptr f g i) (I y)=some M'/\Arr 3 1 A6X n M' v (l.set i y)/\M'.length=M.length/\∀j,j≠f->M'[j]?=M[j]?:=by
 obtain⟨h1,h2⟩:=h
 rcases h1 with⟨rfl,rfl⟩|⟨f,g,a,rfl,hm,hl⟩
 .simp at hi
 have hlt:f<M.length:=(Z0a.1 hm).1
 have b:=B0X (enc:=A6X) (sz:=1) (λ_=>rfl) l i y hi
 rw[Z3G]at b
 have e:(l.flatMap A6X).length=l.length:=by rw[A2d (enc:=A6X) (sz:=1) (λ_=>rfl),Z3G]
 have c:(l.flatMap A6X).drop i=I l[i]::(l.drop (i+1)).flatMap A6X:=by have:=A3q (enc:=A6X) (sz:=1) (λ_=>rfl) i l;rw[Z3G,Z0m hi,Z0y]at this;exact this
 refine⟨f,g,M.set f (.vec 3 1 ((l.set i y).flatMap A6X) g (A0Q 1 g i a)),rfl,?_,?_,⟨.inr ⟨f,g,A0Q 1 g i a,Q1,ZDE,?_⟩,h2⟩,Q1,λj hj=>Z0f Q0⟩
 .have d:0<l.length:=Q0;simp[A0E,A2g,hm,hl,hi];rw[Z0e Q0,c];rfl
 .simp only[A0k,hm,hl];rw[Z0c ZCB];simp only[AV.cells];rw[show[I (y:Int)]=A6X y from rfl,b]
 .unfold A0Q;rw[Z1Q];exact A3K _ hl
def C3w(w:List A0z)(part new:List ByteArray)(nth d c:Int)(M:Mem)(hw:w.length<=900)(ag:part.length<=1000)(r:new≠[])(a1:new.length<=1000)(hn:0<=nth)(aa:part=[]->nth=0):A0c (WC gl) 175 [.list 4 (A0i w) .no,.list 1 (A0K part) .no,.list 1 (A0K new) .no,I nth,I d,I c] M (λv M'=>v=.tuple [.list 4 (A0i (A3V w part new nth d c).1) .no,I (A3V w part new nth d c).2]/\M'=M):=by
 refine A0c.dataX ?_
 have ac:0<new.length:=Z1K.2 r
 have s:¬(new.length:Int)=0:=Q0
 have a7:¬nth<0:=Q0
 refine A0r hB func175 ?_
 by_cases hp0:part=[]
 .have hz:=aa hp0;subst hz;have h2:=λo2=>B5m gl w [0] 0 new .no o2 d c M Q0 Q1 a1 Q0 Q1 Q1;have hr:A3V w part new 0 d c=B2t w [0] 0 new d c:=Z0c hp0;rw[hr];simp only[Z0x,Z1N,A6X]at h2;generalize B2t w [0] 0 new d c=R at*;simp -dsimp[r,s,hp0,A0x,A1g,AV.storable,AV.cells];refine A0g func252 (h2 _) ?_;simp -dsimp;exact⟨Grow.refl _,.tuple (.same (B5t _ _) (.same trivial .nil)) .nil⟩
 have ah:0<part.length:=Z1K.2 hp0
 have u:¬(part.length:Int)=0:=Q0
 have h1:=C0C gl w part .no nth M Q0 Q0 hn
 obtain⟨ps,k⟩:=ex (A6x w part nth)
 have ad:ps.length<=1000:=by rw[k];have:=B0C w part nth;omega
 have t:∀p∈ps,p+part.length<=w.length:=by rw[k];exact C0F w part nth
 have a3:ps.Pairwise λa b=>a+part.length<=b:=by rw[k];exact C1f w part nth
 obtain⟨qs,e⟩:=ex (ps.map (·+part.length))
 have af:qs.length=ps.length:=by rw[e];simp
 have h2:=λM=>B5m gl w qs 0 new .no .no d c M Q0 Q0 a1 Q0 (by rw[e];simpa using t) (by rw[e];exact Z2E.2 (a3.imp λh=>by omega))
 have hr:A3V w part new nth d c=if ps=[]then([],4)else B2t w qs 0 new d c:=by rw[e,k];exact Z0d hp0
 rw[hr]
 rw[<-k]at h1
 have ab:=D1M gl ps M Q0
 generalize B2t w qs 0 new d c=R at*
 simp -dsimp[r,s,a7,hp0,u]
 refine A0g func251 h1 ?_
 simp -dsimp
 refine A3R func253 ab ?_
 rintro v2 M2 ⟨ho,a0,z⟩
 have x:=ho.len (P:=prog) underlying100
 by_cases h0:ps=[]
 .have o:ps.length=0:=by rw[h0];rfl
  rw[Z0c h0];simp -dsimp[x,o];exact⟨a0,.tuple (.nilS (.same trivial .nil)) .nil⟩
 have o:¬(ps.length:Int)=0:=by have:=Z1K.2 h0;omega
 rw[Z0d h0]
 simp -dsimp[x,o,h0]
 refine B2Y (.exit 0) (λT Mi=>T 0=.list 4 (A0i w) .no/\T 2=.list 1 (A0K new) .no/\T 4=I d/\T 5=I c/\Arr 3 1 A6X M.length Mi (T 14) qs/\Grow M Mi) ?_ ?_
 .refine A1y hB ps.length 53 (λT Mi=>∃i:Nat,i<=ps.length/\T 0=.list 4 (A0i w) .no/\T 1=.list 1 (A0K part) .no/\T 2=.list 1 (A0K new) .no/\T 4=I d/\T 5=I c/\T 52=I ps.length/\T 53=I i/\Arr 3 1 A6X M.length Mi (T 14) (B8s part.length i ps)/\Grow M Mi) ?_ ?_
  .exact⟨0,Q0,Q1,Q1,Q1,Q1,Q1,Q1,Q1,by simpa[B8s]using⟨ho,z⟩,a0⟩
  rintro T Mi ⟨i,i1,t0,t1,t2,t4,t5,a2,t53,ha,hg⟩;by_cases hi:i<ps.length;case neg=>have n:¬(i:Int)<ps.length:=Q0;have a8:i=ps.length:=Q0;subst a8;rw[D3o,<-e]at ha;simp -dsimp[t0,t1,t2,t4,t5,a2,t53,n];exact⟨ha,hg⟩
  have n:(i:Int)<ps.length:=Q0;have w1:=A1O (i:=i) Q0;have ai:=t ps[i] (Z0s hi);obtain⟨m,hm⟩:=ex (ps[i]+part.length);have w2:IntKind.i64.wrap ((ps[i]:Int)+part.length)=(m:Int):=ZAW
  obtain⟨f,g,M3,l,y,a5,q,a9,a4⟩:=D6s ha (i:=i) (by rw[B9k];exact hi) m;have ae:=ha.lat f (by rw[l];rfl);rw[D4B hi]at y;rw[hm,D3m hi]at q;rw[B9k]at l;rw[l]at q;simp -dsimp[t0,t1,t2,t4,t5,a2,t53,n,hi,l,y,a5,w2,w1];exact⟨⟨i+1,Q3,rfl,q,by rw[a9];exact hg.1,λj hj _=>by rw[a4 j Q0];exact hg.2 j hj Q1⟩,Q3⟩
 rintro T Mi ⟨t0,t2,t4,t5,ha,hg⟩
 refine⟨M.length,T.put (some 14) (.list 1 (A8B qs) .no),A6W (A7k T) (Still.rows (λ_=>rfl) (λ_ _ _=>trivial) ha.own ha.lat .nil),?_⟩
 have a6:=A5c hg
 simp -dsimp[t0,t2,t4,t5]
 refine A0g func252 (h2 _) ?_
 simp -dsimp
 exact⟨a6,.tuple (.same (B5t _ _) (.same trivial .nil)) .nil⟩
end
abbrev itV(kd w nth act item day:Int)(lab for_ ev:ByteArray)(st:A1J)(at_ to old new by_:AV)(ua ub uc uk:Int)(ul:ByteArray)(uh uw uv:AV):List AV:=[I kd,at_,to,I w,I nth,I ua,I ub,I uc,I uk,S ul,uh,uw,uv,old,new,S lab,S for_,I st.k,I st.day,S st.ev,I act,I item,I day,S ev,by_]
def C1V(s:A1J):A1K prog .eql 50 (.agg [I s.k,I s.day,S s.ev]) (.agg [I s.k,I s.day,S s.ev])=some (B true):=by have h1:prog.eqGuardType prog.depth 50=false:=Q2;have h2:prog.stoodInHeld 50=false:=Q2;simp[A1K,A3v,A4B,A3Z,A3b,h1,B0m,h2,A2P]
section
variable (gl:Nat->AV)
def A7i(kd w jw f jn j c day:Int)(lab jl e ev:ByteArray)(st:A1J)(at_ to o l i new g by_:AV)(ua ub uc uk ja jb jc jk:Int)(ul m:ByteArray)(uh uw uv jh n jv:AV)(M:Mem)(cT cO cN cU cB:Bool)
 (hA:∀M,A0c (WC gl) 207 [at_,at_] M (λv M'=>v=B true/\M'=M))(hT:∀M,A0c (WC gl) 207 [to,o] M (λv M'=>v=B cT/\M'=M))
 (hO:∀M,A0c (WC gl) 208 [l,i] M (λv M'=>v=B cO/\M'=M))(hN:∀M,A0c (WC gl) 208 [new,g] M (λv M'=>v=B cN/\M'=M))
 (hU:∀M,A0c (WC gl) 209 [.agg [I ua,I ub,I uc,I uk,S ul,uh,uw,uv],.agg [I ja,I jb,I jc,I jk,S m,jh,n,jv]] M (λv M'=>v=B cU/\M'=M))
 (p:∀M,A0c (WC gl) 210 [by_,A0C,.func (.func 124) [] []] M (λv M'=>v=B cB/\M'=M)):
 A0c (WC gl) 124 [.agg (itV kd w f j c day lab e ev st at_ to l new by_ ua ub uc uk ul uh uw uv),.agg (itV kd jw jn 0 0 0 jl e ⟨#[]⟩ st at_ o i g A0C ja jb jc jk m jh n jv)] M (λv M'=>v=B ((decide (w=jw)&&decide (f=jn)&&decide (j=0)&&decide (c=0)&&decide (day=0))&&(decide (lab=jl)&&decide (ev=⟨#[]⟩))&&(cT&&cO&&cN)&&cU&&cB)/\M'=M):=by
 obtain⟨R1,b⟩:=ex (AV.cptr (itV kd w f j c day lab e ev st at_ to l new by_ ua ub uc uk ul uh uw uv))
 obtain⟨R2,a⟩:=ex (AV.cptr (itV kd jw jn 0 0 0 jl e ⟨#[]⟩ st at_ o i g A0C ja jb jc jk m jh n jv))
 obtain⟨n1,d⟩:=ex ((decide (w=jw)&&decide (f=jn)&&decide (j=0)&&decide (c=0)&&decide (day=0)))
 obtain⟨n2,k⟩:=ex ((decide (lab=jl)&&decide (ev=⟨#[]⟩)))
 rw[<-d,<-k]
 refine A0r hB func124 ?_
 simp -dsimp -implicitDefEqProofs only[A8g]
 refine B2O (λT M1=>M1=M/\T 2=R1/\T 3=R2) ?_ ?_
 .simp -dsimp -implicitDefEqProofs[b,a]
 rintro T M1 ⟨e1,t2,t3⟩
 rw[e1];clear e1
 simp -dsimp -implicitDefEqProofs only[A8g,A7P]
 refine B2O (λT M1=>M1=M/\T 2=R1/\T 3=R2/\T 5=B n1) ?_ ?_
 .rw[b]at t2;rw[a]at t3;by_cases c1:w=jw
  .by_cases c2:f=jn
   .by_cases c3:j=0
    .by_cases c4:c=0
     .by_cases c5:day=0
      .simp -dsimp -implicitDefEqProofs[b,a,d,t2,t3,c1,c2,c3,c4,c5]
      .simp -dsimp -implicitDefEqProofs[b,a,d,t2,t3,c1,c2,c3,c4,c5]
     .simp -dsimp -implicitDefEqProofs[b,a,d,t2,t3,c1,c2,c3,c4]
    .simp -dsimp -implicitDefEqProofs[b,a,d,t2,t3,c1,c2,c3]
   .simp -dsimp -implicitDefEqProofs[b,a,d,t2,t3,c1,c2]
  .simp -dsimp -implicitDefEqProofs[b,a,d,t2,t3,c1]
 clear t2 t3
 rintro T M1 ⟨e1,t2,t3,t5⟩
 rw[e1];clear e1
 simp -dsimp -implicitDefEqProofs only[A8g,A7P]
 refine B2O (λT M1=>M1=M/\T 2=R1/\T 3=R2/\T 5=B n1/\T 6=B n2) ?_ ?_
 .rw[b]at t2;rw[a]at t3;by_cases c1:lab=jl
  .by_cases c2:ev=⟨#[]⟩
   .simp -dsimp -implicitDefEqProofs[b,a,k,t2,t3,t5,c1,c2,C1V]
   .simp -dsimp -implicitDefEqProofs[b,a,k,t2,t3,t5,c1,c2,C1V]
  .simp -dsimp -implicitDefEqProofs[b,a,k,t2,t3,t5,c1,C1V]
 clear t2 t3 t5
 rintro T M1 ⟨e1,t2,t3,t5,t6⟩
 rw[e1];clear e1
 simp -dsimp -implicitDefEqProofs only[A8g,A7P]
 refine B2O (λT M1=>M1=M/\T 2=R1/\T 3=R2/\T 5=B n1/\T 6=B n2/\T 7=B (cT&&cO&&cN)) ?_ ?_
 .rw[b]at t2;rw[a]at t3;simp -dsimp -implicitDefEqProofs[b,a,t2,t3,t5,t6];refine A0g func207 (hA _) ?_;simp -dsimp -implicitDefEqProofs[t2,t3,t5,t6];refine A0g func207 (hT _) ?_;cases cT
  .simp -dsimp -implicitDefEqProofs[t2,t3,t5,t6,b,a]
  simp -dsimp -implicitDefEqProofs[t2,t3,t5,t6,b,a];refine A0g func208 (hO _) ?_;cases cO
  .simp -dsimp -implicitDefEqProofs[t2,t3,t5,t6,b,a]
  simp -dsimp -implicitDefEqProofs[t2,t3,t5,t6,b,a];refine A0g func208 (hN _) ?_;simp -dsimp -implicitDefEqProofs[t2,t3,t5,t6,b,a]
 clear t2 t3 t5 t6
 rintro T M1 ⟨e1,t2,t3,t5,t6,t7⟩
 rw[e1];clear e1
 generalize(cT&&cO&&cN)=n3 at*
 simp -dsimp -implicitDefEqProofs only[A8g,A7P]
 rw[b]at t2
 rw[a]at t3
 cases n1
 .simp -dsimp -implicitDefEqProofs[t2,t3,t5,t6,t7]
 cases n2
 .simp -dsimp -implicitDefEqProofs[t2,t3,t5,t6,t7]
 cases n3
 .simp -dsimp -implicitDefEqProofs[t2,t3,t5,t6,t7]
 simp -dsimp -implicitDefEqProofs[t2,t3,t5,t6,t7]
 refine A0g func209 (hU _) ?_
 cases cU
 .simp -dsimp -implicitDefEqProofs[t2,t3,t5,t6,t7]
 simp -dsimp -implicitDefEqProofs[t2,t3,t5,t6,t7]
 refine A0g func210 (p _) ?_
 simp -dsimp -implicitDefEqProofs[t2,t3,t5,t6,t7]
end
end Go.Abs
