/- The texts CeA, CeB, CeC, CeD, CeE, CeF, CeG, CeH, CeI, CeJ, CeK, CeL, CeM, CbJ, EjA. -/
import Derived.Test.YtmihnfpinnfnfaaGreatDoorPG28
import Derived.Test.YtmihnfpinnfnfaaGreatDoorPG26
import Derived.Test.YtmihnfpinnfnfaaGreatDoorPG27
set_option linter.all false
set_option maxRecDepth 100000
namespace Go.Abs
open Go.Proofs TryTypes Tryz
mutual
def A1f(x:IdD):A0a->List A0a
 |.mk id k l h w ks=>if id=x then[.mk id k l h w ks]else match A3g x ks with
  |[]=>[]
  |r::rs=>.mk id k l h w ks::r::rs
def A3g(x:IdD):List A0a->List A0a
 |[]=>[]
 |k::ks=>match A1f x k with
  |[]=>A3g x ks
  |r::rs=>r::rs
end
def A5g:List A0a->AV
 |[]=>A0B
 |u::r=>.list 8 (A0q (u::r)) .no
mutual
def A5y(x:IdD):∀u:A0a,(A1f x u).length<=A0x u
 |.mk id k l h w ks=>by
  have:=B7e x ks;rw[A1f,A0x];split
  .simp
  .split
   .simp
   .rename_i r rs e;rw[e]at this;simp at this|-;omega
def B7e(x:IdD):∀ks:List A0a,(A3g x ks).length<=A0H ks
 |[]=>by rw[A3g];simp
 |k::ks=>by
  have h1:=A5y x k;have h2:=B7e x ks;rw[A3g,A0H];split
  .omega
  .rename_i r rs e;rw[e]at h1;omega
end
mutual
def A3z(x:IdD):∀u:A0a,A0O x u=(A1f x u).getLast?
 |.mk id k l h w ks=>by
  have:=B5f x ks;rw[A1f,A0O];split
  .rfl
  .rw[this];cases A3g x ks with
   |nil=>rfl
   |cons r rs=>simp
def B5f(x:IdD):∀ks:List A0a,A6r x ks=(A3g x ks).getLast?
 |[]=>by rw[A3g,A6r];rfl
 |k::ks=>by
  have h1:=A3z x k;have h2:=B5f x ks;rw[A3g,A6r,h1,h2];cases A1f x k with
  |nil=>rfl
  |cons r rs=>
   cases h:(r::rs).getLast? with
   |none=>simp at h
   |some v=>simp[h]
end
def B5n{x:IdD}{u:A0a}(h:A1f x u≠[]):A5g (A1f x u)=.list 8 (A0q (A1f x u)) .no:=by
 cases e:A1f x u with
 |nil=>exact absurd e h
 |cons r rs=>rfl
def B4w(n:Nat)(l:List A0a):bdd n (.list 8 (A0q l) .no):=by simp only[bdd,Z1z];exact A8U n l
def A7M(l:List A0a):(A0q l).flatten=l.flatMap A0a.row:=by rw[A2S];simp[List.flatMap]
def B0N{M:Mem}{n:Nat}{v:AV}{l:List A0a}(h:A1p 30 8 A0a.row M v l)(hn:A1K n v):Still M n (bdd n) [v] [.list 8 (A0q l) .no]:=by rw[A2S];exact A2T A0a.row_len A1I h hn
section
variable (gl:Nat->AV)
def B0V:∀(u:A0a) (x:IdD) (M:Mem),u.good->A0x u<=3000->A0c (WC gl) 99 [.agg u.row,.agg x.row] M (λv M'=>v=A5g (A1f x u)/\M'=M)
 |.mk id kind lab hd ws ks,x,M,hg,hc=>by
  obtain⟨_,_,a4,_,a2,_,a5,a0,p⟩:=(A0a.good_iff _).1 hg;have p:∀k∈ks,k.good:=p;have a3:1+A0H ks<=3000:=by rwa[A0x]at hc
  have a1:=A2t ks;obtain⟨u,hu⟩:=ex (A0a.mk id kind lab hd ws ks);have g:(A0a.mk id kind lab hd ws ks).row=[I id.act,I id.item,I id.n,I kind,S lab,.list 4 (A0i hd) .no,.list 4 (A0i ws) .no,.list 8 (A0q ks) .no]:=by rw[A0a.row]
  have hx:x.row=[I x.act,I x.item,I x.n]:=rfl;have he:=C1B id x;refine A0c.dataX ?_;rw[g,hx];refine A0t (hQ [27,29]) func99 ?_;by_cases h0:id=x
  .rw[Z0B h0]at he;(have hr:A1f x (.mk id kind lab hd ws ks)=[.mk id kind lab hd ws ks]:=by rw[A1f,Z0c h0]);rw[hr];simp -dsimp[he,A0w,A1e,AV.storable,AV.cells];refine⟨Grow.refl _,?_⟩;have hb:=B4w M.length [.mk id kind lab hd ws ks];simp only[A5g];rw[A0q,A0q,g]at hb|-;exact .dis hb .nil
  rw[Z0I h0]at he;have hr:A1f x (.mk id kind lab hd ws ks)=match A3g x ks with
   |[]=>[]
   |r::rs=>.mk id kind lab hd ws ks::r::rs:=by rw[A1f,Z0d h0]
  rw[hr];generalize hR:A3g x ks=R;simp -dsimp[he];refine A1E (hQ [27,29]) ks.length 17 (λT M1=>∃i:Nat,Grow M M1/\i<=ks.length/\T 2=.cptr [I id.act,I id.item,I id.n,I kind,S lab,.list 4 (A0i hd) .no,.list 4 (A0i ws) .no,.list 8 (A0q ks) .no]/\T 3=.cptr [I x.act,I x.item,I x.n]/\T 15=.list 8 (A0q ks) .no/\T 16=I ks.length/\T 17=I i/\R=A3g x (ks.drop i)) ?_ ?_
  .exact⟨0,Grow.refl _,Q0,Q1,Q1,Q1,Q1,Q1,by simp[hR]⟩
  rintro T M1 ⟨i,l,i1,t2,t3,c,a,b,ho⟩;by_cases hi:i<ks.length;case neg=>have q:¬(i:Int)<ks.length:=Q0;rw[show ks.drop i=[]from Z0y Q0,A3g]at ho;subst ho;simp -dsimp[t2,t3,c,a,b,q];exact⟨l,.same trivial .nil⟩
  have q:(i:Int)<ks.length:=Q0;have w1:=A1Y (i:=i) Q0;have d:ks[i]∈ks:=Z0u hi;have a6:=A3B d;rw[Z0o hi,A3g]at ho;obtain⟨M2,s⟩:=ex (M1++[A0l.cells 30 ks[i].row]);have o:Grow M1 M2:=by rw[s];exact A0d.app none _ _
  have w:M2[M1.length]?=some (A0l.cells 30 ks[i].row):=by rw[s];simp
  have:=A0a.kid_lt (u:=.mk id kind lab hd ws ks) d;have j:=B0V ks[i] x M2 (p _ d) Q0;have m:=A5y x ks[i];rw[hx]at j;simp -dsimp[t2,t3,c,a,b,hi,q,A0j,A0k,A0e,AV.storable,AV.cells];rw[<-s];simp -dsimp[t2,t3,c,a,b,A0b w];refine A0h func99 j ?_;cases hw:A1f x ks[i]with
  |nil=>rw[hw]at ho;simp -dsimp[t2,t3,c,a,b,w1,A5g];exact⟨⟨l.trans o,i+1,Q3,rfl,ho⟩,Q3⟩
  |cons r rs=>rw[hw]at ho m;subst ho;(have y:A1B prog 28 1 [(0,.agg [I id.act,I id.item,I id.n,I kind,S lab,.list 4 (A0i hd) .no,.list 4 (A0i ws) .no,.list 8 (A0q ks) .no])] M2=some (.vref M2.length 0 8 0 1,M2++[.vec 30 8 [I id.act,I id.item,I id.n,I kind,S lab,.list 4 (A0i hd) .no,.list 4 (A0i ws) .no,.list 8 (A0q ks) .no] 0 [(0,1)]]):=by simp[A1B,A1e,AV.storable,AV.cells]);(have t:A0q (r::rs)=r.row::A0q rs:=by rw[A0q]);simp -dsimp[t2,t3,c,a,b,A5g,t,y];rw[<-t,<-g];have z:A1p 30 8 A0a.row (M2++[.vec 30 8 (A0a.mk id kind lab hd ws ks).row 0 [(0,1)]]) (.vref M2.length 0 8 0 1) [.mk id kind lab hd ws ks]:=.inr ⟨M2.length,0,[(0,1)],rfl,Q1,by simp[List.lookup]⟩;refine A3u (C:=WC gl) (enc:=A0a.row) (e:=30) (sz:=8) (news:=r::rs) A7N B2e B0y A0a.row_len z (by simp only[A0D,A7M,A9s];simp) (by simp at m|-;omega) rfl ?_;intro v' M3 q1 q2 q3 _;obtain⟨r1,r2⟩:=A2R (X:=[]) ((l.trans o).trans (A0d.app none _ [.vec 30 8 (A0a.mk id kind lab hd ws ks).row 0 [(0,1)]])) (v:=.vref M2.length 0 8 0 1) (λf hf=>by simp at hf;have:=(l.trans o).1;omega) (by simpa using q2) (by simpa using q3);simp -dsimp;exact⟨r1,B0N q1 r2⟩
termination_by u=>SizeOf.sizeOf u
end
section
def C7k{u:A0a}(h:Fit u):∀k∈u.kids,Fit k:=by obtain⟨h1,h2,h3⟩:=h;intro k hk;have:=A3B hk;rw[A5M]at h3;exact⟨((A0a.good_iff _).1 h1).2.2.2.2.2.2.2.2 k hk,A4d.1 (A3T u h2).2 k hk,Q0⟩
def A7O(l:List A0a)(i:Nat)(h:i<l.length):(A0q l)[i]?=some (l[i]).row:=by rw[A2S];simp[h]
def D4V{x:IdD}{u v:A0a}(h:(A1f x u).getLast?=some v):v.id=x/\v∈A2a u:=by rw[<-A3z]at h;rw[A9d]at h;exact⟨by have:=List.find?_some h;simpa using this,Z4c h⟩
mutual
def A7v:∀u:A0a,Fit u->∀v∈A2a u,Fit v
 |.mk a b c d e ks,h,v,hv=>by
  rw[A2a]at hv;rcases Z0r.1 hv with rfl|hv
  .exact h
  .refine C2R ks (λk hm=>?_) v hv;have h1:=((A0a.good_iff _).1 h.1).2.2.2.2.2.2.2.2;have h2:=A4d.1 (A3T _ h.2.1).2;have h3:=h.2.2;have h4:=A3B hm;rw[A0x]at h3;exact⟨h1 k hm,h2 k hm,Q0⟩
def C2R:∀ks:List A0a,(∀k∈ks,Fit k)->∀v∈A3p ks,Fit v
 |[],_,v,hv=>by rw[A3p]at hv;simp at hv
 |k::ks,h,v,hv=>by
  rw[A3p]at hv;rcases Z0T.1 hv with hv|hv
  .exact A7v k (h k Q1) v hv
  .exact C2R ks (λq hq=>h q (by simp[hq])) v hv
end
section
variable (gl:Nat->AV)
def B1J(u:A0a)(x:IdD)(M:Mem)(hf:Fit u):A0c (WC gl) 63 [.agg u.row,.agg x.row] M (λv M'=>v=.tuple [.agg (A4z (A0O x u)),B (A0O x u).isSome]/\M'=M):=by
 refine A0c.dataX ?_;have hx:x.row=[I x.act,I x.item,I x.n]:=rfl;obtain⟨Ma,c⟩:=ex (M++[z8]);have q:Grow M Ma:=by rw[c];exact A0d.app none _ _
 have d:Ma[M.length]?=some z8:=by rw[c];simp
 have b:=B0V gl u x Ma hf.1 hf.2.2;have o:=A5y x u;have a5:=hf.2.2;have a2:=A3z x u;rw[u.row_eq,hx]at b|-;rw[a2];refine A0t hB func63 ?_;simp -dsimp[A0j];rw[<-c];refine A0h func99 b ?_;generalize hr:A1f x u=r at*;rcases Z2W r with rfl|⟨rs,w,rfl⟩
 .have t:M.length<Ma.length:=(Z0a.1 d).1;simp -dsimp[A5g,A0f d,A0o,A0n,A0r t,A0g];exact⟨A0u q (Z0j _),.tuple (.same (C8u _ none) (.same trivial .nil)) .nil⟩
 .rw[Z4u]at*;have hw:=D4V (x:=x) (u:=u) (v:=w) (by rw[hr];simp);have g:=A7v u hf w hw.2;have z:A5g (rs++[w])=.list 8 (A0q (rs++[w])) .no:=by rw[<-hr];exact B5n (by rw[hr];simp)
  have hi:rs.length<(rs++[w]).length:=by simp
  have a0:(A0q (rs++[w]))[rs.length]?=some w.row:=by rw[A7O _ _ hi];simp
  have w1:IntKind.i64.wrap (rs.length:Int)=rs.length:=by rw[A0R Q0 (by simp at o;omega)]
  have y:¬(rs.length:Int)+1=0:=Q0;have l:(rs.length:Int)<rs.length+1:=Q0;have i:=B4I gl w (.list 8 (A0q w.kids) .no) Ma (.inl rfl) g.1 g.2.1 g.2.2;rw[show A3m w (.list 8 (A0q w.kids) .no)=w.row from(w.row_eq).symm]at i;rw[z];simp -dsimp[y,w1,a0,l];refine A4b func100 i ?_;rintro _ M2 ⟨hv,wv,kw,rfl,a⟩;obtain⟨p,a4⟩:=a.still;have j:=p.get d Q1;have s:M.length<M2.length:=(Z0a.1 j).1;simp -dsimp[A0f j,A0o,A0n,A0r s,A0g];have a3:Ma.length=M.length+1:=by rw[c];simp
  obtain⟨M3,e⟩:=ex (M2.set M.length (A0l.cells 30 (D2a w hv wv kw)));have hs:∀f,f≠M.length->M3[f]?=M2[f]?:=λf h1=>by rw[e,Z0f Q0]
  have l1:=a.h.lat;have l2:=a.w.lat;have l3:=a.k.lat;have g1:=(a.h.stay (M':=M3) (λf h=>hs f (by have:=l1 f h;omega))).weak (m:=M.length) Q0;have g2:=(a.w.stay (M':=M3) (λf h=>hs f (by have:=l2 f h;omega))).weak (m:=M.length) Q0;have g3:=a.k.stay (M':=M3) (λf h=>hs f (by have:=l3 f h;omega));have a1:Grow M M3:=by rw[e];exact A0u (q.trans p) (Z0j _)
  rw[<-e];refine⟨a1,.tuple ?_ .nil⟩;rw[A4z,w.row_eq,A2S];exact .agg (.same trivial (.same trivial (.same trivial (.same trivial (.same trivial (g1.still (λ_=>rfl) A4B (g2.still (λ_=>rfl) A4B (A2T A0a.row_len A1I g3.own (λf h=>by have:=l3 f h;omega))))))))) (.same trivial .nil)
def C7o(p:A0a->Bool)(g:FuncId)(cap:List AV)(l:List A0a)(o:Own)(M:Mem)(hl:l.length<=3000)(hp:∀u∈l,A3E (WC gl) g (.agg u.row::cap) M (λv M'=>v=B (p u)/\M'=M)):
 A0c (WC gl) 227 [.list 8 (A0q l) o,.func (.func g) [] cap] M (λv M'=>v=I (A3b p l 0)/\M'=M):=by
 refine A0t hB func227 ?_
 simp -dsimp
 refine A1E hB l.length 8 (λT M1=>∃i:Nat,i<=l.length/\M1=M/\T 0=.list 8 (A0q l) o/\T 1=.func (.func g) [] cap/\T 7=I l.length/\T 8=I i/\A3b p l 0=A3b p (l.drop i) i) ?_ ?_
 .exact⟨0,Q0,rfl,Q1,Q1,Q1,Q1,Q1⟩
 .rintro T M1 ⟨i,i1,rfl,t0,t1,t7,t8,ho⟩;by_cases hi:i<l.length
  .have a:(i:Int)<l.length:=Q0;have w1:=A1Y (i:=i) Q0;have hd:l.drop i=l[i]::l.drop (i+1):=Z0o hi;rw[hd,A3b]at ho;have b:=A7O l i hi;simp -dsimp[t0,t1,t7,t8,hi,a,b];refine A0v (hp l[i] (Z0u hi)) ?_;rintro _ _ ⟨rfl,rfl⟩;cases hq:p l[i]
   .rw[hq,Z0d Q1]at ho;simp -dsimp[t0,t1,t7,t8,w1];exact⟨⟨i+1,Q3,rfl,ho⟩,Q3⟩
   .rw[hq,Z0c rfl]at ho;simp -dsimp[t0,t1,t7,t8,ho]
  .have a:¬(i:Int)<l.length:=Q0;rw[show l.drop i=[]from Z0y Q0]at ho;simp -dsimp[t0,t1,t7,t8,a,ho,A3b]
def D5p(p:A0a->Bool)(g:FuncId)(cap:List AV)(l:List A0a)(o:Own)(M:Mem)(hl:l.length<=3000)(hp:∀u∈l,A3E (WC gl) g (.agg u.row::cap) M (λv M'=>v=B (p u)/\M'=M)):
 A0c (WC gl) 210 [.list 8 (A0q l) o,.func (.func g) [] cap] M (λv M'=>v=B (l.any p)/\M'=M):=by
 refine A0t hB func210 ?_
 simp -dsimp
 refine A0h func227 (C7o gl p g cap l o M hl hp) ?_
 rw[<-A7d _ l 0]
 simp -dsimp
def D5h(u:A0a)(x:IdD)(M:Mem)(hf:Fit u):A0c (WC gl) 228 [.agg u.row,.cptr [I x.act,I x.item,I x.n]] M (λv M'=>v=B (A0O x u).isSome/\M'=M):=by
 have a:=B0V gl u x M hf.1 hf.2.2;have hx:x.row=[I x.act,I x.item,I x.n]:=rfl;have c:=A3z x u;rw[u.row_eq,hx]at a;rw[u.row_eq,c];refine A0t hB func228 ?_;simp -dsimp;refine A0h func99 a ?_;cases hr:A1f x u with
 |nil=>simp -dsimp[A5g]
 |cons r rs=>
  have b:A0q (r::rs)=r.row::A0q rs:=by rw[A0q]
  have hs:((r::rs).getLast?).isSome=true:=by simp
  simp -dsimp[A5g,b,hs]
end
end
section
def D7D{α:Type}(r:List α):r=[]\/(∃w,r=[w])\/∃rs p w,r=rs++[p,w]:=by
 rcases Z2W r with rfl|⟨q,w,rfl⟩
 .exact .inl rfl
 .rcases Z2W q with rfl|⟨rs,p,rfl⟩
  .exact .inr (.inl ⟨w,rfl⟩)
  .exact .inr (.inr ⟨rs,p,w,Q1⟩)
def A7s(x:IdD)(u:A0a):Option A0a:=(A1f x u).dropLast.getLast?
def C3L(x:IdD)(u:A0a):AV:=match A7s x u with
 |none=>.tuple [.agg [I 0,I 0,I 0],I (-1),B false]
 |some p=>.tuple [.agg p.id.row,I (A3b (λk=>(A0O x k).isSome) p.kids 0),B true]
mutual
def C0M(x:IdD):∀u:A0a,∀v∈A1f x u,v∈A2a u
 |.mk id k l h w ks,v,hv=>by
  rw[A1f]at hv;rw[A2a];split at hv
  .simp only[Z0R]at hv;subst hv;simp
  .split at hv
   .simp at hv
   .rename_i r rs e;rcases Z0r.1 hv with rfl|hv
    .simp
    .exact Z1y _ (B7L x ks v (by rw[e];exact hv))
def B7L(x:IdD):∀ks:List A0a,∀v∈A3g x ks,v∈A3p ks
 |[],v,hv=>by rw[A3g]at hv;simp at hv
 |k::ks,v,hv=>by
  rw[A3g]at hv;rw[A3p];split at hv
  .exact Z2X _ (B7L x ks v hv)
  .rename_i r rs e;exact Z2v _ (C0M x k v (by rw[e];exact hv))
end
section
variable (gl:Nat->AV)
def A9w(u:A0a)(x:IdD)(M:Mem)(hf:Fit u):A0c (WC gl) 145 [.agg u.row,.agg x.row] M (λv M'=>v=C3L x u/\M'=M):=by
 refine A0c.dataX ?_;have hx:x.row=[I x.act,I x.item,I x.n]:=rfl;obtain⟨z3,a3⟩:=ex (A0l.cells 23 [I 0,I 0,I 0]);obtain⟨Ma,l⟩:=ex (M++[z3]);have o:Grow M Ma:=by rw[l];exact A0d.app none _ _
 have i:Ma[M.length]?=some (A0l.cells 23 [I 0,I 0,I 0]):=by rw[l,a3];simp
 have s:M.length<Ma.length:=(Z0a.1 i).1;have g:=B0V gl u x Ma hf.1 hf.2.2;have a0:=A5y x u;have af:=hf.2.2;have a2:=C0M x u;unfold C3L A7s;rw[u.row_eq,hx]at g|-;refine A0t hB func145 ?_;simp -dsimp[A0j];rw[<-a3,<-l];refine A0h func99 g ?_;generalize hr:A1f x u=r at*;rcases D7D r with rfl|⟨w,rfl⟩|⟨rs,p,w,rfl⟩
 .simp -dsimp[A5g,A0f i,A0o,A0n,A0r s,A0g];exact⟨A0u o (Z0j _),.same (by simp[bdd,A1l]) .nil⟩
 .have aa:A0q [w]=[w.row]:=by rw[A0q,A0q]
  simp -dsimp[A5g,aa,A0f i,A0o,A0n,A0r s,A0g];exact⟨A0u o (Z0j _),.same (by simp[bdd,A1l]) .nil⟩
 .have a6:A5g (rs++[p,w])=.list 8 (A0q (rs++[p,w])) .no:=by rw[<-hr];exact B5n (by rw[hr];simp)
  have hi:rs.length<(rs++[p,w]).length:=by simp
  have ab:(A0q (rs++[p,w]))[rs.length]?=some p.row:=by rw[A7O _ _ hi];simp
  have w1:IntKind.i64.wrap (rs.length:Int)=rs.length:=by rw[A0R Q0 (by simp at a0;omega)]
  have a5:¬(rs.length:Int)+2<2:=Q0;have z:(rs.length:Int)<rs.length+2:=Q0;have j:=A7v u hf p (a2 p Q1);obtain⟨M2,q⟩:=ex (Ma++[A0l.cells 30 p.row]);have a1:Grow Ma M2:=by rw[q];exact A0d.app none _ _
  have m:M2[Ma.length]?=some (A0l.cells 30 p.row):=by rw[q];simp
  have t:=a1.get i Q1;have a4:M.length<M2.length:=(Z0a.1 t).1;have ac:=A2t p.kids;have ae:A0H p.kids<A0x p:=by obtain⟨a,b,c,d,e,f⟩:=p;rw[A0x];show A0H f<_;omega
  have ad:=j.2.2;have a8:=((A0a.good_iff _).1 j.1).2.2.2.2.2.2.2.2;have a7:=A4d.1 (A3T _ j.2.1).2;have y:=C7o gl (λk=>(A0O x k).isSome) 228 [.cptr [I x.act,I x.item,I x.n]] p.kids .no M2 Q0 (λk hk=>A0m func228 rfl rfl (D5h gl k x M2 ⟨a8 k hk,a7 k hk,by have:=A3B hk;omega⟩));rw[a6];simp -dsimp[a5,w1,ab,z,A0j,A0k,A0e,A0o,A0n];rw[<-q];rw[A0a.row_eq]at m;simp -dsimp[A0b m];refine A0h func227 y ?_;have a9:p.id.row=[I p.id.act,I p.id.item,I p.id.n]:=rfl;simp -dsimp[A0b m,A0f t,A0o,A0n,A0r a4,A0g,a9];exact⟨A0u (o.trans a1) (Z0j _),.same (by simp[bdd,A1l]) .nil⟩
end
end
def kl2(x k:A0a):Bool:=decide (k.kind=x.kind)&&decide (k.label=x.label)
def A3W(p x:A0a):Int:=if A4h p.kind x.kind=false then 9 else if p.kids.any (kl2 x)=true then 10 else 0
section
variable (gl:Nat->AV)
def D0d(k x:A0a)(M:Mem):A0c (WC gl) 211 [.agg k.row,.cptr x.row] M (λv M'=>v=B (kl2 x k)/\M'=M):=by
 rw[k.row_eq,x.row_eq];refine A0t hB func211 ?_;by_cases h1:k.kind=x.kind
 .by_cases h2:k.label=x.label
  .simp -dsimp[kl2,h1,h2]
  .have h3:¬x.label=k.label:=λh=>h2 h.symm;simp -dsimp[kl2,h1,h2,h3]
 .have h3:¬x.kind=k.kind:=λh=>h1 h.symm;simp -dsimp[kl2,h1,h3]
def B7h(a:gl 2=A1C)(p x:A0a)(M:Mem)(hp:p.kids.length<=3000):A0c (WC gl) 128 [.agg p.row,.agg x.row] M (λv M'=>v=I (A3W p x)/\M'=M):=by
 have h2:=D5p gl (kl2 x) 211 [.cptr x.row] p.kids .no M hp (λk _=>A0m func211 rfl rfl (D0d gl k x M));rw[x.row_eq]at h2|-;rw[p.row_eq];refine A0t hB func128 ?_;simp -dsimp;refine A0h func209 (B2c gl M a p.kind x.kind) ?_;unfold A3W;cases h:A4h p.kind x.kind
 .simp -dsimp
 .simp -dsimp;refine A0h func210 h2 ?_;cases p.kids.any (kl2 x)<;>simp -dsimp
def D4g(p:IdD->Bool)(g:FuncId)(cap:List AV)(l:List IdD)(o:Own)(M:Mem)(hl:l.length<=3000)(hp:∀x∈l,A3E (WC gl) g (.agg x.row::cap) M (λv M'=>v=B (p x)/\M'=M)):
 A0c (WC gl) 217 [.list 3 (A6Y l) o,.func (.func g) [] cap] M (λv M'=>v=I (A3b p l 0)/\M'=M):=by
 refine A0t hB func217 ?_
 simp -dsimp
 refine A1E hB l.length 8 (λT M1=>∃i:Nat,i<=l.length/\M1=M/\T 0=.list 3 (A6Y l) o/\T 1=.func (.func g) [] cap/\T 7=I l.length/\T 8=I i/\A3b p l 0=A3b p (l.drop i) i) ?_ ?_
 .exact⟨0,Q0,rfl,Q1,Q1,Q1,Q1,Q1⟩
 .rintro T M1 ⟨i,i1,rfl,t0,t1,t7,t8,ho⟩;by_cases hi:i<l.length
  .have a:(i:Int)<l.length:=Q0;have w1:=A1Y (i:=i) Q0;have hd:l.drop i=l[i]::l.drop (i+1):=Z0o hi;(have b:(A6Y l)[i]?=some l[i].row:=by simp[A6Y,hi]);rw[hd,A3b]at ho;simp -dsimp[t0,t1,t7,t8,hi,a,b];refine A0v (hp l[i] (Z0u hi)) ?_;rintro _ _ ⟨rfl,rfl⟩;cases hq:p l[i]
   .rw[hq,Z0d Q1]at ho;simp -dsimp[t0,t1,t7,t8,w1];exact⟨⟨i+1,Q3,rfl,ho⟩,Q3⟩
   .rw[hq,Z0c rfl]at ho;simp -dsimp[t0,t1,t7,t8,ho]
  .have a:¬(i:Int)<l.length:=Q0;rw[show l.drop i=[]from Z0y Q0]at ho;simp -dsimp[t0,t1,t7,t8,a,ho,A3b]
def D5n(p:IdD->Bool)(g:FuncId)(cap:List AV)(l:List IdD)(o:Own)(M:Mem)(hl:l.length<=3000)(hp:∀x∈l,A3E (WC gl) g (.agg x.row::cap) M (λv M'=>v=B (p x)/\M'=M)):
 A0c (WC gl) 132 [.list 3 (A6Y l) o,.func (.func g) [] cap] M (λv M'=>v=B (l.any p)/\M'=M):=by
 refine A0t hB func132 ?_
 simp -dsimp
 refine A0h func217 (D4g gl p g cap l o M hl hp) ?_
 rw[<-A7d _ l 0]
 simp -dsimp
def C2x(l:List IdD)(o:Own)(x:IdD)(M:Mem)(hl:l.length<=3000):A0c (WC gl) 218 [.list 3 (A6Y l) o,.agg x.row] M (λv M'=>v=I (A3b (λy:IdD=>decide (y=x)) l 0)/\M'=M):=by
 have hx:x.row=[I x.act,I x.item,I x.n]:=rfl;rw[hx];refine A0t hB func218 ?_;simp -dsimp;refine A1E hB l.length 8 (λT M1=>∃i:Nat,i<=l.length/\M1=M/\T 0=.list 3 (A6Y l) o/\T 3=.cptr [I x.act,I x.item,I x.n]/\T 7=I l.length/\T 8=I i/\A3b (λy:IdD=>decide (y=x)) l 0=A3b (λy:IdD=>decide (y=x)) (l.drop i) i) ?_ ?_
 .exact⟨0,Q0,rfl,Q1,Q1,Q1,Q1,Q1⟩
 .rintro T M1 ⟨i,i1,rfl,t0,t3,t7,t8,ho⟩;by_cases hi:i<l.length
  .have a:(i:Int)<l.length:=Q0;have w1:=A1Y (i:=i) Q0;have hd:l.drop i=l[i]::l.drop (i+1):=Z0o hi;(have b:(A6Y l)[i]?=some l[i].row:=by simp[A6Y,hi]);have hy:l[i].row=[I l[i].act,I l[i].item,I l[i].n]:=rfl;have he:=C1B x l[i];rw[hd,A3b]at ho;simp -dsimp[t0,t3,t7,t8,hi,a];refine A0Z hB (A0E gl) (λ_=>0) (λ_=>0) (by rfl) Q2 ?_;simp -dsimp[t0,t3,t7,t8,hi,a,b,hy,he];by_cases hq:l[i]=x
   .rw[Z0B hq,Z0c rfl]at ho;simp -dsimp[t0,t3,t7,t8,ho,hq]
   .rw[Z0I hq,Z0d Q1]at ho;have c:¬x=l[i]:=λh=>hq h.symm;simp -dsimp[t0,t3,t7,t8,w1,c];exact⟨⟨i+1,Q3,rfl,ho⟩,Q3⟩
  .have a:¬(i:Int)<l.length:=Q0;rw[show l.drop i=[]from Z0y Q0]at ho;simp -dsimp[t0,t3,t7,t8,a,ho,A3b]
def B8o(l:List IdD)(o:Own)(x:IdD)(M:Mem)(hl:l.length<=3000):A0c (WC gl) 134 [.list 3 (A6Y l) o,.agg x.row] M (λv M'=>v=B (l.any λy=>decide (y=x))/\M'=M):=by have hx:x.row=[I x.act,I x.item,I x.n]:=rfl;have a:=C2x gl l o x M hl;rw[hx]at a|-;refine A0t hB func134 ?_;simp -dsimp;refine A0h func218 a ?_;rw[<-A7d _ l 0];simp -dsimp
def C5G(l:List IdD)(x:IdD)(b:Nat)(M:Mem)(hl:l.length<=3000)(hb:M[b]?=some (.cells 61 [.list 3 (A6Y l) .no])):A0c (WC gl) 133 [.agg x.row,.ptr b 0] M (λv M'=>v=B (l.any λy=>decide (y=x))/\M'=M):=by have hx:x.row=[I x.act,I x.item,I x.n]:=rfl;have a:=B8o gl l .no x M hl;rw[hx]at a|-;refine A0t hB func133 ?_;simp -dsimp[A0b hb];refine A0h func134 a ?_;simp -dsimp
end
def A2h(act item:Int):Nat->List ByteArray->List A0z
 |_,[]=>[]
 |n,s::l=>⟨s,act,item,n⟩::A2h act item (n+1) l
@[simp] def A6F(b a:Int):∀(l:List ByteArray) (n:Nat),(A2h b a n l).length=l.length
 |[],_=>rfl
 |s::l,n=>by simp[A2h,A6F b a l (n+1)]
def C0o(d c:Int):∀(a b:List ByteArray) (n:Nat),A2h d c n (a++b)=A2h d c n a++A2h d c (n+a.length) b
 |[],b,n=>by simp[A2h]
 |s::a,b,n=>by rw[Z0O,A2h,C0o d c a b (n+1),A2h,Z0O,Z0q,show n+1+a.length=n+(a.length+1)by omega]
section
variable (gl:Nat->AV)
def B7x(ws:List A0z)(o:Own)(M:Mem)(hl:ws.length<=100000000):A0c (WC gl) 261 [.list 4 (A0i ws) o] M (λv M'=>v=.list 1 (A0J (A1k ws)) .no/\M'=M):=by
 refine A0c.dataX ?_;refine A0t (hQ [16]) func261 ?_;simp -dsimp;refine A1E (hQ [16]) ws.length 8 (λT M1=>∃i:Nat,i<=ws.length/\T 0=.list 4 (A0i ws) o/\T 6=.list 4 (A0i ws) o/\T 7=I ws.length/\T 8=I i/\A1p 9 1 A7P M1 (T 3) (A1k (ws.take i))/\Grow M M1/\A1K M.length (T 3)) ?_ ?_
 .exact⟨0,Q0,Q1,Q1,Q1,Q1,by simpa[A1k]using A1p.nil,Grow.refl _,by simp[A1K]⟩
 rintro T M1 ⟨i,i1,t0,t6,t7,t8,hv,hg,hL⟩;by_cases hi:i<ws.length
 .have a:(i:Int)<ws.length:=Q0;have w1:IntKind.i64.wrap ((i:Int)+1)=(i+1:Nat):=by rw[A0R Q0 Q0];omega
  generalize c:T 3=ov at*;have d:(M1++[A0l.cells 233 [S ws[i].text,I ws[i].act,I ws[i].item,I ws[i].at_]])[M1.length]?=some (A0l.cells 233 [S ws[i].text,I ws[i].act,I ws[i].item,I ws[i].at_]):=by simp
  have b:A1p 9 1 A7P (M1++[A0l.cells 233 [S ws[i].text,I ws[i].act,I ws[i].item,I ws[i].at_]]) ov (A1k (ws.take i)):=hv.keep (A0d.app none M1 _) Q1;have ht:A1k (ws.take (i+1))=A1k (ws.take i)++[ws[i].text]:=by rw[A1k,A1k,Z0A,Z0i hi,Z1c];rfl
  simp -dsimp[t0,t6,t7,t8,hi,a,c,A0j,A0k,A0e,A0z.row,A0b d,A0w,A1e];refine A3u (C:=WC gl) (enc:=A7P) (e:=9) (sz:=1) (news:=[ws[i].text]) B8V C3D D1O (λ_=>rfl) b (by simp[A0D]) (by simp[A1k];omega) rfl ?_;intro v' M' h1 h2 h3 _;obtain⟨k1,k2⟩:=A2R hg hL h2 h3;simp -dsimp[t0,t6,t7,t8,w1];exact⟨⟨i+1,Q3,rfl,by rw[ht];exact h1,k1,k2⟩,Q3⟩
 .have a:¬(i:Int)<ws.length:=Q0;rw[Z0e Q0]at hv;simp -dsimp[t0,t6,t7,t8,a];refine⟨hg,?_⟩;have:=A2T (enc:=A7P) (λ_=>rfl) (λn x=>by simp[A1l,bdd]) hv hL;exact this
def B2G(l:List ByteArray)(o:Own)(b a:Int)(n:Nat)(M:Mem)(hl:l.length<=100000000)(hn:n<=1000000000):A0c (WC gl) 143 [.list 1 (A0J l) o,I b,I a,I n] M (λv M'=>v=.list 4 (A0i (A2h b a n l)) .no/\M'=M):=by
 refine A0c.dataX ?_;refine A0t (hQ [29]) func143 ?_;simp -dsimp;refine A1E (hQ [29]) l.length 14 (λT M1=>∃i:Nat,i<=l.length/\T 1=I b/\T 2=I a/\T 3=I n/\T 12=.list 1 (A0J l) o/\T 13=I l.length/\T 14=I i/\A1p 233 4 A0z.row M1 (T 9) (A2h b a n (l.take i))/\Grow M M1/\A1K M.length (T 9)) ?_ ?_
 .exact⟨0,Q0,Q1,Q1,Q1,Q1,Q1,Q1,by simpa[A2h]using A1p.nil,Grow.refl _,by simp[A1K]⟩
 rintro T M1 ⟨i,i1,t1,t2,t3,g,d,f,hv,hg,hL⟩;by_cases hi:i<l.length
 .have c:(i:Int)<l.length:=Q0;have w1:IntKind.i64.wrap ((i:Int)+1)=(i+1:Nat):=by rw[A0R Q0 Q0];omega
  have w2:IntKind.i64.wrap ((n:Int)+i)=(n:Int)+i:=by rw[A0R Q0 Q0]
  generalize k:T 9=ov at*;have j:(A0J l)[i]?=some [S l[i]]:=by simp[A0J,hi]
  have ht:A2h b a n (l.take (i+1))=A2h b a n (l.take i)++[⟨l[i],b,a,(n:Int)+i⟩]:=by rw[Z0A,Z0i hi,C0o];simp[A2h,Z1C (Z4g hi)]
  have p:A0A prog 231 [(0,I b),(1,I a),(2,I ((n:Int)+i))]=some (.agg [I b,I a,I ((n:Int)+i)]):=by simp[A0A,A1m,putCells,A0e,AV.cells,AV.storable]
  have m:A0A prog 233 [(0,S l[i]),(1,.agg [I b,I a,I ((n:Int)+i)])]=some (.agg [S l[i],I b,I a,I ((n:Int)+i)]):=by simp[A0A,A1m,putCells,A0e,AV.cells,AV.storable]
  simp -dsimp[t1,t2,t3,g,d,f,hi,c,j,k,w2,p,m,A0w,A1e,AV.storable,AV.cells];refine A3u (C:=WC gl) (enc:=A0z.row) (e:=233) (sz:=4) (news:=[⟨l[i],b,a,(n:Int)+i⟩]) B6E C7m C1O (λ_=>rfl) hv (by simp[A0D,A0z.row]) (by simp;omega) rfl ?_;intro v' M' h1 h2 h3 _;obtain⟨k1,k2⟩:=A2R (X:=[]) hg hL (by simpa using h2) (by simpa using h3);simp -dsimp[t1,t2,t3,g,d,f,w1];exact⟨⟨i+1,Q3,rfl,by rw[ht];exact h1,k1,k2⟩,Q3⟩
 .have c:¬(i:Int)<l.length:=Q0;rw[Z0e Q0]at hv;simp -dsimp[t1,t2,t3,g,d,f,c];refine⟨hg,?_⟩;exact A2T (enc:=A0z.row) (λ_=>rfl) A4B hv hL
end
abbrev A8i(act item:Int)(n w:Nat):A0l:=.cells 262 [I act,I item,I n,I w]
section
variable (gl:Nat->AV)
def C0F(ws:List A0z)(o:Own)(c a:Int)(n w b:Nat)(M:Mem)(hl:ws.length<=100000000)(hw:w<=1000000000)(hb:M[b]?=some (A8i c a n w)):A0c (WC gl) 257 [.ptr b 0,.list 4 (A0i ws) o] M (λv M'=>v=.list 4 (A0i (A2h c a w (A1k ws))) .no/\M'=M.set b (A8i c a n (w+ws.length))):=by
 have hs:=λM=>B7x gl ws o M hl
 have hm:=λM=>B2G gl (A1k ws) .no c a w M (by simpa[A1k]using hl) hw
 have w1:IntKind.i64.wrap ((w:Int)+ws.length)=(w:Int)+ws.length:=by rw[A0R Q0 Q0]
 have d:(A1k ws).length=ws.length:=by simp[A1k]
 refine A0t hB func257 ?_
 simp -dsimp
 refine A0Z hB (A0E gl) (λk=>if k=5\/k=9\/k=13 then 1 else 0) (λ_=>b) (by rfl) Q2 ?_
 simp -dsimp
 refine A2p func261 hs ?_
 simp -dsimp[A0b hb,A1g,A5S]
 refine A2p func143 hm ?_
 simp -dsimp[A0b hb,A0f hb,d,w1,A8i]
end
mutual
def wcU:A0a->Nat
 |.mk _ _ _ h ws ks=>h.length+ws.length+wcL ks
def wcL:List A0a->Nat
 |[]=>0
 |k::ks=>wcU k+wcL ks
end
mutual
def A2U(a i:Int):A0a->Nat->Nat->A0a
 |.mk _ k l h ws ks,n,w=>.mk ⟨a,i,(n+1:Nat)⟩ k l (A2h a i w (A1k h)) (A2h a i (w+h.length) (A1k ws)) (A2d a i ks (n+1) (w+h.length+ws.length))
def A2d(a i:Int):List A0a->Nat->Nat->List A0a
 |[],_,_=>[]
 |k::ks,n,w=>A2U a i k n w::A2d a i ks (n+A0x k) (w+wcU k)
end
def A7J(a i:Int):∀(ks:List A0a) (n w:Nat),(A2d a i ks n w).length=ks.length
 |[],_,_=>by simp[A2d]
 |k::ks,n,w=>by rw[A2d,Z0q,A7J a i ks,Z0q]
def B8k(a i:Int):∀(xs ys:List A0a) (n w:Nat),A2d a i (xs++ys) n w=A2d a i xs n w++A2d a i ys (n+A0H xs) (w+wcL xs)
 |[],ys,n,w=>by simp[A2d,A0H,wcL]
 |x::xs,ys,n,w=>by rw[Z0O,A2d,B8k a i xs ys,A2d,A0H,wcL,Z0O];simp only[Z2z]
def A9E:∀(xs ys:List A0a),A0H (xs++ys)=A0H xs+A0H ys
 |[],ys=>by rw[A0H];simp
 |x::xs,ys=>by rw[Z0O,A0H,A0H,A9E xs ys];omega
def C7e:∀(xs ys:List A0a),wcL (xs++ys)=wcL xs+wcL ys
 |[],ys=>by rw[wcL];simp
 |x::xs,ys=>by rw[Z0O,wcL,wcL,C7e xs ys];omega
def C6W:∀{ks:List A0a} {i:Nat} (h:i<ks.length),wcL (ks.take i)+wcU ks[i]<=wcL ks
 |k::ks,0,h=>by simp[wcL]
 |k::ks,i+1,h=>by have:=C6W (ks:=ks) (i:=i) (by simpa using h);simp only[Z1j,wcL,Z1M];omega
def B3j{M:Mem}{v:AV}{l:List A0a}(h:A1p 30 8 A0a.row M v l){i:Nat}(hi:i<l.length)(y:A0a):∃f g M',v=.vref f g 8 0 l.length/\A0M prog 30 M (.vptr f g (i*8))=some (.agg l[i].row)/\A0k (some 8) M (.vptr f g (i*8)) (.agg y.row)=some M'/\A1p 30 8 A0a.row M' v (l.set i y)/\M'.length=M.length/\∀j,j≠f->M'[j]?=M[j]?:=by
 have e:=h.at_ (P:=prog) (t:=30) A0a.row_len D1W C8o hi
 rcases h with⟨rfl,rfl⟩|⟨f,g,b,rfl,hm,hl⟩
 .simp at hi
 have d:f<M.length:=(Z0a.1 hm).1
 have a:l=l.take i++l[i]::l.drop (i+1):=by rw[<-Z0o hi,Z1b]
 have c:((l.take i).flatMap A0a.row).length=i*8:=by rw[A1Z A0a.row_len,Z0s,Z1C Q0]
 have k:A0e (l.flatMap A0a.row) (i*8) y.row=(l.set i y).flatMap A0a.row:=by
  have e1:l.set i y=l.take i++y::l.drop (i+1):=Z2i.trans (Z0c hi);rw[e1,Z1k,Z0z];unfold A0e
  conv=>lhs;rw[a]
  rw[Z1k,Z0z,Z1A Q0,Z0e Q0,Z0F];congr 2;rw[Z4h,c,Z1r (by rw[c];simp),Z1v,A0a.row_len,Nat.add_sub_cancel_left,Z4h,A0a.row_len,Z4D,Z1r Q1];rfl
 refine⟨f,g,M.set f (.vec 30 8 ((l.set i y).flatMap A0a.row) g (A0V 8 g (i*8) b)),rfl,?_,?_,.inr ⟨f,g,A0V 8 g (i*8) b,Q1,by simp[d],?_⟩,Q1,λj hj=>Z0f Q0⟩
 .obtain⟨p,e1,_,e2,_⟩:=e;simp[hi]at e1;rw[<-e1]at e2;exact e2
 .simp only[A0k,hm,hl];rw[Z0c (by simp[AV.storable,AV.cells];omega)];simp only[AV.cells];rw[k]
 .unfold A0V;rw[Z1N];exact A3v _ hl
def D4c:B6j prog 30=some 120:=Q2
def C5F{ks:List A0a}{M:Mem}(hl:ks.length<=3000):∃zs,A5a prog 28 (I ks.length) (I ks.length) M=some (.vref M.length 0 8 0 ks.length,M++[.vec 30 8 zs 0 [(0,ks.length)]])/\A8M prog 28 28 (M++[.vec 30 8 zs 0 [(0,ks.length)]]) (.vref M.length 0 8 0 ks.length) (.list 8 (A0q ks) .no)=some (I ks.length,M++[.vec 30 8 (ks.flatMap A0a.row) 0 [(0,ks.length)]]):=by
 have hz:((List.replicate ks.length (zU)).flatten).length=ks.length*8:=by simp[Z3K,zU]
 refine⟨(List.replicate ks.length zU).flatten,?_,?_⟩
 .have h1:(ks.length:Int).toNat*8<=16777216:=Q0;have h2:ks.length*8<=16777216:=Q0;have h3:(120:Int)*ks.length<=281474976710656:=Q0;simp[A5a,zU,D4c,h2,h3]
 .have a:(ks.flatMap A0a.row).length=ks.length*8:=A1Z A0a.row_len ks;have c:A0e (List.replicate ks.length zU).flatten 0 (ks.flatMap A0a.row)=ks.flatMap A0a.row:=by unfold A0e;rw[Z2m,Z1v,Z0P,Z1r (by rw[hz,a];exact Z0j _),Z1g]
  have b:(M++[A0l.vec 30 8 (List.replicate ks.length zU).flatten 0 [(0,ks.length)]])[M.length]?=some (.vec 30 8 (List.replicate ks.length zU).flatten 0 [(0,ks.length)]):=by simp
  have hu:=E4e;simp only[A8M,A7N,C8o,A0D,A9s,A7M,b,List.lookup,Z2D];by_cases h0:ks.length=0
  .have:ks=[]:=Z0v h0;subst this;simp
  .simp only[Z1I,c];simp[h0,A0V,a,-List.length_flatMap]
def B8f{o:Option Nat}{M0 M:Mem}(h:A0d o M0 M):A0d o M0 (A3i M M0.length):=by refine⟨by simpa using h.1,λi hi ho=>?_⟩;have h2:=h.2 i hi ho;rw[<-h2];have:i<M.length:=Z0Z hi h.1;rw[Z0i this];exact B2X (Z0i this) λ_ _ _ _ _ _=>hi
def D4b{α:Type}(xs ys:List α)(x y:α):(xs++x::ys).set xs.length y=xs++y::ys:=by simp
def Still.any{M:Mem}{n:Nat}{ok:AV->Prop}{a d:List AV}(h:Still M n ok a d):Still M n (λ_=>True) a d:=by
 induction h with
 |nil=>exact .nil
 |same _ _ ih=>exact .same trivial ih
 |nilS _ ih=>exact .nilS ih
 |vec h1 h2 h3 h3' h4 h5 _ _ ih1 ih2=>exact .vec h1 h2 h3 h3' h4 h5 ih1 ih2
 |dis _ _ ih=>exact .dis trivial ih
 |agg _ _ ih1 ih2=>exact .agg ih1 ih2
 |tuple _ _ ih1 ih2=>exact .tuple ih1 ih2
structure TrM (M Mi:Mem) (b c:Nat) (sb:A0l) (cc:List AV):Prop where
 kb:A0d (some b) M Mi
 hb:Mi[b]?=some sb
 hc:Mi[c]?=some (.cells 30 cc)
 hr:Mi[c+1]?=some z8
section
variable {M Mi:Mem} {b c:Nat} {sb:A0l} {cc:List AV}
def TrM.setb(h:TrM M Mi b c sb cc)(a:b<c)(s':A0l):TrM M (Mi.set b s') b c s' cc:=by have hl:=(Z0a.1 h.hb).1;exact⟨h.kb.trans (A0d.set _ _ _),by simp[hl],by rw[Z0f Q0];exact h.hc,by rw[Z0f Q0];exact h.hr⟩
def TrM.setc(h:TrM M Mi b c sb cc)(a:b<c)(d:M.length<=c)(c':List AV):TrM M (Mi.set c (.cells 30 c')) b c sb c':=by have hl:=(Z0a.1 h.hc).1;refine⟨⟨by simpa using h.kb.1,λi hi ho=>by rw[Z0f Q0];exact h.kb.2 i hi ho⟩,by rw[Z0f Q0];exact h.hb,by simp[hl],by rw[Z0f Q0];exact h.hr⟩
def TrM.app(h:TrM M Mi b c sb cc)(X:Mem):TrM M (Mi++X) b c sb cc:=by have hk:Grow Mi (Mi++X):=A0d.app none _ _;exact⟨h.kb.trans hk.of_none,hk.get h.hb Q1,hk.get h.hc Q1,hk.get h.hr Q1⟩
end
def hTr:A2j:=⟨λd=>d !=3,λ_=>false,λ_=>false⟩
@[simp] def E2X:hTr.imm=λd=>d !=3:=(rfl)
def D9z{a b c:Int}:A0A prog 23 [(0,I a),(1,I b),(2,I c)]=some (.agg [I a,I b,I c]):=by simp[A0A,A1m,putCells,A0e,AV.cells,AV.storable]
section
variable (gl:Nat->AV)
set_option maxHeartbeats 1000000 in
def B7t:∀(u:A0a) (d a:Int) (n w b:Nat) (M:Mem),u.good->u.lims->A0x u<=3000->n+A0x u<=1000000->w+wcU u<=1000000000->M[b]?=some (A8i d a n w)->
 A0c (WC gl) 208 [.ptr b 0,.agg u.row] M (λv M'=>v=.agg (A2U d a u n w).row/\A0d (some b) M M'/\M'[b]?=some (A8i d a (n+A0x u) (w+wcU u)))
 |.mk id kind lab hd ws ks,d,a,n,w,b,M,hg,hlm,a6,hn,hw,hb=>by
  obtain⟨_,_,bg,_,b6,_,ba,b3,a7⟩:=(A0a.good_iff _).1 hg;have a7:∀k∈ks,k.good:=a7;obtain⟨⟨ab,a8,bi,-⟩,aa⟩:=A3T _ hlm;have ab:hd.length<=100000000:=ab;have a8:ws.length<=100000000:=a8;have aa:=A4d.1 aa;have bf:1+A0H ks<=3000:=by rwa[A0x]at a6
  have bh:n+(1+A0H ks)<=1000000:=by rwa[A0x]at hn
  have bd:w+(hd.length+ws.length+wcL ks)<=1000000000:=by rwa[wcU]at hw
  have be:=A2t ks;have al:(A0a.mk id kind lab hd ws ks).row=[I id.act,I id.item,I id.n,I kind,S lab,.list 4 (A0i hd) .no,.list 4 (A0i ws) .no,.list 8 (A0q ks) .no]:=by rw[A0a.row]
  refine A0c.stillN ?_;rw[al];have am:b<M.length:=(Z0a.1 hb).1;obtain⟨c,hc⟩:=ex (M.length);obtain⟨M1,a9⟩:=ex (M++[A0l.cells 30 [I id.act,I id.item,I id.n,I kind,S lab,.list 4 (A0i hd) .no,.list 4 (A0i ws) .no,.list 8 (A0q ks) .no],z8]);have f1:TrM M M1 b c (A8i d a n w) [I id.act,I id.item,I id.n,I kind,S lab,.list 4 (A0i hd) .no,.list 4 (A0i ws) .no,.list 8 (A0q ks) .no]:=by rw[a9,hc];exact⟨A0d.app _ _ _,by rw[Z0n am];exact hb,Q1,by simp[Z0Y]⟩
  have m:b<c:=Q0;have y:M.length<=c:=Q0;have w1:IntKind.i64.wrap ((n:Int)+1)=(n:Int)+1:=by rw[A0R Q0 Q0]
  refine A0t hTr func208 ?_;simp -dsimp[A0j];rw[<-a9,<-hc];clear a9;simp -dsimp[A0b f1.hb,A0f f1.hb,w1];have f2:=f1.setb m (A8i d a (n+1) w);rw[show(A0l.cells 262 [I d,I a,I ((n:Int)+1),I w])=A8i d a (n+1) w by simp[A8i]];generalize M1.set b (A8i d a (n+1) w)=M2 at*;refine A0Z hTr (A0E gl) (λk=>if k=3\/k=7\/k=11 then 1 else if k=14 then 2 else 0) (λ_=>b) (by rfl) Q2 ?_;simp -dsimp[A0b f2.hb,A1g,A5S,D9z,A0f f2.hc];have f3:=f2.setc m y [I d,I a,I ((n:Int)+1),I kind,S lab,.list 4 (A0i hd) .no,.list 4 (A0i ws) .no,.list 8 (A0q ks) .no];generalize M2.set c (.cells 30 [I d,I a,I ((n:Int)+1),I kind,S lab,.list 4 (A0i hd) .no,.list 4 (A0i ws) .no,.list 8 (A0q ks) .no])=M3 at*;simp -dsimp[A0b f3.hc];refine A4b func257 (C0F gl hd .no d a (n+1) w b M3 ab Q0 f3.hb) ?_;rintro _ _ ⟨rfl,rfl⟩;have f4:=f3.setb m (A8i d a (n+1) (w+hd.length));generalize M3.set b (A8i d a (n+1) (w+hd.length))=M4 at*;obtain⟨g,z⟩:∃g,g=A2h d a w (A1k hd):=⟨_,rfl⟩;rw[<-z];simp -dsimp[A0f f4.hc];have f5:=f4.setc m y [I d,I a,I ((n:Int)+1),I kind,S lab,.list 4 (A0i g) .no,.list 4 (A0i ws) .no,.list 8 (A0q ks) .no];generalize M4.set c (.cells 30 [I d,I a,I ((n:Int)+1),I kind,S lab,.list 4 (A0i g) .no,.list 4 (A0i ws) .no,.list 8 (A0q ks) .no])=M5 at*;simp -dsimp[A0b f5.hc];refine A4b func257 (C0F gl ws .no d a (n+1) (w+hd.length) b M5 a8 Q0 f5.hb) ?_;rintro _ _ ⟨rfl,rfl⟩;have f6:=f5.setb m (A8i d a (n+1) (w+hd.length+ws.length));generalize M5.set b (A8i d a (n+1) (w+hd.length+ws.length))=M6 at*;obtain⟨l,a5⟩:∃l,l=A2h d a (w+hd.length) (A1k ws):=⟨_,rfl⟩;rw[<-a5];simp -dsimp[A0f f6.hc];have f7:=f6.setc m y [I d,I a,I ((n:Int)+1),I kind,S lab,.list 4 (A0i g) .no,.list 4 (A0i l) .no,.list 8 (A0q ks) .no];generalize M6.set c (.cells 30 [I d,I a,I ((n:Int)+1),I kind,S lab,.list 4 (A0i g) .no,.list 4 (A0i l) .no,.list 8 (A0q ks) .no])=M7 at*;obtain⟨zs,aq,ai⟩:=C5F (ks:=ks) (M:=M7) Q0;have f8:=f7.app [A0l.vec 30 8 zs 0 [(0,ks.length)]];simp -dsimp[A0b f7.hc,aq,A0b f8.hc,ai];have f9:=f7.app [A0l.vec 30 8 (ks.flatMap A0a.row) 0 [(0,ks.length)]];have ad:A1p 30 8 A0a.row (M7++[A0l.vec 30 8 (ks.flatMap A0a.row) 0 [(0,ks.length)]]) (.vref M7.length 0 8 0 ks.length) ks:=.inr ⟨M7.length,0,[(0,ks.length)],rfl,Q1,by simp[List.lookup]⟩;have b4:M.length<=M7.length:=f7.kb.1;have bc:c+1<M7.length:=(Z0a.1 f7.hr).1;obtain⟨f,hf⟩:=ex (M7.length);rw[<-hf]at ad|-;generalize M7++[A0l.vec 30 8 (ks.flatMap A0a.row) 0 [(0,ks.length)]]=M9 at*;refine A7f (.exit 0) (λT Mi=>T 3=.ptr c 0/\T 4=.ptr (c+1) 0/\T 5=.vref f 0 8 0 ks.length/\A1p 30 8 A0a.row Mi (.vref f 0 8 0 ks.length) (A2d d a ks (n+1) (w+hd.length+ws.length))/\TrM M Mi b c (A8i d a (n+1+A0H ks) (w+hd.length+ws.length+wcL ks)) [I d,I a,I ((n:Int)+1),I kind,S lab,.list 4 (A0i g) .no,.list 4 (A0i l) .no,.list 8 (A0q ks) .no]) ?_ ?_
  .refine A1E hTr ks.length 48 (λT Mi=>∃j:Nat,j<=ks.length/\T 0=.ptr b 0/\T 3=.ptr c 0/\T 4=.ptr (c+1) 0/\T 5=.vref f 0 8 0 ks.length/\T 47=I ks.length/\T 48=I j/\A1p 30 8 A0a.row Mi (.vref f 0 8 0 ks.length) (A2d d a (ks.take j) (n+1) (w+hd.length+ws.length)++ks.drop j)/\TrM M Mi b c (A8i d a (n+1+A0H (ks.take j)) (w+hd.length+ws.length+wcL (ks.take j))) [I d,I a,I ((n:Int)+1),I kind,S lab,.list 4 (A0i g) .no,.list 4 (A0i l) .no,.list 8 (A0q ks) .no]) ?_ ?_
   .exact⟨0,Q0,Q1,Q1,Q1,Q1,Q1,Q1,by simpa[A2d]using ad,by simpa[A0H,wcL]using f9⟩
   clear f1 f2 f3 f4 f5 f6 f7 f8 f9 ad aq ai;rintro T Mi ⟨j,j1,t0,t3,t4,t5,ah,af,o,fi⟩;by_cases hj:j<ks.length;(case neg=>have t:¬(j:Int)<ks.length:=Q0;rw[Z0e Q0,Z0y Q0,Z1g]at o;rw[Z0e Q0]at fi;simp -dsimp[t0,t3,t4,t5,ah,af,t];exact⟨o,fi⟩);have t:(j:Int)<ks.length:=Q0;have p:ks[j]∈ks:=Z0u hj;have bb:=A3B p;have:=A0a.kid_lt (u:=.mk id kind lab hd ws ks) p;have b9:=C6W hj;(have b5:A0H (ks.take j)+A0x ks[j]<=A0H ks:=by have:=A9E (ks.take j) (ks.drop j);rw[Z1b,Z0o hj,A0H]at this;omega);obtain⟨n',ag⟩:∃n',n'=n+1+A0H (ks.take j):=⟨_,rfl⟩;obtain⟨w',s⟩:∃w',w'=w+hd.length+ws.length+wcL (ks.take j):=⟨_,rfl⟩;have ac:=B7t ks[j] d a n' w' b Mi (a7 _ p) (aa _ p) Q0 Q0 Q0 (by rw[ag,s];exact fi.hb);have b1:=A7J d a (ks.take j) (n+1) (w+hd.length+ws.length);(have b7:(ks.take j).length=j:=by rw[Z0s,Z1C Q0]);obtain⟨xs,ao⟩:=ex (A2d d a (ks.take j) (n+1) (w+hd.length+ws.length));rw[<-ao]at o b1;have an:xs.length=j:=Q0;(have a0:(xs++ks.drop j).length=ks.length:=by simp;omega);(have ax:(xs++ks.drop j)[j]'Q0=ks[j]:=by rw[List.getElem_append_right Q0];simp[an]);obtain⟨f0,g0,-,e0,ak,-,-,-,-⟩:=B3j o (i:=j) Q0 ks[j];rw[a0]at e0;simp only[AV.vref.injEq,Z2B,Z1z]at e0;obtain⟨rfl,rfl⟩:=e0;rw[ax]at ak;(have ar:(xs++ks.drop j).set j (A2U d a ks[j] n' w')=A2d d a (ks.take (j+1)) (n+1) (w+hd.length+ws.length)++ks.drop (j+1):=by have e1:=D4b xs (ks.drop (j+1)) ks[j] (A2U d a ks[j] n' w');rw[an]at e1;rw[Z0o hj,e1,Z0A,Z0i hj,B8k,<-ao];simp[A2d,ag,s]);(have a6:n'+A0x ks[j]=n+1+A0H (ks.take (j+1)):=by rw[Z0A,Z0i hj,A9E];simp[A0H,ag];omega);(have ay:w'+wcU ks[j]=w+hd.length+ws.length+wcL (ks.take (j+1)):=by rw[Z0A,Z0i hj,C7e];simp[wcL,s];omega);simp -dsimp[t0,t3,t4,t5,ah,af,hj,t,ak];refine A4b func208 ac ?_;rintro _ M3 ⟨rfl,k1,k2⟩;have az:=o.keep k1 (λq hq e=>by simp at hq e;omega);obtain⟨f4,g4,M4,e4,-,ae,ap,b8,x⟩:=B3j az (i:=j) Q0 (A2U d a ks[j] n' w');rw[a0]at e4;simp only[AV.vref.injEq,Z2B,Z1z]at e4;obtain⟨rfl,rfl⟩:=e4;rw[ar]at ap;have b0:TrM M M4 b c (A8i d a (n+1+A0H (ks.take (j+1))) (w+hd.length+ws.length+wcL (ks.take (j+1)))) [I d,I a,I ((n:Int)+1),I kind,S lab,.list 4 (A0i g) .no,.list 4 (A0i l) .no,.list 8 (A0q ks) .no]:=by
    have a1:=k1.1;have a2:=(Z0a.1 fi.hc).1;have a3:=(Z0a.1 fi.hr).1;have a4:=fi.kb.1;refine⟨⟨Q0,λq hq ho=>?_⟩,?_,?_,?_⟩
    .rw[x q Q0,k1.2 q Q0 ho];exact fi.kb.2 q hq ho
    .rw[x b Q0,k2,a6,ay]
    .rw[x c Q0];exact k1.get fi.hc (by simp;omega)
    .rw[x (c+1) Q0];exact k1.get fi.hr (by simp;omega)
   have w2:=A1Y (i:=j) Q0;simp -dsimp[t0,t3,t4,t5,ah,af,hj,t,ae,w2];exact⟨⟨j+1,by clear w2;omega,rfl,ap,b0⟩,by clear w2;omega⟩
  .rintro T Mi ⟨t3,t4,t5,o,fi⟩;have r:=fi.setc m y [I d,I a,I ((n:Int)+1),I kind,S lab,.list 4 (A0i g) .no,.list 4 (A0i l) .no,.vref f 0 8 0 ks.length];have bj:=(Z0a.1 fi.hr).1;have av:A1p 30 8 A0a.row (Mi.set c (.cells 30 [I d,I a,I ((n:Int)+1),I kind,S lab,.list 4 (A0i g) .no,.list 4 (A0i l) .no,.vref f 0 8 0 ks.length])) (.vref f 0 8 0 ks.length) (A2d d a ks (n+1) (w+hd.length+ws.length)):=o.keep (A0d.set _ _ _) (λq hq e=>by simp at hq e;omega);simp -dsimp[t3,t4,t5,A0f fi.hc];generalize Mi.set c (.cells 30 [I d,I a,I ((n:Int)+1),I kind,S lab,.list 4 (A0i g) .no,.list 4 (A0i l) .no,.vref f 0 8 0 ks.length])=Mj at*;have aj:c+1<Mj.length:=(Z0a.1 r.hr).1;simp -dsimp[t3,t4,t5,A0b r.hc,A0f r.hr,A0r aj,A0g];have au:=av.keep (A0d.set Mj (c+1) (.cells 30 [I d,I a,I ((n:Int)+1),I kind,S lab,.list 4 (A0i g) .no,.list 4 (A0i l) .no,.vref f 0 8 0 ks.length])) (λq hq e=>by simp at hq e;omega);have aw:A0d (some b) M (Mj.set (c+1) (.cells 30 [I d,I a,I ((n:Int)+1),I kind,S lab,.list 4 (A0i g) .no,.list 4 (A0i l) .no,.vref f 0 8 0 ks.length])):=⟨by simpa using r.kb.1,λi hi ho=>by rw[Z0f Q0];exact r.kb.2 i hi ho⟩;(have b2:(Mj.set (c+1) (.cells 30 [I d,I a,I ((n:Int)+1),I kind,S lab,.list 4 (A0i g) .no,.list 4 (A0i l) .no,.vref f 0 8 0 ks.length]))[b]?=some (A8i d a (n+1+A0H ks) (w+hd.length+ws.length+wcL ks)):=by rw[Z0f Q0];exact r.hb);refine⟨M.length,.agg (A2U d a (.mk id kind lab hd ws ks) n w).row,.agg ?_ .nil,rfl,B8f aw,?_⟩
   .rw[A2U,A0a.row,<-z,<-a5];have ae:=(B0N au (n:=M.length) (λq hq=>by simp at hq;omega)).any;simp only[Int.natCast_add,Int.cast_ofNat_Int];exact .same trivial (.same trivial (.same trivial (.same trivial (.same trivial (.same trivial (.same trivial ae))))))
   .rw[B2X b2 (λ_ _ _ _ _ h=>by simp at h),A0x,wcU];simp[A8i];omega
termination_by u=>SizeOf.sizeOf u
end
section
variable (gl:Nat->AV)
def D2R(u:A0a)(c a:Int)(M:Mem)(hf:Fit u)(hw:wcU u<=1000000000):A0c (WC gl) 127 [.agg u.row,I c,I a] M (λv M'=>v=.agg (A2U c a u 0 0).row/\M'=M):=by
 refine A0c.dataX ?_;obtain⟨b,hb⟩:=ex (M.length);obtain⟨M1,e⟩:=ex (M++[z8,A8i c a 0 0]);have h1:M1[b]?=some z8:=by rw[e,hb];simp
 have h2:M1[b+1]?=some (A8i c a 0 0):=by rw[e,hb];simp[Z0Y]
 have f:Grow M M1:=by rw[e];exact A0d.app none _ _
 have j:A0A prog 262 [(0,I c),(1,I a)]=some (.agg [I c,I a,I 0,I 0]):=by simp[A0A,A1m,putCells,A0e,AV.cells,AV.storable]
 have d:=B7t gl u c a 0 0 (b+1) M1 hf.1 hf.2.1 hf.2.2 (by have:=hf.2.2;omega) Q0 h2;rw[u.row_eq]at d|-;refine A0t hB func127 ?_;simp -dsimp[A0j,j,A0k,A0e,AV.storable,AV.cells];rw[show M++[z8,A0l.cells 262 [I c,I a,I 0,I 0]]=M1 by rw[e];simp[A8i],<-hb];refine A4b func208 d ?_;rintro _ M2 ⟨rfl,k1,k2⟩;have h3:=k1.get h1 Q1;have g:b<M2.length:=(Z0a.1 h3).1;have k:Grow M M2:=⟨by have:=f.1;have:=k1.1;omega,λi hi _=>by rw[k1.2 i (by have:=f.1;omega) (by simp;omega)];exact f.2 i hi Q1⟩;simp -dsimp[A0f h3,A0o,A0n,A0r g,A0g];exact⟨A0u k Q0,.same (by simp only[bdd];exact A1I _ _) .nil⟩
end
def B0j(s:A1n):Bool:=decide (s.k=0)&&decide (s.lab=⟨#[]⟩)
def C1y(i:Nat)(s:A1n):Prop:=(i=0/\s=A3Z)\/(0<s.k/\s.k<=7/\A1u s.lab=true)
section
variable (gl:Nat->AV)
def A9T(s:A1n)(M:Mem):A0c (WC gl) 44 [.agg s.row] M (λv M'=>v=B (B0j s)/\M'=M):=by
 obtain⟨k,lab⟩:=s;have hr:(A1n.mk k lab).row=[I k,S lab]:=rfl;rw[hr];refine A0t hB func44 ?_;by_cases h1:k=0
 .by_cases h2:lab=⟨#[]⟩
  .simp -dsimp[h1,h2,B0j]
  .simp -dsimp[h1,h2,B0j]
 .simp -dsimp[h1,B0j]
set_option maxHeartbeats 1000000 in
def B5y(p:List A1n)(o:Own)(M:Mem)(hl:p.length<=9)(hp:∀i (h:i<p.length),C1y i p[i]):A0c (WC gl) 43 [.list 2 (A0P p) o] M (λv M'=>v=B true/\M'=M):=by
 refine A2e (λ_=>trivial) ?_;refine A0t hB func43 ?_;simp -dsimp;refine A1E hB p.length 7 (λT M1=>∃i:Nat,i<=p.length/\T 0=.list 2 (A0P p) o/\T 5=.list 2 (A0P p) o/\T 6=I p.length/\T 7=I i/\Grow M M1) ?_ ?_
 .exact⟨0,Q0,Q1,Q1,Q1,Q1,Grow.refl _⟩
 rintro T M1 ⟨i,i1,t0,t5,t6,t7,hg⟩;by_cases hi:i<p.length;case neg=>have a:¬(i:Int)<p.length:=Q0;have h9:(p.length:Int)<=9:=Q0;simp -dsimp[t0,t5,t6,t7,a,h9];exact hg
 have a:(i:Int)<p.length:=Q0;have w1:=A1Y (i:=i) Q0;obtain⟨s,hs⟩:=ex (p[i]);have g:=hp i hi;rw[<-hs]at g;have l:p[i]=s:=hs.symm;have m:(A0P p)[i]?=some [I s.k,S s.lab]:=by simp[A0P,hi,hs,A1n.row]
 obtain⟨M2,b⟩:=ex (M1++[A0l.cells 89 [I s.k,S s.lab]]);have hX:M2[M1.length]?=some (A0l.cells 89 [I s.k,S s.lab]):=by rw[b];simp
 have e:Grow M M2:=by rw[b];exact hg.trans (A0d.app none _ _)
 have j:=A9T gl s M2;rw[show s.row=[I s.k,S s.lab]from rfl]at j;have c:∀M,A3E (WC gl) 66 [S s.lab] M (λv M'=>v=B (A1u s.lab)/\M'=M):=λM=>A0m func66 rfl rfl (A2e (λ_=>trivial) (B3p gl M s.lab));have n:IntKind.i64.wrap 1=1:=by decide
 by_cases h0:i=0
 .have r:(i:Int)=0:=Q0;subst h0;simp -dsimp[t0,t5,t6,t7,a,hi,m,l,A0j,A0k,A0e,A0o,A0n];rw[<-b];simp -dsimp[t0,t5,t6,t7,A0b hX];refine A0h func44 j ?_;cases hb:B0j s
  .rcases g with⟨_,rfl⟩|⟨q1,q2,q3⟩
   .simp[B0j,A3Z]at hb
   have d:¬s.k<=0:=Q0;have f:¬s.k>7:=Q0;rw[q3]at c;simp -dsimp[t0,t5,t6,t7,A0b hX,d,f];refine A0v (c M2) ?_;rintro _ _ ⟨rfl,rfl⟩;simp -dsimp[t0,t5,t6,t7,w1,n];exact⟨⟨1,Q0,rfl,e⟩,Q0⟩
  .simp -dsimp[t0,t5,t6,t7,w1,n];exact⟨⟨1,Q0,rfl,e⟩,Q0⟩
 .rcases g with⟨q,_⟩|⟨q1,q2,q3⟩
  .exact absurd q h0
  have d:¬s.k<=0:=Q0;have f:¬s.k>7:=Q0;rw[q3]at c;simp -dsimp[t0,t5,t6,t7,a,hi,m,l,A0j,A0k,A0e,A0o,A0n];rw[<-b];simp -dsimp[t0,t5,t6,t7,A0b hX,h0,d,f];refine A0v (c M2) ?_;rintro _ _ ⟨rfl,rfl⟩;simp -dsimp[t0,t5,t6,t7,w1];exact⟨⟨i+1,Q3,rfl,e⟩,Q3⟩
end
def A2F(s:A1n)(k:A0a):Bool:=decide (k.kind=s.k)&&decide (k.label=s.lab)
section
variable (gl:Nat->AV)
def B4a(k:A0a)(s:A1n)(M:Mem):A0c (WC gl) 47 [.agg k.row,.agg s.row] M (λv M'=>v=B (A2F s k)/\M'=M):=by
 have hs:s.row=[I s.k,S s.lab]:=rfl;rw[k.row_eq,hs];refine A0t hB func47 ?_;by_cases h1:k.kind=s.k
 .by_cases h2:k.label=s.lab
  .simp -dsimp[A2F,h1,h2]
  .simp -dsimp[A2F,h1,h2]
 .simp -dsimp[A2F,h1]
def C9I(u:A0a)(o:Own)(M:Mem):A0c (WC gl) 30 [.agg u.row,.list 2 [] o] M (λv M'=>v=.list 8 (A0q [u]) .no/\M'=M):=by
 refine A0c.dataX ?_;have hv:=λM=>B5y gl [] o M Q1 Q1;simp only[A0P,Z1O]at hv;have a:A0q [u]=[u.row]:=by rw[A0q,A0q]
 have hb:=B4w M.length [u];rw[a]at hb|-;rw[u.row_eq]at hb|-;refine A0t (hQ [58]) func30 ?_;simp -dsimp;refine A0h func43 (hv M) ?_;simp -dsimp[A0j,A0w,A1e,AV.storable,AV.cells];exact⟨A0d.app none _ _,.dis hb .nil⟩
end
section
variable (gl:Nat->AV)
def C6M(u:A0a)(pv:AV)(R:List A0a)(M:Mem)(hR:R.length<=3000)(n:∀M,A0c (WC gl) 30 [.agg u.row,pv] M (λv M'=>v=.list 8 (A0q R) .no/\M'=M)):
 A0c (WC gl) 18 [.agg u.row,pv] M (λv M'=>v=.list 3 (A6Y (R.map A0a.id)) .no/\M'=M):=by
 refine A0c.dataX ?_
 obtain⟨f,a⟩:=ex (R.map A0a.id)
 rw[<-a]
 have q:f.length=R.length:=by rw[a];simp
 rw[u.row_eq]at n|-
 refine A0t (hQ [20]) func18 ?_
 simp -dsimp
 refine A0h func30 (n M) ?_
 simp -dsimp
 refine A1E (hQ [20]) R.length 12 (λT M1=>∃i:Nat,i<=R.length/\T 10=.list 8 (A0q R) .no/\T 11=I R.length/\T 12=I i/\Grow M M1/\Arr 23 3 IdD.row M.length M1 (T 5) (f.take i)) ?_ ?_
 .exact⟨0,Q0,Q1,Q1,Q1,Grow.refl _,by simpa using Arr.nil⟩
 rintro T M1 ⟨i,i1,b,d,c,hg,ha⟩
 by_cases hi:i<R.length
 case neg=>have g:¬(i:Int)<R.length:=Q0;rw[Z0e Q0]at ha;simp -dsimp[b,d,c,g];exact⟨hg,A2T (enc:=IdD.row) (λ_=>rfl) C5O ha.own ha.lat⟩
 have g:(i:Int)<R.length:=Q0
 have w1:=A1Y (i:=i) Q0
 obtain⟨x,hx⟩:=ex (R[i])
 have o:R[i]=x:=hx.symm
 obtain⟨M2,j⟩:=ex (M1++[A0l.cells 30 x.row])
 have k:Grow M1 M2:=by rw[j];exact A0d.app none _ _
 have hX:M2[M1.length]?=some (.cells 30 x.row):=by rw[j];simp
 have m:=ha.keep k
 have p:f.take (i+1)=f.take i++[x.id]:=by rw[Z0A,a,Z1i,Z0i hi,hx];rfl
 generalize l:T 5=ov at*
 simp -dsimp[b,d,c,l,hi,g,o,A0j,A0k,A0e,A0o,A0n]
 rw[<-j]
 rw[x.row_eq]at hX
 simp -dsimp[b,d,c,l,A0b hX,A0w,A1e,A0o,A0n]
 refine A3u (C:=WC gl) (enc:=IdD.row) (e:=23) (sz:=3) (news:=[x.id]) C5A D2q D3k (λ_=>rfl) m.own (by simp[A0D,IdD.row]) (by simp;omega) rfl ?_
 intro v' M' h1 h2 h3 _
 obtain⟨g1,g2⟩:=A2R (X:=[]) (hg.trans k) m.lat (by simpa using h2) (by simpa using h3)
 simp -dsimp[b,d,c,w1]
 exact⟨⟨i+1,Q3,rfl,g1,by rw[p];exact⟨h1,g2⟩⟩,Q3⟩
end
section
variable (gl:Nat->AV)
def C4X(l:List A0a)(M:Mem)(hl:l.length<=1000000):A0c (WC gl) 219 [.list 8 (A0q l) .no] M (λv M'=>A1p 30 8 A0a.row M' v l/\Grow M M'/\A1K M.length v):=by
 refine A0t hW func219 ?_;have tail:∀(K:AV->Mem->Prop) (tg:Tag K),(∀v M',(A1p 30 8 A0a.row M' v l/\Grow M M'/\A1K M.length v)->K v M')->A3s (WC gl) (A1X hW.own (some 7)) (A1X hW.vec (some 7)) 28 28 (.vref M.length 0 8 0 0) (.list 8 (A0q l) .no) (M++[.vec 30 8 [] 0 [(0,0)]]) K tg:=by intro K tg hk;have ho:A1p 30 8 A0a.row (M++[.vec 30 8 [] 0 [(0,0)]]) (.vref M.length 0 8 0 0) []:=.inr ⟨M.length,0,[(0,0)],rfl,Q1,by simp[List.lookup]⟩;refine A3u (C:=WC gl) (enc:=A0a.row) (e:=30) (sz:=8) (news:=l) A7N B2e B0y A0a.row_len ho (by simp only[A0D,A7M,A9s];simp) (by simp;omega) rfl ?_;intro v' M' h1 h2 h3 _;obtain⟨r1,r2⟩:=A2R (X:=[]) (A0d.app none M [.vec 30 8 [] 0 [(0,0)]]) (v:=.vref M.length 0 8 0 0) (λf hf=>by simp at hf;omega) (by simpa using h2) (by simpa using h3);exact hk _ _ ⟨h1,r1,r2⟩
 cases l with
 |nil=>
  simp -dsimp[A0q];rw[A6O (.inl rfl) underlying28];intro b;cases b
  .simp -dsimp[A1B,A1e];refine tail _ _ λv M' h=>?_;simp -dsimp;exact h
  .simp -dsimp;exact⟨.nil,A0d.refl _ _,λf h=>by simp at h⟩
 |cons a l=>
  have hr:A0q (a::l)=a.row::A0q l:=by rw[A0q]
  rw[hr];simp -dsimp[A1B,A1e];rw[<-hr];refine tail _ _ λv M' h=>?_;simp -dsimp;exact h
end
mutual
def A7B(x:IdD):A0a->Option (List A1n)
 |.mk id _ _ _ _ ks=>if id=x then some []else B1R x ks
def B1R(x:IdD):List A0a->Option (List A1n)
 |[]=>none
 |k::ks=>match A7B x k with
  |some p=>some (⟨k.kind,k.label⟩::p)
  |none=>B1R x ks
end
mutual
def B8B(x:IdD):∀u:A0a,((A7B x u).getD []).length<=A0x u
 |.mk id _ _ _ _ ks=>by
  have:=B6C x ks;rw[A7B,A0x];split
  .simp
  .omega
def B6C(x:IdD):∀ks:List A0a,((B1R x ks).getD []).length<=A0H ks
 |[]=>by rw[B1R];simp
 |k::ks=>by
  have h1:=B8B x k;have h2:=B6C x ks;have h3:=A7R k;rw[B1R,A0H];cases hk:A7B x k with
  |none=>simp only;omega
  |some p=>rw[hk]at h1;simp only[Z1E,Z0q]at h1|-;have h4:=C8j x k p hk;omega
def C8j(x:IdD):∀(u:A0a) (p:List A1n),A7B x u=some p->p.length+1<=A0x u
 |.mk id _ _ _ _ ks,p,h=>by
  rw[A7B]at h;rw[A0x];split at h
  .simp only[Z0b]at h;subst h;simp
  .have:=B6C x ks;rw[h,Z1E]at this;omega
end
abbrev B3I(o:Option (List A1n)):AV:=.tuple [A6t (o.getD []),B o.isSome]
def B8p(p:List A1n):(p.map A1n.row).flatten=p.flatMap A1n.row:=by simp[List.flatMap]
def C0C{M:Mem}{n:Nat}{v:AV}{p:List A1n}(h:A1p 89 2 A1n.row M v p)(hn:A1K n v):Still M n (bdd n) [.tuple [v,B true]] [B3I (some p)]:=.tuple (Still.append (a:=[v]) (b:=[A6t p]) (c:=[B true]) (d:=[B true]) (A2T (enc:=A1n.row) (λ_=>rfl) C4u h hn) (.same trivial .nil)) .nil
section
variable (gl:Nat->AV)
def C2B{s:A1n}{M:Mem}:A1B prog 33 1 [(0,.agg [I s.k,S s.lab])] M=some (.vref M.length 0 2 0 1,M++[.vec 89 2 [I s.k,S s.lab] 0 [(0,1)]]):=by simp[A1B,A1e,AV.storable,AV.cells]
def D2C:∀(u:A0a) (x:IdD) (M:Mem),u.good->A0x u<=3000->A0c (WC gl) 38 [.agg u.row,.agg x.row] M (λv M'=>v=B3I (A7B x u)/\M'=M)
 |.mk id kind lab hd ws ks,x,M,hg,hc=>by
  obtain⟨_,_,a5,_,a3,_,a6,a1,q⟩:=(A0a.good_iff _).1 hg;have q:∀k∈ks,k.good:=q;have a4:1+A0H ks<=3000:=by rwa[A0x]at hc
  have a2:=A2t ks;have w:(A0a.mk id kind lab hd ws ks).row=[I id.act,I id.item,I id.n,I kind,S lab,.list 4 (A0i hd) .no,.list 4 (A0i ws) .no,.list 8 (A0q ks) .no]:=by rw[A0a.row]
  have hx:x.row=[I x.act,I x.item,I x.n]:=rfl;have he:=C1B id x;refine A0c.dataX ?_;rw[w,hx];refine A1c (hQ [33,35]) func38 rfl rfl rfl rfl rfl rfl ?_;by_cases h0:id=x
  .rw[Z0B h0]at he;(have hr:A7B x (.mk id kind lab hd ws ks)=some []:=by rw[A7B,Z0c h0]);rw[hr];simp -dsimp[he];exact⟨Grow.refl _,.tuple (.nilS (.same trivial .nil)) .nil⟩
  rw[Z0I h0]at he;have hr:A7B x (.mk id kind lab hd ws ks)=B1R x ks:=by rw[A7B,Z0d h0]
  rw[hr];generalize hR:B1R x ks=R;simp -dsimp[he];refine A0K (hQ [33,35]) (λT M1=>∃i:Nat,Grow M M1/\i<=ks.length/\T 3=.cptr [I x.act,I x.item,I x.n]/\T 15=.list 8 (A0q ks) .no/\T 16=I ks.length/\T 17=I i/\R=B1R x (ks.drop i)) (λT M1=>match T 17 with|.val (.int _ i)=>ks.length-i.toNat|_=>0) Q2 ?_ ?_
  .exact⟨0,Grow.refl _,Q0,Q1,Q1,Q1,Q1,by simp[hR]⟩
  rintro T M1 ⟨i,j,i1,t3,c,a,b,ho⟩;by_cases hi:i<ks.length;case neg=>have r:¬(i:Int)<ks.length:=Q0;rw[show ks.drop i=[]from Z0y Q0,B1R]at ho;subst ho;simp -dsimp[t3,c,a,b,r];exact⟨j,.tuple (.nilS (.same trivial .nil)) .nil⟩
  have r:(i:Int)<ks.length:=Q0;have w1:=A1Y (i:=i) Q0;have d:ks[i]∈ks:=Z0u hi;have a7:=A3B d;rw[Z0o hi,B1R]at ho;obtain⟨M2,t⟩:=ex (M1++[A0l.cells 30 ks[i].row]);have m:Grow M1 M2:=by rw[t];exact A0d.app none _ _
  have o:M2[M1.length]?=some (A0l.cells 30 ks[i].row):=by rw[t];simp
  have:=A0a.kid_lt (u:=.mk id kind lab hd ws ks) d;have g:=D2C ks[i] x M2 (q _ d) Q0;have l:=B8B x ks[i];rw[hx]at g;simp -dsimp[t3,c,a,b,hi,r,A0j,A0k,A0e,AV.storable,AV.cells];rw[<-t];simp -dsimp[t3,c,a,b,A0b o];refine A0v (A0m func38 rfl rfl g) ?_;rintro _ M2 ⟨rfl,rfl⟩;rw[A0a.row_eq]at o;cases hw:A7B x ks[i]with
  |none=>rw[hw]at ho;simp -dsimp[t3,c,a,b,w1];exact⟨⟨j.trans m,i+1,Q3,rfl,ho⟩,Q3⟩
  |some p=>rw[hw]at ho l;simp only[Z1E]at l;subst ho;obtain⟨s,hs⟩:=ex (⟨ks[i].kind,ks[i].label⟩:A1n);(have y:ks[i].kind=s.k:=by rw[hs]);(have z:ks[i].label=s.lab:=by rw[hs]);simp -dsimp[t3,c,a,b,A0b o,y,z,C2B];have a0:A1p 89 2 A1n.row (M2++[.vec 89 2 [I s.k,S s.lab] 0 [(0,1)]]) (.vref M2.length 0 2 0 1) [s]:=.inr ⟨M2.length,0,[(0,1)],rfl,by simp[A1n.row],by simp[List.lookup]⟩;refine A3u (C:=WC gl) (enc:=A1n.row) (e:=89) (sz:=2) (news:=p) D0Y D6i D6s (λ_=>rfl) a0 (by simp[A0D,B8p]) (by simp;omega) rfl ?_;intro v' M3 q1 q2 q3 _;obtain⟨r1,r2⟩:=A2R (X:=[]) ((j.trans m).trans (A0d.app none _ [.vec 89 2 [I s.k,S s.lab] 0 [(0,1)]])) (v:=.vref M2.length 0 2 0 1) (λf hf=>by simp at hf;have:=(j.trans m).1;omega) (by simpa using q2) (by simpa using q3);rw[<-hs];simp -dsimp;exact⟨r1,C0C q1 r2⟩
termination_by u=>SizeOf.sizeOf u
def A3O(u:A0a)(x:IdD):Option (List A1n):=(A7B x u).map (A3Z::·)
def D4x(u:A0a)(x:IdD)(M:Mem)(hg:u.good)(hc:A0x u<=3000):A0c (WC gl) 26 [.agg u.row,.agg x.row] M (λv M'=>v=B3I (A3O u x)/\M'=M):=by
 refine A0c.dataX ?_;have hx:x.row=[I x.act,I x.item,I x.n]:=rfl;have a:=D2C gl u x M hg hc;have b:=B8B x u;rw[hx]at a|-;refine A1c (hQ [17,19]) func26 rfl rfl rfl rfl rfl rfl ?_;simp -dsimp;refine A0v (A0m func38 rfl rfl a) ?_;rintro _ M ⟨rfl,rfl⟩;cases hw:A7B x u with
 |none=>simp -dsimp[A3O,hw];exact⟨Grow.refl _,.tuple (.nilS (.same trivial .nil)) .nil⟩
 |some p=>
  rw[hw]at b;simp only[Z1E]at b;have hf:A3O u x=some (A3Z::p):=by simp[A3O,hw]
  rw[hf];have hv:=C2B (s:=A3Z) (M:=M);simp only[A3Z]at hv;simp -dsimp[hv,C6P];have c:A1p 89 2 A1n.row (M++[.vec 89 2 [I 0,S ⟨#[]⟩] 0 [(0,1)]]) (.vref M.length 0 2 0 1) [A3Z]:=.inr ⟨M.length,0,[(0,1)],rfl,by simp[A1n.row,A3Z],by simp[List.lookup]⟩;refine A3u (C:=WC gl) (enc:=A1n.row) (e:=89) (sz:=2) (news:=p) D0Y D6i D6s (λ_=>rfl) c (by simp[A0D,B8p]) (by simp;omega) rfl ?_;intro v' M3 q1 q2 q3 _;obtain⟨r1,r2⟩:=A2R (X:=[]) ((Grow.refl M).trans (A0d.app none _ [.vec 89 2 [I 0,S ⟨#[]⟩] 0 [(0,1)]])) (v:=.vref M.length 0 2 0 1) (λf hf=>by simp at hf;omega) (by simpa using q2) (by simpa using q3);simp -dsimp;exact⟨r1,C0C q1 r2⟩
end
def A7Q(l:List A0z):Bool:=l.all (λw=>decide (w.text.size<=100))&&decide (l.length<=300)
mutual
def B1l:A0a->Bool
 |.mk _ _ l h w ks=>decide (l.size<=30)&&A7Q h&&A7Q w&&A9Q ks
def A9Q:List A0a->Bool
 |[]=>true
 |k::ks=>B1l k&&A9Q ks
end
mutual
def A9l:A0a->Int->Int->Int
 |.mk _ _ _ _ _ ks,deep,most=>if 20<deep then most+1 else A7L ks deep most 1
def A7L:List A0a->Int->Int->Int->Int
 |[],_,_,n=>n
 |k::ks,deep,most,n=>if n<=most then A7L ks deep most (n+A9l k (deep+1) (most-n))else n
end
mutual
def C2G:∀(u:A0a) (b a:Int),0<=a->1<=A9l u b a/\A9l u b a<=a+1
 |.mk _ _ _ _ _ ks,b,a,h=>by
  rw[A9l];split
  .omega
  .exact C4y ks b a 1 h Q0 Q0
def C4y:∀(ks:List A0a) (b a n:Int),0<=a->1<=n->n<=a+1->1<=A7L ks b a n/\A7L ks b a n<=a+1
 |[],b,a,n,h,h1,h2=>by rw[A7L];exact⟨h1,h2⟩
 |k::ks,b,a,n,h,h1,h2=>by
  rw[A7L];split
  .have:=C2G k (b+1) (a-n) Q0;exact C4y ks b a _ h Q0 Q0
  .exact⟨h1,h2⟩
end
def B9c(u:A0a)(most:Int):Bool:=decide (A9l u 0 most<=most)&&B1l u
section
variable (gl:Nat->AV) (M:Mem)
def C0p(l:List A0z)(o:Own)(hl:l.length<=maxLen):A0c (WC gl) 119 [.list 4 (A0i l) o] M (λv M'=>v=B (A7Q l)/\M'=M):=by
 refine A1c hB func119 rfl rfl rfl rfl rfl rfl ?_;have e:l.length<=9223372036854775807:=by simpa[maxLen]using hl
 simp -dsimp;refine A0K hB (λT M1=>∃i:Nat,i<=l.length/\T 0=.list 4 (A0i l) o/\T 3=I i/\M1=M/\A7Q l=((l.drop i).all (λw=>decide (w.text.size<=100))&&decide (l.length<=300))) (λT _=>match T 3 with|.val (.int _ i)=>l.length-i.toNat|_=>0) Q2 ?_ ?_
 .exact⟨0,Q0,Q1,Q1,rfl,by simp[A7Q]⟩
 .rintro T M1 ⟨i,i1,t0,t3,rfl,ho⟩;by_cases hi:i<l.length
  .have b:(i:Int)<l.length:=Q0;(have w1:IntKind.i64.wrap ((i:Int)+1)=(i+1:Nat):=by rw[A0R Q0 Q0];omega);have hd:l.drop i=l[i]::l.drop (i+1):=Z0o hi;rw[hd,Z2I]at ho;by_cases h0:l[i].text.size<=100
   .have a:¬(100:Int)<l[i].text.size:=Q0;have c:¬(l[i].text.size:Int)>100:=a;rw[Z0B h0,Z0V]at ho;simp -dsimp[t0,t3,hi,b,a,c,w1,A0z.row];exact⟨⟨i+1,Q3,rfl,ho⟩,Q3⟩
   .have a:(100:Int)<l[i].text.size:=Q0;have c:(l[i].text.size:Int)>100:=a;rw[Z0I h0,Z0J,Z0J]at ho;simp -dsimp[t0,t3,hi,b,a,c,A0z.row,ho]
  .have b:¬(i:Int)<l.length:=Q0;rw[show l.drop i=[]from Z0y Q0,List.all_nil,Z0V]at ho;simp -dsimp[t0,t3,b,ho];by_cases h3:l.length<=300
   .have d:(l.length:Int)<=300:=Q0;simp[h3,d]
   .have d:¬(l.length:Int)<=300:=Q0;simp[h3,d]
end
section
variable (gl:Nat->AV)
def C0Q:∀(u:A0a) (M:Mem),u.good->A0c (WC gl) 71 [.agg u.row] M (λv M'=>v=B (B1l u)/\M'=M)
 |.mk id kind lab hd ws ks,M,hg=>by
  obtain⟨_,_,_,hh,_,hw,_,hk,g⟩:=(A0a.good_iff _).1 hg;have j:ks.length<=9223372036854775807:=hk;refine A1c hB func71 rfl rfl rfl rfl rfl rfl ?_;have a:B1l (.mk id kind lab hd ws ks)=(decide (lab.size<=30)&&A7Q hd&&A7Q ws&&A9Q ks):=by rw[B1l]
  by_cases h1:lab.size<=30;case neg=>have b:(30:Int)<lab.size:=Q0;have d:(lab.size:Int)>30:=b;rw[Z0I h1]at a;simp only[Z0J]at a;simp -dsimp[A0a.row,b,d,a]
  have b:¬(30:Int)<lab.size:=Q0;have d:¬(lab.size:Int)>30:=b;rw[Z0B h1,Z0V]at a;simp -dsimp[A0a.row,b,d];refine A0v (A0m func119 rfl rfl (C0p gl M hd .no hh)) ?_;rintro _ _ ⟨rfl,rfl⟩;cases h2:A7Q hd;case false=>rw[h2,Z0J,Z0J]at a;simp -dsimp[a]
  rw[h2,Z0V]at a;simp -dsimp;refine A0v (A0m func119 rfl rfl (C0p gl _ ws .no hw)) ?_;rintro _ M ⟨rfl,rfl⟩;cases h3:A7Q ws;case false=>rw[h3,Z0J]at a;simp -dsimp[a]
  rw[h3,Z0V]at a;simp -dsimp;refine A0K hB (λT M1=>∃i:Nat,i<=ks.length/\T 1=.cptr [I id.act,I id.item,I id.n,I kind,S lab,.list 4 (A0i hd) .no,.list 4 (A0i ws) .no,.list 8 (A0q ks) .no]/\T 3=I i/\M1=M/\A9Q ks=A9Q (ks.drop i)) (λT _=>match T 3 with|.val (.int _ i)=>ks.length-i.toNat|_=>0) Q2 ?_ ?_
  .exact⟨0,Q0,Q1,Q1,rfl,Q1⟩
  .rintro T M1 ⟨i,i1,t1,t3,rfl,ho⟩;by_cases hi:i<ks.length
   .have e:(i:Int)<ks.length:=Q0;(have w1:IntKind.i64.wrap ((i:Int)+1)=(i+1:Nat):=by rw[A0R Q0 Q0];omega);have f:ks.drop i=ks[i]::ks.drop (i+1):=Z0o hi;have c:ks[i]∈ks:=Z0u hi;rw[f,A9Q]at ho;simp -dsimp[t1,t3,hi,e];have:=A0a.kid_lt (u:=.mk id kind lab hd ws ks) c;refine A0v (A0m func71 rfl rfl (C0Q ks[i] M1 (g _ c))) ?_;rintro _ _ ⟨rfl,rfl⟩;cases h4:B1l ks[i]
    .rw[h4,Z0J]at ho;simp -dsimp[t1,t3,a,ho]
    .rw[h4,Z0V]at ho;simp -dsimp[t1,t3,w1];exact⟨⟨i+1,Q3,rfl,ho⟩,Q3⟩
   .have e:¬(i:Int)<ks.length:=Q0;rw[show ks.drop i=[]from Z0y Q0,A9Q]at ho;simp -dsimp[t1,t3,e,a,ho]
termination_by u=>SizeOf.sizeOf u
def C4f:∀(u:A0a) (b a:Int) (M:Mem),u.good->0<=b->b<=30->0<=a->a<=1000->A0c (WC gl) 70 [.agg u.row,I b,I a] M (λv M'=>v=I (A9l u b a)/\M'=M)
 |.mk id kind lab hd ws ks,b,a,M,hg,d0,d1,m0,m1=>by
  obtain⟨_,_,_,hh,_,hw,_,hk,j⟩:=(A0a.good_iff _).1 hg;have k:ks.length<=9223372036854775807:=hk;refine A1c hB func70 rfl rfl rfl rfl rfl rfl ?_;have c:A9l (.mk id kind lab hd ws ks) b a=if 20<b then a+1 else A7L ks b a 1:=by rw[A9l]
  by_cases h1:20<b
  .have f:b>20:=h1;have w1:IntKind.i64.wrap (a+1)=a+1:=A0R Q0 Q0;rw[Z0c h1]at c;simp -dsimp[A0a.row,h1,f,w1,c]
  have f:¬b>20:=h1;rw[Z0d h1]at c;simp -dsimp[A0a.row,h1,f];refine A0K hB (λT M1=>∃i:Nat,i<=ks.length/\T 1=I b/\T 2=I a/\T 3=.cptr [I id.act,I id.item,I id.n,I kind,S lab,.list 4 (A0i hd) .no,.list 4 (A0i ws) .no,.list 8 (A0q ks) .no]/\T 8=I i/\M1=M/\∃n:Int,T 7=I n/\1<=n/\n<=a+1/\A7L ks b a 1=A7L (ks.drop i) b a n) (λT _=>match T 8 with|.val (.int _ i)=>ks.length-i.toNat|_=>0) Q2 ?_ ?_
  .exact⟨0,Q0,Q1,Q1,Q1,Q1,rfl,1,Q1,Q0,Q0,Q1⟩
  .rintro T M1 ⟨i,i1,t1,t2,t3,t8,rfl,n,t7,n1,n2,ho⟩;by_cases hi:i<ks.length
   .have d:(i:Int)<ks.length:=Q0;(have w1:IntKind.i64.wrap ((i:Int)+1)=(i+1:Nat):=by rw[A0R Q0 Q0];omega);have g:ks.drop i=ks[i]::ks.drop (i+1):=Z0o hi;have e:ks[i]∈ks:=Z0u hi;rw[g,A7L]at ho;by_cases hn:n<=a
    .rw[Z0c hn]at ho;have w2:IntKind.i64.wrap (b+1)=b+1:=A0R Q0 Q0;have w3:IntKind.i64.wrap (a-n)=a-n:=A0R Q0 Q0;simp -dsimp[t1,t2,t3,t7,t8,hi,d,hn,w2,w3];have:=A0a.kid_lt (u:=.mk id kind lab hd ws ks) e;refine A0v (A0m func70 rfl rfl (C4f ks[i] (b+1) (a-n) M1 (j _ e) Q0 Q0 Q0 Q0)) ?_;rintro _ _ ⟨rfl,rfl⟩;have hs:=C2G ks[i] (b+1) (a-n) Q0;generalize A9l ks[i] (b+1) (a-n)=z at*;have w4:IntKind.i64.wrap (n+z)=n+z:=A0R Q0 Q0;simp -dsimp[t1,t2,t3,t7,t8,w1,w4];exact⟨⟨i+1,Q3,rfl,Q0,Q0,ho⟩,Q3⟩
    .rw[Z0d hn]at ho;simp -dsimp[t1,t2,t3,t7,t8,hi,d,hn,c,ho]
   .have d:¬(i:Int)<ks.length:=Q0;rw[show ks.drop i=[]from Z0y Q0,A7L]at ho;simp -dsimp[t1,t2,t3,t7,t8,d,c,ho]
termination_by u=>SizeOf.sizeOf u
def D2v(u:A0a)(a:Int)(M:Mem)(hg:u.good)(m0:0<=a)(m1:a<=1000):A0c (WC gl) 55 [.agg u.row,I a] M (λv M'=>v=B (B9c u a)/\M'=M):=by
 refine A1c hB func55 rfl rfl rfl rfl rfl rfl ?_;simp -dsimp;refine A0v (A0m func70 rfl rfl (C4f gl u 0 a M hg Q0 Q0 m0 m1)) ?_;rintro _ _ ⟨rfl,rfl⟩;by_cases h1:A9l u 0 a<=a
 .simp -dsimp[h1];refine A0v (A0m func71 rfl rfl (C0Q gl u _ hg)) ?_;rintro _ _ ⟨rfl,rfl⟩;simp -dsimp[B9c,h1]
 .simp -dsimp[h1,B9c]
end
end Go.Abs
