/- The texts CeL, CeM, CbJ. -/
import Derived.Test.YtmpdkagfplajjaaGreatDoorEG33
import Derived.Test.YtmpdkagfplajjaaGreatDoorEG31
set_option linter.all false
set_option maxRecDepth 100000
namespace Go.Abs
open Go.Proofs TryTypes Tryz
section
variable (gl:Nat->AV)
def C8Z(u:A0a)(pv:AV)(R:List A0a)(M:Mem)(hR:R.length<=1000)(m:∀M,A0e (WC gl) 328 [.agg u.row,pv] M (λv M'=>v=.list 8 (A0u R) .no/\M'=M)):
 A0e (WC gl) 244 [.agg u.row,pv] M (λv M'=>v=.list 3 (A4m (R.map A0a.id)) .no/\M'=M):=by
 refine A0e.dataX ?_
 obtain⟨a,b⟩:∃a,a=R.map A0a.id:=⟨_,rfl⟩
 rw[<-b]
 have q:a.length=R.length:=by rw[b];simp
 rw[u.row_eq]at m|-
 refine A0m (hQ [20]) func244 ?_
 simp -dsimp -implicitDefEqProofs
 refine A0g func328 (m M) ?_
 simp -dsimp -implicitDefEqProofs
 refine A0F (hQ [20]) R.length 12 (λT M1=>∃i:Nat,i<=R.length/\T 10=.list 8 (A0u R) .no/\T 11=I R.length/\T 12=I i/\Grow M M1/\Arr 23 3 IdD.row M.length M1 (T 5) (a.take i)) ?_ ?_
 .exact⟨0,by omega,by simp,by simp,by simp,Grow.refl _,by simpa using Arr.nil⟩
 rintro T M1 ⟨i,i1,c,f,d,hg,ha⟩
 by_cases hi:i<R.length
 case neg=>
  have g:¬(i:Int)<R.length:=by omega
  rw[Z0j (by omega)]at ha;simp -dsimp -implicitDefEqProofs[c,f,d,g];exact⟨hg,A3P (enc:=IdD.row) (λ_=>rfl) C7M ha.own ha.lat⟩
 have g:(i:Int)<R.length:=by omega
 have w1:=A2s (i:=i) (by omega)
 obtain⟨x,hx⟩:∃x,x=R[i]:=⟨_,rfl⟩
 have o:R[i]=x:=hx.symm
 obtain⟨M2,h⟩:∃M2,M2=M1++[A0j.cells 27 x.row]:=⟨_,rfl⟩
 have j:Grow M1 M2:=by rw[h];exact A0c.app none _ _
 have hX:M2[M1.length]?=some (.cells 27 x.row):=by rw[h];simp
 have l:=ha.keep j
 have p:a.take (i+1)=a.take i++[x.id]:=by rw[Z1H,b,Z1f,Z0k hi,hx];rfl
 generalize k:T 5=ov at*
 simp -dsimp -implicitDefEqProofs[c,f,d,k,hi,g,o,A0k,A0l,A0d,A0L,A0K]
 rw[<-h]
 rw[x.row_eq]at hX
 simp -dsimp -implicitDefEqProofs[c,f,d,k,A0b hX,A0q,A1f,A0L,A0K]
 refine A4C (C:=WC gl) (enc:=IdD.row) (e:=23) (sz:=3) (news:=[x.id]) C8Q D2M D4I (λ_=>rfl) l.own (by simp[A0A,IdD.row]) (by simp;omega) rfl ?_
 intro v' M' h1 h2 h3 _
 obtain⟨g1,g2⟩:=A2V (X:=[]) (hg.trans j) l.lat (by simpa using h2) (by simpa using h3)
 simp -dsimp -implicitDefEqProofs[c,f,d,w1]
 exact⟨⟨i+1,by clear w1;omega,rfl,g1,by rw[p];exact⟨h1,g2⟩⟩,by clear w1;omega⟩
def B2T(u x:A0a)(pv:AV)(M:Mem)(h:∀M,A0e (WC gl) 328 [.agg u.row,pv] M (λv M'=>v=.list 8 (A0u [x]) .no/\M'=M)):
 A0e (WC gl) 191 [.agg u.row,pv] M (λv M'=>v=.tuple [.agg x.id.row,I 0]/\M'=M):=by
 refine A0e.dataX ?_
 obtain⟨Ma,b⟩:∃Ma,Ma=M++[A0j.cells 23 [I 0,I 0,I 0]]:=⟨_,rfl⟩
 have e:Grow M Ma:=by rw[b];exact A0c.app none _ _
 have c:Ma[M.length]?=some (A0j.cells 23 [I 0,I 0,I 0]):=by rw[b];simp
 have d:M.length<Ma.length:=(Z0b.1 c).1
 have a:=C8Z gl u pv [x] Ma (by simp) h
 have f:A4m ([x].map A0a.id)=[[I x.id.act,I x.id.item,I x.id.n]]:=rfl
 have g:x.id.row=[I x.id.act,I x.id.item,I x.id.n]:=rfl
 rw[f]at a
 rw[g]
 rw[u.row_eq]at a|-
 refine A0m hB func191 ?_
 simp -dsimp -implicitDefEqProofs[A0k]
 rw[<-b]
 refine A0g func244 a ?_
 simp -dsimp -implicitDefEqProofs[A0f c,A0L,A0K,A0v d,A0h]
 exact⟨A1g e (Z0n _),.same (by simp[bdd,A1K]) .nil⟩
end
section
variable (gl:Nat->AV)
def C6U(l:List A0a)(M:Mem)(hl:l.length<=1000000):A0e (WC gl) 52 [.list 8 (A0u l) .no] M (λv M'=>A1l 27 8 A0a.row M' v l/\Grow M M'/\A1m M.length v):=by
 refine A0m hW func52 ?_;have tail:∀(K:AV->Mem->Prop) (tg:Tag K),(∀v M',(A1l 27 8 A0a.row M' v l/\Grow M M'/\A1m M.length v)->K v M')->A5H (WC gl) (A1O hW.own (some 7)) (A1O hW.vec (some 7)) 25 25 (.vref M.length 0 8 0 0) (.list 8 (A0u l) .no) (M++[.vec 27 8 [] 0 [(0,0)]]) K tg:=by intro K tg hk;have ho:A1l 27 8 A0a.row (M++[.vec 27 8 [] 0 [(0,0)]]) (.vref M.length 0 8 0 0) []:=.inr ⟨M.length,0,[(0,0)],rfl,by simp,by simp[List.lookup]⟩;refine A4C (C:=WC gl) (enc:=A0a.row) (e:=27) (sz:=8) (news:=l) A8T B4o B3R A0a.row_len ho (by simp only[A0A,A9Q,B2g];simp) (by simp;omega) rfl ?_;intro v' M' h1 h2 h3 _;obtain⟨r1,r2⟩:=A2V (X:=[]) (A0c.app none M [.vec 27 8 [] 0 [(0,0)]]) (v:=.vref M.length 0 8 0 0) (λf hf=>by simp at hf;omega) (by simpa using h2) (by simpa using h3);exact hk _ _ ⟨h1,r1,r2⟩
 cases l with
 |nil=>
  simp -dsimp -implicitDefEqProofs[A0u];rw[A8M (.inl rfl) underlying25];intro b;cases b
  .simp -dsimp -implicitDefEqProofs[A1H,A1f];refine tail _ _ λv M' h=>?_;simp -dsimp -implicitDefEqProofs;exact h
  .simp -dsimp -implicitDefEqProofs;exact⟨.nil,A0c.refl _ _,λf h=>by simp at h⟩
 |cons a l=>
  have hr:A0u (a::l)=a.row::A0u l:=by rw[A0u]
  rw[hr];simp -dsimp -implicitDefEqProofs[A1H,A1f];rw[<-hr];refine tail _ _ λv M' h=>?_;simp -dsimp -implicitDefEqProofs;exact h
end
mutual
def A9K(x:IdD):A0a->Option (List A0G)
 |.mk id _ _ _ _ ks=>if id=x then some []else B2p x ks
def B2p(x:IdD):List A0a->Option (List A0G)
 |[]=>none
 |k::ks=>match A9K x k with
  |some p=>some (⟨k.kind,k.label⟩::p)
  |none=>B2p x ks
end
mutual
def B9n(x:IdD):∀u:A0a,((A9K x u).getD []).length<=A0o u
 |.mk id _ _ _ _ ks=>by
  have:=B7e x ks;rw[A9K,A0o];split
  .simp
  .omega
def B7e(x:IdD):∀ks:List A0a,((B2p x ks).getD []).length<=A0x ks
 |[]=>by rw[B2p];simp
 |k::ks=>by
  have h1:=B9n x k;have h2:=B7e x ks;have h3:=A5R k;rw[B2p,A0x];cases hk:A9K x k with
  |none=>simp only;omega
  |some p=>rw[hk]at h1;simp only[Z1B,Z0v]at h1|-;have h4:=D0p x k p hk;omega
def D0p(x:IdD):∀(u:A0a) (p:List A0G),A9K x u=some p->p.length+1<=A0o u
 |.mk id _ _ _ _ ks,p,h=>by
  rw[A9K]at h;rw[A0o];split at h
  .cases h;simp
  .have:=B7e x ks;rw[h,Z1B]at this;omega
end
abbrev D8X(o:Option (List A0G)):AV:=.tuple [A8K (o.getD []),B o.isSome]
def B9b(p:List A0G):(p.map A0G.row).flatten=p.flatMap A0G.row:=by simp[List.flatMap]
def C1z{M}{n}{v}{p}(h:A1l 159 2 A0G.row M v p)(hn:A1m n v):Still M n (bdd n) [.tuple [v,B true]] [D8X (some p)]:=.tuple (Still.append (a:=[v]) (b:=[A8K p]) (c:=[B true]) (d:=[B true]) (A3P (enc:=A0G.row) (λ_=>rfl) B9x h hn) (.same trivial .nil)) .nil
section
variable (gl:Nat->AV)
def C4i{s:A0G}{M:Mem}:A1H prog 40 1 [(0,.agg [I s.k,S s.lab])] M=some (.vref M.length 0 2 0 1,M++[.vec 159 2 [I s.k,S s.lab] 0 [(0,1)]]):=by simp[A1H,A1f,AV.storable,AV.cells]
def D4c:∀(u:A0a) (x:IdD) (M:Mem),u.good->A0o u<=1000->A0e (WC gl) 124 [.agg u.row,.agg x.row] M (λv M'=>v=D8X (A9K x u)/\M'=M)
 |.mk id kind lab hd ws ks,x,M,hg,hc=>by
  obtain⟨_,_,a4,_,a2,_,a5,a0,o⟩:=(A0a.good_iff _).1 hg;have o:∀k∈ks,k.good:=o;have a3:1+A0x ks<=1000:=by rwa[A0o]at hc
  have a1:=A2q ks;have t:(A0a.mk id kind lab hd ws ks).row=[I id.act,I id.item,I id.n,I kind,S lab,.list 4 (A0i hd) .no,.list 4 (A0i ws) .no,.list 8 (A0u ks) .no]:=by rw[A0a.row]
  have hx:x.row=[I x.act,I x.item,I x.n]:=rfl;have he:=B4h id x;refine A0e.dataX ?_;rw[t,hx];refine A0m (hQ [33,35]) func124 ?_;by_cases h0:id=x
  .rw[Z0w h0]at he;(have hr:A9K x (.mk id kind lab hd ws ks)=some []:=by rw[A9K,Z0d h0]);rw[hr];simp -dsimp -implicitDefEqProofs[he];exact⟨Grow.refl _,.tuple (.nilS (.same trivial .nil)) .nil⟩
  rw[Z0z h0]at he;have hr:A9K x (.mk id kind lab hd ws ks)=B2p x ks:=by rw[A9K,Z0e h0]
  rw[hr];generalize hR:B2p x ks=R;simp -dsimp -implicitDefEqProofs[he];refine A0F (hQ [33,35]) ks.length 17 (λT M1=>∃i:Nat,Grow M M1/\i<=ks.length/\T 3=.cptr [I x.act,I x.item,I x.n]/\T 15=.list 8 (A0u ks) .no/\T 16=I ks.length/\T 17=I i/\R=B2p x (ks.drop i)) ?_ ?_
  .exact⟨0,Grow.refl _,by omega,by simp,by simp,by simp,by simp,by simp[hR]⟩
  rintro T M1 ⟨i,h,i1,t3,c,a,b,ho⟩;by_cases hi:i<ks.length;case neg=>
   (have q:¬(i:Int)<ks.length:=by omega);rw[show ks.drop i=[]from Z0x (by omega),B2p]at ho
   subst ho;simp -dsimp -implicitDefEqProofs[t3,c,a,b,q];exact⟨h,.tuple (.nilS (.same trivial .nil)) .nil⟩
  have q:(i:Int)<ks.length:=by omega
  have w1:=A2s (i:=i) (by omega);have d:ks[i]∈ks:=Z0y hi;have a6:=A4j d;rw[Z0l hi,B2p]at ho;obtain⟨M2,r⟩:∃M2,M2=M1++[A0j.cells 27 ks[i].row]:=⟨_,rfl⟩;have l:Grow M1 M2:=by rw[r];exact A0c.app none _ _
  have m:M2[M1.length]?=some (A0j.cells 27 ks[i].row):=by rw[r];simp
  have:=A0a.kid_lt (u:=.mk id kind lab hd ws ks) d;have g:=D4c ks[i] x M2 (o _ d) (by omega);have j:=B9n x ks[i];rw[hx]at g;simp -dsimp -implicitDefEqProofs[t3,c,a,b,hi,q,A0k,A0l,A0d,AV.storable,AV.cells];rw[<-r];simp -dsimp -implicitDefEqProofs[t3,c,a,b,A0b m];refine A0g func124 g ?_;rw[A0a.row_eq]at m;cases hw:A9K x ks[i]with
  |none=>rw[hw]at ho;simp -dsimp -implicitDefEqProofs[t3,c,a,b,w1];exact⟨⟨h.trans l,i+1,by clear w1;omega,rfl,ho⟩,by clear w1;omega⟩
  |some p=>rw[hw]at ho j;simp only[Z1B]at j;subst ho;obtain⟨s,hs⟩:∃s:A0G,s=⟨ks[i].kind,ks[i].label⟩:=⟨_,rfl⟩;(have w:ks[i].kind=s.k:=by rw[hs]);(have y:ks[i].label=s.lab:=by rw[hs]);simp -dsimp -implicitDefEqProofs[t3,c,a,b,A0b m,w,y,C4i];have z:A1l 159 2 A0G.row (M2++[.vec 159 2 [I s.k,S s.lab] 0 [(0,1)]]) (.vref M2.length 0 2 0 1) [s]:=.inr ⟨M2.length,0,[(0,1)],rfl,by simp[A0G.row],by simp[List.lookup]⟩;refine A4C (C:=WC gl) (enc:=A0G.row) (e:=159) (sz:=2) (news:=p) B5k C0u B5q (λ_=>rfl) z (by simp[A0A,B9b]) (by simp;omega) rfl ?_;intro v' M3 q1 q2 q3 _;obtain⟨r1,r2⟩:=A2V (X:=[]) ((h.trans l).trans (A0c.app none _ [.vec 159 2 [I s.k,S s.lab] 0 [(0,1)]])) (v:=.vref M2.length 0 2 0 1) (λf hf=>by simp at hf;have:=(h.trans l).1;omega) (by simpa using q2) (by simpa using q3);rw[<-hs];simp -dsimp -implicitDefEqProofs;exact⟨r1,C1z q1 r2⟩
termination_by u=>SizeOf.sizeOf u
def B3N(u:A0a)(x:IdD):Option (List A0G):=(A9K x u).map (A3o::·)
def D5V(u:A0a)(x:IdD)(M:Mem)(hg:u.good)(hc:A0o u<=1000):A0e (WC gl) 70 [.agg u.row,.agg x.row] M (λv M'=>v=D8X (B3N u x)/\M'=M):=by
 refine A0e.dataX ?_;have hx:x.row=[I x.act,I x.item,I x.n]:=rfl;have a:=D4c gl u x M hg hc;have b:=B9n x u;rw[hx]at a|-;refine A0m (hQ [17,19]) func70 ?_;simp -dsimp -implicitDefEqProofs;refine A0g func124 a ?_;cases hw:A9K x u with
 |none=>simp -dsimp -implicitDefEqProofs[B3N,hw];exact⟨Grow.refl _,.tuple (.nilS (.same trivial .nil)) .nil⟩
 |some p=>
  rw[hw]at b;simp only[Z1B]at b;have hf:B3N u x=some (A3o::p):=by simp[B3N,hw]
  rw[hf];have hv:=C4i (s:=A3o) (M:=M);simp only[A3o]at hv;simp -dsimp -implicitDefEqProofs[hv,B9P];have c:A1l 159 2 A0G.row (M++[.vec 159 2 [I 0,S ⟨#[]⟩] 0 [(0,1)]]) (.vref M.length 0 2 0 1) [A3o]:=.inr ⟨M.length,0,[(0,1)],rfl,by simp[A0G.row,A3o],by simp[List.lookup]⟩;refine A4C (C:=WC gl) (enc:=A0G.row) (e:=159) (sz:=2) (news:=p) B5k C0u B5q (λ_=>rfl) c (by simp[A0A,B9b]) (by simp;omega) rfl ?_;intro v' M3 q1 q2 q3 _;obtain⟨r1,r2⟩:=A2V (X:=[]) ((Grow.refl M).trans (A0c.app none _ [.vec 159 2 [I 0,S ⟨#[]⟩] 0 [(0,1)]])) (v:=.vref M.length 0 2 0 1) (λf hf=>by simp at hf;omega) (by simpa using q2) (by simpa using q3);simp -dsimp -implicitDefEqProofs;exact⟨r1,C1z q1 r2⟩
end
end Go.Abs
