/- The texts CeK, CeL, CeM, CbJ. -/
import Derived.Test.YtmpdkagfplajjaaGreatDoorFG33
import Derived.Test.YtmpdkagfplajjaaGreatDoorFG32
set_option linter.all false
set_option maxRecDepth 100000
namespace Go.Abs
open Go.Proofs TryTypes Tryz
def A4N(s:A0I)(k:A0a):Bool:=decide (k.kind=s.k)&&decide (k.label=s.lab)
section
variable (gl:Nat->AV)
def C4D(k:A0a)(s:A0I)(M:Mem):A0d (WC gl) 374 [.agg k.row,.agg s.row] M (λv M'=>v=B (A4N s k)/\M'=M):=by
 have hs:s.row=[I s.k,S s.lab]:=rfl;rw[k.row_eq,hs];refine A0j hB func374 ?_;by_cases h1:k.kind=s.k
 .by_cases h2:k.label=s.lab
  .simp -dsimp -implicitDefEqProofs[A4N,h1,h2]
  .simp -dsimp -implicitDefEqProofs[A4N,h1,h2]
 .simp -dsimp -implicitDefEqProofs[A4N,h1]
set_option maxHeartbeats 20000000 in
def D2N(u:A0a)(s:A0I)(o:Own)(M:Mem)(hf:Fit u)(hs:B3r 1 s):A0d (WC gl) 328 [.agg u.row,.list 2 (A1K [A3k,s]) o] M (λv M'=>v=.list 8 (A0r (u.kids.filter (A4N s))) .no/\M'=M):=by
 refine A0d.dataX ?_;have hv:=λM=>B6H gl [A3k,s] o M (by simp) (by
  intro i h
  match i,h with
  |0,_=>exact .inl ⟨rfl,rfl⟩
  |1,_=>exact hs)
 have a7:=λM=>B9c gl A3k M;have av:B5R A3k=true:=rfl;rw[av]at a7;have b4:A1K [A3k,s]=[A3k.row,s.row]:=rfl;rw[b4]at hv|-;have az:A3k.row=[I 0,S ⟨#[]⟩]:=rfl;have ar:s.row=[I s.k,S s.lab]:=rfl;obtain⟨b,hb⟩:∃b,b=M.length:=⟨_,rfl⟩;obtain⟨M1,a4⟩:∃M1,M1=M++[A0l.cells 25 [A0i]]:=⟨_,rfl⟩;have aj:M1[b]?=some (.cells 25 [A0i]):=by rw[a4,hb];simp
 have ax:Grow M M1:=by rw[a4];exact A0c.app none _ _
 rw[az,ar]at hv|-;rw[az]at a7;rw[u.row_eq];refine A0j (hQ [58]) func328 ?_;simp -dsimp -implicitDefEqProofs;refine A0f func240 (hv M) ?_;simp -dsimp -implicitDefEqProofs[A0m];rw[<-a4,<-hb];refine A0f func324 (a7 M1) ?_;simp -dsimp -implicitDefEqProofs[A0p,A0Z,AV.storable,AV.cells,A0h aj];generalize A9X _ _ _ _ _=so;rw[<-u.row_eq];obtain⟨M2,y⟩:∃M2,M2=M1.set b (.cells 25 [.list 8 [u.row] .full]):=⟨_,rfl⟩;have ao:b<M1.length:=(Z0b.1 aj).1;have a1:Grow M M2:=by rw[y];exact A1e ax (by omega)
 have aw:M2[b]?=some (.cells 25 [.list 8 [u.row] .full]):=by rw[y];simp[ao]
 have bb:=A1O u.kids;have bc:A0u u.kids<A0o u:=by obtain⟨a,b,c,d,e,f⟩:=u;rw[A0o];show A0u f<_;omega
 have ba:=hf.2.2;rw[<-y];refine A0v (hQ [58]) 1 35 (λT Mi=>∃i:Nat,i<=1/\T 5=.ptr b 0/\T 33=.list 2 [[I s.k,S s.lab]] so/\T 34=I 1/\T 35=I i/\Grow M Mi/\∃v,Mi[b]?=some (.cells 25 [v])/\(i=0->v=.list 8 [u.row] .full)/\(i=1->Arr 27 8 A0a.row M.length Mi v (u.kids.filter (A4N s)))) ?_ ?_
 .exact⟨0,by omega,by simp,by simp,by simp,by simp,a1,_,aw,λ_=>rfl,λh=>by omega⟩
 clear hv a7 a4 y aj aw ax a1 ao;rintro T Mi ⟨i,i1,t5,l,m,g,af,v,ap,ak,b6⟩;by_cases hi:i<1;case neg=>
  have h1:i=1:=by omega
  subst h1;have ab:=b6 rfl;simp -dsimp -implicitDefEqProofs[t5,m,g,A0b ap];refine⟨af,?_⟩;rw[hb];exact A8W ab.own ab.lat
 have h0:i=0:=by omega
 subst h0;have ak:=ak rfl;subst ak;obtain⟨M2,y⟩:∃M2,M2=Mi++[A0l.cells 159 [I s.k,S s.lab]]:=⟨_,rfl⟩;have a1:Grow Mi M2:=by rw[y];exact A0c.app none _ _
 have a8:=a1.get ap (by simp);have b1:M2[Mi.length]?=some (.cells 159 [I s.k,S s.lab]):=by rw[y];simp
 obtain⟨q,hq⟩:∃q,q=Mi.length:=⟨_,rfl⟩;simp -dsimp -implicitDefEqProofs[t5,l,m,g,A0m,A0n,A0e];rw[<-y,<-hq];rw[<-hq]at b1;simp -dsimp -implicitDefEqProofs[A0b a8];refine A9j (.exit 3) (λT Mj=>T 5=.ptr b 0/\T 33=.list 2 [[I s.k,S s.lab]] so/\T 34=I 1/\T 35=I 0/\Grow M2 Mj/\Arr 27 8 A0a.row M2.length Mj (T 8) (u.kids.filter (A4N s))) ?_ ?_;case refine_2=>
  have aa:=g;have ae:IntKind.i64.wrap 1=1:=by decide
  clear t5 l m g;rintro T Mj ⟨t5,l,m,g,z,ha⟩;have am:=z.get a8 (by simp);have a6:A0n (some 1) Mj (.ptr b 0) (T 8)=some (Mj.set b (.cells 25 [T 8])):=by rw[A0h am,ha.own.cells,Z0d ⟨ha.own.store,by simp,rfl⟩];rfl
  have aq:b<Mj.length:=(Z0b.1 am).1;have b3:Grow M (Mj.set b (.cells 25 [T 8])):=A1e ((af.trans a1).trans z) (by omega);have b9:M.length<=M2.length:=(af.trans a1).1;have b7:Arr 27 8 A0a.row M.length (Mj.set b (.cells 25 [T 8])) (T 8) (u.kids.filter (A4N s)):=⟨ha.own.keep (A0c.set _ _ _) (λf hf e=>by have:=ha.lat f hf;have:=(Z0b.1 a8).1;simp at e;omega),λf hf=>by have:=ha.lat f hf;omega⟩;simp -dsimp -implicitDefEqProofs[t5,l,m,g,a6,aa,ae];exact⟨1,by omega,rfl,b3,T 8,by simp[aq],λh=>by omega,λ_=>b7⟩
 refine A0v (hQ [58]) 1 41 (λT Mj=>∃j:Nat,j<=1/\T 5=.ptr b 0/\T 7=.ptr q 0/\T 33=.list 2 [[I s.k,S s.lab]] so/\T 34=I 1/\T 35=I 0/\T 39=.list 8 [u.row] .full/\T 40=I 1/\T 41=I j/\Grow M2 Mj/\Arr 27 8 A0a.row M2.length Mj (T 8) (if j=0 then[]else u.kids.filter (A4N s))) ?_ ?_
 .exact⟨0,by omega,by simp[t5],by simp,by simp[l],by simp[m],by simp[g],by simp,by simp,by simp,Grow.refl _,by simpa using Arr.nil⟩
 have aa:=g;have ae:IntKind.i64.wrap 1=1:=by decide
 clear t5 l m g;rintro T Mj ⟨j,j1,t5,t7,l,m,g,t,r,p,z,ha⟩;have am:=z.get a8 (by simp);by_cases hj:j<1;case neg=>
  have h1:j=1:=by omega
  subst h1;rw[Z0e (by omega)]at ha;simp -dsimp -implicitDefEqProofs[t5,l,m,g,r,p];exact⟨z,ha⟩
 have h0:j=0:=by omega
 subst h0;rw[Z0d rfl]at ha;obtain⟨M3,ah⟩:∃M3,M3=Mj++[A0l.cells 27 u.row]:=⟨_,rfl⟩;have ai:Grow Mj M3:=by rw[ah];exact A0c.app none _ _
 have ay:M3[Mj.length]?=some (.cells 27 u.row):=by rw[ah];simp
 have ag:=ha.keep ai;generalize w:T 8=ov at*;simp -dsimp -implicitDefEqProofs[t,r,p,A0m,A0n,A0e];rw[<-ah];rw[u.row_eq]at ay;simp -dsimp -implicitDefEqProofs[A0b ay];have au:=p;have bd:M2.length<=M3.length:=(z.trans ai).1;refine A9j (.exit 5) (λT Mk=>T 5=.ptr b 0/\T 7=.ptr q 0/\T 33=.list 2 [[I s.k,S s.lab]] so/\T 34=I 1/\T 35=I 0/\T 39=.list 8 [u.row] .full/\T 40=I 1/\T 41=I 0/\Grow M2 Mk/\Arr 27 8 A0a.row M2.length Mk (T 8) (u.kids.filter (A4N s))) ?_ ?_;case refine_2=>clear t5 t7 l m g t r p ha ag w;rintro T Mk ⟨t5,t7,l,m,g,t,r,p,a0,ha⟩;simp -dsimp -implicitDefEqProofs[t5,t7,l,m,g,t,r,p,au,ae];exact⟨1,by omega,rfl,a0,by simpa using ha⟩
 refine A0v (hQ [58]) u.kids.length 48 (λT Mk=>∃k:Nat,k<=u.kids.length/\T 5=.ptr b 0/\T 7=.ptr q 0/\T 33=.list 2 [[I s.k,S s.lab]] so/\T 34=I 1/\T 35=I 0/\T 39=.list 8 [u.row] .full/\T 40=I 1/\T 41=I 0/\T 46=.list 8 (A0r u.kids) .no/\T 47=I u.kids.length/\T 48=I k/\Grow M2 Mk/\Arr 27 8 A0a.row M2.length Mk (T 8) ((u.kids.take k).filter (A4N s))) ?_ ?_
 .exact⟨0,by omega,by simp[t5],by simp[t7],by simp[l],by simp[m],by simp[g],by simp[t],by simp[r],by simp[p],by simp,by simp,by simp,z.trans ai,by simpa[w]using ag⟩
 clear t5 t7 l m g t r p ha ag w;rintro T Mk ⟨k,k1,t5,t7,l,m,g,t,r,p,t46,a3,a2,a0,ha⟩;by_cases hk:k<u.kids.length;case neg=>
  have ac:¬(k:Int)<u.kids.length:=by omega
  rw[Z0k (by omega)]at ha;simp -dsimp -implicitDefEqProofs[t5,t7,l,m,g,t,r,p,a3,a2,ac];exact⟨a0,ha⟩
 have ac:(k:Int)<u.kids.length:=by omega
 obtain⟨x,hx⟩:∃x,x=u.kids[k]:=⟨_,rfl⟩;have b2:u.kids[k]=x:=hx.symm;have b5:=a0.get b1 (by simp);obtain⟨M5,al⟩:∃M5,M5=Mk++[A0l.cells 27 x.row]:=⟨_,rfl⟩;have a9:Grow Mk M5:=by rw[al];exact A0c.app none _ _
 have an:M5[Mk.length]?=some (.cells 27 x.row):=by rw[al];simp
 have b8:=a9.get b5 (by simp);have ad:=ha.keep a9;have b0:=C4D gl x s M5;rw[ar]at b0;have a5:(u.kids.take (k+1)).filter (A4N s)=(u.kids.take k).filter (A4N s)++(if A4N s x=true then[x]else[]):=by rw[Z1k,Z0l hk,List.filter_append,hx];simp only[Z2T,Z3d,List.filter_nil]
 generalize w:T 8=ov at*;simp -dsimp -implicitDefEqProofs[t46,a3,a2,ac,hk,b2,A0m,A0n,A0e];rw[<-al];simp -dsimp -implicitDefEqProofs[t7,A0b an,A0b b8];refine A0f func374 b0 ?_;have w1:=A1y (i:=k) (by omega);cases a6:A4N s x
 .rw[a6,Z0e (by simp),Z1F]at a5;simp -dsimp -implicitDefEqProofs[t5,t7,l,m,g,t,r,p,t46,a3,a2,w,w1];exact⟨⟨k+1,by clear w1;omega,rfl,a0.trans a9,by rw[a5];exact ad⟩,by clear w1;omega⟩
 .rw[a6,Z0d rfl]at a5;simp -dsimp -implicitDefEqProofs[w,A0b an,A0p,A0Z];refine A3V (C:=WC gl) (enc:=A0a.row) (e:=27) (sz:=8) (news:=[x]) A8n B2L B2H A0a.row_len ad.own (by simp[A0z]) (by have:=Z3A (A4N s) (u.kids.take k);simp at this|-;omega) rfl ?_;intro v' M' h1 h2 h3 _;obtain⟨g1,g2⟩:=A2T (X:=[]) (a0.trans a9) ad.lat (by simpa using h2) (by simpa using h3);simp -dsimp -implicitDefEqProofs[t5,t7,l,m,g,t,r,p,t46,a3,a2,w1];exact⟨⟨k+1,by clear w1;omega,rfl,g1,by rw[a5];exact⟨h1,g2⟩⟩,by clear w1;omega⟩
end
section
variable (gl:Nat->AV)
def D0c(u:A0a)(pv:AV)(R:List A0a)(M:Mem)(hR:R.length<=1000)(m:∀M,A0d (WC gl) 328 [.agg u.row,pv] M (λv M'=>v=.list 8 (A0r R) .no/\M'=M)):
 A0d (WC gl) 244 [.agg u.row,pv] M (λv M'=>v=.list 3 (A4y (R.map A0a.id)) .no/\M'=M):=by
 refine A0d.dataX ?_
 obtain⟨a,b⟩:∃a,a=R.map A0a.id:=⟨_,rfl⟩
 rw[<-b]
 have q:a.length=R.length:=by rw[b];simp
 rw[u.row_eq]at m|-
 refine A0j (hQ [20]) func244 ?_
 simp -dsimp -implicitDefEqProofs
 refine A0f func328 (m M) ?_
 simp -dsimp -implicitDefEqProofs
 refine A0v (hQ [20]) R.length 12 (λT M1=>∃i:Nat,i<=R.length/\T 10=.list 8 (A0r R) .no/\T 11=I R.length/\T 12=I i/\Grow M M1/\Arr 23 3 IdD.row M.length M1 (T 5) (a.take i)) ?_ ?_
 .exact⟨0,by omega,by simp,by simp,by simp,Grow.refl _,by simpa using Arr.nil⟩
 rintro T M1 ⟨i,i1,c,f,d,hg,ha⟩
 by_cases hi:i<R.length
 case neg=>
  have g:¬(i:Int)<R.length:=by omega
  rw[Z0k (by omega)]at ha;simp -dsimp -implicitDefEqProofs[f,d,g];exact⟨hg,A2W (enc:=IdD.row) (λ_=>rfl) C8M ha.own ha.lat⟩
 have g:(i:Int)<R.length:=by omega
 have w1:=A1y (i:=i) (by omega)
 obtain⟨x,hx⟩:∃x,x=R[i]:=⟨_,rfl⟩
 have o:R[i]=x:=hx.symm
 obtain⟨M2,h⟩:∃M2,M2=M1++[A0l.cells 27 x.row]:=⟨_,rfl⟩
 have j:Grow M1 M2:=by rw[h];exact A0c.app none _ _
 have hX:M2[M1.length]?=some (.cells 27 x.row):=by rw[h];simp
 have l:=ha.keep j
 have p:a.take (i+1)=a.take i++[x.id]:=by rw[Z1k,b,Z1j,Z0l hi,hx];rfl
 generalize k:T 5=ov at*
 simp -dsimp -implicitDefEqProofs[c,f,d,k,hi,g,o,A0m,A0n,A0e]
 rw[<-h]
 rw[x.row_eq]at hX
 simp -dsimp -implicitDefEqProofs[A0b hX,A0p,A0Z]
 refine A3V (C:=WC gl) (enc:=IdD.row) (e:=23) (sz:=3) (news:=[x.id]) C4u D0n D1c (λ_=>rfl) l.own (by simp[A0z,IdD.row]) (by simp;omega) rfl ?_
 intro v' M' h1 h2 h3 _
 obtain⟨g1,g2⟩:=A2T (X:=[]) (hg.trans j) l.lat (by simpa using h2) (by simpa using h3)
 simp -dsimp -implicitDefEqProofs[c,f,d,w1]
 exact⟨⟨i+1,by clear w1;omega,rfl,g1,by rw[p];exact⟨h1,g2⟩⟩,by clear w1;omega⟩
def B3c(u x:A0a)(pv:AV)(M:Mem)(h:∀M,A0d (WC gl) 328 [.agg u.row,pv] M (λv M'=>v=.list 8 (A0r [x]) .no/\M'=M)):
 A0d (WC gl) 191 [.agg u.row,pv] M (λv M'=>v=.tuple [.agg x.id.row,I 0]/\M'=M):=by
 refine A0d.dataX ?_
 obtain⟨Ma,b⟩:∃Ma,Ma=M++[A0l.cells 23 [I 0,I 0,I 0]]:=⟨_,rfl⟩
 have e:Grow M Ma:=by rw[b];exact A0c.app none _ _
 have c:Ma[M.length]?=some (A0l.cells 23 [I 0,I 0,I 0]):=by rw[b];simp
 have d:M.length<Ma.length:=(Z0b.1 c).1
 have a:=D0c gl u pv [x] Ma (by simp) h
 have f:A4y ([x].map A0a.id)=[[I x.id.act,I x.id.item,I x.id.n]]:=rfl
 have g:x.id.row=[I x.id.act,I x.id.item,I x.id.n]:=rfl
 rw[f]at a
 rw[g]
 rw[u.row_eq]at a|-
 refine A0j hB func191 ?_
 simp -dsimp -implicitDefEqProofs[A0m]
 rw[<-b]
 refine A0f func244 a ?_
 simp -dsimp -implicitDefEqProofs[A0h c,A0y d,A0k]
 exact⟨A1e e (Z0o _),.same (by simp[bdd,A1Q]) .nil⟩
end
section
variable (gl:Nat->AV)
def C7V(l:List A0a)(M:Mem)(hl:l.length<=1000000):A0d (WC gl) 52 [.list 8 (A0r l) .no] M (λv M'=>A1n 27 8 A0a.row M' v l/\Grow M M'/\A1r M.length v):=by
 refine A0j hW func52 ?_;have tail:∀(K:AV->Mem->Prop) (tg:Tag K),(∀v M',(A1n 27 8 A0a.row M' v l/\Grow M M'/\A1r M.length v)->K v M')->A6a (WC gl) (A1V hW.own (some 7)) (A1V hW.vec (some 7)) 25 25 (.vref M.length 0 8 0 0) (.list 8 (A0r l) .no) (M++[.vec 27 8 [] 0 [(0,0)]]) K tg:=by intro K tg hk;have ho:A1n 27 8 A0a.row (M++[.vec 27 8 [] 0 [(0,0)]]) (.vref M.length 0 8 0 0) []:=.inr ⟨M.length,0,[(0,0)],rfl,by simp,by simp[List.lookup]⟩;refine A3V (C:=WC gl) (enc:=A0a.row) (e:=27) (sz:=8) (news:=l) A8n B2L B2H A0a.row_len ho (by simp only[A0z,B0i,B2q];simp) (by simp;omega) rfl ?_;intro v' M' h1 h2 h3 _;obtain⟨r1,r2⟩:=A2T (X:=[]) (A0c.app none M [.vec 27 8 [] 0 [(0,0)]]) (v:=.vref M.length 0 8 0 0) (λf hf=>by simp at hf;omega) (by simpa using h2) (by simpa using h3);exact hk _ _ ⟨h1,r1,r2⟩
 cases l with
 |nil=>
  simp -dsimp -implicitDefEqProofs[A0r];rw[A9i (.inl rfl) underlying25];intro b;cases b
  .simp -dsimp -implicitDefEqProofs[A1C,A0Z];refine tail _ _ λv M' h=>?_;simp -dsimp -implicitDefEqProofs;exact h
  .simp -dsimp -implicitDefEqProofs;exact⟨.nil,A0c.refl _ _,λf h=>by simp at h⟩
 |cons a l=>
  have hr:A0r (a::l)=a.row::A0r l:=by rw[A0r]
  rw[hr];simp -dsimp -implicitDefEqProofs[A1C,A0Z];rw[<-hr];refine tail _ _ λv M' h=>?_;simp -dsimp -implicitDefEqProofs;exact h
end
mutual
def B0c(x:IdD):A0a->Option (List A0I)
 |.mk id _ _ _ _ ks=>if id=x then some []else B2y x ks
def B2y(x:IdD):List A0a->Option (List A0I)
 |[]=>none
 |k::ks=>match B0c x k with
  |some p=>some (⟨k.kind,k.label⟩::p)
  |none=>B2y x ks
end
mutual
def B9U(x:IdD):∀u:A0a,((B0c x u).getD []).length<=A0o u
 |.mk id _ _ _ _ ks=>by
  have:=B7E x ks;rw[B0c,A0o];split
  .simp
  .omega
def B7E(x:IdD):∀ks:List A0a,((B2y x ks).getD []).length<=A0u ks
 |[]=>by rw[B2y];simp
 |k::ks=>by
  have h1:=B9U x k;have h2:=B7E x ks;have h3:=A4P k;rw[B2y,A0u];cases hk:B0c x k with
  |none=>simp only;omega
  |some p=>rw[hk]at h1;simp only[Z1I,Z0C]at h1|-;have h4:=D1w x k p hk;omega
def D1w(x:IdD):∀(u:A0a) (p:List A0I),B0c x u=some p->p.length+1<=A0o u
 |.mk id _ _ _ _ ks,p,h=>by
  rw[B0c]at h;rw[A0o];split at h
  .cases h;simp
  .have:=B7E x ks;rw[h,Z1I]at this;omega
end
abbrev E0m(o:Option (List A0I)):AV:=.tuple [A6X (o.getD []),B o.isSome]
def B9H(p:List A0I):(p.map A0I.row).flatten=p.flatMap A0I.row:=by simp[List.flatMap]
def C2o{M}{n}{v}{p}(h:A1n 159 2 A0I.row M v p)(hn:A1r n v):Still M n (bdd n) [.tuple [v,B true]] [E0m (some p)]:=.tuple (Still.append (a:=[v]) (b:=[A6X p]) (c:=[B true]) (d:=[B true]) (A2W (enc:=A0I.row) (λ_=>rfl) C0e h hn) (.same trivial .nil)) .nil
section
variable (gl:Nat->AV)
def C5g{s:A0I}{M:Mem}:A1C prog 40 1 [(0,.agg [I s.k,S s.lab])] M=some (.vref M.length 0 2 0 1,M++[.vec 159 2 [I s.k,S s.lab] 0 [(0,1)]]):=by simp[A1C,A0Z,AV.storable,AV.cells]
def D5t:∀(u:A0a) (x:IdD) (M:Mem),u.good->A0o u<=1000->A0d (WC gl) 124 [.agg u.row,.agg x.row] M (λv M'=>v=E0m (B0c x u)/\M'=M)
 |.mk id kind lab hd ws ks,x,M,hg,hc=>by
  obtain⟨_,_,a4,_,a2,_,a5,a0,o⟩:=(A0a.good_iff _).1 hg;have o:∀k∈ks,k.good:=o;have a3:1+A0u ks<=1000:=by rwa[A0o]at hc
  have a1:=A1O ks;have t:(A0a.mk id kind lab hd ws ks).row=[I id.act,I id.item,I id.n,I kind,S lab,.list 4 (A0g hd) .no,.list 4 (A0g ws) .no,.list 8 (A0r ks) .no]:=by rw[A0a.row]
  have hx:x.row=[I x.act,I x.item,I x.n]:=rfl;have he:=B5z id x;refine A0d.dataX ?_;rw[t,hx];refine A0j (hQ [33,35]) func124 ?_;by_cases h0:id=x
  .rw[Z0s h0]at he;(have hr:B0c x (.mk id kind lab hd ws ks)=some []:=by rw[B0c,Z0d h0]);rw[hr];simp -dsimp -implicitDefEqProofs[he];exact⟨Grow.refl _,.tuple (.nilS (.same trivial .nil)) .nil⟩
  rw[Z0w h0]at he;have hr:B0c x (.mk id kind lab hd ws ks)=B2y x ks:=by rw[B0c,Z0e h0]
  rw[hr];generalize hR:B2y x ks=R;simp -dsimp -implicitDefEqProofs[he];refine A0v (hQ [33,35]) ks.length 17 (λT M1=>∃i:Nat,Grow M M1/\i<=ks.length/\T 3=.cptr [I x.act,I x.item,I x.n]/\T 15=.list 8 (A0r ks) .no/\T 16=I ks.length/\T 17=I i/\R=B2y x (ks.drop i)) ?_ ?_
  .exact⟨0,Grow.refl _,by omega,by simp,by simp,by simp,by simp,by simp[hR]⟩
  rintro T M1 ⟨i,h,i1,t3,c,a,b,ho⟩;by_cases hi:i<ks.length;case neg=>
   (have q:¬(i:Int)<ks.length:=by omega);rw[show ks.drop i=[]from Z0n (by omega),B2y]at ho
   subst ho;simp -dsimp -implicitDefEqProofs[a,b,q];exact⟨h,.tuple (.nilS (.same trivial .nil)) .nil⟩
  have q:(i:Int)<ks.length:=by omega
  have w1:=A1y (i:=i) (by omega);have d:ks[i]∈ks:=Z0u hi;have a6:=A2G d;rw[Z0j hi,B2y]at ho;obtain⟨M2,r⟩:∃M2,M2=M1++[A0l.cells 27 ks[i].row]:=⟨_,rfl⟩;have l:Grow M1 M2:=by rw[r];exact A0c.app none _ _
  have m:M2[M1.length]?=some (A0l.cells 27 ks[i].row):=by rw[r];simp
  have:=A0a.kid_lt (u:=.mk id kind lab hd ws ks) d;have g:=D5t ks[i] x M2 (o _ d) (by omega);have j:=B9U x ks[i];rw[hx]at g;simp -dsimp -implicitDefEqProofs[c,a,b,hi,q,A0m,A0n,A0e,AV.storable,AV.cells];rw[<-r];simp -dsimp -implicitDefEqProofs[t3,A0b m];refine A0f func124 g ?_;rw[A0a.row_eq]at m;cases hw:B0c x ks[i]with
  |none=>rw[hw]at ho;simp -dsimp -implicitDefEqProofs[t3,c,a,b,w1];exact⟨⟨h.trans l,i+1,by clear w1;omega,rfl,ho⟩,by clear w1;omega⟩
  |some p=>rw[hw]at ho j;simp only[Z1I]at j;subst ho;obtain⟨s,hs⟩:∃s:A0I,s=⟨ks[i].kind,ks[i].label⟩:=⟨_,rfl⟩;(have w:ks[i].kind=s.k:=by rw[hs]);(have y:ks[i].label=s.lab:=by rw[hs]);simp -dsimp -implicitDefEqProofs[A0b m,w,y,C5g];have z:A1n 159 2 A0I.row (M2++[.vec 159 2 [I s.k,S s.lab] 0 [(0,1)]]) (.vref M2.length 0 2 0 1) [s]:=.inr ⟨M2.length,0,[(0,1)],rfl,by simp[A0I.row],by simp[List.lookup]⟩;refine A3V (C:=WC gl) (enc:=A0I.row) (e:=159) (sz:=2) (news:=p) B5t C1e B5B (λ_=>rfl) z (by simp[A0z,B9H]) (by simp;omega) rfl ?_;intro v' M3 q1 q2 q3 _;obtain⟨r1,r2⟩:=A2T (X:=[]) ((h.trans l).trans (A0c.app none _ [.vec 159 2 [I s.k,S s.lab] 0 [(0,1)]])) (v:=.vref M2.length 0 2 0 1) (λf hf=>by simp at hf;have:=(h.trans l).1;omega) (by simpa using q2) (by simpa using q3);rw[<-hs];simp -dsimp -implicitDefEqProofs;exact⟨r1,C2o q1 r2⟩
termination_by u=>SizeOf.sizeOf u
def B3X(u:A0a)(x:IdD):Option (List A0I):=(B0c x u).map (A3k::·)
def D7e(u:A0a)(x:IdD)(M:Mem)(hg:u.good)(hc:A0o u<=1000):A0d (WC gl) 70 [.agg u.row,.agg x.row] M (λv M'=>v=E0m (B3X u x)/\M'=M):=by
 refine A0d.dataX ?_;have hx:x.row=[I x.act,I x.item,I x.n]:=rfl;have a:=D5t gl u x M hg hc;have b:=B9U x u;rw[hx]at a|-;refine A0j (hQ [17,19]) func70 ?_;simp -dsimp -implicitDefEqProofs;refine A0f func124 a ?_;cases hw:B0c x u with
 |none=>simp -dsimp -implicitDefEqProofs[B3X,hw];exact⟨Grow.refl _,.tuple (.nilS (.same trivial .nil)) .nil⟩
 |some p=>
  rw[hw]at b;simp only[Z1I]at b;have hf:B3X u x=some (A3k::p):=by simp[B3X,hw]
  rw[hf];have hv:=C5g (s:=A3k) (M:=M);simp only[A3k]at hv;simp -dsimp -implicitDefEqProofs[hv];have c:A1n 159 2 A0I.row (M++[.vec 159 2 [I 0,S ⟨#[]⟩] 0 [(0,1)]]) (.vref M.length 0 2 0 1) [A3k]:=.inr ⟨M.length,0,[(0,1)],rfl,by simp[A0I.row,A3k],by simp[List.lookup]⟩;refine A3V (C:=WC gl) (enc:=A0I.row) (e:=159) (sz:=2) (news:=p) B5t C1e B5B (λ_=>rfl) c (by simp[A0z,B9H]) (by simp;omega) rfl ?_;intro v' M3 q1 q2 q3 _;obtain⟨r1,r2⟩:=A2T (X:=[]) ((Grow.refl M).trans (A0c.app none _ [.vec 159 2 [I 0,S ⟨#[]⟩] 0 [(0,1)]])) (v:=.vref M.length 0 2 0 1) (λf hf=>by simp at hf;omega) (by simpa using q2) (by simpa using q3);simp -dsimp -implicitDefEqProofs;exact⟨r1,C2o q1 r2⟩
end
end Go.Abs
