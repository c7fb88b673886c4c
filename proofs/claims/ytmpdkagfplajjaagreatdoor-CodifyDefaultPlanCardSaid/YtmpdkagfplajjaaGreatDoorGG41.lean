/- The texts CfV, AwA, AwB, AwC2. -/
import Derived.Test.YtmpdkagfplajjaaGreatDoorGG40
import Derived.Test.YtmpdkagfplajjaaGreatDoorGG23
set_option linter.all false
set_option maxRecDepth 100000
namespace Go.Abs
open Go.Proofs TryTypes Tryz
section
def B8M{l:List A0H}(h:∀w∈l,w.good):∀w∈l.map (λw=>A1O w.text),w.good:=by intro w hw;obtain⟨q,hq,rfl⟩:=Z0G.1 hw;exact B1o (h q hq).1
mutual
def C1b:∀u:A0a,u.good->(A3M u).good
 |.mk id k l h ws ks,hg=>by obtain⟨h1,h2,h3,h4,h5,h6,h7,h8,h9⟩:=(A0a.good_iff _).1 hg;rw[A3M,A0a.good];refine⟨by simp[IdD.good,idZ,inI],h2,h3,by rw[Z0K];exact h4,B8M h5,by rw[Z0K];exact h6,B8M h7,by rw[B3L,Z0K];exact h8,B6M ks (B3g.2 h9)⟩
def B6M:∀ks:List A0a,A9c ks->A9c (A4j ks)
 |[],_=>by rw[A4j];trivial
 |k::ks,h=>by rw[A9c]at h;rw[A4j,A9c];exact⟨C1b k h.1,B6M ks h.2⟩
end
section
variable (gl:Nat->AV)
set_option maxHeartbeats 1000000 in
def D8x(o:gl 0=A2h)(t:gl 1=A2s)(ao:gl 3=.cptr [fnV 444,fnV 445])(u:A0a)(a:Int)(hg:u.good)(aw:A4A (WC gl) 10 [] [] (λr _=>r=.val (.bool true))):
 A0c (WC gl) 8 [.agg u.row,I a] [] (λv _=>v=B true):=by
 have a8:=λM=>D8a gl u M hg
 have ai:=D7W u hg
 have hr:=u.row_eq
 have ap:=λM hf=>D4m gl u M hf
 have g:=λM hf h40=>C6K gl o t u M hf h40
 have d:=λM hf hl hs=>B7v gl o t (λx=>A1i x u) u rfl (A8v u) M hf hl hs
 have c:=λM hf hl hls=>C6m gl o t ao u (A8v u) a M hf hl hls
 have ak:=λM x hc=>C6O gl u x M hg hc
 rw[hr]at a8 ap g d c ak|-
 refine A0o hB func8 ?_
 simp -dsimp -implicitDefEqProofs
 refine A1l aw ?_
 rintro _ M ⟨rfl⟩
 simp -dsimp -implicitDefEqProofs
 refine A0i func11 (a8 M) ?_
 cases c1:B9r u [] []with
 |false=>simp -dsimp -implicitDefEqProofs
 |true=>
 have an:=c1
 simp only[B9r,Z0g,Z0l,Z0u]at an
 obtain⟨⟨⟨⟨c2,c3⟩,c4⟩,c5⟩,c6⟩:=an
 obtain⟨hf,b6⟩:=ai c2
 simp -dsimp -implicitDefEqProofs
 refine A0i func35 (ap M hf) ?_
 cases hb:A3E u with
 |false=>simp -dsimp -implicitDefEqProofs
 |true=>
 have g:=λM=>g M hf (by omega)
 rw[hb]at g
 simp only[Z0M]at g
 have b8:=C4B u
 have ac:=C5L hf.1 hf.2.2
 have d:=λM=>d M hf (by omega) ac
 rw[B3m hb]at d
 have c:=λM=>c M hf (by omega) ac
 unfold C3B at c
 simp -dsimp -implicitDefEqProofs
 refine A0i func15 (g M) ?_
 simp -dsimp -implicitDefEqProofs
 by_cases he:A8G u (A8v u) [] a 0=0
 case neg=>
  rw[Z0c he]at c;have ag:=C7N hb a 0;obtain⟨e,av⟩:∃e,e=A8G u (A8v u) [] a 0:=⟨_,rfl⟩;rw[<-av]at c he ag;obtain⟨M1,aa⟩:∃M1,M1=M++[A0p.cells 27 zU]:=⟨_,rfl⟩;refine A0i func24 (c M) ?_;simp -dsimp -implicitDefEqProofs[A0l,A0m,A0e,A0K,A0I];refine A0i func12 (d _) ?_;simp -dsimp -implicitDefEqProofs[he];refine A0i func12 (d _) ?_;rcases ag with e0|e0|e0|e0
  .exact absurd e0 he
  .subst e0;simp -dsimp -implicitDefEqProofs
  .subst e0;simp -dsimp -implicitDefEqProofs
  .subst e0;simp -dsimp -implicitDefEqProofs
 rw[Z0d he]at c
 have hA:=B6d hf he
 have b:=D1j hf (by omega) ac (by simp) hA
 have aj:A0j (A3x u a (A2L u (A8v u) []))=(A8v u).length+1:=B5u hA.sound a
 obtain⟨-,-,d3⟩:=C9w hA
 rw[A9t (A6e hb).2.2.2]at c b aj d3
 have y:=D3o hb hA.id a hA.n1
 have a6:=B9U hb a
 have l:=λn2 D hD h=>D4E u hf (by omega) hb hA.id a n2 hA.n1 he D hD h
 obtain⟨V,hV⟩:∃V,V=A3x u a ((A1n u.kids).map A6R):=⟨_,rfl⟩
 obtain⟨D,hD⟩:∃D,D=A5F a u ((A1n u.kids).map A6R):=⟨_,rfl⟩
 have b0:A5C u a=V:=hV.symm
 rw[b0]at y a6 l
 rw[<-hD]at c y d3
 rw[<-hV]at c b aj
 have af:=λM x=>C6O gl V x M b.1 b.2.2
 have a2:=λM=>C6K gl o t V M b (by omega)
 obtain⟨L2,a3⟩:∃L2,L2=if A3E V then A4i (A1n V.kids) [] (-1)else[]:=⟨_,rfl⟩
 have a7:L2.length<=500:=by
  rw[a3];split
  .have:=C4B V;unfold A8v at this;omega
  .simp
 have a5:∀s∈L2,s.good:=by
  rw[a3];split
  .exact C5L b.1 b.2.2
  .simp
 have f:=λn2 M=>C6m gl o t ao V L2 n2 M b a7 a5
 have ae:=λM=>C1W gl V M b.1 b.2.2 a6
 have ad:=λM=>B1K gl V M b.2.1 b.2.2
 rw[<-a3]at a2
 have b4:=V.row_eq
 rw[b4]at c af a2 f ae ad
 obtain⟨M1,aa⟩:∃M1,M1=M++[A0p.cells 27 [I V.id.act,I V.id.item,I V.id.n,I V.kind,S V.label,.list 4 (A0g V.head) .no,.list 4 (A0g V.words) .no,.list 8 (A0q V.kids) .no]]:=⟨_,rfl⟩
 have a1:M1[M.length]?=some (A0p.cells 27 [I V.id.act,I V.id.item,I V.id.n,I V.kind,S V.label,.list 4 (A0g V.head) .no,.list 4 (A0g V.words) .no,.list 8 (A0q V.kids) .no]):=by rw[aa];simp
 obtain⟨p,hp⟩:∃p,p=M.length:=⟨_,rfl⟩
 rw[<-hp]at a1
 refine A0i func24 (c M) ?_
 simp -dsimp -implicitDefEqProofs[A0l,A0m,A0e,A0K,A0I]
 rw[<-aa,<-hp]
 refine A0i func12 (d M1) ?_
 simp -dsimp -implicitDefEqProofs
 have b7:(D.length:Int)<=9223372036854775807:=by omega
 refine A0y hB D.length 9 (λT Mi=>∃i:Nat,i<=D.length/\T 1=I a/\T 2=.cptr [I u.id.act,I u.id.item,I u.id.n,I u.kind,S u.label,.list 4 (A0g u.head) .no,.list 4 (A0g u.words) .no,.list 8 (A0q u.kids) .no]/\T 6=.ptr p 0/\T 7=.list 6 (D.map A5b) .no/\T 9=I i/\Mi=M1) ?_ ?_
 .exact⟨0,by omega,by simp,by simp,by simp,by simp,by simp,rfl⟩
 rintro T Mi ⟨i,i1,t1,t2,t6,t7,t9,ah⟩
 rw[<-ah]at a1
 by_cases hi:i<D.length
 case pos=>
  have m:(i:Int)<D.length:=by omega
  have w1:=A1E (i:=i) (by omega);obtain⟨z,hz⟩:∃z,z=D[i]:=⟨_,rfl⟩;have ab:D[i]=z:=hz.symm;have b3:=y z (hz▸Z0q hi);have ar:(D.map A5b)[i]?=some [I z.1.act,I z.1.item,I z.1.n,I z.2.act,I z.2.item,I z.2.n]:=by simp[hi,ab,A5b]
  have az:∀x:IdD,x.row=[I x.act,I x.item,I x.n]:=λ_=>rfl;have a4:=λM=>ak M z.1 (by omega);have w:=λM=>af M z.2;rw[b3]at w;rw[az]at a4 w;have g:=D6E u z.1;obtain⟨P,hP⟩:∃P,P=(A6A u z.1).getD []:=⟨_,rfl⟩;have ay:=D2W gl P;simp only[D2O]at a4 w;rw[<-hP]at a4 w g;have b9:=t9;simp -dsimp -implicitDefEqProofs[t1,t2,t6,t7,t9,m];refine A8q hB (A0t gl) (λk=>0) (λ_=>0) (by rfl) (by kernel_rfl) ?_;simp -dsimp -implicitDefEqProofs[t1,t2,t6,t7,t9,hi,m,ar,ab,A5b];refine A1G func36 a4 ?_;simp -dsimp -implicitDefEqProofs;refine A8q hB (A0t gl) (λk=>if k=0 then 1 else 0) (λ_=>p) (by rfl) (by kernel_rfl) ?_;simp -dsimp -implicitDefEqProofs[t1,t2,t6,t7,t9,hi,m,ar,ab,A5b,A0b a1,A1a,A5n];refine A1G func36 w ?_;simp -dsimp -implicitDefEqProofs;refine A0i func37 (ay Mi (by omega)) ?_;simp -dsimp -implicitDefEqProofs[t1,t2,t6,t7,t9,w1];exact⟨⟨i+1,by clear w1;omega,rfl,ah⟩,by clear w1;omega⟩
 have m:¬(i:Int)<D.length:=by omega
 obtain⟨n2,aq⟩:∃n2,n2=IntKind.i64.wrap (a.tmod 1000+1):=⟨_,rfl⟩
 have f:=λM=>f n2 M
 unfold C3B at f
 obtain⟨q,hq⟩:∃q,q=Mi.length:=⟨_,rfl⟩
 have b5:p<q:=by rw[hq];exact(Z0a.1 a1).1
 have am:∀X:A0p,(Mi++[X])[p]?=Mi[p]?:=λX=>Z0h (by omega)
 simp -dsimp -implicitDefEqProofs[t1,t2,t6,t7,t9,m]
 by_cases he2:A8G V L2 [] n2 0=0
 .rw[Z0d he2]at f;have ax:=B6d b he2;have a9:=D1j b a7 a5 (by simp) ax;have l:=l n2 L2 a3 he2;obtain⟨W,hW⟩:∃W,W=A3x V n2 (A2L V L2 []):=⟨_,rfl⟩;rw[<-hW]at f a9 l;have a0:=λM=>B1K gl W M a9.2.1 a9.2.2;rw[l]at a0;have au:=λM=>B7k gl (A3M V) M (C1b V b.1);obtain⟨Z,hZ⟩:∃Z,Z=(A3M V).row:=⟨_,rfl⟩;rw[<-hZ]at au ad a0;rw[W.row_eq]at f a0;obtain⟨M2,j⟩:∃M2,M2=Mi++[A0p.cells 27 [I W.id.act,I W.id.item,I W.id.n,I W.kind,S W.label,.list 4 (A0g W.head) .no,.list 4 (A0g W.words) .no,.list 8 (A0q W.kids) .no]]:=⟨_,rfl⟩;have b1:M2[p]?=some (A0p.cells 27 [I V.id.act,I V.id.item,I V.id.n,I V.kind,S V.label,.list 4 (A0g V.head) .no,.list 4 (A0g V.words) .no,.list 8 (A0q V.kids) .no]):=by rw[j,Z0h (by omega)];exact a1
  have b2:M2[q]?=some (A0p.cells 27 [I W.id.act,I W.id.item,I W.id.n,I W.kind,S W.label,.list 4 (A0g W.head) .no,.list 4 (A0g W.words) .no,.list 8 (A0q W.kids) .no]):=by rw[j,hq];simp
  refine A5r hB (A0t gl) (λk=>if k=0\/k=1 then 1 else if k=11\/k=12 then 2 else 0) (λ_=>p) (λ_=>false) [p] (by intros;simp) (by rfl) (by kernel_rfl) ?_;simp -dsimp -implicitDefEqProofs[t1,t2,t6,t7,t9,A0b a1,A1a,A5n];refine A1G func15 a2 ?_;simp -dsimp -implicitDefEqProofs[t1,t2,t6,t7,t9,A0b a1,A1a,A5n];rw[<-aq];refine A1G func24 f ?_;simp -dsimp -implicitDefEqProofs[A0l,A0m,A0e,A0K,A0I,t1,t2,t6,t7,t9,am];rw[<-j,<-hq];refine A8q hB (A0t gl) (λk=>if k=0\/k=6\/k=8 then 1 else 0) (λk=>if k=6 then q else p) (by rfl) (by kernel_rfl) ?_;simp -dsimp -implicitDefEqProofs[t1,t2,t6,t7,t9,A0b b1,A0b b2,A1a,A5n];refine A1G func38 ae ?_;simp -dsimp -implicitDefEqProofs[t1,t2,t6,t7,t9,A0b b1,A0b b2,A1a,A5n];refine A1G func39 a0 ?_;simp -dsimp -implicitDefEqProofs[t1,t2,t6,t7,t9,A0b b1,A0b b2,A1a,A5n];refine A1G func39 ad ?_;simp -dsimp -implicitDefEqProofs;refine A1G func25 au ?_;simp -dsimp -implicitDefEqProofs
 .rw[Z0c he2]at f;obtain⟨e2,al⟩:∃e2,e2=A8G V L2 [] n2 0:=⟨_,rfl⟩;rw[<-al]at f he2;obtain⟨M2,j⟩:∃M2,M2=Mi++[A0p.cells 27 zU]:=⟨_,rfl⟩;have b1:M2[p]?=some (A0p.cells 27 [I V.id.act,I V.id.item,I V.id.n,I V.kind,S V.label,.list 4 (A0g V.head) .no,.list 4 (A0g V.words) .no,.list 8 (A0q V.kids) .no]):=by rw[j,Z0h (by omega)];exact a1
  refine A5r hB (A0t gl) (λk=>if k=0\/k=1 then 1 else if k=11\/k=12 then 2 else 0) (λ_=>p) (λ_=>false) [p] (by intros;simp) (by rfl) (by kernel_rfl) ?_;simp -dsimp -implicitDefEqProofs[t1,t2,t6,t7,t9,A0b a1,A1a,A5n];refine A1G func15 a2 ?_;simp -dsimp -implicitDefEqProofs[t1,t2,t6,t7,t9,A0b a1,A1a,A5n];rw[<-aq];refine A1G func24 f ?_;simp -dsimp -implicitDefEqProofs[A0l,A0m,A0e,A0K,A0I,t1,t2,t6,t7,t9,am];rw[<-j,<-hq];refine A8q hB (A0t gl) (λk=>if k=0\/k=6\/k=8 then 1 else 0) (λk=>if k=6 then q else p) (by rfl) (by kernel_rfl) ?_;simp -dsimp -implicitDefEqProofs[t1,t2,t6,t7,t9,A0b b1,A1a,A5n];refine A1G func38 ae ?_;simp -dsimp -implicitDefEqProofs[t1,t2,t6,t7,t9,he2]
end
end
section
variable (gl:Nat->AV)
def B4U(n:Int)(a:ByteArray)(ws:List ByteArray)(M:Mem)(hl:ws.length<=1000):A0c (WC gl) 45 [I n,S a,.list 1 (A1d ws) .no] M (λv M'=>v=.agg (A0a.mk ⟨1,0,n⟩ 2 a [] (ws.map A1O) []).row/\M'=M):=by
 refine A0c.dataX ?_;have a1:(A0a.mk ⟨1,0,n⟩ 2 a [] (ws.map A1O) []).row=[I 1,I 0,I n,I 2,S a,.list 4 [] .no,.list 4 (A0g (ws.map A1O)) .no,.list 8 [] .no]:=by rw[A0a.row];rfl
 rw[a1];obtain⟨K,hK⟩:∃K,K=ws.map A1O:=⟨_,rfl⟩;have aa:K.length=ws.length:=by rw[hK,Z0K]
 rw[<-hK];obtain⟨b,s⟩:∃b,b=M.length:=⟨_,rfl⟩;obtain⟨M1,m⟩:∃M1,M1=M++[z8,A0p.cells 27 [I 1,I 0,I n,I 2,S a,A0x,A0x,A0x]]:=⟨_,rfl⟩;have h1:M1[b]?=some z8:=by rw[m,s];simp
 have h2:M1[b+1]?=some (A0p.cells 27 [I 1,I 0,I n,I 2,S a,A0x,A0x,A0x]):=by rw[m,s];simp[Z0Z]
 have a3:Grow M M1:=by rw[m];exact A0d.app none _ _
 have a8:A0w prog 23 [(0,I 1),(2,I n)]=some (.agg [I 1,I 0,I n]):=by simp[A0w,A1e,A1r,A0e]
 have a6:A0w prog 27 [(1,I 2),(2,S a),(0,.agg [I 1,I 0,I n])]=some (.agg [I 1,I 0,I n,I 2,S a,A0x,A0x,A0x]):=by simp[A0w,A1e,A1r,A0e,A0I]
 refine A0o (hQ [27]) func45 ?_;simp -dsimp -implicitDefEqProofs[A0l,a8,a6,A0m,A0e,A0K,A0I];refine A0y (hQ [27]) ws.length 8 (λT Mi=>∃i:Nat,i<=ws.length/\T 2=.list 1 (A1d ws) .no/\T 6=.ptr b 0/\T 7=.ptr (b+1) 0/\T 8=I i/\Grow M Mi/\Mi[b]?=some z8/\∃kv,Mi[b+1]?=some (A0p.cells 27 [I 1,I 0,I n,I 2,S a,A0x,kv,A0x])/\Arr 152 4 A0H.row (b+2) Mi kv (K.take i)) ?_ ?_
 .rw[<-s];have e:M++[z8]++[A0p.cells 27 [I 1,I 0,I n,I 2,S a,A0x,A0x,A0x]]=M1:=by rw[m];simp
  refine⟨0,by omega,by simp,by simp,by simp,by simp,?_⟩;simp only[Z0T,Z1a,Z1g]at e|-;rw[e];exact⟨a3,h1,_,h2,by simpa using Arr.nil⟩
 rintro T Mi ⟨i,i1,t2,t6,t7,t8,d,q,kv,g,ha⟩;have y:b<Mi.length:=(Z0a.1 q).1;have a9:b+1<Mi.length:=(Z0a.1 g).1;by_cases hi:i<ws.length;case neg=>
  have l:¬(i:Int)<ws.length:=by omega
  rw[Z0k (by omega)]at ha;have r:A1m prog 27 Mi (.ptr (b+1) 0)=some (.agg [I 1,I 0,I n,I 2,S a,A0x,kv,A0x]):=by rw[A0b g];simp
  have p:A0m (some 8) Mi (.ptr b 0) (.agg [I 1,I 0,I n,I 2,S a,A0x,kv,A0x])=some (Mi.set b (.cells 27 [I 1,I 0,I n,I 2,S a,A0x,kv,A0x])):=by rw[A0h q];rfl
  simp -dsimp -implicitDefEqProofs[t2,t6,t7,t8,l,r,p,A0z y,A0k];have t:=ha.own.keep (A0d.set Mi b (.cells 27 [I 1,I 0,I n,I 2,S a,A0x,kv,A0x])) (λf hf e=>by have:=ha.lat f hf;simp at e;omega);refine⟨A1o d (by omega),.agg ?_ .nil⟩;have a5:Still (Mi.set b (.cells 27 [I 1,I 0,I n,I 2,S a,A0x,kv,A0x])) M.length (bdd M.length) [kv,A0x] [.list 4 (K.map A0H.row) .no,.list 8 [] .no]:=Still.rows (λ_=>rfl) (λx c hc=>by simp only[A0H.row,Z0t,Z1E,Z2H]at hc;rcases hc with rfl|rfl|rfl|rfl<;>simp[bdd]) t (λf hf=>by have:=ha.lat f hf;omega) (.nilS .nil);exact .same trivial (.same trivial (.same trivial (.same trivial (.same trivial (.nilS a5)))))
 have l:(i:Int)<ws.length:=by omega
 have w1:=A1E (i:=i) (by omega);obtain⟨x,hx⟩:∃x,x=ws[i]:=⟨_,rfl⟩;have u:ws[i]=x:=hx.symm;have a0:K.take (i+1)=K.take i++[A1O x]:=by rw[Z1j,Z0m (show i<K.length by omega),hx];simp only[hK,Z1R];rfl
 have r:A1m prog 24 Mi (.ptr (b+1) 6)=some kv:=by rw[A0b g];simp
 have a7:(A1d ws)[i]?=some [S x]:=by simp[A1d,hi,u]
 simp -dsimp -implicitDefEqProofs[t2,t6,t7,t8,hi,l];refine A0X (hQ [27]) (A0t gl) (λk=>if k=1 then 1 else if k=8\/k=10 then 2 else 0) (λ_=>b+1) (by rfl) (by kernel_rfl) ?_;simp -dsimp -implicitDefEqProofs[t2,t6,t7,t8,hi,l,a7,u,r,A1a,A5n,A0n,A0W,A0K,A0I];refine A3p (C:=WC gl) (enc:=A0H.row) (e:=152) (sz:=4) (news:=[A1O x]) B3v C0S B4k (λ_=>rfl) ha.own (by simp[A0A,A0H.row,A1O]) (by simp;omega) rfl ?_;intro v' M' k1 k2 k3 _;have n1:obj kv≠some (b+1):=λe=>by have:=ha.lat (b+1) e;omega
 have n0:obj kv≠some b:=λe=>by have:=ha.lat b e;omega
 have o:=k2.get g n1;have w:=k2.get q n0;have lv:∀f,obj v'=some f->b+2<=f:=λf hf=>by
  rcases k3 with e|h
  .rw[e]at hf;exact ha.lat f hf
  .have:=h f hf;omega
 have a2:b+1<M'.length:=(Z0a.1 o).1;have p:A0m (some 1) M' (.ptr (b+1) 6) v'=some (M'.set (b+1) (.cells 27 [I 1,I 0,I n,I 2,S a,A0x,v',A0x])):=by rw[A0h o,k1.cells,Z0d ⟨k1.store,by simp,rfl⟩];rfl
 have a4:Grow M M':=⟨by have:=k2.1;have:=d.1;omega,λj hj _=>by
  have z:obj kv≠some j:=λe=>by have:=ha.lat j e;omega
  rw[k2.2 j (by have:=d.1;omega) z];exact d.2 j hj (by simp)⟩
 simp -dsimp -implicitDefEqProofs[t2,t6,t7,t8,p,w1];refine⟨⟨i+1,by clear w1;omega,rfl,A1o a4 (by omega),?_,v',?_,?_⟩,by clear w1;omega⟩
 .exact w
 .simp[a2]
 .rw[a0];exact⟨k1.keep (A0d.set _ _ _) (λf hf e=>by have:=lv f hf;simp at e;omega),lv⟩
end
open Go.Proofs TryTypes
def exA:A0a:=.mk ⟨1,0,1⟩ 2 ⟨#[53]⟩ [] [⟨⟨#[115,101,101]⟩,0,0,0⟩,⟨⟨#[115,101,99,116,105,111,110]⟩,0,0,0⟩,⟨⟨#[50,44]⟩,0,0,0⟩] []
def exB:A0a:=.mk ⟨1,0,2⟩ 2 ⟨#[50]⟩ [] [] []
def exU:A0a:=.mk idZ 0 ⟨#[]⟩ [] [] [exA,exB]
def exP:List A0C:=[⟨⟨1,0,2⟩,-1,⟨#[50]⟩⟩,⟨⟨1,0,1⟩,-1,⟨#[53]⟩⟩]
def exQ:List A0C:=[⟨⟨1,0,2⟩,-1,⟨#[49]⟩⟩,⟨⟨1,0,1⟩,-1,⟨#[50]⟩⟩]
def exM:List A2m:=[⟨⟨1,0,1⟩,0,[⟨1,0,2⟩]⟩]
def D4S:A3E exU=true:=by kernel_rfl
def D4P:(if A3E exU then A4i (A1n exU.kids) [] (-1)else[])=exP:=by rw[Z0d D4S,show A1n exU.kids=[exB,exA]by kernel_rfl,A8g,Z1g];have hB:A1n exB.kids=[]:=rfl;have hA:A1n exA.kids=[]:=rfl;rw[A7b,hB,A7b,A7b,hA,A7b,A7b];rfl
def D3l:A6i (λx=>A1i x exU) exU exP=0:=by kernel_rfl
def D1x{t:ByteArray}(h:t.size<=maxLen):A0H.good ⟨t,0,0,0⟩:=B1o h
def D3S:exU.good:=by have h:∀n:Nat,n<=100->n<=maxLen:=λn h=>Z0X h (by decide);rw[exU,A0a.good,A9c,A9c,A9c,exA,A0a.good,A9c,exB,A0a.good,A9c];refine⟨by simp[IdD.good,idZ,inI],by simp[inI],h _ (by decide),h _ (by decide),by simp,h _ (by decide),by simp,h _ (by decide),⟨by simp[IdD.good,inI],by simp[inI],h _ (by decide),h _ (by decide),by simp,h _ (by decide),?_,h _ (by decide),trivial⟩,⟨by simp[IdD.good,inI],by simp[inI],h _ (by decide),h _ (by decide),by simp,h _ (by decide),by simp,h _ (by decide),trivial⟩,trivial⟩;intro w hw;simp only[Z0t,Z1E,Z2H]at hw;rcases hw with rfl|rfl|rfl<;>exact D1x (h _ (by decide))
def B7U:Fit exU:=by refine⟨D3S,?_,by decide⟩;rw[exU,A0a.lims,A5s,A5s,A5s,exA,A0a.lims,A5s,exB,A0a.lims,A5s];have hl:∀u:A0a,u.head.length<=300->u.words.length<=300->u.kids.length<=1000->u.label.size<=1000->u.lim:=λu h1 h2 h3 h4=>⟨by omega,by omega,h3,h4⟩;exact⟨hl _ (by decide) (by decide) (by decide) (by decide),⟨hl _ (by decide) (by decide) (by decide) (by decide),trivial⟩,⟨hl _ (by decide) (by decide) (by decide) (by decide),trivial⟩,trivial⟩
def D6F:∀s∈exP,s.good:=by intro s hs;simp only[exP,Z0t,Z1E,Z2H]at hs;rcases hs with rfl|rfl<;>exact⟨by simp[IdD.good,inI],by simp[inI],by decide⟩
def C7J:∀s∈exQ,s.good:=by intro s hs;simp only[exQ,Z0t,Z1E,Z2H]at hs;rcases hs with rfl|rfl<;>exact⟨by simp[IdD.good,inI],by simp[inI],by decide⟩
def C2X{M:Mem}{f g o:Nat}{cs:List AV}{a:List (Nat×Nat)}(hm:M[f]?=some (.vec 69 5 cs g a))(hl:a.lookup g=some 2)(ho:o<10)(hc:cs.length=10)(x:ByteArray):A0m (some 1) M (.vptr f g o) (S x)=some (M.set f (.vec 69 5 (A0e cs o [S x]) g (A1w 5 g o a))):=by
 simp only[A0m,hm,hl]
 rw[Z0d (by simp[AV.storable,AV.cells];omega)]
 rfl
def A9Q{C:Ctx}{h:A2r}{N:Nat}{x y:Code}{Q:Exit->Env->Mem->Prop}{T:Env}{M:Mem}{I:Env->Mem->Prop}(hx:A5h C h N x (λe T' M'=>C5I .normal I e T' M' ⟨⟩) T M ⟨⟩)(a:A1W N x=true)
 (hy:∀T M,I T M->AWp C N y Q T M):AWp C N (.seq x y) Q T M:=
 B7N (AWp.mono (A3l x _ T M a hx) λe T M h=>by obtain⟨rfl,h⟩:=h;exact hy T M h)
def D2E{C:Ctx}{h:A2r}{N:Nat}{x y:Code}{Q:Exit->Env->Mem->Prop}{T:Env}{M:Mem}{I:Env->Mem->Prop}(hx:A5h C h N x (λe T' M'=>C5I .normal I e T' M' ⟨⟩) T M ⟨⟩)(a:A1W N x=true)
 (hy:∀T M,I T M->∃n T2,(∀k,Still M n (λ_=>True) [T k] [T2 k])/\AWp C N y Q T2 (A4M M n)):AWp C N (.seq x y) Q T M:=
 B7N (AWp.still (AWp.mono (A3l x _ T M a hx) λe T M h=>by obtain⟨rfl,h⟩:=h;exact hy T M h))
def E1c(x:IdD×IdD):A1z prog .eql 79 (.agg (A5b x)) (.agg (A5b x))=some (B true):=by
 have h0:A2O prog .eql 79 (.agg (A5b x)) (.agg (A5b x))=none:=by simp[A2O,A3I]
 have h1:A8a prog 30 79 (.agg (A5b x)) (.agg (A5b x))=some true:=by simp[A8a,A2N,A0k,D8S,B7Q,A5b]
 simp only[A1z,h0,A4s,D2p,h1];rfl
def D5e{C:Ctx}{h:A2r}{N:Nat}{x:Code}{rs:List ResultVar}{Q:AV->Mem->Prop}{T:Env}{M:Mem}(hx:A5h C h N x (λe T M=>C7i C rs Q e T M ⟨⟩) T M ⟨⟩)(a:A1W N x=true):AWp C N x (B4G C rs Q) T M:=A3l x _ T M a hx
def D8O:A8G exU exQ exM 9 40=0:=by kernel_rfl
def D6c:A8G exU exQ exM 9 0=0:=by kernel_rfl
def D5l:(A2E exU++A3j (A2L exU exQ exM)).length=4:=by kernel_rfl
def C6B:A5F 9 exU (A2L exU exQ exM)=[(⟨1,0,1⟩,⟨9,3,1⟩),(⟨1,0,2⟩,⟨9,2,1⟩)]:=by kernel_rfl
def D4I:((A3x exU 9 (A2L exU exQ exM)).kids.map λk=>A0N k.words)=[[],[⟨#[115,101,101]⟩,⟨#[98,111,111,107]⟩,⟨#[115,101,99,116,105,111,110]⟩,⟨#[49,44]⟩]]:=by kernel_rfl
def D7p:∃x y,(A3x exU 9 (A2L exU exQ exM)).kids=[x,y]/\A0N y.words=[⟨#[115,101,101]⟩,⟨#[98,111,111,107]⟩,⟨#[115,101,99,116,105,111,110]⟩,⟨#[49,44]⟩]:=by
 have h:=D4I;generalize(A3x exU 9 (A2L exU exQ exM)).kids=K at*
 match K,h with
 |[],h=>simp at h
 |[x],h=>simp at h
 |[x,y],h=>simp only[Z0s,Z2c,Z1c,Z1M]at h;exact⟨x,y,rfl,h.2⟩
 |x::y::z::K,h=>simp at h
section
variable (gl:Nat->AV)
abbrev D5y:List AV:=[I 1,I 0,I 1,I 2,S ⟨#[53]⟩,.list 4 [] .no,.list 4 [[S ⟨#[115,101,101]⟩,I 0,I 0,I 0],[S ⟨#[115,101,99,116,105,111,110]⟩,I 0,I 0,I 0],[S ⟨#[50,44]⟩,I 0,I 0,I 0]] .no,.list 8 [] .no]
abbrev D5d:List AV:=[I 1,I 0,I 2,I 2,S ⟨#[50]⟩,.list 4 [] .no,.list 4 [] .no,.list 8 [] .no]
abbrev B7F:List AV:=[I 0,I 0,I 0,I 0,eS,A0x,A0x,.list 8 [D5y,D5d] .full]
abbrev D3r:List AV:=[I 0,I 0,I 0,I 0,eS,A0x,A0x,.list 8 [D5y,D5d] .no]
set_option maxHeartbeats 1000000 in
def C9d(s:gl 0=A2h)(w:gl 1=A2s)(ba:gl 3=.cptr [fnV 444,fnV 445])(ao:∀g,bdd 0 (gl g)):A0c (WC gl) 10 [] [] (λv _=>v=B true):=by
 have am:=λM=>B4U gl 1 ⟨#[53]⟩ [⟨#[115,101,101]⟩,⟨#[115,101,99,116,105,111,110]⟩,⟨#[50,44]⟩] M (by decide);have an:=λM=>A0c.atNil (e:=1) [I 2,S ⟨#[50]⟩] (B4U gl 2 ⟨#[50]⟩ [] M (by decide));have e1:(A0a.mk ⟨1,0,1⟩ 2 ⟨#[53]⟩ [] (([⟨#[115,101,101]⟩,⟨#[115,101,99,116,105,111,110]⟩,⟨#[50,44]⟩]:List ByteArray).map A1O) []).row=D5y:=rfl;have e2:(A0a.mk ⟨1,0,2⟩ 2 ⟨#[50]⟩ [] (([]:List ByteArray).map A1O) []).row=D5d:=rfl;rw[e1]at am;simp only[e2]at an;have ac:exU.row=[I 0,I 0,I 0,I 0,eS,.list 4 [] .no,.list 4 [] .no,.list 8 [D5y,D5d] .no]:=rfl;have hU:∀(M:Mem) (xs ys:List AV),Still M M.length (λ_=>True) xs ys->Still M M.length (λ_=>True) (.agg D3r::xs) (.agg exU.row::ys):=λM xs ys h=>by rw[ac];exact .agg (.same trivial (.same trivial (.same trivial (.same trivial (.same trivial (.nilS (.nilS (.same trivial .nil)))))))) h
 have av:A0w prog 27 [(5,.list 8 [D5y,D5d] .full)]=some (.agg B7F):=by simp[A0w,A1e,A1r,A0e,AV.cells,AV.storable]
 obtain⟨M1,a9⟩:∃M1,M1=[A0p.cells 27 B7F]:=⟨_,rfl⟩;have a1:M1[0]?=some (A0p.cells 27 B7F):=by rw[a9];rfl
 have aj:=D1l gl s w exU M1 B7U (by decide);rw[D4P]at aj;have aq:=A0c.disown (args:=[.agg B7F]) (ds:=[.agg D3r]) rfl (A0c.calm (hU M1 [] [] .nil) aj);have u:∀a b:Int,A0w prog 23 [(0,I a),(2,I b)]=some (.agg [I a,I 0,I b]):=λa b=>by simp[A0w,A1e,A1r,A0e]
 have a0:exP.length=2:=rfl;refine A8F func10 rfl rfl rfl rfl rfl ?_;refine A9Q (h:=hB) (I:=λT M=>M=[]) ?_ rfl ?_
 .simp -dsimp -implicitDefEqProofs
 rintro T M rfl;refine A9Q (h:=hB) (I:=λT M=>T 1=.ptr 0 0/\M=M1) ?_ rfl ?_
 .simp -dsimp -implicitDefEqProofs[A0n,A0W,A0K,A0I];refine A0i func45 (A0c.disown (by simp[A6J,C1U,B1j,A1d]) (am _)) ?_;simp -dsimp -implicitDefEqProofs[A0n,A0W,A0K,A0I];refine A0i func45 (A0c.disown (by simp[A6J,C1U,B1j]) (an _)) ?_;simp -dsimp -implicitDefEqProofs[av,A0n,A0W,A0l,A0m,A0e,A0K,A0I];exact a9.symm
 rintro T M ⟨t1,rfl⟩;refine A9Q (h:=hB) (I:=λT M'=>T 1=.ptr 0 0/\M'[0]?=some (A0p.cells 27 B7F)/\∃f g c,T 2=.vref f g 5 0 2/\1<=f/\M'[f]?=some (.vec 69 5 (exP.flatMap A0C.row) g c)/\c.lookup g=some 2) ?_ rfl ?_
 .simp -dsimp -implicitDefEqProofs[t1,A0b a1];refine A0s func15 aq ?_;rintro v M2 ⟨ho,bf,ap⟩;have a2:=bf.get a1 (by simp);rcases ho with⟨-,b7⟩|⟨f,g,c,rfl,hm,hl⟩
  .exact absurd b7 (by simp[exP])
  have ay:1<=f:=by have:=ap f rfl;rw[a9]at this;exact this
  rw[a0]at hl;simp -dsimp -implicitDefEqProofs[t1,a0];exact⟨a2,f,g,⟨rfl,rfl⟩,ay,c,hm,hl⟩
 rintro T M2 ⟨t1,a2,f,g,c,t2,ay,hm,hl⟩;have t:=A0c.lone (M:=M2) (n:=0) (args:=[.vref f g 5 0 2,.list 5 [[I 1,I 0,I 2,I (-1),S ⟨#[50]⟩],[I 1,I 0,I 1,I (-1),S ⟨#[53]⟩]] .full]) (ds:=[.list 5 (A1U exP) .no,.list 5 (A1U exP) .no]) ao
  (Still.rows (enc:=A0C.row) (l:=exP) (e:=69) (λ_=>rfl) (λ_ _ _=>trivial) (.inr ⟨f,g,c,rfl,hm,hl⟩) (λ_ _=>Z2S _) (.dis trivial .nil))
  (by simp[A1Y,bdd,A8U,A1U,exP,A0C.row]) ((D5u gl exP [] (by decide)).mono λ_ _ h=>h.1)
 have d:=A0c.lone (M:=M2) (n:=0) (args:=[.agg D3r,.vref f g 5 0 2]) (ds:=[.agg exU.row,.list 5 (A1U exP) .no]) ao
  (by rw[ac];exact .agg (.same trivial (.same trivial (.same trivial (.same trivial (.same trivial (.nilS (.nilS (.same trivial .nil)))))))) (Still.rows (enc:=A0C.row) (l:=exP) (e:=69) (λ_=>rfl) (λ_ _ _=>trivial) (.inr ⟨f,g,c,rfl,hm,hl⟩) (λ_ _=>Z2S _) .nil))
  (by rw[ac];simp[A1Y,bdd,A8U,A1U,exP,A0C.row]) ((B7v gl s w (λx=>A1i x exU) exU rfl exP [] B7U (by decide) D6F).mono λ_ _ h=>h.1)
 rw[D3l]at d;have d:=A0c.disown (args:=[.agg B7F,.vref f g 5 0 2]) (ds:=[.agg D3r,.vref f g 5 0 2]) rfl d;refine A9Q (h:=hB) (I:=λT M'=>T 1=.ptr 0 0/\T 2=.vref f g 5 0 2/\M'=M2) ?_ rfl ?_
 .simp -dsimp -implicitDefEqProofs[t1,t2,u,D0X,A0n,A0W,A0K,A0I];refine A0i func14 t ?_;simp -dsimp -implicitDefEqProofs[t1,t2,A0b a2];refine A0i func12 d ?_;simp -dsimp -implicitDefEqProofs[t1,t2]
 clear t1 t2;rintro T M' ⟨t1,t2,rfl⟩;refine D2E (h:=hB) (I:=λT M3=>T 1=.ptr 0 0/\T 2=.vref f g 5 0 2/\M3[0]?=some (A0p.cells 27 B7F)/\∃h2,M3[f]?=some (.vec 69 5 (exQ.flatMap A0C.row) g h2)/\h2.lookup g=some 2) ?_ rfl ?_
 .have s1:=C2X hm hl (o:=4) (by omega) rfl ⟨#[49]⟩;have b6:f<M'.length:=(Z0a.1 hm).1;have l1:(A1w 5 g 4 c).lookup g=some 2:=by unfold A1w;exact A3m _ hl
  obtain⟨c1,ah⟩:∃c1,c1=A0e (exP.flatMap A0C.row) 4 [S ⟨#[49]⟩]:=⟨_,rfl⟩;rw[<-ah]at s1;obtain⟨h1,b3⟩:∃h1,h1=A1w 5 g 4 c:=⟨_,rfl⟩;rw[<-b3]at s1 l1;obtain⟨N1,ad⟩:∃N1,N1=M'.set f (.vec 69 5 c1 g h1):=⟨_,rfl⟩;rw[<-ad]at s1;have m1:N1[f]?=some (.vec 69 5 c1 g h1):=by rw[ad];simp[b6]
  have aw:f<N1.length:=(Z0a.1 m1).1;have s2:=C2X m1 l1 (o:=9) (by omega) (by rw[ah];rfl) ⟨#[50]⟩;have bd:A0e c1 9 [S ⟨#[50]⟩]=exQ.flatMap A0C.row:=by rw[ah];rfl
  rw[bd]at s2;have b1:N1[0]?=some (A0p.cells 27 B7F):=by rw[ad,Z0e (by omega)];exact a2
  obtain⟨h2,al⟩:∃h2,h2=A1w 5 g 9 h1:=⟨_,rfl⟩;have l2:h2.lookup g=some 2:=by rw[al];unfold A1w;exact A3m _ l1
  rw[<-al]at s2;obtain⟨N2,aa⟩:∃N2,N2=N1.set f (.vec 69 5 (exQ.flatMap A0C.row) g h2):=⟨_,rfl⟩;rw[<-aa]at s2;have m2:N2[f]?=some (.vec 69 5 (exQ.flatMap A0C.row) g h2):=by rw[aa];simp[aw]
  have b2:N2[0]?=some (A0p.cells 27 B7F):=by rw[aa,Z0e (by omega)];exact b1
  simp -dsimp -implicitDefEqProofs[t1,t2,s1,s2];exact⟨b2,h2,m2,l2⟩
 clear t1 t2;rintro T M3 ⟨t1,t2,a3,h2,bc,b0⟩;refine⟨1,T.put (some 2) (.list 5 (A1U exQ) .no),A9R (B6e T) (by rw[t2];exact Still.rows (enc:=A0C.row) (l:=exQ) (e:=69) (λ_=>rfl) (λ_ _ _=>trivial) (.inr ⟨f,g,h2,rfl,bc,b0⟩) (λq hq=>by simp at hq;omega) .nil),?_⟩;have a4:(A4M M3 1)[0]?=some (A0p.cells 27 B7F):=A6g a3 λ_ _ _ _ _ e=>by simp at e
 have ab:(T.put (some 2) (.list 5 (A1U exQ) .no)) 1=.ptr 0 0:=by simp[t1]
 have a8:(T.put (some 2) (.list 5 (A1U exQ) .no)) 2=.list 5 (A1U exQ) .no:=by simp
 generalize T.put (some 2) (.list 5 (A1U exQ) .no)=T at*;generalize A4M M3 1=M4 at*;have be:A6J [AV.agg B7F,.list 5 (A1U exQ) .no,.list 5 [[I 1,I 0,I 1,I 0,.list 3 [[I 1,I 0,I 2]] .full]] .full,I 9,I 40]=[.agg D3r,.list 5 (A1U exQ) .no,.list 5 (A4g exM) .no,I 9,I 40]:=rfl;have az:A6J [AV.agg B7F,.list 5 (A1U exQ) .no,.list 5 [[I 1,I 0,I 1,I 0,.list 3 [[I 1,I 0,I 2]] .full]] .full,I 9]=[.agg D3r,.list 5 (A1U exQ) .no,.list 5 (A4g exM) .no,I 9]:=rfl;have au:∀m∈exM,m.to.length<=40:=by intro m hm;simp only[exM,Z0t,Z1E,Z2H]at hm;subst hm;decide
 have k:=λM=>D5M gl s w exU exQ exM 9 40 M B7U (by decide) C7J (by decide) au;simp only[D0v,Z0d D8O]at k;have i:=λM=>C3C gl s w ba exU exQ exM 9 M B7U (by decide) C7J (by decide) au;unfold C3B at i;simp only[Z0d D6c,C6B]at i;rw[C6B]at k;have a7:=λM=>A0c.disown be (A0c.calm (hU M _ _ (.same trivial (.same trivial (.same trivial (.same trivial .nil))))) (k M));have af:=λM=>A0c.disown az (A0c.calm (hU M _ _ (.same trivial (.same trivial (.same trivial .nil)))) (i M));obtain⟨x,y,hk,hy⟩:=D7p;have ar:=D5l;obtain⟨j,r⟩:∃z,z=A2E exU++A3j (A2L exU exQ exM):=⟨_,rfl⟩;obtain⟨V,hV⟩:∃z,z=A3x exU 9 (A2L exU exQ exM):=⟨_,rfl⟩;rw[<-r]at a7 ar;rw[<-hV]at af hk;rw[V.row_eq]at af;simp only[C7M]at a7;have a6:A0w prog 90 [(0,.agg [I 1,I 0,I 1]),(2,.list 3 [[I 1,I 0,I 2]] .full)]=some (.agg [I 1,I 0,I 1,I 0,.list 3 [[I 1,I 0,I 2]] .full]):=by simp[A0w,A1e,A1r,A0e,AV.cells,AV.storable]
 obtain⟨p,hp⟩:∃p,p=M4.length:=⟨_,rfl⟩;obtain⟨M5,ae⟩:∃z,z=M4++[A0p.cells 49 [I 9,S A9K,I 40,I 1,I 40,eS,.list 25 (j.map A1L.row) .no]]:=⟨_,rfl⟩;have g5:Grow M4 M5:=by rw[ae];exact A0d.app none _ _
 have a5:=g5.get a4 (by simp);have p5:M5[p]?=some (A0p.cells 49 [I 9,S A9K,I 40,I 1,I 40,eS,.list 25 (j.map A1L.row) .no]):=by rw[ae,hp];simp
 refine A9Q (h:=hB) (I:=λT M=>T 1=.ptr 0 0/\T 2=.list 5 (A1U exQ) .no/\T 3=.ptr p 0/\T 4=.list 6 [[I 1,I 0,I 1,I 9,I 3,I 1],[I 1,I 0,I 2,I 9,I 2,I 1]] .no/\T 5=I 0/\M=M5) ?_ rfl ?_
 .simp -dsimp -implicitDefEqProofs[ab,a8,A0b a4,u,a6,A0n,A0W,A0K,A0I];refine A0i func20 (a7 M4) ?_;simp -dsimp -implicitDefEqProofs[ab,a8,A0l,A0m,A0e,A0K,A0I,A5b];exact⟨hp.symm,ae.symm⟩
 clear ab a8;rintro T M ⟨t1,t2,t3,t4,t5,rfl⟩;obtain⟨q,hq⟩:∃q,q=M.length:=⟨_,rfl⟩;obtain⟨M6,ag⟩:∃z,z=M++[A0p.cells 27 [I V.id.act,I V.id.item,I V.id.n,I V.kind,S V.label,.list 4 (A0g V.head) .no,.list 4 (A0g V.words) .no,.list 8 (A0q V.kids) .no]]:=⟨_,rfl⟩;have g6:Grow M M6:=by rw[ag];exact A0d.app none _ _
 have p6:=g6.get p5 (by simp);have q6:M6[q]?=some (A0p.cells 27 [I V.id.act,I V.id.item,I V.id.n,I V.kind,S V.label,.list 4 (A0g V.head) .no,.list 4 (A0g V.words) .no,.list 8 (A0q V.kids) .no]):=by rw[ag,hq];simp
 refine A9Q (h:=hB) (I:=λT M=>T 3=.ptr p 0/\T 4=.list 6 [[I 1,I 0,I 1,I 9,I 3,I 1],[I 1,I 0,I 2,I 9,I 2,I 1]] .no/\T 5=I 0/\T 6=.ptr q 0/\T 8=I 0/\M=M6) ?_ rfl ?_
 .simp -dsimp -implicitDefEqProofs[t1,t2,t3,t4,t5,A0b a5,u,a6,A0n,A0W,A0K,A0I];refine A0i func24 (af M) ?_;simp -dsimp -implicitDefEqProofs[t3,t4,t5,A0l,A0m,A0e,A0K,A0I];exact⟨hq.symm,ag.symm⟩
 clear t1 t2 t3 t4 t5;rintro T M' ⟨t3,t4,t5,t6,t8,rfl⟩;have ai:A0w prog 23 [(0,I 9),(1,I 3),(2,I 1)]=some (.agg [I 9,I 3,I 1]):=by simp[A0w,A1e,A1r,A0e]
 have ax:A0w prog 79 [(0,.agg [I 1,I 0,I 1]),(1,.agg [I 9,I 3,I 1])]=some (.agg [I 1,I 0,I 1,I 9,I 3,I 1]):=by simp[A0w,A1e,A1r,A0e,A0I]
 have b9:V.kids.length=2:=by rw[hk];rfl
 have bb:(A0q V.kids)[1]?=some [I y.id.act,I y.id.item,I y.id.n,I y.kind,S y.label,.list 4 (A0g y.head) .no,.list 4 (A0g y.words) .no,.list 8 (A0q y.kids) .no]:=by rw[A5k V.kids 1 (by omega)];simp[hk,y.row_eq]
 have b5:A1z prog .eql 79 (.agg [I 1,I 0,I 1,I 9,I 3,I 1]) (.agg [I 1,I 0,I 1,I 9,I 3,I 1])=some (B true):=E1c (⟨1,0,1⟩,⟨9,3,1⟩);have b8:V.kids[1]'(by omega)=y:=by simp[hk]
 have bg:y.words.length=4:=by have:=congrArg List.length hy;simpa[A0N]using this
 have ak:=C9R gl y.words .no M' (by omega);rw[hy]at ak;have b4:=A0c.disown (args:=[.list 1 (A1d [⟨#[115,101,101]⟩,⟨#[98,111,111,107]⟩,⟨#[115,101,99,116,105,111,110]⟩,⟨#[49,44]⟩]) .no,.list 1 [[S ⟨#[115,101,101]⟩],[S ⟨#[98,111,111,107]⟩],[S ⟨#[115,101,99,116,105,111,110]⟩],[S ⟨#[49,44]⟩]] .full]) rfl (D1E gl [⟨#[115,101,101]⟩,⟨#[98,111,111,107]⟩,⟨#[115,101,99,116,105,111,110]⟩,⟨#[49,44]⟩] M' (by decide));refine D5e (h:=hB) ?_ rfl;simp -dsimp -implicitDefEqProofs[t3,t4,t5,t6,t8,A0b p6,A0b q6,u,ai,ax,ar,b9,bb,b5,b8,y.row_eq,A0n,A0W,A0K,A0I];refine A0i func33 ak ?_;simp -dsimp -implicitDefEqProofs[A0n,A0W];refine A0i func17 b4 ?_;simp -dsimp -implicitDefEqProofs
end
end Go.Abs
