/- The texts EgT, EgN, EgU, EgV, EjC, EjD, EjE, EgW, EgX, EgY. -/
import Derived.Test.YtmihnfpinnfnfaaGreatDoorPG37
import Derived.Test.YtmihnfpinnfnfaaGreatDoorPG25
import Derived.Test.YtmihnfpinnfnfaaGreatDoorPG30
import Derived.Test.YtmihnfpinnfnfaaGreatDoorPG29
import Derived.Test.YtmihnfpinnfnfaaGreatDoorPG36
import Derived.Test.YtmihnfpinnfnfaaGreatDoorPG33
set_option linter.all false
set_option maxRecDepth 100000
namespace Go.Abs
open Go.Proofs TryTypes Tryz
def E3W:A0X:=⟨0,⟨#[]⟩,0,⟨0,0,⟨#[]⟩⟩,[]⟩
def B6i(n:Nat)(a:A0X):A1l n a.row:=by simp only[A0X.row,A1l,bdd,Z1z,Z2B];exact B4v n _
section
variable (gl:Nat->AV)
def D5N(a b:A0X)(M:Mem):A0c (WC gl) 75 [.agg a.row,.agg b.row] M (λv M'=>v=I (C2g a b)/\M'=M):=by refine A0t hB func75 ?_;simp -dsimp[A0X.row];refine A0Z hB (A0E gl) (λ_=>0) (λ_=>0) (by rfl) Q2 ?_;simp -dsimp;refine A1J (λM=>A0m func77 rfl rfl (C5j gl M _ _)) ?_;simp -dsimp;refine A1J (λM=>A0m func77 rfl rfl (C5j gl M _ _)) ?_;simp -dsimp[A0w,A1e];refine A1J (λM=>A0m func76 rfl rfl (D9E gl M [A9J a.day b.day,A9J a.number b.number] Q1)) ?_;simp -dsimp[C2g]
def C9D:StA.CmpOK (WC gl) A0X.row C2g 75 [] []:=λx y M=>A0m func75 rfl rfl (D5N gl x y M)
def D1Q(l:List A0X)(v:AV)(M:Mem)(hk:A1p 72 7 A0X.row M v l)(hn:l.length<=1000):A0c (WC gl) 74 [v,.func (.func 75) [] []] M (λ_ M'=>∃E,A1p 72 7 A0X.row M' v E/\E.Perm l/\E.Pairwise (λa b=>leA a b=true)/\A0d (obj v) M M'):=by
 rcases hk with⟨rfl,rfl⟩|⟨f,g,m,rfl,hm,q⟩
 .refine(StA.sortStable_nil gl M _).mono ?_;rintro _ M' rfl;exact⟨[],.nil,.refl _,.nil,.refl _ _⟩
 .obtain⟨D,hD⟩:∃D:Nat->A0X,ofD D l.length=l:=by
   refine⟨λi=>if h:i<l.length then l[i]else E3W,?_⟩;apply Z4i
   .simp
   .intro i h1 h2;rw[A8r,dif_pos h2]
  have o:M[f]?=some (.vec 72 7 ((ofD D l.length).flatMap A0X.row) g m):=by rw[hD];exact hm
  have d:f<M.length:=(Z0a.1 hm).1;refine(StA.sortStableL_ok gl (enc:=A0X.row) (c:=C2g) (fid:=75) (first:=[]) (cap:=[]) (f:=f) (g:=g) (n:=l.length) (M0:=M) (λx=>rfl) (C9D gl) d hn D M (AtA.start o q)).mono ?_;rintro _ M' ⟨E,hE,k,s⟩;have hp:(ofD E l.length).Perm l:=by have:=k.perm;rw[hD]at this;exact this
  have hs:=s D1g;obtain⟨e,rfl,p⟩:=hE;refine⟨ofD E l.length,.inr ⟨f,g,e,Q1,by simp[d],by simpa using p⟩,hp,?_,.set _ _ _⟩;rw[Z2O];intro i j hi hj r;rw[A8r,A8r,D5W];exact hs i j (Z3u _) r (by simpa using hj)
def C8w(l:List A1G)(M:Mem)(h1:l.length<=100)(h2:(l.flatMap A1G.acts).length<=1000):A0c (WC gl) 56 [.list 4 (A2G l) .no] M (λv M'=>∃E,A1p 72 7 A0X.row M' v E/\Grow M M'/\A1K M.length v/\E=A4j l):=by
 have d:=B2m (l.flatMap A1G.acts)
 refine A0t (hQ []) func56 ?_
 simp -dsimp[A0j]
 obtain⟨M1,a⟩:=ex (M++[A0l.cells 44 [.val (.slice none 0 0)]])
 have b:M1[M.length]?=some (.cells 44 [.val (.slice none 0 0)]):=by rw[a];simp
 have g:M1.length=M.length+1:=by rw[a];simp
 rw[<-a]
 refine A0v (A0m func72 rfl rfl (D1x gl l M.length M1 b h1 Q0)) ?_
 rintro _ M2 ⟨v,mm,k1,k2,_,_,k5,k6,k7⟩
 have c:obj v≠some M.length:=λe=>by have:=k7 _ e;omega
 simp -dsimp[A0b k1]
 refine A0v (A0m func74 rfl rfl (D1Q gl _ v M2 k2 Q0)) ?_
 rintro _ M3 ⟨E,q1,q2,qs,q3⟩
 have r1:=q3.get k1 c
 simp -dsimp[A0b r1]
 refine⟨E,q1,⟨by have:=q3.1;omega,λi hi _=>?_⟩,λf hf=>by have:=k7 f hf;omega,D3u q2 qs (B3v _)⟩
 rw[q3.2 i Q0 (λe=>by have:=k7 _ e;omega),k6 i Q0 Q0,a,Z0n hi]
def D5e(l:List A1G)(M:Mem)(h1:l.length<=100)(h2:(l.flatMap A1G.acts).length<=1000):A0c (WC gl) 56 [.list 4 (A2G l) .no] M (λv M'=>v=.list 7 (A5p (A4j l)) .no/\M'=M):=by
 refine(A0c.stillE (e:=72) (sz:=7) (enc:=A0X.row) (P:=λE=>E=A4j l) (λx=>rfl) (λn x=>B6i n x) (C8w gl l M h1 h2)).mono ?_
 rintro v M' ⟨E,rfl,h,rfl⟩
 exact⟨rfl,h⟩
end
def D3r:List AV:=[I 0,.val (.slice none 0 0),.val (.slice none 0 0),I 0,I 0,I 0,I 0,I 0,I 0,S ⟨#[]⟩,.val (.slice none 0 0),.val (.slice none 0 0),.val (.slice none 0 0),.val (.slice none 0 0),.val (.slice none 0 0),S ⟨#[]⟩,S ⟨#[]⟩,I 0,I 0,S ⟨#[]⟩,I 0,I 0,I 0,S ⟨#[]⟩,.val (.slice none 0 0)]
def C5Q:A8P prog 70=some (.agg D3r):=Q2
def C5m:Option A0G->List AV
 |some x=>x.row
 |none=>D3r
def D1Y(r:Option A0G):(C5m r).length=25:=by cases r<;>simp[C5m,D3r]
def D2m{M:Mem}{b:Nat}{mm:List ((Int×Int)×A0G)}(h:A2Y D5i D6q M b mm)(a i:Int):A1S prog 140 M (.mapr b) (.agg [I a,I i]) true=some (.tuple [.agg (C5m (A4Y mm (a,i))),B (A4Y mm (a,i)).isSome]):=by have:=h.get E0c (a,i) C5Q true;rw[show D5i (a,i)=.agg [I a,I i]from rfl]at this;rw[this];cases A4Y mm (a,i)<;>simp[C5m]
def D6a(d:EnD):Option A0G->EnD
 |some x=>if A1d d.kind=true then{d with it:=x}else d
 |none=>d
def EnD.with_(d:EnD)(y:A0G):EnD:={d with it:=y}
def D9V(d:EnD)(y:A0G):A0e d.row 3 y.row=(d.with_ y).row:=by rw[EnD.row_all,A0G.row_all,EnD.row_all];rfl
def D1J{M:Mem}{q:Nat}{d:EnD}(y:A0G)(h:M[q]?=some (.cells 80 d.row)):A0k (some 25) M (.ptr q 3) (.agg y.row)=some (M.set q (.cells 80 (d.with_ y).row)):=by rw[A0f h,A0n,D9V,Z0c ⟨A0o,Q1,Q1⟩]
section
variable (gl:Nat->AV)
set_option maxHeartbeats 2000000 in
def D2p(l:List A1G)(M:Mem)(hA:∀M,A0c (WC gl) 56 [.list 4 (A2G l) .no] M (λv M'=>v=.list 7 (A5p (A4j l)) .no/\M'=M))(bc:(A4j l).length<=1000000)(hn:((A4j l).flatMap A0X.items).length<=1000000):
 A0c (WC gl) 57 [.list 4 (A2G l) .no] M (λv M'=>v=.list 28 (A3Q (A3V l)) .no/\M'=M):=by
 refine A2e (λn=>C7D n _) ?_
 have b0:A3V l=((A4j l).flatMap A1F).map (B1e (A4j l)):=rfl
 rw[b0]
 generalize A4j l=c at*
 have b1:∀L:List A0X,(L.flatMap A1F).length=(L.flatMap A0X.items).length:=λL=>by
  induction L with
  |nil=>rfl
  |cons a L ih=>simp only[Z0z,Z0k,ih,A7E]
 have ap:∀a∈c,a.items.length<=1000000:=λa ha=>by
  have h:∀L:List A0X,a∈L->a.items.length<=(L.flatMap A0X.items).length:=λL=>by
   induction L with
   |nil=>simp
   |cons b L ih=>
    intro h;simp only[Z0z,Z0k];rcases Z0r.1 h with rfl|h
    .omega
    .have:=ih h;omega
  have:=h c ha;omega
 refine A0t (hQ [51]) func57 ?_
 simp -dsimp
 refine A0h func56 (hA M) ?_
 simp -dsimp
 refine A4b func78 (D6b gl c .no M bc ap) ?_
 rintro _ M1 ⟨rfl,mm,b7,b6,b9⟩
 simp -dsimp
 refine B2C (.exit 0) (λT Mi=>Arr 80 28 EnD.row M1.length Mi (T 3) ((c.flatMap A1F).map (B1e c))/\Grow M1 Mi) ?_ ?_
 .refine A1E (hQ [51]) c.length 18 (λT Mi=>∃i:Nat,i<=c.length/\T 5=.mapr M.length/\T 16=.list 7 (A5p c) .no/\T 17=I c.length/\T 18=I i/\Arr 80 28 EnD.row M1.length Mi (T 3) (((c.take i).flatMap A1F).map (B1e c))/\Grow M1 Mi) ?_ ?_
  .exact⟨0,Q0,Q1,Q1,Q1,Q1,by simpa using Arr.nil,A0d.refl _ _⟩
  rintro T Mi ⟨i,i1,t5,a7,ag,a6,h3,hg⟩;generalize g:T 3=v3 at*;by_cases hi:i<c.length;case neg=>have aa:¬(i:Int)<c.length:=Q0;rw[Z0e Q0]at h3;simp -dsimp[-A2x,t5,a7,ag,a6,aa,g];exact⟨h3,hg⟩
  have aa:(i:Int)<c.length:=Q0;have w1:=A6s (i:=i) Q0;obtain⟨a,ha⟩:=ex (c[i]);have al:=B8F hi;rw[<-ha]at al;have ba:a.items.length<=1000000:=ap _ (by rw[ha];exact Z0u hi);have aw:(c.take (i+1)).flatMap A1F=(c.take i).flatMap A1F++A1F a:=by rw[Z0A,Z0i hi,Z0X,Z1k,<-ha];simp
  have bf:((c.take i).flatMap A1F).length+(A1F a).length<=1000000:=by
   (have h1:c.flatMap A1F=(c.take (i+1)).flatMap A1F++(c.drop (i+1)).flatMap A1F:=by rw[<-Z1k,Z1b]);have h2:=b1 c
   rw[h1,aw,Z0k,Z0k]at h2;omega
  generalize(c.take i).flatMap A1F=row at*;obtain⟨M2,aj⟩:=ex (Mi++[A0l.cells 72 a.row]);have a1:Grow Mi M2:=by rw[aj];exact A0d.app none _ _
  have bb:M2[Mi.length]?=some (.cells 72 a.row):=by rw[aj];simp
  have b3:A0M prog 72 M2 (.ptr Mi.length 0)=some (.agg a.row):=by rw[A0b bb];simp[A0y]
  have am:=h3.keep a1;simp -dsimp[-A2x,t5,a7,ag,a6,hi,aa,al,A0j,A0k,A0e,A0o,A0n];rw[<-ha,<-aj];simp -dsimp[-A2x,b3];refine A0h func79 (D0G gl a M2 ba) ?_;simp -dsimp;refine A7f (.exit 2) (λT Mj=>T 5=.mapr M.length/\T 16=.list 7 (A5p c) .no/\T 17=I c.length/\T 18=I i/\Arr 80 28 EnD.row M1.length Mj (T 3) ((row++A1F a).map (B1e c))/\Grow M1 Mj) ?_ ?_
  .refine A1E (hQ [51]) (A1F a).length 25 (λT Mj=>∃j:Nat,j<=(A1F a).length/\T 5=.mapr M.length/\T 16=.list 7 (A5p c) .no/\T 17=I c.length/\T 18=I i/\T 23=.list 28 (A3Q (A1F a)) .no/\T 24=I (A1F a).length/\T 25=I j/\Arr 80 28 EnD.row M1.length Mj (T 3) ((row++(A1F a).take j).map (B1e c))/\Grow M1 Mj) ?_ ?_
   .exact⟨0,Q0,by simp[t5],by simp[a7],by simp[ag],by simp[a6],Q1,Q1,Q1,by simpa[g]using am,hg.trans a1⟩
   clear h3 am hg a1 g;rintro T Mj ⟨j,j1,u5,s,m,t,z,a2,w,h3,hg⟩;generalize g:T 3=v3 at*;by_cases hj:j<(A1F a).length;(case neg=>have ai:¬(j:Int)<(A1F a).length:=Q0;rw[Z0e Q0]at h3;simp -dsimp[-A2x,u5,s,m,t,z,a2,w,ai,g];exact⟨by simpa using h3,hg⟩);have ai:(j:Int)<(A1F a).length:=Q0;have w2:=A6s (i:=j) Q0;obtain⟨d,hd⟩:=ex ((A1F a)[j]);have av:=A8h hj;rw[<-hd]at av;(have u:(row++(A1F a).take (j+1)).map (B1e c)=(row++(A1F a).take j).map (B1e c)++[B1e c d]:=by rw[Z0A,Z0i hj,Z0X,<-hd,<-Z0F,Z1c];rfl);(have bg:((row++(A1F a).take j).map (B1e c)).length<=1000000:=by simp only[Z0N,Z0k,Z0s];omega);generalize(row++(A1F a).take j).map (B1e c)=x at*;obtain⟨r,hr⟩:=ex (A4Y mm (d.act,d.item));(have ac:D5X c d.act d.item=r:=by rw[hr,b6];rfl);(have a4:B1e c d=D6a d r:=by rw[B1e,ac];clear hr ac;cases r<;>rfl);have ax:=D1Y r;obtain⟨q,hq⟩:=ex (Mj.length);obtain⟨M3,ad⟩:=ex (Mj++[A0l.cells 80 d.row]);(have ak:M3[q]?=some (.cells 80 d.row):=by rw[ad,hq];simp);(have ah:Grow Mj M3:=by rw[ad];exact A0d.app none _ _);have ab:=D2m ((b7.keep (hg.trans ah) Q1)) d.act d.item;rw[<-hr]at ab;(have ao:A0M prog 3 M3 (.ptr q 0)=some (I d.act):=by rw[A0b ak,EnD.row_all];simp);(have ay:A0M prog 3 M3 (.ptr q 1)=some (I d.item):=by rw[A0b ak,EnD.row_all];simp);obtain⟨p,hp⟩:=ex (M3.length);obtain⟨M4,a8⟩:=ex (M3++[A0l.cells 70 (C5m r)]);(have bd:M4[p]?=some (.cells 70 (C5m r)):=by rw[a8,hp];simp);(have af:Grow M3 M4:=by rw[a8];exact A0d.app none _ _);have k:=af.get ak Q1;have a3:=h3.keep (ah.trans af);have a9:=(hg.trans ah).trans af;(have aq:M1.length<=q:=by have:=hg.1;omega);have az:A0A prog 145 [(0,I d.act),(1,I d.item)]=some (.agg [I d.act,I d.item]):=Q2;(have push:∀(N:Mem) (y:EnD) (K:AV->Mem->Prop),Arr 80 28 EnD.row M1.length N v3 x->Grow M1 N->(∀v' M',Arr 80 28 EnD.row M1.length M' v' (x++[y])->Grow M1 M'->K v' M')->A3s (WC gl) false true 51 51 v3 (.list 28 [y.row] .full) N K ⟨⟩:=by intro N y K hN an hK;refine A3u (C:=WC gl) (enc:=EnD.row) (e:=80) (sz:=28) (news:=[y]) C6k D2S D1c EnD.row_len hN.own (by simp[A0D]) (by simp only[Z0q,Z1n];omega) rfl ?_;intro v' M5 x1 x2 x3 _;exact hK v' M5 ⟨x1,hN.later an.1 x3⟩ (hN.grow an x2));simp -dsimp[-A2x,u5,s,m,t,z,a2,w,hj,ai,av,A0j,A0k,A0e,A0o,A0n];rw[<-hd,<-ad,<-hq];simp -dsimp[-A2x,u5,ao,ay];rw[az];simp -dsimp[-A2x,u5,ao,ay];rw[ab];simp -dsimp[-A2x,A0j,A0k,A0e,A0o,A0n,C5Q,ax];rw[<-a8,<-hp];(have ae:∀(N:Mem) (y:EnD),N[q]?=some (.cells 80 y.row)->A0M prog 80 N (.ptr q 0)=some (.agg y.row):=λN y h=>by rw[A0b h];simp[A0y]);(have b2:A0M prog 3 M4 (.ptr q 3)=some (I d.it.h.kind):=by rw[A0b k,EnD.row_all];simp);clear hr ac ab ax;cases r with
   |none=>simp only[D6a]at a4;rw[a4]at u;simp -dsimp[-A2x,g,ae M4 d k,A0w,A1e];refine push M4 d _ a3 a9 ?_;intro v' M5 x1 x2;simp -dsimp[-A2x,u5,s,m,t,z,a2,w,w2];exact⟨⟨j+1,by clear w1 w2;omega,rfl,by(have h:=u;simp only[Z1c,Z3d]at h;rw[h];exact x1),x2⟩,by clear w1 w2;omega⟩
   |some y=>
    simp -dsimp[-A2x,b2];refine A0h func36 (A9b gl d.it.h.kind M4) ?_;cases hm:A1d d.it.h.kind
    ·(have a0:B1e c d=d:=by rw[a4,D6a,Z0d (by simp[EnD.kind,hm])]);rw[a0]at u
     simp -dsimp[-A2x,g,ae M4 d k,A0w,A1e];refine push M4 d _ a3 a9 ?_;intro v' M5 x1 x2;simp -dsimp[-A2x,u5,s,m,t,z,a2,w,w2];exact⟨⟨j+1,by clear w1 w2;omega,rfl,by(have h:=u;simp only[Z1c,Z3d]at h;rw[h];exact x1),x2⟩,by clear w1 w2;omega⟩
    ·(have a0:B1e c d=d.with_ y:=by rw[a4,D6a,Z0c (by simp[EnD.kind,hm])];rfl);rw[a0]at u
     have b4:q<M4.length:=(Z0a.1 k).1;obtain⟨M5,a5⟩:=ex (M4.set q (.cells 80 (d.with_ y).row));have au:=D1J y k;rw[<-a5]at au;(have b8:M5[q]?=some (.cells 80 (d.with_ y).row):=by rw[a5];simp[b4]);(have be:Grow M1 M5:=by rw[a5];exact A0u a9 aq);(have ar:A0M prog 70 M4 (.ptr p 0)=some (.agg y.row):=by rw[A0b bd];simp[A0y,C5m]);have b5:Arr 80 28 EnD.row M1.length M5 v3 x:=⟨a3.own.keep (o:=some q) (by rw[a5];exact A0d.set _ _ _) (λf hf e=>by have:=h3.own.lt hf;simp at e;omega),a3.lat⟩;simp -dsimp[-A2x,g,ar,au,ae M5 _ b8,A0w,A1e];refine push M5 _ _ b5 be ?_;intro v' M6 x1 x2;simp -dsimp[-A2x,u5,s,m,t,z,a2,w,w2];exact⟨⟨j+1,by clear w1 w2;omega,rfl,by(have h:=u;simp only[Z1c,Z3d]at h;rw[h];exact x1),x2⟩,by clear w1 w2;omega⟩
  rintro T Mj ⟨u5,s,m,t,h3,hg⟩;simp -dsimp[-A2x,u5,s,m,t,a6,w1];exact⟨⟨i+1,Q3,rfl,by rw[aw];exact h3,hg⟩,Q3⟩
 rintro T Mi ⟨h3,hg⟩
 refine⟨M1.length,T.put (some 3) (.list 28 (A3Q ((c.flatMap A1F).map (B1e c))) .no),A6v (A6J T) (Still.rows EnD.row_len (λ_ _ _=>trivial) h3.own h3.lat .nil),?_⟩
 have a1:=b9.trans (A4T hg)
 generalize A3i Mi M1.length=M2 at*
 simp -dsimp[-A2x,Env.put_some,a1]
end
abbrev C7i(s:A1z):AV:=.agg s.row
def D2c:B1Y prog 111 3 65 I:=B8L 111 65 Q2
def D2t:A8P prog 65=some (.agg A6f.row):=Q2
def B2t(acts:List A0X)(n:Int):Option A1z:=(acts.find? λa=>decide (a.number=n)).map A0X.start
def C6q(a:List A0X)(n:Int):B1I a n=(B2t a n).getD A6f:=rfl
def C2W(l:List A0X)(a:A0X)(h:a.number∉l.map (·.number))(n:Int):B2t (l++[a]) n=if n=a.number then some a.start else B2t l n:=by
 unfold B2t;rw[List.find?_append];by_cases e:n=a.number
 .rw[Z0c e];have:l.find? (λb=>decide (b.number=n))=none:=by rw[List.find?_eq_none];intro b hb hq;simp only[Z0m]at hq;exact h (Z0H.2 ⟨b,hb,by rw[hq,e]⟩)
  rw[this];simp[e]
 .rw[Z0d e];have:¬a.number=n:=λh=>e h.symm;cases l.find? (λb=>decide (b.number=n))<;>simp[this]
def D4h{M:Mem}{b:Nat}{mm:List (Int×A1z)}(h:A2Y I C7i M b mm)(n:Int):A1S prog 111 M (.mapr b) (I n) false=some (.agg ((A4Y mm n).getD A6f).row):=by have:=h.get D2c n D2t false;rw[this];cases A4Y mm n<;>simp
def C3a(M M1:Mem):Prop:=M.length<=M1.length/\∀(b:Nat) (es:List (AV×AV×Nat)) (c:Nat),M[b]?=some (A0l.map es c)->M1[b]?=some (A0l.map es c)
def C3a.at_{M M1:Mem}(h:C3a M M1){K V:Type}{d:K->AV}{a:V->AV}{b:Nat}{l:List (K×V)}(hm:A2Y d a M b l):A2Y d a M1 b l:=by obtain⟨es,c,h1,h2⟩:=hm;exact⟨es,c,h.2 b es c h1,h2⟩
def A6X(acts:List A0X)(all:List EnD)(l:List EnD):List (EnD×List A0L):=(l.filter λd=>A1d d.kind).map λd=>(d,B2S (B1I acts d.act) d all)
def B9p(a:List A0X)(b l:List EnD)(d:EnD):A6X a b (l++[d])=A6X a b l++(if A1d d.kind=true then[(d,B2S (B1I a d.act) d b)]else[]):=by unfold A6X;rw[Z2U,Z1c];by_cases h:A1d d.kind=true<;>simp[h]
def B5M(s:A1z)(d:EnD)(l:List EnD):A5U (B2S s d l):=by
 unfold B2S;split
 .have:=B4J s d l l.length (Z0j _);rwa[A5u,Z3a]at this
 .exact B4z
def D7j(bm b9:Nat):∀i k,(λk=>if k=1\/k=4\/k=5\/k=6 then 1 else if k=8\/k=9 then 2 else 0) i=1->(λ_ k=>k==9) i k=false->(λk=>if k=5 then bm else b9) i∈(λk=>if k=9 then[]else[bm,b9]) k:=by intro i k h1 h2;simp only[Z1P,ne_eq]at h2;simp only[Z0d h2];split<;>simp
section
variable (gl:Nat->AV)
set_option maxHeartbeats 2000000 in
def B7B(N:Nat)(hN:N<=1000000)(fid:FuncId)(cap:List AV)(J:Mem->List (EnD×List A0L)->Prop)(hJ:∀M M' p,J M p->Grow M M'->J M' p)
 (hy:∀M p d days v,p.length<=N->J M p->SpN v days->A5U days->∃r M1,A3E (WC gl) fid (.agg d.row::v::cap) M (λv M'=>v=r/\M'=M1)/\J M1 (p++[(d,days)])/\C3a M M1)
 (l:List A1G)(M:Mem)(h1:l.length<=100)(h2:(l.flatMap A1G.acts).length<=1000)(h3:((A4j l).flatMap A0X.items).length<=N)(h0:J M []):
 A0c (WC gl) 33 [.list 4 (A2G l) .no,.func (.func fid) [] cap] M (λ_ M'=>J M' (A2O l)):=by
 have a5:=λM=>D5e gl l M h1 h2
 have al:(A4j l).length<=1000:=by have:=(A6K (A3D (l.flatMap A1G.acts))).length_eq;have:=B2m (l.flatMap A1G.acts);simp only[A4j];omega
 have aj:((A4j l).map (·.number)).Nodup:=((A6K _).map _).nodup_iff.2 (B3v _)
 have ai:=λM=>D2p gl l M a5 Q0 (Z0L h3 hN)
 have am:(A3V l).length<=N:=by
  have e:∀L:List A0X,(L.flatMap A1F).length=(L.flatMap A0X.items).length:=λL=>by
   induction L with
   |nil=>rfl
   |cons a L ih=>simp only[Z0z,Z0k,ih,A7E]
  simp only[A3V,Z0N,e];exact h3
 have ag:A2O l=A6X (A4j l) (A3V l) (A3V l):=rfl
 rw[ag]
 generalize A4j l=b at*
 generalize A3V l=c at*
 refine A0t hB func33 ?_
 simp -dsimp
 refine A0h func56 (a5 _) ?_
 simp -dsimp
 refine A7f (.exit 0) (λT Mi=>T 0=.list 4 (A2G l) .no/\T 1=.func (.func fid) [] cap/\T 4=.mapr M.length/\∃mm,A2Y I C7i Mi M.length mm/\(∀n,A4Y mm n=B2t b n)/\J Mi []) ?_ ?_
 .refine A1E hB b.length 14 (λT Mi=>∃i:Nat,i<=b.length/\T 0=.list 4 (A2G l) .no/\T 1=.func (.func fid) [] cap/\T 4=.mapr M.length/\T 12=.list 7 (A5p b) .no/\T 13=I b.length/\T 14=I i/\∃mm,A2Y I C7i Mi M.length mm/\(∀n,A4Y mm n=B2t (b.take i) n)/\Grow M Mi) ?_ ?_
  .exact⟨0,Q0,Q1,Q1,Q1,Q1,Q1,Q1,[],A2Y.new M,by simp[A4Y,B2t],A0d.app none _ _⟩
  rintro T Mi ⟨i,i1,t0,t1,t4,z,y,a2,mm,hm,o,hg⟩;by_cases hi:i<b.length;case neg=>have f:¬(i:Int)<b.length:=Q0;rw[Z0e Q0]at o;simp -dsimp[t0,t1,t4,z,y,a2,f];exact⟨mm,hm,o,hJ _ _ _ h0 hg⟩
  have f:(i:Int)<b.length:=Q0;have w1:=A6s (i:=i) Q0;obtain⟨a,ha⟩:=ex (b[i]);have a3:=B8F hi;rw[<-ha]at a3;have x:b.take (i+1)=b.take i++[a]:=by rw[Z0A,Z0i hi,Z0X,<-ha]
  have ah:a.number∉(b.take i).map (·.number):=by have hx:(b.take (i+1)).map (·.number)<+:b.map (·.number):=(List.take_prefix _ _).map _;have:=aj.sublist hx.sublist;rw[x,Z1c,Z2y]at this;intro hc;exact this.2.2 _ hc a.number Q1 rfl
  obtain⟨q,hq⟩:=ex (Mi.length);obtain⟨M3,g⟩:=ex (Mi++[A0l.cells 72 a.row]);have j:M3[q]?=some (.cells 72 a.row):=by rw[g,hq];simp
  have s:Grow Mi M3:=by rw[g];exact A0d.app none _ _
  have ak:A0M prog 3 M3 (.ptr q 0)=some (I a.number):=by rw[A0b j,A0X.row];simp
  have aa:A0M prog 65 M3 (.ptr q 3)=some (.agg a.start.row):=by rw[A0b j,A0X.row];simp[A0y,A1z.row]
  obtain⟨M4,hp,ad,a8⟩:=(hm.keep s Q1).put D2c a.number a.start;have ac:A1V prog 111 M3 (.mapr M.length) (I a.number) (.agg a.start.row)=some M4:=hp;simp -dsimp[-A2x,t0,t1,t4,z,y,a2,hi,f,a3,A0j,A0k,A0e,A0o,A0n];rw[<-ha,<-g,<-hq];simp -dsimp[ak,aa,t4];rw[ac];simp -dsimp[t0,t1,t4,z,y,a2,w1];have t:=hg.trans s;exact⟨⟨i+1,Q3,rfl,_,ad,λn=>by rw[B4E,o,x,C2W _ _ ah],⟨Z0L t.1 a8.1,λi hi _=>(a8.2 i (Z0Z hi t.1) (by simp;omega)).trans (t.2 i hi Q1)⟩⟩,Q3⟩
 rintro T M1 ⟨t0,t1,t4,mm,hm,o,hj⟩
 simp -dsimp[t0,t1,t4]
 refine A0h func57 (ai M1) ?_
 simp -dsimp
 refine A1E hB c.length 28 (λT Mi=>∃i:Nat,i<=c.length/\T 1=.func (.func fid) [] cap/\T 4=.mapr M.length/\T 7=.list 28 (A3Q c) .no/\T 26=.list 28 (A3Q c) .no/\T 27=I c.length/\T 28=I i/\A2Y I C7i Mi M.length mm/\J Mi (A6X b c (c.take i))) ?_ ?_
 .exact⟨0,Q0,by simp[t1],by simp[t4],Q1,Q1,Q1,Q1,hm,by simpa[A6X]using hj⟩
 clear t0 t1 t4 hm hj
 rintro T Mi ⟨i,i1,t1,t4,t7,u,w,t28,hm,hj⟩
 by_cases hi:i<c.length
 case neg=>have f:¬(i:Int)<c.length:=Q0;rw[Z0e Q0]at hj;simp -dsimp[t1,t4,t7,u,w,t28,f,hj]
 have f:(i:Int)<c.length:=Q0
 have w1:=A6s (i:=i) Q0
 obtain⟨d,hd⟩:=ex (c[i])
 have a7:=A8h hi
 rw[<-hd]at a7
 have x:c.take (i+1)=c.take i++[d]:=by rw[Z0A,Z0i hi,Z0X,<-hd]
 have m:=B9p b c (c.take i) d
 rw[<-x]at m
 obtain⟨q,hq⟩:=ex (Mi.length)
 obtain⟨M3,g⟩:=ex (Mi++[A0l.cells 80 d.row])
 have j:M3[q]?=some (.cells 80 d.row):=by rw[g,hq];simp
 have s:Grow Mi M3:=by rw[g];exact A0d.app none _ _
 have ae:A0M prog 3 M3 (.ptr q 3)=some (I d.it.h.kind):=by rw[A0b j,EnD.row_all];simp
 have a4:A0M prog 3 M3 (.ptr q 0)=some (I d.act):=by rw[A0b j,EnD.row_all];simp
 have a6:A0M prog 80 M3 (.ptr q 0)=some (.agg d.row):=by rw[A0b j];simp[A0y]
 have a1:=hm.keep s Q1
 have a9:=hJ _ _ _ hj s
 have a0:=D4h a1 d.act
 rw[o,<-C6q]at a0
 simp -dsimp[-A2x,t1,t4,t7,u,w,t28,hi,f,a7,A0j,A0k,A0e,A0o,A0n]
 rw[<-hd,<-g,<-hq]
 simp -dsimp[ae]
 refine A0h func36 (A9b gl d.it.h.kind M3) ?_
 cases hk:A1d d.it.h.kind
 .rw[Z0d (by simp[EnD.kind,hk]),Z1g]at m;simp -dsimp[t1,t4,t7,u,w,t28,w1];exact⟨⟨i+1,Q3,rfl,a1,by rw[m];exact a9⟩,Q3⟩
 rw[Z0c (by simp[EnD.kind,hk])]at m
 simp -dsimp
 have ab:(A6X b c (c.take i)).length<=N:=by have:=Z1s (λd=>A1d d.kind) (c.take i);rw[Z0s]at this;simp only[A6X,Z0N];clear w1;omega
 obtain⟨r,M5,y1,y2,y3⟩:=hy M3 _ d _ _ ab a9 (B9I (B1I b d.act) d c) (B5M _ _ _)
 have af:=C6B gl (B1I b d.act) d c .no M3 Q0
 refine A6S hB (A0E gl) (λk=>if k=1\/k=4\/k=5\/k=6 then 1 else if k=8\/k=9 then 2 else 0) (λk=>if k=5 then M.length else q) (λ_ k=>k==9) (λk=>if k=9 then[]else[M.length,q]) (D7j M.length q) (by rfl) Q2 ?_
 simp -dsimp[t1,t4,t7,A1g,a4,a6,a0]
 refine A5x (A0m func58 rfl rfl af) ?_
 simp -dsimp[t1,t4,t7,A1g,a4,a6,a0]
 refine A5x y1 ?_
 simp -dsimp[t1,t4,t7,u,w,t28,w1]
 exact⟨⟨i+1,Q3,rfl,y3.at_ a1,by rw[m];exact y2⟩,Q3⟩
end
def B7A{C:Ctx}{own vec:Bool}{st xt:TypeId}{s x:AV}{M:Mem}{K:AV->Mem->Prop}{tg:Tag K}(h:A3s C own vec st xt s x M K tg):∃v M',K v M'/\∀(K':AV->Mem->Prop) (b:Tag K'),K' v M'->A3s C own vec st xt s x M K' b:=by
 obtain⟨e,sz,bytes,a,h⟩:=h;cases ha:A6n own vec e sz bytes s x M with
 |none=>rw[ha]at h;exact h.elim
 |some r=>rw[ha]at h;exact⟨r.1,r.2,h,λK' _ hk=>⟨e,sz,bytes,a,by rw[ha];exact hk⟩⟩
def onB(day:Int)(purpose:ByteArray)(x:EnD×List A0L):Bool:=C1C purpose x.1&&B0t (A4a x.2) day
def OnJ(M0:Mem)(day:Int)(purpose:ByteArray)(M:Mem)(p:List (EnD×List A0L)):Prop:=∃v,M[M0.length]?=some (.cells 51 [v])/\A1p 80 28 EnD.row M v ((p.filter (onB day purpose)).map (·.1))/\(∀f,obj v=some f->M0.length<f)/\Grow M0 M
def OnJ.keep{M0:Mem}{day:Int}{purpose:ByteArray}{M M':Mem}{p:List (EnD×List A0L)}(h:OnJ M0 day purpose M p)(hg:Grow M M'):OnJ M0 day purpose M' p:=by obtain⟨v,h1,h2,h3,h4⟩:=h;exact⟨v,hg.get h1 Q1,h2.keep hg Q1,h3,h4.trans hg⟩
section
variable (gl:Nat->AV)
def C1b{va:AV}{l:List A0L}(a:SpV va l)(d:Int)(M:Mem)(ha:Asc l)(hl:l.length<=10000000):A0c (WC gl) 35 [va,I d] M (λv M'=>v=B (B0t (A4a l) d)/\M'=M):=by have hn:=A4N (A8n ha);refine A0t hB func35 ?_;simp -dsimp;refine A0h func60 (B1p gl a M ha hl) ?_;simp -dsimp;refine A0h func59 (C5I gl (A4a l) .no d M Q0) ?_;simp -dsimp
set_option maxHeartbeats 1000000 in
def D5F(M0:Mem)(day:Int)(purpose:ByteArray)(M:Mem)(p:List (EnD×List A0L))(d:EnD)(j:List A0L)(w:AV)(hp:p.length<=1000000)(hj:OnJ M0 day purpose M p)(hw:SpN w j)(hn:A5U j):∃r M1,A3E (WC gl) 34 [.agg d.row,w,.cptr [S purpose],.cptr [I day],.ptr M0.length 0] M (λv M'=>v=r/\M'=M1)/\OnJ M0 day purpose M1 (p++[(d,j)])/\C3a M M1:=by
 have l:∀M,A0c (WC gl) 35 [w,I day] M (λv M'=>v=B (B0t (A4a j) day)/\M'=M):=λM=>C1b gl hw.toV day M hn.asc' (by have:=A4N hn;omega)
 obtain⟨v,h1,h2,h3,h4⟩:=hj
 have s:((p++[(d,j)]).filter (onB day purpose)).map (·.1)=(p.filter (onB day purpose)).map (·.1)++(if onB day purpose (d,j)=true then[d]else[]):=by rw[Z2U,Z1c];by_cases h:onB day purpose (d,j)=true<;>simp[h]
 have a5:=Z1s (onB day purpose) p
 by_cases hb:onB day purpose (d,j)=true
 case neg=>
  rw[Z0d hb,Z1g]at s;refine⟨.tuple [],M,A0m func34 rfl rfl ?_,⟨v,h1,by rw[s];exact h2,h3,h4⟩,Z0j _,λ_ _ _ h=>h⟩;refine A0t (hQ [26]) func34 ?_;rw[EnD.row_all];by_cases hf:C1C purpose d=true;case neg=>have k:¬d.it.h.for_=⟨#[]⟩:=λe=>hf (by simp[C1C,e]);have m:¬d.it.h.for_=purpose:=λe=>hf (by simp[C1C,e]);simp -dsimp[k,m]
  have hd:B0t (A4a j) day=false:=by simp only[onB,hf,Z0V]at hb;simpa using hb
  rw[hd]at l;by_cases k:d.it.h.for_=⟨#[]⟩
  .simp -dsimp[k];refine A0h func35 (l M) ?_;simp -dsimp
  ·(have m:d.it.h.for_=purpose:=by simpa[C1C,k]using hf);have t:¬purpose=⟨#[]⟩:=m▸k
   simp -dsimp[m,t];refine A0h func35 (l M) ?_;simp -dsimp
 rw[Z0c hb]at s
 obtain⟨hf,hd⟩:C1C purpose d=true/\B0t (A4a j) day=true:=by simpa[onB]using hb
 rw[hd]at l
 have a4:M0.length<M.length:=(Z0a.1 h1).1
 have a2:obj v≠some M0.length:=λe=>by have:=h3 _ e;omega
 have u:∀(K:AV->Mem->Prop) (tg:Tag K),(∀v' M',A1p 80 28 EnD.row M' v' ((p.filter (onB day purpose)).map (·.1)++[d])->A0d (obj v) M M'->(obj v'=obj v\/A1K M.length v')->K v' M')->A3s (WC gl) false true 51 51 v (.list 28 [d.row] .full) M K tg:=by intro K tg hK;refine A3u (C:=WC gl) (enc:=EnD.row) (e:=80) (sz:=28) (news:=[d]) C6k D2S D1c EnD.row_len h2 (by simp[A0D]) (by simp only[Z0q,Z1n,Z0N];omega) rfl ?_;intro v' M' x1 x2 x3 _;exact hK v' M' x1 x2 x3
 obtain⟨v',M',⟨x1,x2,x3⟩,n⟩:=B7A (u (λv' M'=>A1p 80 28 EnD.row M' v' ((p.filter (onB day purpose)).map (·.1)++[d])/\A0d (obj v) M M'/\(obj v'=obj v\/A1K M.length v')) ⟨⟩ (λv' M' a b c=>⟨a,b,c⟩))
 have z:M'[M0.length]?=some (.cells 51 [v]):=x2.get h1 a2
 have x:M0.length<M'.length:=(Z0a.1 z).1
 have hs:A0k (some 1) M' (.ptr M0.length 0) v'=some (M'.set M0.length (.cells 51 [v'])):=by rw[A0f z,x1.store,x1.cells];simp[A0e]
 have y:∀f,obj v'=some f->M0.length<f:=λf hf=>by
  rcases x3 with x3|x3
  .exact h3 f (x3▸hf)
  .have:=x3 f hf;omega
 refine⟨.tuple [],M'.set M0.length (.cells 51 [v']),A0m func34 rfl rfl ?_,⟨v',by simp[x],?_,y,?_⟩,?_⟩
 .refine A0t (hQ [26]) func34 ?_;have q:=EnD.row_all d;by_cases k:d.it.h.for_=⟨#[]⟩
  .rw[q];simp -dsimp[k];refine A0h func35 (l M) ?_;simp -dsimp[A0b h1,A0w,A1e];rw[q,k]at n;refine n _ _ ?_;simp -dsimp[hs]
  ·(have m:d.it.h.for_=purpose:=by simpa[C1C,k]using hf);have t:¬purpose=⟨#[]⟩:=m▸k
   rw[q];simp -dsimp[m,t];refine A0h func35 (l M) ?_;simp -dsimp[A0b h1,A0w,A1e];rw[q,m]at n;refine n _ _ ?_;simp -dsimp[hs]
 .rw[s];exact x1.keep (o:=some M0.length) (A0d.set _ _ _) (λf hf e=>by have:=y f hf;simp at e;omega)
 .refine A0u ⟨Z0L h4.1 x2.1,λi hi _=>?_⟩ (Z0j _);rw[x2.2 i (Z0Z hi h4.1) (λe=>by have:=h3 _ e;omega)];exact h4.2 i hi Q1
 .refine⟨by simpa using x2.1,λb es c hm=>?_⟩;have a0:b≠M0.length:=λe=>by subst e;rw[h1]at hm;simp at hm
  rw[Z0f (λe=>a0 e.symm)];refine x2.get hm (λe=>?_);rcases h2 with⟨rfl,_⟩|⟨f',g,a3,rfl,a1,_⟩
  .simp at e
  .simp at e;subst e;rw[a1]at hm;simp at hm
def D6B(day:Int)(purpose:ByteArray)(l:List A1G)(M:Mem)(h1:l.length<=100)(h2:(l.flatMap A1G.acts).length<=1000)(h3:((A4j l).flatMap A0X.items).length<=1000000):A0c (WC gl) 23 [I day,S purpose,.list 4 (A2G l) .no] M (λv M'=>v=.list 28 (A3Q (onD day purpose l)) .no/\M'=M):=by
 have key:A0c (WC gl) 23 [I day,S purpose,.list 4 (A2G l) .no] M (λv M'=>∃L,A1p 80 28 EnD.row M' v L/\Grow M M'/\A1K M.length v/\L=onD day purpose l):=by
  obtain⟨M1,a⟩:=ex (M++[A0l.cells 51 [.val (.slice none 0 0)]]);have c:M1[M.length]?=some (.cells 51 [.val (.slice none 0 0)]):=by rw[a];simp
  have b:Grow M M1:=by rw[a];exact A0d.app none _ _
  have hj:OnJ M day purpose M1 []:=⟨_,c,A1p.nil,Q1,b⟩;have hc:=B7B gl 1000000 (Z0j _) 34 [.cptr [S purpose],.cptr [I day],.ptr M.length 0] (OnJ M day purpose) (λ_ _ _ h hg=>h.keep hg) (λM1 p d days v hp hj hv hn=>D5F gl M day purpose M1 p d days v hp hj hv hn) l M1 h1 h2 h3 hj;refine A0t (hQ []) func23 ?_;simp -dsimp[A0j];rw[<-a];refine A0v (A0m func33 rfl rfl hc) ?_;rintro _ M2 ⟨v,k1,k2,k3,k4⟩;simp -dsimp[A0b k1];exact⟨_,k2,k4,λf hf=>by have:=k3 f hf;omega,rfl⟩
 refine(A0c.stillE (e:=80) (sz:=28) (enc:=EnD.row) (P:=λE=>E=onD day purpose l) EnD.row_len (λn x=>D1F n x) key).mono ?_
 rintro v M' ⟨E,rfl,h,rfl⟩
 exact⟨rfl,h⟩
end
def C3Q(a:A0X):Prop:=a.items.length<=40/\∀x∈a.items,B1O x.h/\∀y∈x.by_,B1O y.h
def A7U:List A0X->Nat
 |[]=>0
 |a::l=>1+a.items.length+A7U l
def C2P:∀a b:List A0X,A7U (a++b)=A7U a+A7U b
 |[],b=>by simp[A7U]
 |x::a,b=>by rw[Z0O,A7U,A7U,C2P a b];omega
def D1n(l:List A1G):Prop:=l.length<=8/\A7U (l.flatMap A1G.acts)<=60/\∀g∈l,∀a∈g.acts,C3Q a
def C5i{p:Prop}(h:p):isP p (.val (.bool true)):=⟨true,rfl,λ_=>h⟩
section
variable (gl:Nat->AV)
set_option maxHeartbeats 4000000 in
def D3g(a:A0X)(M:Mem)(hg:a.good):A0c (WC gl) 22 [.agg a.row] M (λv M'=>isP (C3Q a) v/\M'=M):=by
 obtain⟨_,_,_,_,f,l⟩:=hg;have m:a.items.length<=9223372036854775807:=by simpa[maxLen]using f
 refine A1c hB func22 rfl rfl rfl rfl rfl rfl ?_;obtain⟨P,hP⟩:=ex (C3Q a);have d:C3Q a->P:=λe=>by rw[hP];exact e
 rw[<-hP];by_cases c1:(40:Int)<a.items.length
 .have d1:(a.items.length:Int)>40:=c1;simp -dsimp[A0X.row,c1,d1,A1x]
 have d1:¬(a.items.length:Int)>40:=c1;by_cases c2:(300:Int)<a.title.size
 .have d2:(a.title.size:Int)>300:=c2;simp -dsimp[A0X.row,c1,d1,c2,d2,A1x]
 have d2:¬(a.title.size:Int)>300:=c2;by_cases c3:(100:Int)<a.start.ev.size
 .have d3:(a.start.ev.size:Int)>100:=c3;simp -dsimp[A0X.row,c1,d1,c2,d2,c3,d3,A1x]
 have d3:¬(a.start.ev.size:Int)>100:=c3;simp -dsimp[A0X.row,c1,d1,c2,d2,c3,d3];refine A0K hB (λT M1=>∃i:Nat,i<=a.items.length/\T 1=.cptr [I a.number,S a.title,I a.day,I a.start.k,I a.start.day,S a.start.ev,.list 25 (A1r a.items) .no]/\T 3=I i/\M1=M/\∀k,(h:k<a.items.length)->k<i->B1O a.items[k].h/\∀y∈a.items[k].by_,B1O y.h) (λT _=>match T 3 with|.val (.int _ i)=>a.items.length-i.toNat|_=>0) Q2 ?_ ?_
 .exact⟨0,Q0,Q1,Q1,rfl,Q0⟩
 rintro T M ⟨j,n,t1,t3,rfl,hb⟩;by_cases hj:j<a.items.length;case neg=>have c:¬(j:Int)<a.items.length:=Q0;simp -dsimp[t1,t3,c];refine C5i (d ⟨Q0,λy hy=>?_⟩);obtain⟨k,hk,rfl⟩:=Z2s.1 hy;exact hb k hk Q0
 have c:(j:Int)<a.items.length:=Q0;have w1:=A1Y (i:=j) Q0;have ih:=C2y gl a.items[j] M (l _ (Z0u hj));simp -dsimp[t1,t3,hj,c];refine A0v (A0m func32 rfl rfl ih) ?_;rintro _ M ⟨⟨b,rfl,g⟩,rfl⟩;cases b with
 |false=>simp -dsimp[A1x]
 |true=>
  simp -dsimp[t1,t3,w1];refine⟨⟨j+1,Q3,rfl,λk hk hlt=>?_⟩,Q3⟩;by_cases e:k=j
  .subst e;exact g rfl
  .exact hb k hk Q3
set_option maxHeartbeats 4000000 in
def D2K(l:List A1G)(M:Mem)(hl:l.length<=maxLen)(hg:∀g∈l,g.good):A0c (WC gl) 12 [.list 4 (A2G l) .no] M (λv M'=>isP (D1n l) v/\M'=M):=by
 have a0:l.length<=9223372036854775807:=by simpa[maxLen]using hl
 obtain⟨P,hP⟩:=ex (D1n l);have p:D1n l->P:=λe=>by rw[hP];exact e
 rw[<-hP];refine A1c hB func12 rfl rfl rfl rfl rfl rfl ?_;simp -dsimp;refine A0K hB (λT M1=>∃(i:Nat) (z:Int),i<=l.length/\T 0=.list 4 (A2G l) .no/\T 3=I z/\T 4=I i/\M1=M/\(i<=8->z=A7U ((l.take i).flatMap A1G.acts)/\z<=820*i)/\∀k,(h:k<l.length)->k<i->∀a∈l[k].acts,C3Q a) (λT _=>match T 4 with|.val (.int _ i)=>l.length-i.toNat|_=>0) Q2 ?_ ?_
 .exact⟨0,0,Q0,Q1,Q1,Q1,rfl,λ_=>⟨by simp[A7U],Q0⟩,Q0⟩
 rintro T M ⟨i,z,u,t0,t3,t4,rfl,hz,hb⟩;by_cases hi:i<l.length;case neg=>
  have c:¬(i:Int)<l.length:=Q0;by_cases c1:z<=60
  .by_cases c2:(l.length:Int)<=8
   .simp -dsimp[t0,t3,t4,c,c1,c2];have t:=(hz Q0).1;rw[Z0e Q0]at t;refine C5i (p ⟨Q0,Q0,λy hy=>?_⟩);obtain⟨k,hk,rfl⟩:=Z2s.1 hy;exact hb k hk Q0
   .simp -dsimp[t0,t3,t4,c,c1,c2,A1x]
  .simp -dsimp[t0,t3,t4,c,c1,A1x]
 have c:(i:Int)<l.length:=Q0;have w1:IntKind.i64.wrap ((i:Int)+1)=((i+1:Nat):Int):=by rw[A0R Q0 Q0];omega
 obtain⟨x,hx⟩:=ex (l[i]);have r:x.good:=by rw[hx];exact hg _ (Z0u hi)
 obtain⟨_,_,_,a1,q⟩:=r;by_cases c1:(100:Int)<x.prior.size
 .have d1:(x.prior.size:Int)>100:=c1;simp -dsimp[t0,t3,t4,hi,c,<-hx,A1G.row,c1,d1,A1x]
 have d1:¬(x.prior.size:Int)>100:=c1;by_cases c2:(20:Int)<x.acts.length
 .have d2:(x.acts.length:Int)>20:=c2;simp -dsimp[t0,t3,t4,hi,c,<-hx,A1G.row,c1,d1,c2,d2,A1x]
 have d2:¬(x.acts.length:Int)>20:=c2;simp -dsimp[t0,t3,t4,hi,c,<-hx,A1G.row,c1,d1,c2,d2];refine A0K hB (λT M1=>∃(j:Nat) (z:Int),j<=x.acts.length/\T 0=.list 4 (A2G l) .no/\T 3=I z/\T 4=I i/\T 5=I j/\M1=M/\(i<8->z=A7U ((l.take i).flatMap A1G.acts++x.acts.take j)/\z<=820*i+41*j)/\∀k,(h:k<x.acts.length)->k<j->C3Q x.acts[k]) (λT _=>match T 5 with|.val (.int _ i)=>x.acts.length-i.toNat|_=>0) Q2 ?_ ?_
 .exact⟨0,z,Q0,by simp[t0],by simp[t3],by simp[t4],Q1,rfl,λh=>by simpa using hz Q3,Q3⟩
 rintro T2 M ⟨j,y,w,u0,u3,u4,u5,rfl,hy,o⟩;by_cases hj:j<x.acts.length;case neg=>
  have d:¬(j:Int)<x.acts.length:=Q0;simp -dsimp[u0,u3,u4,u5,t4,d,hi,c,<-hx,A1G.row,w1];have f:(l.take (i+1)).flatMap A1G.acts=(l.take i).flatMap A1G.acts++x.acts:=by rw[Z0A,Z0i hi,<-hx];simp
  refine⟨⟨i+1,Q3,rfl,λh=>?_,λk hk hlt=>?_⟩,Q3⟩
  .have:=hy Q3;rw[show x.acts.take j=x.acts from Z0e Q3]at this;rw[f];refine⟨this.1,?_⟩;have:=this.2;clear w1;omega
  by_cases e:k=i
  .subst e;rw[<-hx];intro a ha;obtain⟨m,hm,rfl⟩:=Z2s.1 ha;exact o m hm Q3
  .exact hb k hk Q3
 have d:(j:Int)<x.acts.length:=Q0;have w2:IntKind.i64.wrap ((j:Int)+1)=((j+1:Nat):Int):=by rw[A0R Q3 Q3];clear w1;omega
 obtain⟨a,ha⟩:=ex (x.acts[j]);have ih:=D3g gl a M (by rw[ha];exact q _ (Z0u hj));rw[A0X.row]at ih;simp -dsimp[u0,u3,u4,u5,hj,d,hi,c,<-hx,<-ha,A1G.row,A0X.row];refine A0v (A0m func22 rfl rfl ih) ?_;rintro _ M ⟨⟨b,rfl,s⟩,rfl⟩;cases b with
 |false=>simp -dsimp[A1x]
 |true=>
  simp -dsimp[u0,u3,u4,u5,hj,d,hi,c,<-hx,<-ha,A1G.row,A0X.row,w2];have f:x.acts.take (j+1)=x.acts.take j++[a]:=by rw[Z0A,Z0i hj,Z0X,<-ha]
  have n:=s rfl;refine⟨⟨j+1,by clear w1 w2;omega,rfl,λh=>?_,λk hk hlt=>?_⟩,by clear w1 w2;omega⟩
  .obtain⟨y1,y2⟩:=hy (by clear w1 w2;omega);have:=n.1;(have e1:IntKind.i64.wrap (y+1)=y+1:=by clear w1 w2;exact A0R Q0 Q0);(have e2:IntKind.i64.wrap (y+1+a.items.length)=y+1+a.items.length:=by clear w1 w2;exact A0R Q0 Q0);rw[f,<-Z0F,C2P,e1,e2];simp only[A7U];clear w1 w2;omega
  by_cases e:k=j
  .subst e;rw[<-ha];exact n
  .exact o k hk (by clear w1 w2;omega)
def D5x(l:List A1G)(s:ByteArray)(M:Mem)(hl:l.length<=maxLen)(hg:∀g∈l,g.good):A0c (WC gl) 5 [.list 4 (A2G l) .no,S s] M (λv M'=>isP (D1n l) v/\M'=M):=by
 have ih:=D2K gl l M hl hg;refine A1c hB func5 rfl rfl rfl rfl rfl rfl ?_;simp -dsimp;refine A0v (A0m func12 rfl rfl ih) ?_;rintro _ M ⟨⟨b,rfl,a⟩,rfl⟩;cases b with
 |false=>simp -dsimp[A1x]
 |true=>
  by_cases c:(s.size:Int)<=100
  .simp -dsimp[c];exact C5i (a rfl)
  .simp -dsimp[c,A1x]
end
def D2s(u:A0a):(A2a u).length=A0x u:=by rw[<-A3C,<-A5n,Z0N]
section
variable (gl:Nat->AV)
def B3K(u:A0a)(x:IdD)(M:Mem)(hg:u.good)(hc:A0x u<=3000):A0c (WC gl) 15 [.agg u.row,.agg x.row] M (λv M'=>v=B3I (A3O u x)/\M'=M):=by
 have hx:x.row=[I x.act,I x.item,I x.n]:=rfl;have a:=D4x gl u x M hg hc;rw[hx]at a|-;refine A0t hB func15 ?_;simp -dsimp;refine A0h func26 a ?_;cases A3O u x with
 |none=>simp -dsimp
 |some p=>simp -dsimp
def C0c:∀(u:A0a) (M:Mem),u.good->A0x u<=3000->A0c (WC gl) 7 [.agg u.row] M (λv M'=>v=.list 8 (A0q (A2a u)) .no/\M'=M)
 |.mk id kind lab hd ws ks,M,hg,hc=>by
  obtain⟨_,_,a1,_,z,_,a2,t,g⟩:=(A0a.good_iff _).1 hg;have g:∀k∈ks,k.good:=g;have a0:1+A0H ks<=3000:=by rwa[A0x]at hc
  have y:=A2t ks;have d:(A0a.mk id kind lab hd ws ks).row=[I id.act,I id.item,I id.n,I kind,S lab,.list 4 (A0i hd) .no,.list 4 (A0i ws) .no,.list 8 (A0q ks) .no]:=by rw[A0a.row]
  obtain⟨u,hu⟩:=ex (A0a.mk id kind lab hd ws ks);have r:A2a u=u::A3p ks:=by rw[hu,A2a]
  rw[<-hu]at d|-;have key:A0c (WC gl) 7 [.agg u.row] M (λv M'=>∃L,A1p 30 8 A0a.row M' v L/\Grow M M'/\A1K M.length v/\L=A2a u):=by
   rw[r,d];refine A0t (hQ [6,21]) func7 ?_;obtain⟨M1,l⟩:=ex (M++[A0l.vec 30 8 [I id.act,I id.item,I id.n,I kind,S lab,.list 4 (A0i hd) .no,.list 4 (A0i ws) .no,.list 8 (A0q ks) .no] 0 [(0,1)]]);(have hb:A1B prog 28 1 [(0,.agg [I id.act,I id.item,I id.n,I kind,S lab,.list 4 (A0i hd) .no,.list 4 (A0i ws) .no,.list 8 (A0q ks) .no])] M=some (.vref M.length 0 8 0 1,M1):=by rw[l];simp[A1B,A1e,AV.storable,AV.cells]);have ho:A1p 30 8 A0a.row M1 (.vref M.length 0 8 0 1) [u]:=.inr ⟨M.length,0,[(0,1)],rfl,by rw[l];simp[d],by simp[List.lookup]⟩;(have p:Grow M M1:=by rw[l];exact A0d.app none _ _);simp -dsimp[hb];refine A7f (.exit 0) (λT Mi=>Arr 30 8 A0a.row M.length Mi (T 3) (u::A3p ks)/\Grow M Mi) ?_ ?_
   .refine A1E (hQ [6,21]) ks.length 4 (λT Mi=>∃i:Nat,i<=ks.length/\T 1=.cptr [I id.act,I id.item,I id.n,I kind,S lab,.list 4 (A0i hd) .no,.list 4 (A0i ws) .no,.list 8 (A0q ks) .no]/\T 4=I i/\Arr 30 8 A0a.row M.length Mi (T 3) (u::A3p (ks.take i))/\Grow M Mi) ?_ ?_
    .exact⟨0,Q0,Q1,Q1,by simpa[A3p]using⟨ho,λf hf=>by simp at hf;omega⟩,p⟩
    rintro T Mi ⟨i,i1,t1,t4,h3,b⟩;generalize a:T 3=v3 at*;by_cases hi:i<ks.length;(case neg=>have j:¬(i:Int)<ks.length:=Q0;rw[Z0e Q0]at h3;simp -dsimp[t1,t4,j,a];exact⟨h3,b⟩);have j:(i:Int)<ks.length:=Q0;have w1:=A1Y (i:=i) Q0;have c:ks[i]∈ks:=Z0u hi;have w:=A0a.kid_lt (u:=.mk id kind lab hd ws ks) c;have a3:=A3B c;have ih:=C0c ks[i] Mi (g _ c) Q0;(have m:A3p (ks.take (i+1))=A3p (ks.take i)++A2a ks[i]:=by rw[Z0A,Z0i hi,B9i];simp[A3p]);(have o:(A3p (ks.take (i+1))).length<=3000:=by(have h1:A0H ks=A0H (ks.take (i+1))+A0H (ks.drop (i+1)):=by rw[<-A9E,Z1b]);rw[C3h];omega);rw[m,Z0k]at o;simp -dsimp[t1,t4,hi,j,a];refine A0h func7 ih ?_;simp -dsimp[t1,t4,a];refine A3u (C:=WC gl) (enc:=A0a.row) (e:=30) (sz:=8) (news:=A2a ks[i]) A7N B2e B0y A0a.row_len h3.own (by simp only[A0D,A7M,A9s];simp) (by simp only[Z0q];omega) rfl ?_;intro v' M5 u1 u2 u3 _;have q:Arr 30 8 A0a.row M.length M5 v' (u::A3p (ks.take i)++A2a ks[i]):=⟨u1,h3.later b.1 u3⟩;have s:=h3.grow b u2;simp -dsimp[t1,t4,w1];exact⟨⟨i+1,Q3,rfl,by rw[m];exact q,s⟩,Q3⟩
   .rintro T Mi ⟨h3,b⟩;generalize a:T 3=v3 at*;simp -dsimp[a];exact⟨_,h3.own,b,h3.lat,rfl⟩
  refine(A0c.stillE (e:=30) (sz:=8) (enc:=A0a.row) (P:=λE=>E=A2a u) A0a.row_len (λn x=>A1I n x) key).mono ?_;rintro v M' ⟨E,rfl,h,rfl⟩;exact⟨by rw[A2S],h⟩
termination_by u=>SizeOf.sizeOf u
end
def bpL(p:List (EnD×List A0L)):List Int:=0::p.flatMap λq=>A6h q.2
def D0a(l:List A1G):B1A l=A2V (A7b (bpL (A2O l))):=rfl
def C4C(p:List (EnD×List A0L))(d:EnD)(a:List A0L):bpL (p++[(d,a)])=bpL p++A6h a:=by simp[bpL]
def BpJ(M0:Mem)(b:Nat)(M:Mem)(p:List (EnD×List A0L)):Prop:=∃v,M[b]?=some (.cells 82 [v])/\A1p 3 1 A3U M v (bpL p)/\(∀f,obj v=some f->M0.length<=f/\f≠b)/\Grow M0 M/\(bpL p).length<=p.length*1048578+1
def BpJ.keep{M0:Mem}{b:Nat}{M M':Mem}{p:List (EnD×List A0L)}(h:BpJ M0 b M p)(hg:Grow M M'):BpJ M0 b M' p:=by obtain⟨v,h1,h2,h3,h4,h5⟩:=h;exact⟨v,hg.get h1 Q1,h2.keep hg Q1,h3,h4.trans hg,h5⟩
def C6X{l:List A0L}(h:A5U l):(A6h l).length<=1048578:=by have h1:=A4N (A8n h.asc');have h2:=C7h (A4a l);show((A4a l).flatMap B0v).length<=_;omega
def pre_still{M:Mem}{n:Nat}{v:AV}{l:List Int}(h:Pre 3 1 A3U M v l)(hn:A1K n v):Still M n (bdd n) [v] [.list 1 (A4P l) .no]:=by
 rcases h with⟨rfl,rfl⟩|⟨f,g,c,cs,m,rfl,hm,hc,hl,b⟩
 .exact .nilS .nil
 .refine .vec (hn f rfl) hm hl b (by simp[A4P]) (λr hr=>?_) ?_ .nil
  .obtain⟨z,_,rfl⟩:=Z0H.1 hr;rfl
  .rw[hc];(have:(A4P l).flatten=l.flatMap A3U:=by simp[A4P,List.flatMap];rfl);rw[this];clear hc hl b this hn;induction l with
   |nil=>exact .nil
   |cons a l ih=>exact .same trivial ih
section
variable (gl:Nat->AV)
set_option maxHeartbeats 1000000 in
def D4j(M0:Mem)(b:Nat)(M:Mem)(p:List (EnD×List A0L))(d:EnD)(j:List A0L)(w:AV)(z:M0.length<=b)(hp:p.length<=1000)(hj:BpJ M0 b M p)(hw:SpN w j)(hn:A5U j):∃r M1,A3E (WC gl) 39 [.agg d.row,w,.ptr b 0] M (λv M'=>v=r/\M'=M1)/\BpJ M0 b M1 (p++[(d,j)])/\C3a M M1:=by
 have t:∀M,A0c (WC gl) 40 [w] M (λv M'=>v=.list 1 (A4P (A6h j)) .no/\M'=M):=λM=>C9V gl j w hw.toV M hn.asc' (by have:=A4N hn;omega)
 have a2:=C6X hn
 obtain⟨v,h1,h2,h3,h4,h5⟩:=hj
 have a3:b<M.length:=(Z0a.1 h1).1
 have y:obj v≠some b:=λe=>(h3 _ e).2 rfl
 have m:∀(K:AV->Mem->Prop) (tg:Tag K),(∀v' M',A1p 3 1 A3U M' v' (bpL p++A6h j)->A0d (obj v) M M'->(obj v'=obj v\/A1K M.length v')->K v' M')->A3s (WC gl) false true 82 82 v (.list 1 (A4P (A6h j)) .no) M K tg:=by intro K tg hK;refine A3u (C:=WC gl) (enc:=A3U) (e:=3) (sz:=1) (news:=A6h j) B2w C0a C8K (λ_=>rfl) h2 (by simp[A0D,A4P,List.flatMap];rfl) Q0 rfl ?_;intro v' M' x1 x2 x3 _;exact hK v' M' x1 x2 x3
 obtain⟨v',M',⟨x1,x2,x3⟩,s⟩:=B7A (m (λv' M'=>A1p 3 1 A3U M' v' (bpL p++A6h j)/\A0d (obj v) M M'/\(obj v'=obj v\/A1K M.length v')) ⟨⟩ (λv' M' a b c=>⟨a,b,c⟩))
 have l:M'[b]?=some (.cells 82 [v]):=x2.get h1 y
 have a0:M'[b]?=M[b]?:=by rw[l,h1]
 have n:b<M'.length:=(Z0a.1 l).1
 have hs:A0k (some 1) M' (.ptr b 0) v'=some (M'.set b (.cells 82 [v'])):=by rw[A0f l,x1.store,x1.cells];simp[A0e]
 have q:∀f,obj v'=some f->M0.length<=f/\f≠b:=λf hf=>by
  rcases x3 with x3|x3
  .exact h3 f (x3▸hf)
  .have:=x3 f hf;have:=h4.1;omega
 refine⟨.tuple [],M'.set b (.cells 82 [v']),A0m func39 rfl rfl ?_,⟨v',by simp[n],?_,q,?_,?_⟩,?_⟩
 .refine A0t (hQ [8]) func39 ?_;rw[EnD.row_all];simp -dsimp;refine A6S (hQ [8]) (A0E gl) (λk=>if k=0 then 1 else if k=3\/k=4 then 2 else 0) (λ_=>b) (λ_ k=>k==4) (λk=>if k=4 then[]else[b]) (by intro i k _ h;have:k≠4:=(by simpa using h);simp[this]) (by rfl) Q2 ?_;simp -dsimp[A0b h1,A1g,A5S];refine A1J (λM=>A0m func40 rfl rfl (t M)) ?_;simp -dsimp;refine s _ _ ?_;simp -dsimp[hs,a0]
 .rw[C4C];exact x1.keep (o:=some b) (A0d.set _ _ _) (λf hf e=>by have:=q f hf;simp at e;omega)
 .refine A0u ⟨Z0L h4.1 x2.1,λi hi _=>?_⟩ z;rw[x2.2 i (Z0Z hi h4.1) (λe=>by have:=h3 _ e;omega)];exact h4.2 i hi Q1
 .rw[C4C,Z0k,Z0k];simp only[Z0q,Z1n];omega
 .refine⟨by simpa using x2.1,λb' es c hm=>?_⟩;have u:b'≠b:=λe=>by subst e;rw[h1]at hm;simp at hm
  rw[Z0f (λe=>u e.symm)];refine x2.get hm (λe=>?_);rcases h2 with⟨rfl,_⟩|⟨f',g,a1,rfl,x,_⟩
  .simp at e
  .simp at e;subst e;rw[x]at hm;simp at hm
def C8a(l:List A1G)(M:Mem)(h1:l.length<=100)(h2:(l.flatMap A1G.acts).length<=1000)(h3:((A4j l).flatMap A0X.items).length<=90):A0c (WC gl) 29 [.list 4 (A2G l) .no] M (λv M'=>v=.list 1 (A4P (B1A l)) .no/\M'=M):=by
 refine A0c.dataX ?_
 have s:(A3V l).length<=90:=by
  have e:∀L:List A0X,(L.flatMap A1F).length=(L.flatMap A0X.items).length:=λL=>by
   induction L with
   |nil=>rfl
   |cons a L ih=>simp only[Z0z,Z0k,ih,A7E]
  simp only[A3V,Z0N,e];exact h3
 have t:(A2O l).length<=90:=by have:=Z1s (λd:EnD=>A1d d.kind) (A3V l);simp only[A2O,Z0N];omega
 obtain⟨M1,b⟩:=ex (M++[A0l.vec 3 1 [I 0] 0 [(0,1)],A0l.cells 82 [.vref M.length 0 1 0 1]])
 have m:M1[M.length+1]?=some (.cells 82 [.vref M.length 0 1 0 1]):=by rw[b];simp[Z0Y]
 have c:M1[M.length]?=some (A0l.vec 3 1 [I 0] 0 [(0,1)]):=by rw[b];simp
 have j:Grow M M1:=by rw[b];exact A0d.app none _ _
 have hj:BpJ M (M.length+1) M1 []:=⟨_,m,.inr ⟨M.length,0,[(0,1)],rfl,by rw[c];rfl,by simp[List.lookup,bpL]⟩,λf hf=>by simp at hf;omega,j,by simp[bpL]⟩
 have hc:=B7B gl 90 Q0 39 [.ptr (M.length+1) 0] (BpJ M (M.length+1)) (λ_ _ _ h hg=>h.keep hg) (λM1 p d days v hp hj hv hn=>D4j gl M (M.length+1) M1 p d days v Q0 Q0 hj hv hn) l M1 h1 h2 h3 hj
 have g:A1B prog 82 1 [(0,I 0)] M=some (.vref M.length 0 1 0 1,M++[.vec 3 1 [I 0] 0 [(0,1)]]):=by simp[A1B,A1e,AV.storable,AV.cells]
 have n:A0k (some 1) (M++[A0l.vec 3 1 [I 0] 0 [(0,1)],A0l.cells 82 [.val (.slice none 0 0)]]) (.ptr (M.length+1) 0) (.vref M.length 0 1 0 1)=some M1:=by
  have:(M++[A0l.vec 3 1 [I 0] 0 [(0,1)],A0l.cells 82 [.val (.slice none 0 0)]])[M.length+1]?=some (.cells 82 [.val (.slice none 0 0)]):=by simp[Z0Y]
  rw[A0f this,b];simp[AV.storable,AV.cells,A0e]
 refine A0t (hQ [4]) func29 ?_
 simp -dsimp[A0j,g,n]
 refine A0v (A0m func33 rfl rfl hc) ?_
 rintro _ M2 ⟨v,k1,k2,k3,k4,k5⟩
 have k:obj v≠some (M.length+1):=λe=>(k3 _ e).2 rfl
 simp -dsimp[A0b k1]
 refine A0v (A0m func41 rfl rfl (C3W gl _ v M2 k2 Q0)) ?_
 rintro _ M3 ⟨o3,b3⟩
 have o:=b3.get k1 k
 have q:=(A3h (bpL (A2O l))).length_eq
 simp -dsimp[A0b o]
 refine A0v (A0m func42 rfl rfl (C2n gl _ v M3 o3 Q0)) ?_
 rintro r M4 ⟨p4,b4,o4⟩
 simp -dsimp
 have gr:∀{A B:Mem},Grow M A->A0d (obj v) A B->Grow M B:=λ{A B} h1 h2=>⟨Z0L h1.1 h2.1,λi hi _=>by rw[h2.2 i (Z0Z hi h1.1) (λe=>by have:=(k3 _ e).1;omega)];exact h1.2 i hi Q1⟩
 exact⟨gr (gr k4 b3) b4,pre_still p4 (λf hf=>(k3 f (o4 f hf)).1)⟩
end
def hAl:A2j:=⟨λd=>d !=2,λ_=>false,λd=>d==38⟩
@[simp] def E1N:hAl.imm=λd=>d !=2:=(rfl)
@[simp] def E1x:hAl.own=λ_=>false:=(rfl)
@[simp] def E3e:hAl.vec=λd=>d==38:=(rfl)
structure B1Q where
 act:Int
 item:Int
 why:Int
def B1Q.row(r:B1Q):List AV:=[I r.act,I r.item,I r.why]
def B5T(l:List B1Q):List (List AV):=l.map B1Q.row
def B0H(ap:A0a->EnD->A0a×Int)(s:A0a×List B1Q)(d:EnD):A0a×List B1Q:=if A1d d.kind=true then((ap s.1 d).1,if(ap s.1 d).2=0 then s.2 else s.2++[⟨d.act,d.item,(ap s.1 d).2⟩])else s
def A3J(ap:A0a->EnD->A0a×Int)(u:A0a)(ds:List EnD):A0a×List B1Q:=ds.foldl (B0H ap) (u,[])
def A4v:A0a:=.mk ⟨0,0,0⟩ 0 ⟨#[]⟩ [] [] []
section
variable (gl:Nat->AV)
set_option maxHeartbeats 1000000 in
def C4m(ap:A0a->EnD->A0a×Int)(P:A0a->Prop)(u:A0a)(ds:List EnD)(M:Mem)
 (au:∀u,P u->∀d∈ds,A1d d.kind=true->(∀M,A0c (WC gl) 37 [.agg u.row,.agg d.row] M (λv M'=>v=.tuple [.agg (ap u d).1.row,I (ap u d).2]/\M'=M))/\P (ap u d).1)
 (hu:P u)(hl:ds.length<=1000000):
 A0c (WC gl) 24 [.agg u.row,.list 28 (A3Q ds) .no] M (λv M'=>v=.tuple [.agg (A3J ap u ds).1.row,.list 3 (B5T (A3J ap u ds).2) .no]/\M'=M):=by
 refine A2e (λn=>?_) ?_
 .simp only[bdd,A1l,Z1z];refine⟨A1I n _,?_⟩;generalize(A3J ap u ds).2=L;induction L with
  |nil=>simp[B5T,A4f]
  |cons w l ih=>simp only[B5T,Z0w,A4f]at ih|-;exact⟨by simp[B1Q.row,A1l,bdd],ih⟩
 refine A0t hAl func24 ?_
 simp -dsimp[A0j]
 obtain⟨z,hz⟩:=ex ([AV.val (Value.int IntKind.i64 0),AV.val (Value.int IntKind.i64 0),AV.val (Value.int IntKind.i64 0),AV.val (Value.int IntKind.i64 0),AV.val (Value.string {data:=#[]}),AV.val (Value.slice none 0 0),AV.val (Value.slice none 0 0),AV.val (Value.slice none 0 0)]:List AV)
 have aw:z.length=8:=by rw[hz];rfl
 rw[<-hz]
 obtain⟨N,hN⟩:=ex (M++[A0l.cells 30 u.row,A0l.cells 30 z])
 have bl:N.length=M.length+2:=by rw[hN];simp
 have b9:N[M.length]?=some (.cells 30 u.row):=by rw[hN];simp
 have bg:N[M.length+1]?=some (.cells 30 z):=by rw[hN];simp
 have b7:Grow M N:=by rw[hN];exact A0d.app none _ _
 rw[<-hN]
 obtain⟨S,hS⟩:∃S:Nat->A0a×List B1Q,S=λi=>(ds.take i).foldl (B0H ap) (u,[]):=⟨_,rfl⟩
 have az:∀i (hi:i<ds.length),S (i+1)=B0H ap (S i) ds[i]:=λi hi=>by rw[hS];simp only[Z0A,Z0i hi,Z0X,Z1S,Z2t,List.foldl_nil]
 have bc:∀i,i<=ds.length->(S i).2.length<=i:=λi=>by
  induction i with
  |zero=>intro _;rw[hS];simp
  |succ i ih=>
   intro h;have:=ih Q0;rw[az i Q0,B0H];split
   .simp only;split
    .omega
    .simp only[Z0k,Z0q,Z1n];omega
   .omega
 have an:S 0=(u,[]):=by rw[hS];rfl
 have bb:A3J ap u ds=S ds.length:=by rw[hS,A3J];simp
 rw[bb]
 refine B2C (.exit 0) (λT Mi=>T 2=.ptr M.length 0/\T 4=.ptr (M.length+1) 0/\Arr 99 3 B1Q.row N.length Mi (T 6) (S ds.length).2/\Mi[M.length]?=some (.cells 30 (S ds.length).1.row)/\Mi[M.length+1]?=some (.cells 30 z)/\Grow M Mi/\N.length<=Mi.length) ?_ ?_
 .refine A1E hAl ds.length 13 (λT Mi=>∃i:Nat,i<=ds.length/\T 2=.ptr M.length 0/\T 4=.ptr (M.length+1) 0/\T 11=.list 28 (A3Q ds) .no/\T 12=I ds.length/\T 13=I i/\Arr 99 3 B1Q.row N.length Mi (T 6) (S i).2/\Mi[M.length]?=some (.cells 30 (S i).1.row)/\Mi[M.length+1]?=some (.cells 30 z)/\Grow M Mi/\N.length<=Mi.length/\P (S i).1) ?_ ?_
  .exact⟨0,Q0,Q1,Q1,Q1,Q1,Q1,by rw[an];simpa using Arr.nil,by rw[an];exact b9,bg,b7,Z0j _,by rw[an];exact hu⟩
  rintro T Mi ⟨i,i1,t2,t4,a1,t,s,h6,hb,a3,hg,ab,hP⟩;generalize a8:T 6=v6 at*;by_cases hi:i<ds.length;case neg=>have ai:¬(i:Int)<ds.length:=Q0;obtain rfl:i=ds.length:=Q0;simp -dsimp[t2,t4,a1,t,s,ai,a8];exact⟨h6,hb,a3,hg,ab⟩
  have ai:(i:Int)<ds.length:=Q0;have w1:=A6s (i:=i) Q0;have a9:=az i hi;have bk:=bc i i1;obtain⟨d,hd⟩:=ex (ds[i]);have b1:=A8h hi;have ae:d∈ds:=by rw[hd];exact Z0u hi
  rw[<-hd]at b1 a9;obtain⟨q,hq⟩:=ex (Mi.length);obtain⟨M3,am⟩:=ex (Mi++[A0l.cells 80 d.row]);have ac:M3[q]?=some (.cells 80 d.row):=by rw[am,hq];simp
  have j:Grow Mi M3:=by rw[am];exact A0d.app none _ _
  have b8:A0M prog 3 M3 (.ptr q 3)=some (I d.it.h.kind):=by rw[A0b ac,EnD.row_all];simp
  have bd:A0M prog 80 M3 (.ptr q 0)=some (.agg d.row):=by rw[A0b ac];simp[A0y]
  have al:=j.get hb Q1;have ah:A0M prog 30 M3 (.ptr M.length 0)=some (.agg (S i).1.row):=by rw[A0b al];simp[A0y,A0a.row_len]
  have aj:=h6.keep j;simp -dsimp[-A2x,t2,t4,a1,t,s,hi,ai,b1,A0j,A0k,A0e,A0o,A0n];rw[<-hd,<-am,<-hq];simp -dsimp[b8];refine A0h func36 (A9b gl d.it.h.kind M3) ?_;cases hk:A1d d.it.h.kind
  .rw[B0H,Z0d (by simp[EnD.kind,hk])]at a9;simp -dsimp[t2,t4,a1,t,s,a8,w1];have a:S (i+1)=S i:=a9;have bh:N.length<=M3.length:=Z0L ab j.1;exact⟨⟨i+1,Q3,rfl,by rw[a];exact aj,by rw[a];exact al,j.get a3 Q1,hg.trans j,bh,by rw[a];exact hP⟩,Q3⟩
  simp -dsimp[t2,ah,bd];refine A0h func37 ((au _ hP d ae hk).1 M3) ?_;obtain⟨y,hy⟩:=ex (ap (S i).1 d);have aq:=(au _ hP d ae hk).2;rw[<-hy]at aq;have a:S (i+1)=(y.1,if y.2=0 then(S i).2 else(S i).2++[⟨d.act,d.item,y.2⟩]):=by rw[a9,B0H,Z0c (by simp[EnD.kind,hk]),<-hy]
  rw[<-hy];obtain⟨x,hx⟩:=ex (M3.length);obtain⟨M4,ag⟩:=ex (M3++[A0l.cells 30 y.1.row]);have b4:M4[x]?=some (.cells 30 y.1.row):=by rw[ag,hx];simp
  have a2:Grow M3 M4:=by rw[ag];exact A0d.app none _ _
  have a5:=j.trans a2;have p:=a2.get al Q1;have b0:=a5.get a3 Q1;have m:=aj.keep a2;have ak:N.length<=M4.length:=Z0L ab a5.1;have ba:A0M prog 3 M4 (.ptr q 0)=some (I d.act):=by rw[A0b (a2.get ac Q1),EnD.row_all];simp
  have bj:A0M prog 3 M4 (.ptr q 1)=some (I d.item):=by rw[A0b (a2.get ac Q1),EnD.row_all];simp
  have be:A0M prog 30 M4 (.ptr x 0)=some (.agg y.1.row):=by rw[A0b b4];simp[A0y,A0a.row_len]
  have g:=hg.trans a5;simp -dsimp[-A2x,A0j,A0k,A0e,A0o,A0n,A0a.row_len];rw[<-ag,<-hx];have ad:∀Q:Mem,Q[M.length]?=some (.cells 30 (S i).1.row)->A0k (some 8) Q (.ptr M.length 0) (.agg y.1.row)=some (Q.set M.length (.cells 30 y.1.row)):=λQ h=>by rw[A0f h,A0n,Z0c ⟨A0o,by simp[A0a.row_len],by simp[A0a.row_len]⟩];have e1:=A0a.row_len y.1;have e2:=A0a.row_len (S i).1;simp[A0e,e1,e2,Z0y]
  by_cases h0:y.2=0
  .rw[Z0c h0]at a;obtain⟨M5,b⟩:=ex (M4.set M.length (.cells 30 y.1.row));have c:=ad M4 p;rw[<-b]at c;have a4:M.length<M4.length:=(Z0a.1 p).1;simp -dsimp[t2,h0,be,c,t4,a1,t,s,a8,w1];(have ar:A0d (some M.length) M4 M5:=by rw[b];exact A0d.set _ _ _);exact⟨⟨i+1,Q3,rfl,by rw[a];exact⟨m.own.keep (o:=some M.length) ar (λf hf e=>by have:=m.lat f hf;simp at e;omega),m.lat⟩,by rw[a,b];simp[a4],ar.get b0 Q1,by rw[b];exact A0u g (Z0j _),by rw[b];simpa using ak,by rw[a];exact aq⟩,Q3⟩
  .rw[Z0d h0]at a;have b6:A0A prog 99 [(0,I d.act),(1,I d.item),(2,I y.2)]=some (.agg [I d.act,I d.item,I y.2]):=Q2;simp -dsimp[t2,h0,ba,bj,a8];rw[b6];simp -dsimp[A0w,A1e];refine A3u (C:=WC gl) (enc:=B1Q.row) (e:=99) (sz:=3) (news:=[⟨d.act,d.item,y.2⟩]) D7Z E0m E0T (λ_=>rfl) m.own (by simp[A0D,B1Q.row]) (by simp only[Z0q,Z1n];omega) rfl ?_;intro v' M5 x1 x2 x3 _;(have af:∀k,k<N.length->obj v6≠some k:=λk hk e=>by have:=m.lat _ e;omega);have aa:=x2.get p (af _ Q0);(have b3:A0M prog 30 M5 (.ptr x 0)=some (.agg y.1.row):=by rw[A0b (x2.get b4 (λe=>by have:=aj.own.lt e;omega))];simp[A0y,A0a.row_len]);obtain⟨M6,a6⟩:=ex (M5.set M.length (.cells 30 y.1.row));have c:=ad M5 aa;rw[<-a6]at c;have a4:M.length<M5.length:=(Z0a.1 aa).1;(have b2:A0d (some M.length) M5 M6:=by rw[a6];exact A0d.set _ _ _);have ao:Grow M M5:=⟨Z0L g.1 x2.1,λk hk _=>(x2.2 k (Z0Z hk g.1) (af k Q0)).trans (g.2 k hk Q1)⟩;have a0:=m.later ak x3;simp -dsimp[t2,t4,a1,t,s,w1,b3,c];exact⟨⟨i+1,Q3,rfl,by rw[a];exact⟨x1.keep (o:=some M.length) b2 (λf hf e=>by have:=a0 f hf;simp at e;omega),a0⟩,by rw[a,a6];simp[a4],b2.get (x2.get b0 (af _ Q0)) Q1,by rw[a6];exact A0u ao (Z0j _),by rw[a6];simpa using Nat.le_trans ak x2.1,by rw[a];exact aq⟩,Q3⟩
 rintro T Mi ⟨t2,t4,h6,hb,a3,hg,ab⟩
 refine⟨N.length,T.put (some 6) (.list 3 (B5T (S ds.length).2) .no),A6v (A6J T) (Still.rows (λ_=>rfl) (λ_ _ _=>trivial) h6.own h6.lat .nil),?_⟩
 obtain⟨N2,ax⟩:=ex (Mi.take N.length)
 have b5:N2.length=N.length:=by rw[ax,Z0s];omega
 have a7:∀k,k<N.length->N2[k]?=Mi[k]?:=λk hk=>by rw[ax,Z0x,Z0c hk]
 have bf:Grow N2 Mi:=⟨Q0,λk hk _=>(a7 k Q0).symm⟩
 have r:=A4T bf
 rw[b5]at r
 generalize A3i Mi N.length=M2 at*
 have bi:M2[M.length]?=some (.cells 30 (S ds.length).1.row):=r.get ((a7 _ Q0).trans hb) Q1
 have av:M2[M.length+1]?=some (.cells 30 z):=r.get ((a7 _ Q0).trans a3) Q1
 have ay:Grow M M2:=⟨by have:=r.1;omega,λk hk _=>by rw[r.2 k Q0 Q1,a7 k Q0];exact hg.2 k hk Q1⟩
 have ah:A0M prog 30 M2 (.ptr M.length 0)=some (.agg (S ds.length).1.row):=by rw[A0b bi];simp[A0y,A0a.row_len]
 obtain⟨M5,b⟩:=ex (M2.set (M.length+1) (.cells 30 (S ds.length).1.row))
 have c:A0k (some 8) M2 (.ptr (M.length+1) 0) (.agg (S ds.length).1.row)=some M5:=by rw[A0f av,A0n,Z0c ⟨A0o,by simp[A0a.row_len,aw],by simp[A0a.row_len]⟩,b];have e1:=A0a.row_len (S ds.length).1;simp[A0e,e1,aw,Z0y]
 have a4:M.length+1<M2.length:=(Z0a.1 av).1
 have aa:M5[M.length+1]?=some (.cells 30 (S ds.length).1.row):=by rw[b];simp[a4]
 have ao:Grow M M5:=by rw[b];exact A0u ay Q0
 simp -dsimp[t2,t4,Env.put_some,ah,c]
 simp -dsimp[A2r,aa,A0y,A0a.row_len,ao]
def C4k(M:Mem):A0c (WC gl) 25 [] M (λv M'=>v=.agg A4v.row/\M'=M):=by have a:A0A prog 30 [(1,AV.val (Value.int IntKind.i64 0))]=some (.agg zU):=Q2;refine A0c.dataX ?_;refine A0t hB func25 ?_;simp -dsimp[A0j,A0k,A0e,A0o,A0n];rw[a];simp -dsimp[A0j,A0k,A0e,A0o,A0n,zU,A2r,A0y];refine⟨A0d.app none _ _,?_⟩;rw[A4v,A0a.row_eq,A2S];exact .agg (.same trivial (.same trivial (.same trivial (.same trivial (.same trivial ((A3q.still (e:=4) (enc:=A0z.row) (l:=[]) (.inr Arr.nil) (λ_=>rfl) A4B) ((A3q.still (e:=4) (enc:=A0z.row) (l:=[]) (.inr Arr.nil) (λ_=>rfl) A4B) ((A3q.still (e:=30) (enc:=A0a.row) (l:=[]) (.inr Arr.nil) A0a.row_len A1I) .nil)))))))) .nil
def D3b(day:Int)(purpose:ByteArray)(l:List A1G)(M:Mem)(h1:l.length<=100)(h2:(l.flatMap A1G.acts).length<=1000)(h3:((A4j l).flatMap A0X.items).length<=1000000):A0c (WC gl) 13 [I day,S purpose,.list 4 (A2G l) .no] M (λv M'=>v=.list 28 (A3Q (onD day purpose l)) .no/\M'=M):=by
 refine A0t hB func13 ?_
 simp -dsimp
 refine A0h func23 (D6B gl day purpose l M h1 h2 h3) ?_
 simp -dsimp
end
def C1o(gl:Nat->AV)(ap:A0a->EnD->A0a×Int)(P:A0a->Prop)(ds:List EnD):Prop:=∀u,P u->∀d∈ds,A1d d.kind=true->(∀M,A0c (WC gl) 37 [.agg u.row,.agg d.row] M (λv M'=>v=.tuple [.agg (ap u d).1.row,I (ap u d).2]/\M'=M))/\P (ap u d).1
section
variable (gl:Nat->AV)
def C2V(n:Nat)(u:A0a)(L:List B1Q):bdd n (.tuple [.agg u.row,.list 3 (B5T L) .no]):=by
 simp only[bdd,A1l,Z1z];refine⟨A1I n _,?_⟩;induction L with
 |nil=>simp[B5T,A4f]
 |cons w l ih=>simp only[B5T,Z0w,A4f]at ih|-;exact⟨by simp[B1Q.row,A1l,bdd],ih⟩
def D0y(ap:A0a->EnD->A0a×Int)(P:A0a->Prop)(ds:List EnD)(M:Mem)(g:C1o gl ap P ds)(hu:P A4v)(hl:ds.length<=1000000):A0c (WC gl) 14 [.list 28 (A3Q ds) .no] M (λv M'=>v=.tuple [.agg (A3J ap A4v ds).1.row,.list 3 (B5T (A3J ap A4v ds).2) .no]/\M'=M):=by
 refine A2e (λn=>C2V n _ _) ?_
 obtain⟨z,hz⟩:=ex ([AV.val (Value.int IntKind.i64 0),AV.val (Value.int IntKind.i64 0),AV.val (Value.int IntKind.i64 0),AV.val (Value.int IntKind.i64 0),AV.val (Value.string {data:=#[]}),AV.val (Value.slice none 0 0),AV.val (Value.slice none 0 0),AV.val (Value.slice none 0 0)]:List AV)
 have d:z.length=8:=by rw[hz];rfl
 obtain⟨N,hN⟩:=ex (M++[A0l.cells 30 z])
 have b:N[M.length]?=some (.cells 30 z):=by rw[hN];simp
 have k:Grow M N:=by rw[hN];exact A0d.app none _ _
 have e:M.length<N.length:=(Z0a.1 b).1
 have c:=C4m gl ap P A4v ds N g hu hl
 generalize A3J ap A4v ds=R at*
 obtain⟨M5,a⟩:=ex (N.set M.length (.cells 30 R.1.row))
 have f:A0k (some 8) N (.ptr M.length 0) (.agg R.1.row)=some M5:=by rw[A0f b,A0n,Z0c ⟨A0o,by simp[A0a.row_len,d],by simp[A0a.row_len]⟩,a];simp[A0e,A0a.row_len,d,Z0y]
 have j:M5[M.length]?=some (.cells 30 R.1.row):=by rw[a];simp[e]
 have i:Grow M M5:=by rw[a];exact A0u k (Z0j _)
 refine A0t hB func14 ?_
 simp -dsimp[-A2x,A0j]
 rw[<-hz,<-hN]
 refine A0h func25 (C4k gl N) ?_
 simp -dsimp
 refine A0h func24 c ?_
 simp -dsimp[f]
 simp -dsimp[A2r,j,A0y,A0a.row_len,i]
def D4C(ap:A0a->EnD->A0a×Int)(P:A0a->Prop)(day:Int)(purpose:ByteArray)(l:List A1G)(M:Mem)(j:C1o gl ap P (onD day purpose l))(hu:P A4v)(hl:(onD day purpose l).length<=1000000)
 (h1:l.length<=100)(h2:(l.flatMap A1G.acts).length<=1000)(h3:((A4j l).flatMap A0X.items).length<=1000000):
 A0c (WC gl) 6 [I day,S purpose,.list 4 (A2G l) .no] M (λv M'=>v=.agg (A3J ap A4v (onD day purpose l)).1.row/\M'=M):=by
 refine A2e (λn=>A1I n _) ?_
 have d:=λM=>D3b gl day purpose l M h1 h2 h3
 have i:=λM=>D0y gl ap P (onD day purpose l) M j hu hl
 generalize A3J ap A4v (onD day purpose l)=R at*
 refine A0t hB func6 ?_
 simp -dsimp[-A2x,A0j]
 refine A0h func13 (d _) ?_
 simp -dsimp
 refine A0h func14 (i _) ?_
 simp -dsimp[A0j,A0k,A0e,A0o,A0n,A0a.row_len,A2r,A0y]
 obtain⟨z,hz⟩:=ex ([AV.val (Value.int IntKind.i64 0),AV.val (Value.int IntKind.i64 0),AV.val (Value.int IntKind.i64 0),AV.val (Value.int IntKind.i64 0),AV.val (Value.string {data:=#[]}),AV.val (Value.slice none 0 0),AV.val (Value.slice none 0 0),AV.val (Value.slice none 0 0)]:List AV)
 have c:z.length=8:=by rw[hz];rfl
 rw[<-hz]
 obtain⟨N,hN⟩:=ex (M++[A0l.cells 30 z,A0l.cells 30 R.1.row])
 have b:N[M.length]?=some (.cells 30 z):=by rw[hN];simp
 have e:N[M.length+1]?=some (.cells 30 R.1.row):=by rw[hN];simp
 have p:Grow M N:=by rw[hN];exact A0d.app none _ _
 have f:M.length<N.length:=(Z0a.1 b).1
 obtain⟨M5,a⟩:=ex (N.set M.length (.cells 30 R.1.row))
 have g:A0k (some 8) N (.ptr M.length 0) (.agg R.1.row)=some M5:=by rw[A0f b,A0n,Z0c ⟨A0o,by simp[A0a.row_len,c],by simp[A0a.row_len]⟩,a];simp[A0e,A0a.row_len,c,Z0y]
 have o:M5[M.length]?=some (.cells 30 R.1.row):=by rw[a];simp[f]
 have k:Grow M M5:=by rw[a];exact A0u p (Z0j _)
 have m:A0M prog 30 N (.ptr (M.length+1) 0)=some (.agg R.1.row):=by rw[A0b e];simp[A0y,A0a.row_len]
 rw[<-hN]
 simp -dsimp[m,g]
 simp -dsimp[A2r,o,A0y,A0a.row_len,k]
end
def D6d:∃e,A7S prog 119=some (3,e)/\A8P prog e=some (.val .nilFunc)/\B1Y prog 119 3 e I:=by refine⟨117,Q2,Q2,B8L 119 117 Q2⟩
def doE:List (AV×AV×Nat):=[(I 0,fnV 88,0),(I 1,fnV 89,1),(I 2,fnV 90,2),(I 3,fnV 91,3),(I 4,fnV 92,4),(I 5,fnV 93,5),(I 6,fnV 94,6)]
def doL:List (Int×FuncId):=[(0,88),(1,89),(2,90),(3,91),(4,92),(5,93),(6,94)]
def D5s{M:Mem}{b:Nat}(h:M[b]?=some (.map doE 7))(k:Int):A1S prog 119 M (.mapr b) (I k) true=some (.tuple [match A4Y doL k with|some g=>fnV g|none=>.val .nilFunc,B (A1d k)]):=by
 obtain⟨e,_,hz,hk⟩:=D6d;have hm:A2Y I fnV M b doL:=⟨doE,7,h,rfl⟩;rw[hm.get hk k hz true];by_cases h0:k=0
 .subst h0;rfl
 by_cases h1:k=1
 .subst h1;rfl
 by_cases h2:k=2
 .subst h2;rfl
 by_cases h3:k=3
 .subst h3;rfl
 by_cases h4:k=4
 .subst h4;rfl
 by_cases h5:k=5
 .subst h5;rfl
 by_cases h6:k=6
 .subst h6;rfl
 have ha:A1d k=false:=by rw[Z3q];intro hc;simp only[A1d,Z0h,Z0m]at hc;omega
 simp[A4Y,doL,h0,h1,h2,h3,h4,h5,h6,ha]
def B2F{k:Int}{v:AV}{es:List (AV×AV×Nat)}{c:Nat}{M:Mem}(h4:A2I prog 3 (I k) es=some none):A1V prog 119 (M++[.map es c]) (.mapr M.length) (I k) v=some (M++[.map (es++[(I k,v,c)]) (c+1)]):=by obtain⟨e,a,_,_⟩:=D6d;exact C1G (kt:=3) (et:=e) a Q2 rfl h4
section
variable (gl:Nat->AV)
def D3d(M:Mem):A0c (WC gl) 61 [] M (λv M'=>v=.mapr M.length/\M'=M++[.map doE 7]):=by refine A0t hB func61 ?_;simp -dsimp;rw[B2F Q2];simp -dsimp;rw[B2F Q2];simp -dsimp;rw[B2F Q2];simp -dsimp;rw[B2F Q2];simp -dsimp;rw[B2F Q2];simp -dsimp;rw[B2F Q2];simp -dsimp;rw[B2F Q2];simp -dsimp;rfl
end
end Go.Abs
