/- The texts EgN, EgU, EgV, EjC, EjD, EjE, EgW, EgX, EgY. -/
import Derived.Test.YtjmjekcaifkboaaGreatDoorQG31
import Derived.Test.YtjmjekcaifkboaaGreatDoorQG26
import Derived.Test.YtjmjekcaifkboaaGreatDoorQG25
import Derived.Test.YtjmjekcaifkboaaGreatDoorQG29
import Derived.Test.YtjmjekcaifkboaaGreatDoorQG23
set_option linter.all false
set_option maxRecDepth 100000
namespace Go.Abs
open Go.Proofs TryTypes Tryz
def D5i:List AV:=[I 0,.val (.slice none 0 0),.val (.slice none 0 0),I 0,I 0,I 0,I 0,I 0,I 0,S ⟨#[]⟩,.val (.slice none 0 0),.val (.slice none 0 0),.val (.slice none 0 0),.val (.slice none 0 0),.val (.slice none 0 0),S ⟨#[]⟩,S ⟨#[]⟩,I 0,I 0,S ⟨#[]⟩,I 0,I 0,I 0,S ⟨#[]⟩,.val (.slice none 0 0)]
def C6p:A9n prog 53=some (.agg D5i):=Q2
def C6J:Option A0H->List AV
 |some x=>x.row
 |none=>D5i
def D3S(r:Option A0H):(C6J r).length=25:=by cases r<;>simp[C6J,D5i]
def D4h{M:Mem}{b:Nat}{mm:List ((Int×Int)×A0H)}(h:A3n D6W D8a M b mm)(a i:Int):A1Y prog 136 M (.mapr b) (.agg [I a,I i]) true=some (.tuple [.agg (C6J (A5i mm (a,i))),B (A5i mm (a,i)).isSome]):=by have:=h.get E1E (a,i) C6p true;rw[show D6W (a,i)=.agg [I a,I i]from rfl]at this;rw[this];cases A5i mm (a,i)<;>simp[C6J]
def D7J(d:EnD):Option A0H->EnD
 |some x=>if A1a d.kind=true then{d with it:=x}else d
 |none=>d
def EnD.with_(d:EnD)(y:A0H):EnD:={d with it:=y}
def E1x(d:EnD)(y:A0H):A0e d.row 3 y.row=(d.with_ y).row:=by rw[EnD.row_all,A0H.row_all,EnD.row_all];rfl
def D3D{M:Mem}{q:Nat}{d:EnD}(y:A0H)(h:M[q]?=some (.cells 55 d.row)):A0k (some 25) M (.ptr q 3) (.agg y.row)=some (M.set q (.cells 55 (d.with_ y).row)):=by rw[A0f h,A0n,E1x,Z0c ⟨A0o,Q1,Q1⟩]
section
variable (gl:Nat->AV)
set_option maxHeartbeats 2000000 in
def D4k(l:List A1p)(M:Mem)(hA:∀M,A0c (WC gl) 49 [.list 4 (A2f l) .no] M (λv M'=>v=.list 7 (A5o (A2M l)) .no/\M'=M))(bc:(A2M l).length<=1000000)(hn:((A2M l).flatMap A0Y.items).length<=1000000):
 A0c (WC gl) 50 [.list 4 (A2f l) .no] M (λv M'=>v=.list 28 (A2L (A3d l)) .no/\M'=M):=by
 refine A1N (λn=>C9s n _) ?_
 have b0:A3d l=((A2M l).flatMap A1I).map (A8K (A2M l)):=rfl
 rw[b0]
 generalize A2M l=c at*
 have b1:∀L:List A0Y,(L.flatMap A1I).length=(L.flatMap A0Y.items).length:=λL=>by
  induction L with
  |nil=>rfl
  |cons a L ih=>simp only[Z0y,Z0k,ih,A8d]
 have ap:∀a∈c,a.items.length<=1000000:=λa ha=>by
  have h:∀L:List A0Y,a∈L->a.items.length<=(L.flatMap A0Y.items).length:=λL=>by
   induction L with
   |nil=>simp
   |cons b L ih=>
    intro h;simp only[Z0y,Z0k];rcases Z0p.1 h with rfl|h
    .omega
    .have:=ih h;omega
  have:=h c ha;omega
 refine A0r (hQ [51]) func50 ?_
 simp -dsimp[-A1d]
 refine A0g func49 (hA M) ?_
 simp -dsimp[-A1d]
 refine A3R func79 (D7K gl c .no M bc ap) ?_
 rintro _ M1 ⟨rfl,mm,b7,b6,b9⟩
 simp -dsimp[-A1d]
 refine B2Y (.exit 0) (λT Mi=>Arr 55 28 EnD.row M1.length Mi (T 3) ((c.flatMap A1I).map (A8K c))/\Grow M1 Mi) ?_ ?_
 .refine A1y (hQ [51]) c.length 18 (λT Mi=>∃i:Nat,i<=c.length/\T 5=.mapr M.length/\T 16=.list 7 (A5o c) .no/\T 17=I c.length/\T 18=I i/\Arr 55 28 EnD.row M1.length Mi (T 3) (((c.take i).flatMap A1I).map (A8K c))/\Grow M1 Mi) ?_ ?_
  .exact⟨0,Q0,Q1,Q1,Q1,Q1,ZBX,A0d.refl _ _⟩
  rintro T Mi ⟨i,i1,t5,a7,ag,a6,h3,hg⟩;generalize g:T 3=v3 at*;by_cases hi:i<c.length;case neg=>have aa:¬(i:Int)<c.length:=Q0;rw[Z0e Q0]at h3;simp -dsimp[-A1d,t5,a7,ag,a6,aa,g];exact⟨h3,hg⟩
  have aa:(i:Int)<c.length:=Q0;have w1:=A6S (i:=i) Q0;obtain⟨a,ha⟩:=ex (c[i]);have al:=B4m hi;rw[<-ha]at al;have ba:a.items.length<=1000000:=ap _ (by rw[ha];exact Z0s hi);have aw:(c.take (i+1)).flatMap A1I=(c.take i).flatMap A1I++A1I a:=by rw[Z0z,Z0g hi,Z0T,Z1n,<-ha];simp
  have bf:((c.take i).flatMap A1I).length+(A1I a).length<=1000000:=by
   (have h1:c.flatMap A1I=(c.take (i+1)).flatMap A1I++(c.drop (i+1)).flatMap A1I:=by rw[<-Z1n,Z1j]);have h2:=b1 c
   rw[h1,aw,Z0k,Z0k]at h2;omega
  generalize(c.take i).flatMap A1I=row at*;obtain⟨M2,aj⟩:=ex (Mi++[A0m.cells 93 a.row]);have a1:Grow Mi M2:=by rw[aj];exact A0d.app none _ _
  have bb:M2[Mi.length]?=some (.cells 93 a.row):=by rw[aj];simp
  have b3:A0E prog 93 M2 (.ptr Mi.length 0)=some (.agg a.row):=by rw[A0b bb];simp[A0p]
  have am:=h3.keep a1;simp -dsimp[-A1d,t5,a7,ag,a6,hi,aa,al,A0j,A0k,A0e,A0o,A0n];rw[<-ha,<-aj];simp -dsimp[-A1d,b3];refine A0g func80 (D2y gl a M2 ba) ?_;simp -dsimp[-A1d];refine A6V (.exit 2) (λT Mj=>T 5=.mapr M.length/\T 16=.list 7 (A5o c) .no/\T 17=I c.length/\T 18=I i/\Arr 55 28 EnD.row M1.length Mj (T 3) ((row++A1I a).map (A8K c))/\Grow M1 Mj) ?_ ?_
  .refine A1y (hQ [51]) (A1I a).length 25 (λT Mj=>∃j:Nat,j<=(A1I a).length/\T 5=.mapr M.length/\T 16=.list 7 (A5o c) .no/\T 17=I c.length/\T 18=I i/\T 23=.list 28 (A2L (A1I a)) .no/\T 24=I (A1I a).length/\T 25=I j/\Arr 55 28 EnD.row M1.length Mj (T 3) ((row++(A1I a).take j).map (A8K c))/\Grow M1 Mj) ?_ ?_
   .exact⟨0,Q0,by simp[t5],by simp[a7],by simp[ag],by simp[a6],Q1,Q1,Q1,by simpa[g]using am,hg.trans a1⟩
   clear h3 am hg a1 g;rintro T Mj ⟨j,j1,u5,s,m,t,z,a2,w,h3,hg⟩;generalize g:T 3=v3 at*;by_cases hj:j<(A1I a).length;(case neg=>have ai:¬(j:Int)<(A1I a).length:=Q0;rw[Z0e Q0]at h3;simp -dsimp[-A1d,u5,s,m,t,z,a2,w,ai,g];exact⟨ZBR,hg⟩);have ai:(j:Int)<(A1I a).length:=Q0;have w2:=A6S (i:=j) Q0;obtain⟨d,hd⟩:=ex ((A1I a)[j]);have av:=A6N hj;rw[<-hd]at av;(have u:(row++(A1I a).take (j+1)).map (A8K c)=(row++(A1I a).take j).map (A8K c)++[A8K c d]:=by rw[Z0z,Z0g hj,Z0T,<-hd,<-Z0F,Z1f];rfl);(have bg:((row++(A1I a).take j).map (A8K c)).length<=1000000:=by simp only[Z0W,Z0k,Z0t];omega);generalize(row++(A1I a).take j).map (A8K c)=x at*;obtain⟨r,hr⟩:=ex (A5i mm (d.act,d.item));(have ac:D7G c d.act d.item=r:=by rw[hr,b6];rfl);(have a4:A8K c d=D7J d r:=by rw[A8K,ac];clear hr ac;cases r<;>rfl);have ax:=D3S r;obtain⟨q,hq⟩:=ex (Mj.length);obtain⟨M3,ad⟩:=ex (Mj++[A0m.cells 55 d.row]);(have ak:M3[q]?=some (.cells 55 d.row):=by rw[ad,hq];simp);(have ah:Grow Mj M3:=by rw[ad];exact A0d.app none _ _);have ab:=D4h ((b7.keep (hg.trans ah) Q1)) d.act d.item;rw[<-hr]at ab;(have ao:A0E prog 3 M3 (.ptr q 0)=some (I d.act):=by rw[A0b ak,EnD.row_all];simp);(have ay:A0E prog 3 M3 (.ptr q 1)=some (I d.item):=by rw[A0b ak,EnD.row_all];simp);obtain⟨p,hp⟩:=ex (M3.length);obtain⟨M4,a8⟩:=ex (M3++[A0m.cells 53 (C6J r)]);(have bd:M4[p]?=some (.cells 53 (C6J r)):=by rw[a8,hp];simp);(have af:Grow M3 M4:=by rw[a8];exact A0d.app none _ _);have k:=af.get ak Q1;have a3:=h3.keep (ah.trans af);have a9:=(hg.trans ah).trans af;(have aq:M1.length<=q:=by have:=hg.1;omega);have az:A0A prog 141 [(0,I d.act),(1,I d.item)]=some (.agg [I d.act,I d.item]):=Q2;(have push:∀(N:Mem) (y:EnD) (K:AV->Mem->Prop),Arr 55 28 EnD.row M1.length N v3 x->Grow M1 N->(∀v' M',Arr 55 28 EnD.row M1.length M' v' (x++[y])->Grow M1 M'->K v' M')->A3s (WC gl) false true 46 46 v3 (.list 28 [y.row] .full) N K ⟨⟩:=by intro N y K hN an hK;refine A3B (C:=WC gl) (enc:=EnD.row) (e:=55) (sz:=28) (news:=[y]) C7M D2r C8O EnD.row_len hN.own ZDC ZCH rfl ?_;intro v' M5 x1 x2 x3 _;exact hK v' M5 ⟨x1,hN.later an.1 x3⟩ (hN.grow an x2));simp -dsimp[-A1d,u5,s,m,t,z,a2,w,hj,ai,av,A0j,A0k,A0e,A0o,A0n];rw[<-hd,<-ad,<-hq];simp -dsimp[-A1d,u5,ao,ay];rw[az];simp -dsimp[-A1d,u5,ao,ay];rw[ab];simp -dsimp[-A1d,A0j,A0k,A0e,A0o,A0n,C6p,ax];rw[<-a8,<-hp];(have ae:∀(N:Mem) (y:EnD),N[q]?=some (.cells 55 y.row)->A0E prog 55 N (.ptr q 0)=some (.agg y.row):=λN y h=>by rw[A0b h];simp[A0p]);(have b2:A0E prog 3 M4 (.ptr q 3)=some (I d.it.h.kind):=by rw[A0b k,EnD.row_all];simp);clear hr ac ab ax;cases r with
   |none=>simp only[D7J]at a4;rw[a4]at u;simp -dsimp[-A1d,g,ae M4 d k,A0x,A1g];refine push M4 d _ a3 a9 ?_;intro v' M5 x1 x2;simp -dsimp[-A1d,u5,s,m,t,z,a2,w,w2];exact⟨⟨j+1,ZAD,rfl,by(have h:=u;simp only[Z1f,Z3m]at h;rw[h];exact x1),x2⟩,ZAD⟩
   |some y=>
    simp -dsimp[-A1d,b2];refine A0g func51 (A9A gl d.it.h.kind M4) ?_;cases hm:A1a d.it.h.kind
    ·(have a0:A8K c d=d:=by rw[a4,D7J,Z0d (by simp[EnD.kind,hm])]);rw[a0]at u
     simp -dsimp[-A1d,g,ae M4 d k,A0x,A1g];refine push M4 d _ a3 a9 ?_;intro v' M5 x1 x2;simp -dsimp[-A1d,u5,s,m,t,z,a2,w,w2];exact⟨⟨j+1,ZAD,rfl,by(have h:=u;simp only[Z1f,Z3m]at h;rw[h];exact x1),x2⟩,ZAD⟩
    ·(have a0:A8K c d=d.with_ y:=by rw[a4,D7J,Z0c (by simp[EnD.kind,hm])];rfl);rw[a0]at u
     have b4:q<M4.length:=(Z0a.1 k).1;obtain⟨M5,a5⟩:=ex (M4.set q (.cells 55 (d.with_ y).row));have au:=D3D y k;rw[<-a5]at au;(have b8:M5[q]?=some (.cells 55 (d.with_ y).row):=by rw[a5];simp[b4]);(have be:Grow M1 M5:=by rw[a5];exact A0w a9 aq);(have ar:A0E prog 53 M4 (.ptr p 0)=some (.agg y.row):=by rw[A0b bd];simp[A0p,C6J]);have b5:Arr 55 28 EnD.row M1.length M5 v3 x:=⟨a3.own.keep (o:=some q) (by rw[a5];exact A0d.set _ _ _) (λf hf e=>by have:=h3.own.lt hf;simp at e;omega),a3.lat⟩;simp -dsimp[-A1d,g,ar,au,ae M5 _ b8,A0x,A1g];refine push M5 _ _ b5 be ?_;intro v' M6 x1 x2;simp -dsimp[-A1d,u5,s,m,t,z,a2,w,w2];exact⟨⟨j+1,ZAD,rfl,by(have h:=u;simp only[Z1f,Z3m]at h;rw[h];exact x1),x2⟩,ZAD⟩
  rintro T Mj ⟨u5,s,m,t,h3,hg⟩;simp -dsimp[-A1d,u5,s,m,t,a6,w1];exact⟨⟨i+1,Q3,rfl,by rw[aw];exact h3,hg⟩,Q3⟩
 rintro T Mi ⟨h3,hg⟩
 refine⟨M1.length,T.put (some 3) (.list 28 (A2L ((c.flatMap A1I).map (A8K c))) .no),A6W (A7k T) (Still.rows EnD.row_len (λ_ _ _=>trivial) h3.own h3.lat .nil),?_⟩
 have a1:=b9.trans (A5c hg)
 generalize A3y Mi M1.length=M2 at*
 simp -dsimp[-A1d,Env.put_some,a1]
end
abbrev C8U(s:A1J):AV:=.agg s.row
def D3Y:B2z prog 106 3 50 I:=B9y 106 50 Q2
def D4q:A9n prog 50=some (.agg A6D.row):=Q2
def B2Q(acts:List A0Y)(n:Int):Option A1J:=(acts.find? λa=>decide (a.number=n)).map A0Y.start
def C7S(a:List A0Y)(n:Int):B0A a n=(B2Q a n).getD A6D:=rfl
def C4l(l:List A0Y)(a:A0Y)(h:a.number∉l.map (·.number))(n:Int):B2Q (l++[a]) n=if n=a.number then some a.start else B2Q l n:=by
 unfold B2Q;rw[List.find?_append];by_cases e:n=a.number
 .rw[Z0c e];have:l.find? (λb=>decide (b.number=n))=none:=by rw[List.find?_eq_none];intro b hb hq;simp only[Z0n]at hq;exact h (Z0C.2 ⟨b,hb,by rw[hq,e]⟩)
  rw[this];simp[e]
 .rw[Z0d e];have:¬a.number=n:=λh=>e h.symm;cases l.find? (λb=>decide (b.number=n))<;>simp[this]
def D6a{M:Mem}{b:Nat}{mm:List (Int×A1J)}(h:A3n I C8U M b mm)(n:Int):A1Y prog 106 M (.mapr b) (I n) false=some (.agg ((A5i mm n).getD A6D).row):=by have:=h.get D3Y n D4q false;rw[this];cases A5i mm n<;>simp
def C4p(M M1:Mem):Prop:=M.length<=M1.length/\∀(b:Nat) (es:List (AV×AV×Nat)) (c:Nat),M[b]?=some (A0m.map es c)->M1[b]?=some (A0m.map es c)
def C4p.at_{M M1:Mem}(h:C4p M M1){K V:Type}{d:K->AV}{a:V->AV}{b:Nat}{l:List (K×V)}(hm:A3n d a M b l):A3n d a M1 b l:=by obtain⟨es,c,h1,h2⟩:=hm;exact⟨es,c,h.2 b es c h1,h2⟩
def A7w(acts:List A0Y)(all:List EnD)(l:List EnD):List (EnD×List A0L):=(l.filter λd=>A1a d.kind).map λd=>(d,B1G (B0A acts d.act) d all)
def C0d(a:List A0Y)(b l:List EnD)(d:EnD):A7w a b (l++[d])=A7w a b l++(if A1a d.kind=true then[(d,B1G (B0A a d.act) d b)]else[]):=by unfold A7w;rw[Z2a,Z1f];by_cases h:A1a d.kind=true<;>simp[h]
def B1K(s:A1J)(d:EnD)(l:List EnD):A5S (B1G s d l):=by
 unfold B1G;split
 .have:=B5r s d l l.length (Z0j _);rwa[A5L,Z3h]at this
 .exact B5f
def D8Q(bm b9:Nat):∀i k,(λk=>if k=1\/k=4\/k=5\/k=6 then 1 else if k=8\/k=9 then 2 else 0) i=1->(λ_ k=>k==9) i k=false->(λk=>if k=5 then bm else b9) i∈(λk=>if k=9 then[]else[bm,b9]) k:=by intro i k h1 h2;simp only[Z1R,ne_eq]at h2;simp only[Z0d h2];split<;>simp
section
variable (gl:Nat->AV)
set_option maxHeartbeats 2000000 in
def B8l(N:Nat)(hN:N<=1000000)(fid:FuncId)(cap:List AV)(J:Mem->List (EnD×List A0L)->Prop)(hJ:∀M M' p,J M p->Grow M M'->J M' p)
 (hy:∀M p d days v,p.length<=N->J M p->SpN v days->A5S days->∃r M1,A2Z (WC gl) fid (.agg d.row::v::cap) M (λv M'=>v=r/\M'=M1)/\J M1 (p++[(d,days)])/\C4p M M1)
 (l:List A1p)(M:Mem)(h1:l.length<=100)(h2:(l.flatMap A1p.acts).length<=1000)(h3:((A2M l).flatMap A0Y.items).length<=N)(h0:J M []):
 A0c (WC gl) 29 [.list 4 (A2f l) .no,.func (.func fid) [] cap] M (λ_ M'=>J M' (A2n l)):=by
 have a5:=λM=>C8Z gl l M h1 h2
 have al:(A2M l).length<=1000:=by have:=(A5d (A3m (l.flatMap A1p.acts))).length_eq;have:=B0a (l.flatMap A1p.acts);simp only[A2M];omega
 have aj:((A2M l).map (·.number)).Nodup:=((A5d _).map _).nodup_iff.2 (B0n _)
 have ai:=λM=>D4k gl l M a5 Q0 (Z0J h3 hN)
 have am:(A3d l).length<=N:=by
  have e:∀L:List A0Y,(L.flatMap A1I).length=(L.flatMap A0Y.items).length:=λL=>by
   induction L with
   |nil=>rfl
   |cons a L ih=>simp only[Z0y,Z0k,ih,A8d]
  simp only[A3d,Z0W,e];exact h3
 have ag:A2n l=A7w (A2M l) (A3d l) (A3d l):=rfl
 rw[ag]
 generalize A2M l=b at*
 generalize A3d l=c at*
 refine A0r hB func29 ?_
 simp -dsimp
 refine A0g func49 (a5 _) ?_
 simp -dsimp
 refine A6V (.exit 0) (λT Mi=>T 0=.list 4 (A2f l) .no/\T 1=.func (.func fid) [] cap/\T 4=.mapr M.length/\∃mm,A3n I C8U Mi M.length mm/\(∀n,A5i mm n=B2Q b n)/\J Mi []) ?_ ?_
 .refine A1y hB b.length 14 (λT Mi=>∃i:Nat,i<=b.length/\T 0=.list 4 (A2f l) .no/\T 1=.func (.func fid) [] cap/\T 4=.mapr M.length/\T 12=.list 7 (A5o b) .no/\T 13=I b.length/\T 14=I i/\∃mm,A3n I C8U Mi M.length mm/\(∀n,A5i mm n=B2Q (b.take i) n)/\Grow M Mi) ?_ ?_
  .exact⟨0,Q0,Q1,Q1,Q1,Q1,Q1,Q1,[],A3n.new M,by simp[A5i,B2Q],A0d.app none _ _⟩
  rintro T Mi ⟨i,i1,t0,t1,t4,z,y,a2,mm,hm,o,hg⟩;by_cases hi:i<b.length;case neg=>have f:¬(i:Int)<b.length:=Q0;rw[Z0e Q0]at o;simp -dsimp[t0,t1,t4,z,y,a2,f];exact⟨mm,hm,o,hJ _ _ _ h0 hg⟩
  have f:(i:Int)<b.length:=Q0;have w1:=A6S (i:=i) Q0;obtain⟨a,ha⟩:=ex (b[i]);have a3:=B4m hi;rw[<-ha]at a3;have x:b.take (i+1)=b.take i++[a]:=by rw[Z0z,Z0g hi,Z0T,<-ha]
  have ah:a.number∉(b.take i).map (·.number):=by have hx:(b.take (i+1)).map (·.number)<+:b.map (·.number):=(List.take_prefix _ _).map _;have:=aj.sublist hx.sublist;rw[x,Z1f,Z2D]at this;intro hc;exact this.2.2 _ hc a.number Q1 rfl
  obtain⟨q,hq⟩:=ex (Mi.length);obtain⟨M3,g⟩:=ex (Mi++[A0m.cells 93 a.row]);have j:M3[q]?=some (.cells 93 a.row):=by rw[g,hq];simp
  have s:Grow Mi M3:=ZBU
  have ak:A0E prog 3 M3 (.ptr q 0)=some (I a.number):=by rw[A0b j,A0Y.row];simp
  have aa:A0E prog 50 M3 (.ptr q 3)=some (.agg a.start.row):=by rw[A0b j,A0Y.row];simp[A0p,A1J.row]
  obtain⟨M4,hp,ad,a8⟩:=(hm.keep s Q1).put D3Y a.number a.start;have ac:A2b prog 106 M3 (.mapr M.length) (I a.number) (.agg a.start.row)=some M4:=hp;simp -dsimp[-A1d,t0,t1,t4,z,y,a2,hi,f,a3,A0j,A0k,A0e,A0o,A0n];rw[<-ha,<-g,<-hq];simp -dsimp[ak,aa,t4];rw[ac];simp -dsimp[t0,t1,t4,z,y,a2,w1];have t:=hg.trans s;exact⟨⟨i+1,Q3,rfl,_,ad,λn=>by rw[B5k,o,x,C4l _ _ ah],⟨Z0J t.1 a8.1,λi hi _=>(a8.2 i (Z0S hi t.1) ZAB).trans (t.2 i hi Q1)⟩⟩,Q3⟩
 rintro T M1 ⟨t0,t1,t4,mm,hm,o,hj⟩
 simp -dsimp[t0,t1,t4]
 refine A0g func50 (ai M1) ?_
 simp -dsimp
 refine A1y hB c.length 28 (λT Mi=>∃i:Nat,i<=c.length/\T 1=.func (.func fid) [] cap/\T 4=.mapr M.length/\T 7=.list 28 (A2L c) .no/\T 26=.list 28 (A2L c) .no/\T 27=I c.length/\T 28=I i/\A3n I C8U Mi M.length mm/\J Mi (A7w b c (c.take i))) ?_ ?_
 .exact⟨0,Q0,ZDR,by simp[t4],Q1,Q1,Q1,Q1,hm,by simpa[A7w]using hj⟩
 clear t0 t1 t4 hm hj
 rintro T Mi ⟨i,i1,t1,t4,t7,u,w,t28,hm,hj⟩
 by_cases hi:i<c.length
 case neg=>have f:¬(i:Int)<c.length:=Q0;rw[Z0e Q0]at hj;simp -dsimp[t1,t4,t7,u,w,t28,f,hj]
 have f:(i:Int)<c.length:=Q0
 have w1:=A6S (i:=i) Q0
 obtain⟨d,hd⟩:=ex (c[i])
 have a7:=A6N hi
 rw[<-hd]at a7
 have x:c.take (i+1)=c.take i++[d]:=by rw[Z0z,Z0g hi,Z0T,<-hd]
 have m:=C0d b c (c.take i) d
 rw[<-x]at m
 obtain⟨q,hq⟩:=ex (Mi.length)
 obtain⟨M3,g⟩:=ex (Mi++[A0m.cells 55 d.row])
 have j:M3[q]?=some (.cells 55 d.row):=by rw[g,hq];simp
 have s:Grow Mi M3:=ZBU
 have ae:A0E prog 3 M3 (.ptr q 3)=some (I d.it.h.kind):=by rw[A0b j,EnD.row_all];simp
 have a4:A0E prog 3 M3 (.ptr q 0)=some (I d.act):=by rw[A0b j,EnD.row_all];simp
 have a6:A0E prog 55 M3 (.ptr q 0)=some (.agg d.row):=by rw[A0b j];simp[A0p]
 have a1:=hm.keep s Q1
 have a9:=hJ _ _ _ hj s
 have a0:=D6a a1 d.act
 rw[o,<-C7S]at a0
 simp -dsimp[-A1d,t1,t4,t7,u,w,t28,hi,f,a7,A0j,A0k,A0e,A0o,A0n]
 rw[<-hd,<-g,<-hq]
 simp -dsimp[ae]
 refine A0g func51 (A9A gl d.it.h.kind M3) ?_
 cases hk:A1a d.it.h.kind
 .rw[Z0d (by simp[EnD.kind,hk]),Z1b]at m;simp -dsimp[t1,t4,t7,u,w,t28,w1];exact⟨⟨i+1,Q3,rfl,a1,by rw[m];exact a9⟩,Q3⟩
 rw[Z0c (by simp[EnD.kind,hk])]at m
 simp -dsimp
 have ab:(A7w b c (c.take i)).length<=N:=by have:=Z1q (λd=>A1a d.kind) (c.take i);rw[Z0t]at this;simp only[A7w,Z0W];clear w1;omega
 obtain⟨r,M5,y1,y2,y3⟩:=hy M3 _ d _ _ ab a9 (C0x (B0A b d.act) d c) (B1K _ _ _)
 have af:=C8g gl (B0A b d.act) d c .no M3 Q0
 refine A7r hB (A0B gl) (λk=>if k=1\/k=4\/k=5\/k=6 then 1 else if k=8\/k=9 then 2 else 0) (λk=>if k=5 then M.length else q) (λ_ k=>k==9) (λk=>if k=9 then[]else[M.length,q]) (D8Q M.length q) (by rfl) Q2 ?_
 simp -dsimp[t1,t4,t7,A1e,a4,a6,a0]
 refine A5R (A0l func52 rfl rfl af) ?_
 simp -dsimp[t1,t4,t7,A1e,a4,a6,a0]
 refine A5R y1 ?_
 simp -dsimp[t1,t4,t7,u,w,t28,w1]
 exact⟨⟨i+1,Q3,rfl,y3.at_ a1,by rw[m];exact y2⟩,Q3⟩
end
def B8k{C:Ctx}{own vec:Bool}{st xt:TypeId}{s x:AV}{M:Mem}{K:AV->Mem->Prop}{tg:Tag K}(h:A3s C own vec st xt s x M K tg):∃v M',K v M'/\∀(K':AV->Mem->Prop) (b:Tag K'),K' v M'->A3s C own vec st xt s x M K' b:=by
 obtain⟨e,sz,bytes,a,h⟩:=h;cases ha:A6L own vec e sz bytes s x M with
 |none=>rw[ha]at h;exact h.elim
 |some r=>rw[ha]at h;exact⟨r.1,r.2,h,λK' _ hk=>⟨e,sz,bytes,a,by rw[ha];exact hk⟩⟩
def onB(day:Int)(purpose:ByteArray)(x:EnD×List A0L):Bool:=C2E purpose x.1&&A8I (A3J x.2) day
def OnJ(M0:Mem)(day:Int)(purpose:ByteArray)(M:Mem)(p:List (EnD×List A0L)):Prop:=∃v,M[M0.length]?=some (.cells 46 [v])/\A1r 55 28 EnD.row M v ((p.filter (onB day purpose)).map (·.1))/\(∀f,obj v=some f->M0.length<f)/\Grow M0 M
def OnJ.keep{M0:Mem}{day:Int}{purpose:ByteArray}{M M':Mem}{p:List (EnD×List A0L)}(h:OnJ M0 day purpose M p)(hg:Grow M M'):OnJ M0 day purpose M' p:=by obtain⟨v,h1,h2,h3,h4⟩:=h;exact⟨v,hg.get h1 Q1,h2.keep hg Q1,h3,h4.trans hg⟩
section
variable (gl:Nat->AV)
def C1U{va:AV}{l:List A0L}(a:SpV va l)(d:Int)(M:Mem)(ha:Asc l)(hl:l.length<=10000000):A0c (WC gl) 31 [va,I d] M (λv M'=>v=B (A8I (A3J l) d)/\M'=M):=by have hn:=A4U (A7N ha);refine A0r hB func31 ?_;simp -dsimp;refine A0g func54 (B1U gl a M ha hl) ?_;simp -dsimp;refine A0g func53 (C7f gl (A3J l) .no d M Q0) ?_;simp -dsimp
set_option maxHeartbeats 1000000 in
def D7q(M0:Mem)(day:Int)(purpose:ByteArray)(M:Mem)(p:List (EnD×List A0L))(d:EnD)(j:List A0L)(w:AV)(hp:p.length<=1000000)(hj:OnJ M0 day purpose M p)(hw:SpN w j)(hn:A5S j):∃r M1,A2Z (WC gl) 30 [.agg d.row,w,.cptr [S purpose],.cptr [I day],.ptr M0.length 0] M (λv M'=>v=r/\M'=M1)/\OnJ M0 day purpose M1 (p++[(d,j)])/\C4p M M1:=by
 have l:∀M,A0c (WC gl) 31 [w,I day] M (λv M'=>v=B (A8I (A3J j) day)/\M'=M):=λM=>C1U gl hw.toV day M hn.asc' (by have:=A4U hn;omega)
 obtain⟨v,h1,h2,h3,h4⟩:=hj
 have s:((p++[(d,j)]).filter (onB day purpose)).map (·.1)=(p.filter (onB day purpose)).map (·.1)++(if onB day purpose (d,j)=true then[d]else[]):=by rw[Z2a,Z1f];by_cases h:onB day purpose (d,j)=true<;>simp[h]
 have a5:=Z1q (onB day purpose) p
 by_cases hb:onB day purpose (d,j)=true
 case neg=>
  rw[Z0d hb,Z1b]at s;refine⟨.tuple [],M,A0l func30 rfl rfl ?_,⟨v,h1,by rw[s];exact h2,h3,h4⟩,Z0j _,λ_ _ _ h=>h⟩;refine A0r (hQ [26]) func30 ?_;rw[EnD.row_all];by_cases hf:C2E purpose d=true;case neg=>have k:¬d.it.h.for_=⟨#[]⟩:=λe=>hf (by simp[C2E,e]);have m:¬d.it.h.for_=purpose:=λe=>hf (by simp[C2E,e]);simp -dsimp[k,m]
  have hd:A8I (A3J j) day=false:=by simp only[onB,hf,Z0U]at hb;simpa using hb
  rw[hd]at l;by_cases k:d.it.h.for_=⟨#[]⟩
  .simp -dsimp[k];refine A0g func31 (l M) ?_;simp -dsimp
  ·(have m:d.it.h.for_=purpose:=by simpa[C2E,k]using hf);have t:¬purpose=⟨#[]⟩:=m▸k
   simp -dsimp[m,t];refine A0g func31 (l M) ?_;simp -dsimp
 rw[Z0c hb]at s
 obtain⟨hf,hd⟩:C2E purpose d=true/\A8I (A3J j) day=true:=by simpa[onB]using hb
 rw[hd]at l
 have a4:M0.length<M.length:=(Z0a.1 h1).1
 have a2:obj v≠some M0.length:=λe=>by have:=h3 _ e;omega
 have u:∀(K:AV->Mem->Prop) (tg:Tag K),(∀v' M',A1r 55 28 EnD.row M' v' ((p.filter (onB day purpose)).map (·.1)++[d])->A0d (obj v) M M'->(obj v'=obj v\/A1L M.length v')->K v' M')->A3s (WC gl) false true 46 46 v (.list 28 [d.row] .full) M K tg:=by intro K tg hK;refine A3B (C:=WC gl) (enc:=EnD.row) (e:=55) (sz:=28) (news:=[d]) C7M D2r C8O EnD.row_len h2 ZDC (by simp only[Z0r,Z1p,Z0W];omega) rfl ?_;intro v' M' x1 x2 x3 _;exact hK v' M' x1 x2 x3
 obtain⟨v',M',⟨x1,x2,x3⟩,n⟩:=B8k (u (λv' M'=>A1r 55 28 EnD.row M' v' ((p.filter (onB day purpose)).map (·.1)++[d])/\A0d (obj v) M M'/\(obj v'=obj v\/A1L M.length v')) ⟨⟩ (λv' M' a b c=>⟨a,b,c⟩))
 have z:M'[M0.length]?=some (.cells 46 [v]):=x2.get h1 a2
 have x:M0.length<M'.length:=(Z0a.1 z).1
 have hs:A0k (some 1) M' (.ptr M0.length 0) v'=some (M'.set M0.length (.cells 46 [v'])):=by rw[A0f z,x1.store,x1.cells];simp[A0e]
 have y:∀f,obj v'=some f->M0.length<f:=λf hf=>by
  rcases x3 with x3|x3
  .exact h3 f (x3▸hf)
  .have:=x3 f hf;omega
 refine⟨.tuple [],M'.set M0.length (.cells 46 [v']),A0l func30 rfl rfl ?_,⟨v',by simp[x],?_,y,?_⟩,?_⟩
 .refine A0r (hQ [26]) func30 ?_;have q:=EnD.row_all d;by_cases k:d.it.h.for_=⟨#[]⟩
  .rw[q];simp -dsimp[k];refine A0g func31 (l M) ?_;simp -dsimp[A0b h1,A0x,A1g];rw[q,k]at n;refine n _ _ ?_;simp -dsimp[hs]
  ·(have m:d.it.h.for_=purpose:=by simpa[C2E,k]using hf);have t:¬purpose=⟨#[]⟩:=m▸k
   rw[q];simp -dsimp[m,t];refine A0g func31 (l M) ?_;simp -dsimp[A0b h1,A0x,A1g];rw[q,m]at n;refine n _ _ ?_;simp -dsimp[hs]
 .rw[s];exact x1.keep (o:=some M0.length) (A0d.set _ _ _) (λf hf e=>by have:=y f hf;simp at e;omega)
 .refine A0w ⟨Z0J h4.1 x2.1,λi hi _=>?_⟩ (Z0j _);rw[x2.2 i (Z0S hi h4.1) (λe=>by have:=h3 _ e;omega)];exact h4.2 i hi Q1
 .refine⟨by simpa using x2.1,λb es c hm=>?_⟩;have a0:b≠M0.length:=λe=>by subst e;rw[h1]at hm;simp at hm
  rw[Z0f (λe=>a0 e.symm)];refine x2.get hm (λe=>?_);rcases h2 with⟨rfl,_⟩|⟨f',g,a3,rfl,a1,_⟩
  .simp at e
  .simp at e;subst e;rw[a1]at hm;simp at hm
def D4F(day:Int)(purpose:ByteArray)(l:List A1p)(M:Mem)(h1:l.length<=100)(h2:(l.flatMap A1p.acts).length<=1000)(h3:((A2M l).flatMap A0Y.items).length<=1000000):A0c (WC gl) 14 [I day,S purpose,.list 4 (A2f l) .no] M (λv M'=>v=.list 28 (A2L (onD day purpose l)) .no/\M'=M):=by
 have key:A0c (WC gl) 14 [I day,S purpose,.list 4 (A2f l) .no] M (λv M'=>∃L,A1r 55 28 EnD.row M' v L/\Grow M M'/\A1L M.length v/\L=onD day purpose l):=by
  obtain⟨M1,a⟩:=ex (M++[A0m.cells 46 [.val (.slice none 0 0)]]);have c:M1[M.length]?=some (.cells 46 [.val (.slice none 0 0)]):=ZCA
  have b:Grow M M1:=ZAH
  have hj:OnJ M day purpose M1 []:=⟨_,c,A1r.nil,Q1,b⟩;have hc:=B8l gl 1000000 (Z0j _) 30 [.cptr [S purpose],.cptr [I day],.ptr M.length 0] (OnJ M day purpose) (λ_ _ _ h hg=>h.keep hg) (λM1 p d days v hp hj hv hn=>D7q gl M day purpose M1 p d days v hp hj hv hn) l M1 h1 h2 h3 hj;refine A0r (hQ []) func14 ?_;simp -dsimp[A0j];rw[<-a];refine A0s (A0l func29 rfl rfl hc) ?_;rintro _ M2 ⟨v,k1,k2,k3,k4⟩;simp -dsimp[A0b k1];exact⟨_,k2,k4,λf hf=>by have:=k3 f hf;omega,rfl⟩
 refine(A0c.stillE (e:=55) (sz:=28) (enc:=EnD.row) (P:=λE=>E=onD day purpose l) EnD.row_len (λn x=>C7c n x) key).mono ?_
 rintro v M' ⟨E,rfl,h,rfl⟩
 exact⟨rfl,h⟩
end
def C5h(a:A0Y):Prop:=a.items.length<=40/\∀x∈a.items,B2p x.h/\∀y∈x.by_,B2p y.h
def A8u:List A0Y->Nat
 |[]=>0
 |a::l=>1+a.items.length+A8u l
def C4e:∀a b:List A0Y,A8u (a++b)=A8u a+A8u b
 |[],b=>by simp[A8u]
 |x::a,b=>by rw[Z0Q,A8u,A8u,C4e a b];omega
def D3e(l:List A1p):Prop:=l.length<=8/\A8u (l.flatMap A1p.acts)<=60/\∀g∈l,∀a∈g.acts,C5h a
def C6F{p:Prop}(h:p):isP p (.val (.bool true)):=⟨true,rfl,λ_=>h⟩
section
variable (gl:Nat->AV)
set_option maxHeartbeats 4000000 in
def D4Y(a:A0Y)(M:Mem)(hg:a.good):A0c (WC gl) 40 [.agg a.row] M (λv M'=>isP (C5h a) v/\M'=M):=by
 obtain⟨_,_,_,_,f,l⟩:=hg;have m:a.items.length<=9223372036854775807:=by simpa[maxLen]using f
 refine A1f hB func40 rfl rfl rfl rfl rfl rfl ?_;obtain⟨P,hP⟩:=ex (C5h a);have d:C5h a->P:=λe=>by rw[hP];exact e
 rw[<-hP];by_cases c1:(40:Int)<a.items.length
 .have d1:(a.items.length:Int)>40:=c1;simp -dsimp[A0Y.row,c1,d1,A1D]
 have d1:¬(a.items.length:Int)>40:=c1;by_cases c2:(300:Int)<a.title.size
 .have d2:(a.title.size:Int)>300:=c2;simp -dsimp[A0Y.row,c1,d1,c2,d2,A1D]
 have d2:¬(a.title.size:Int)>300:=c2;by_cases c3:(100:Int)<a.start.ev.size
 .have d3:(a.start.ev.size:Int)>100:=c3;simp -dsimp[A0Y.row,c1,d1,c2,d2,c3,d3,A1D]
 have d3:¬(a.start.ev.size:Int)>100:=c3;simp -dsimp[A0Y.row,c1,d1,c2,d2,c3,d3];refine A0M hB (λT M1=>∃i:Nat,i<=a.items.length/\T 1=.cptr [I a.number,S a.title,I a.day,I a.start.k,I a.start.day,S a.start.ev,.list 25 (A1w a.items) .no]/\T 3=I i/\M1=M/\∀k,(h:k<a.items.length)->k<i->B2p a.items[k].h/\∀y∈a.items[k].by_,B2p y.h) (λT _=>match T 3 with|.val (.int _ i)=>a.items.length-i.toNat|_=>0) Q2 ?_ ?_
 .exact⟨0,Q0,Q1,Q1,rfl,Q0⟩
 rintro T M ⟨j,n,t1,t3,rfl,hb⟩;by_cases hj:j<a.items.length;case neg=>have c:¬(j:Int)<a.items.length:=Q0;simp -dsimp[t1,t3,c];refine C6F (d ⟨Q0,λy hy=>?_⟩);obtain⟨k,hk,rfl⟩:=Z2z.1 hy;exact hb k hk Q0
 have c:(j:Int)<a.items.length:=Q0;have w1:=A1O (i:=j) Q0;have ih:=C3I gl a.items[j] M (l _ (Z0s hj));simp -dsimp[t1,t3,hj,c];refine A0s (A0l func58 rfl rfl ih) ?_;rintro _ M ⟨⟨b,rfl,g⟩,rfl⟩;cases b with
 |false=>simp -dsimp[A1D]
 |true=>
  simp -dsimp[t1,t3,w1];refine⟨⟨j+1,Q3,rfl,λk hk hlt=>?_⟩,Q3⟩;by_cases e:k=j
  .subst e;exact g rfl
  .exact hb k hk Q3
set_option maxHeartbeats 4000000 in
def D4C(l:List A1p)(M:Mem)(hl:l.length<=maxLen)(hg:∀g∈l,g.good):A0c (WC gl) 18 [.list 4 (A2f l) .no] M (λv M'=>isP (D3e l) v/\M'=M):=by
 have a0:l.length<=9223372036854775807:=by simpa[maxLen]using hl
 obtain⟨P,hP⟩:=ex (D3e l);have p:D3e l->P:=λe=>by rw[hP];exact e
 rw[<-hP];refine A1f hB func18 rfl rfl rfl rfl rfl rfl ?_;simp -dsimp;refine A0M hB (λT M1=>∃(i:Nat) (z:Int),i<=l.length/\T 0=.list 4 (A2f l) .no/\T 3=I z/\T 4=I i/\M1=M/\(i<=8->z=A8u ((l.take i).flatMap A1p.acts)/\z<=820*i)/\∀k,(h:k<l.length)->k<i->∀a∈l[k].acts,C5h a) (λT _=>match T 4 with|.val (.int _ i)=>l.length-i.toNat|_=>0) Q2 ?_ ?_
 .exact⟨0,0,Q0,Q1,Q1,Q1,rfl,λ_=>⟨by simp[A8u],Q0⟩,Q0⟩
 rintro T M ⟨i,z,u,t0,t3,t4,rfl,hz,hb⟩;by_cases hi:i<l.length;case neg=>
  have c:¬(i:Int)<l.length:=Q0;by_cases c1:z<=60
  .by_cases c2:(l.length:Int)<=8
   .simp -dsimp[t0,t3,t4,c,c1,c2];have t:=(hz Q0).1;rw[Z0e Q0]at t;refine C6F (p ⟨Q0,Q0,λy hy=>?_⟩);obtain⟨k,hk,rfl⟩:=Z2z.1 hy;exact hb k hk Q0
   .simp -dsimp[t0,t3,t4,c,c1,c2,A1D]
  .simp -dsimp[t0,t3,t4,c,c1,A1D]
 have c:(i:Int)<l.length:=Q0;have w1:IntKind.i64.wrap ((i:Int)+1)=((i+1:Nat):Int):=ZAW
 obtain⟨x,hx⟩:=ex (l[i]);have r:x.good:=by rw[hx];exact hg _ (Z0s hi)
 obtain⟨_,_,_,a1,q⟩:=r;by_cases c1:(100:Int)<x.prior.size
 .have d1:(x.prior.size:Int)>100:=c1;simp -dsimp[t0,t3,t4,hi,c,<-hx,A1p.row,c1,d1,A1D]
 have d1:¬(x.prior.size:Int)>100:=c1;by_cases c2:(20:Int)<x.acts.length
 .have d2:(x.acts.length:Int)>20:=c2;simp -dsimp[t0,t3,t4,hi,c,<-hx,A1p.row,c1,d1,c2,d2,A1D]
 have d2:¬(x.acts.length:Int)>20:=c2;simp -dsimp[t0,t3,t4,hi,c,<-hx,A1p.row,c1,d1,c2,d2];refine A0M hB (λT M1=>∃(j:Nat) (z:Int),j<=x.acts.length/\T 0=.list 4 (A2f l) .no/\T 3=I z/\T 4=I i/\T 5=I j/\M1=M/\(i<8->z=A8u ((l.take i).flatMap A1p.acts++x.acts.take j)/\z<=820*i+41*j)/\∀k,(h:k<x.acts.length)->k<j->C5h x.acts[k]) (λT _=>match T 5 with|.val (.int _ i)=>x.acts.length-i.toNat|_=>0) Q2 ?_ ?_
 .exact⟨0,z,Q0,by simp[t0],by simp[t3],by simp[t4],Q1,rfl,λh=>by simpa using hz Q3,Q3⟩
 rintro T2 M ⟨j,y,w,u0,u3,u4,u5,rfl,hy,o⟩;by_cases hj:j<x.acts.length;case neg=>
  have d:¬(j:Int)<x.acts.length:=Q0;simp -dsimp[u0,u3,u4,u5,t4,d,hi,c,<-hx,A1p.row,w1];have f:(l.take (i+1)).flatMap A1p.acts=(l.take i).flatMap A1p.acts++x.acts:=by rw[Z0z,Z0g hi,<-hx];simp
  refine⟨⟨i+1,Q3,rfl,λh=>?_,λk hk hlt=>?_⟩,Q3⟩
  .have:=hy Q3;rw[show x.acts.take j=x.acts from Z0e Q3]at this;rw[f];refine⟨this.1,?_⟩;have:=this.2;clear w1;omega
  by_cases e:k=i
  .subst e;rw[<-hx];intro a ha;obtain⟨m,hm,rfl⟩:=Z2z.1 ha;exact o m hm Q3
  .exact hb k hk Q3
 have d:(j:Int)<x.acts.length:=Q0;have w2:IntKind.i64.wrap ((j:Int)+1)=((j+1:Nat):Int):=by rw[A0R Q3 Q3];clear w1;omega
 obtain⟨a,ha⟩:=ex (x.acts[j]);have ih:=D4Y gl a M (by rw[ha];exact q _ (Z0s hj));rw[A0Y.row]at ih;simp -dsimp[u0,u3,u4,u5,hj,d,hi,c,<-hx,<-ha,A1p.row,A0Y.row];refine A0s (A0l func40 rfl rfl ih) ?_;rintro _ M ⟨⟨b,rfl,s⟩,rfl⟩;cases b with
 |false=>simp -dsimp[A1D]
 |true=>
  simp -dsimp[u0,u3,u4,u5,hj,d,hi,c,<-hx,<-ha,A1p.row,A0Y.row,w2];have f:x.acts.take (j+1)=x.acts.take j++[a]:=by rw[Z0z,Z0g hj,Z0T,<-ha]
  have n:=s rfl;refine⟨⟨j+1,ZAD,rfl,λh=>?_,λk hk hlt=>?_⟩,ZAD⟩
  .obtain⟨y1,y2⟩:=hy ZAD;have:=n.1;(have e1:IntKind.i64.wrap (y+1)=y+1:=by clear w1 w2;exact A0R Q0 Q0);(have e2:IntKind.i64.wrap (y+1+a.items.length)=y+1+a.items.length:=by clear w1 w2;exact A0R Q0 Q0);rw[f,<-Z0F,C4e,e1,e2];simp only[A8u];clear w1 w2;omega
  by_cases e:k=j
  .subst e;rw[<-ha];exact n
  .exact o k hk ZAD
def C9l(l:List A1p)(s:ByteArray)(M:Mem)(hl:l.length<=maxLen)(hg:∀g∈l,g.good):A0c (WC gl) 6 [.list 4 (A2f l) .no,S s] M (λv M'=>isP (D3e l) v/\M'=M):=by
 have ih:=D4C gl l M hl hg;refine A1f hB func6 rfl rfl rfl rfl rfl rfl ?_;simp -dsimp;refine A0s (A0l func18 rfl rfl ih) ?_;rintro _ M ⟨⟨b,rfl,a⟩,rfl⟩;cases b with
 |false=>simp -dsimp[A1D]
 |true=>
  by_cases c:(s.size:Int)<=100
  .simp -dsimp[c];exact C6F (a rfl)
  .simp -dsimp[c,A1D]
end
def D4l(u:A0a):(A2j u).length=A0y u:=by rw[<-A3P,<-A5D,Z0W]
section
variable (gl:Nat->AV)
def B4h(u:A0a)(x:IdD)(M:Mem)(hg:u.good)(hc:A0y u<=3000):A0c (WC gl) 21 [.agg u.row,.agg x.row] M (λv M'=>v=B4f (A3a u x)/\M'=M):=by
 have hx:x.row=[I x.act,I x.item,I x.n]:=rfl;have a:=C2j gl u x M hg hc;rw[hx]at a|-;refine A0r hB func21 ?_;simp -dsimp;refine A0g func12 a ?_;cases A3a u x with
 |none=>simp -dsimp
 |some p=>simp -dsimp
def C0U:∀(u:A0a) (M:Mem),u.good->A0y u<=3000->A0c (WC gl) 7 [.agg u.row] M (λv M'=>v=.list 8 (A0t (A2j u)) .no/\M'=M)
 |.mk id kind lab hd ws ks,M,hg,hc=>by
  obtain⟨_,_,a0,_,y,_,a1,t,g⟩:=(A0a.good_iff _).1 hg;have g:∀k∈ks,k.good:=g;have z:1+A0I ks<=3000:=ZDP
  have w:=A2D ks;have d:(A0a.mk id kind lab hd ws ks).row=[I id.act,I id.item,I id.n,I kind,S lab,.list 4 (A0i hd) .no,.list 4 (A0i ws) .no,.list 8 (A0t ks) .no]:=ZDD
  obtain⟨u,hu⟩:=ex (A0a.mk id kind lab hd ws ks);have r:A2j u=u::A3F ks:=by rw[hu,A2j]
  rw[<-hu]at d|-;have key:A0c (WC gl) 7 [.agg u.row] M (λv M'=>∃L,A1r 31 8 A0a.row M' v L/\Grow M M'/\A1L M.length v/\L=A2j u):=by
   rw[r,d];refine A0r (hQ [6,21]) func7 ?_;obtain⟨M1,l⟩:=ex (M++[A0m.vec 31 8 [I id.act,I id.item,I id.n,I kind,S lab,.list 4 (A0i hd) .no,.list 4 (A0i ws) .no,.list 8 (A0t ks) .no] 0 [(0,1)]]);(have hb:A1C prog 25 1 [(0,.agg [I id.act,I id.item,I id.n,I kind,S lab,.list 4 (A0i hd) .no,.list 4 (A0i ws) .no,.list 8 (A0t ks) .no])] M=some (.vref M.length 0 8 0 1,M1):=by rw[l];simp[A1C,A1g,AV.storable,AV.cells]);have ho:A1r 31 8 A0a.row M1 (.vref M.length 0 8 0 1) [u]:=.inr ⟨M.length,0,[(0,1)],rfl,by rw[l];simp[d],ZAQ⟩;(have p:Grow M M1:=by rw[l];exact A0d.app none _ _);simp -dsimp[hb];refine A6V (.exit 0) (λT Mi=>Arr 31 8 A0a.row M.length Mi (T 3) (u::A3F ks)/\Grow M Mi) ?_ ?_
   .refine A1y (hQ [6,21]) ks.length 4 (λT Mi=>∃i:Nat,i<=ks.length/\T 1=.cptr [I id.act,I id.item,I id.n,I kind,S lab,.list 4 (A0i hd) .no,.list 4 (A0i ws) .no,.list 8 (A0t ks) .no]/\T 4=I i/\Arr 31 8 A0a.row M.length Mi (T 3) (u::A3F (ks.take i))/\Grow M Mi) ?_ ?_
    .exact⟨0,Q0,Q1,Q1,by simpa[A3F]using⟨ho,λf hf=>by simp at hf;omega⟩,p⟩
    rintro T Mi ⟨i,i1,t1,t4,h3,b⟩;generalize a:T 3=v3 at*;by_cases hi:i<ks.length;(case neg=>have j:¬(i:Int)<ks.length:=Q0;rw[Z0e Q0]at h3;simp -dsimp[t1,t4,j,a];exact⟨h3,b⟩);have j:(i:Int)<ks.length:=Q0;have w1:=A1O (i:=i) Q0;have c:ks[i]∈ks:=Z0s hi;have hlt:=A0a.kid_lt (u:=.mk id kind lab hd ws ks) c;have a2:=A3O c;have ih:=C0U ks[i] Mi (g _ c) Q0;(have m:A3F (ks.take (i+1))=A3F (ks.take i)++A2j ks[i]:=by rw[Z0z,Z0g hi,B9W];simp[A3F]);(have o:(A3F (ks.take (i+1))).length<=3000:=by(have h1:A0I ks=A0I (ks.take (i+1))+A0I (ks.drop (i+1)):=by rw[<-B0e,Z1j]);rw[C4y];omega);rw[m,Z0k]at o;simp -dsimp[t1,t4,hi,j,a];refine A0g func7 ih ?_;simp -dsimp[t1,t4,a];refine A3B (C:=WC gl) (enc:=A0a.row) (e:=31) (sz:=8) (news:=A2j ks[i]) A8p B2D B1H A0a.row_len h3.own (by simp only[A0D,A8k,A9Q];simp) (by simp only[Z0r];omega) rfl ?_;intro v' M5 u1 u2 u3 _;have q:Arr 31 8 A0a.row M.length M5 v' (u::A3F (ks.take i)++A2j ks[i]):=⟨u1,h3.later b.1 u3⟩;have s:=h3.grow b u2;simp -dsimp[t1,t4,w1];exact⟨⟨i+1,Q3,rfl,by rw[m];exact q,s⟩,Q3⟩
   .rintro T Mi ⟨h3,b⟩;generalize a:T 3=v3 at*;simp -dsimp[a];exact⟨_,h3.own,b,h3.lat,rfl⟩
  refine(A0c.stillE (e:=31) (sz:=8) (enc:=A0a.row) (P:=λE=>E=A2j u) A0a.row_len (λn x=>A1F n x) key).mono ?_;rintro v M' ⟨E,rfl,h,rfl⟩;exact⟨by rw[A3h],h⟩
termination_by u=>SizeOf.sizeOf u
end
def bpL(p:List (EnD×List A0L)):List Int:=0::p.flatMap λq=>A5Q q.2
def D1P(l:List A1p):A5j l=A2X (A7A (bpL (A2n l))):=rfl
def C5S(p:List (EnD×List A0L))(d:EnD)(a:List A0L):bpL (p++[(d,a)])=bpL p++A5Q a:=by simp[bpL]
def BpJ(M0:Mem)(b:Nat)(M:Mem)(p:List (EnD×List A0L)):Prop:=∃v,M[b]?=some (.cells 100 [v])/\A1r 3 1 A4e M v (bpL p)/\(∀f,obj v=some f->M0.length<=f/\f≠b)/\Grow M0 M/\(bpL p).length<=p.length*1048578+1
def BpJ.keep{M0:Mem}{b:Nat}{M M':Mem}{p:List (EnD×List A0L)}(h:BpJ M0 b M p)(hg:Grow M M'):BpJ M0 b M' p:=by obtain⟨v,h1,h2,h3,h4,h5⟩:=h;exact⟨v,hg.get h1 Q1,h2.keep hg Q1,h3,h4.trans hg,h5⟩
def C8F{l:List A0L}(h:A5S l):(A5Q l).length<=1048578:=by have h1:=A4U (A7N h.asc');have h2:=C8S (A3J l);show((A3J l).flatMap B0Y).length<=_;omega
def pre_still{M:Mem}{n:Nat}{v:AV}{l:List Int}(h:Pre 3 1 A4e M v l)(hn:A1L n v):Still M n (bdd n) [v] [.list 1 (A4X l) .no]:=by
 rcases h with⟨rfl,rfl⟩|⟨f,g,c,cs,m,rfl,hm,hc,hl,b⟩
 .exact .nilS .nil
 .refine .vec (hn f rfl) hm hl b (by simp[A4X]) (λr hr=>?_) ?_ .nil
  .obtain⟨z,_,rfl⟩:=Z0C.1 hr;rfl
  .rw[hc];(have:(A4X l).flatten=l.flatMap A4e:=by simp[A4X,List.flatMap];rfl);rw[this];clear hc hl b this hn;induction l with
   |nil=>exact .nil
   |cons a l ih=>exact .same trivial ih
section
variable (gl:Nat->AV)
set_option maxHeartbeats 1000000 in
def D6c(M0:Mem)(b:Nat)(M:Mem)(p:List (EnD×List A0L))(d:EnD)(j:List A0L)(w:AV)(z:M0.length<=b)(hp:p.length<=1000)(hj:BpJ M0 b M p)(hw:SpN w j)(hn:A5S j):∃r M1,A2Z (WC gl) 60 [.agg d.row,w,.ptr b 0] M (λv M'=>v=r/\M'=M1)/\BpJ M0 b M1 (p++[(d,j)])/\C4p M M1:=by
 have t:∀M,A0c (WC gl) 61 [w] M (λv M'=>v=.list 1 (A4X (A5Q j)) .no/\M'=M):=λM=>D1K gl j w hw.toV M hn.asc' (by have:=A4U hn;omega)
 have a2:=C8F hn
 obtain⟨v,h1,h2,h3,h4,h5⟩:=hj
 have a3:b<M.length:=(Z0a.1 h1).1
 have y:obj v≠some b:=λe=>(h3 _ e).2 rfl
 have m:∀(K:AV->Mem->Prop) (tg:Tag K),(∀v' M',A1r 3 1 A4e M' v' (bpL p++A5Q j)->A0d (obj v) M M'->(obj v'=obj v\/A1L M.length v')->K v' M')->A3s (WC gl) false true 100 100 v (.list 1 (A4X (A5Q j)) .no) M K tg:=by intro K tg hK;refine A3B (C:=WC gl) (enc:=A4e) (e:=3) (sz:=1) (news:=A5Q j) B0M B4F D0y (λ_=>rfl) h2 (by simp[A0D,A4X,List.flatMap];rfl) Q0 rfl ?_;intro v' M' x1 x2 x3 _;exact hK v' M' x1 x2 x3
 obtain⟨v',M',⟨x1,x2,x3⟩,s⟩:=B8k (m (λv' M'=>A1r 3 1 A4e M' v' (bpL p++A5Q j)/\A0d (obj v) M M'/\(obj v'=obj v\/A1L M.length v')) ⟨⟩ (λv' M' a b c=>⟨a,b,c⟩))
 have l:M'[b]?=some (.cells 100 [v]):=x2.get h1 y
 have a0:M'[b]?=M[b]?:=by rw[l,h1]
 have n:b<M'.length:=(Z0a.1 l).1
 have hs:A0k (some 1) M' (.ptr b 0) v'=some (M'.set b (.cells 100 [v'])):=by rw[A0f l,x1.store,x1.cells];simp[A0e]
 have q:∀f,obj v'=some f->M0.length<=f/\f≠b:=λf hf=>by
  rcases x3 with x3|x3
  .exact h3 f (x3▸hf)
  .have:=x3 f hf;have:=h4.1;omega
 refine⟨.tuple [],M'.set b (.cells 100 [v']),A0l func60 rfl rfl ?_,⟨v',by simp[n],?_,q,?_,?_⟩,?_⟩
 .refine A0r (hQ [8]) func60 ?_;rw[EnD.row_all];simp -dsimp;refine A7r (hQ [8]) (A0B gl) (λk=>if k=0 then 1 else if k=3\/k=4 then 2 else 0) (λ_=>b) (λ_ k=>k==4) (λk=>if k=4 then[]else[b]) (by intro i k _ h;have:k≠4:=ZAJ;simp[this]) (by rfl) Q2 ?_;simp -dsimp[A0b h1,A1e,A5t];refine A1k (λM=>A0l func61 rfl rfl (t M)) ?_;simp -dsimp;refine s _ _ ?_;simp -dsimp[hs,a0]
 .rw[C5S];exact x1.keep (o:=some b) (A0d.set _ _ _) (λf hf e=>by have:=q f hf;simp at e;omega)
 .refine A0w ⟨Z0J h4.1 x2.1,λi hi _=>?_⟩ z;rw[x2.2 i (Z0S hi h4.1) (λe=>by have:=h3 _ e;omega)];exact h4.2 i hi Q1
 .rw[C5S,Z0k,Z0k];simp only[Z0r,Z1p];omega
 .refine⟨by simpa using x2.1,λb' es c hm=>?_⟩;have u:b'≠b:=λe=>by subst e;rw[h1]at hm;simp at hm
  rw[Z0f (λe=>u e.symm)];refine x2.get hm (λe=>?_);rcases h2 with⟨rfl,_⟩|⟨f',g,a1,rfl,x,_⟩
  .simp at e
  .simp at e;subst e;rw[x]at hm;simp at hm
def C9Q(l:List A1p)(M:Mem)(h1:l.length<=100)(h2:(l.flatMap A1p.acts).length<=1000)(h3:((A2M l).flatMap A0Y.items).length<=90):A0c (WC gl) 45 [.list 4 (A2f l) .no] M (λv M'=>v=.list 1 (A4X (A5j l)) .no/\M'=M):=by
 refine A0c.dataX ?_
 have s:(A3d l).length<=90:=by
  have e:∀L:List A0Y,(L.flatMap A1I).length=(L.flatMap A0Y.items).length:=λL=>by
   induction L with
   |nil=>rfl
   |cons a L ih=>simp only[Z0y,Z0k,ih,A8d]
  simp only[A3d,Z0W,e];exact h3
 have t:(A2n l).length<=90:=by have:=Z1q (λd:EnD=>A1a d.kind) (A3d l);simp only[A2n,Z0W];omega
 obtain⟨M1,b⟩:=ex (M++[A0m.vec 3 1 [I 0] 0 [(0,1)],A0m.cells 100 [.vref M.length 0 1 0 1]])
 have m:M1[M.length+1]?=some (.cells 100 [.vref M.length 0 1 0 1]):=by rw[b];simp[Z0Z]
 have c:M1[M.length]?=some (A0m.vec 3 1 [I 0] 0 [(0,1)]):=by rw[b];simp
 have j:Grow M M1:=ZCN
 have hj:BpJ M (M.length+1) M1 []:=⟨_,m,.inr ⟨M.length,0,[(0,1)],rfl,by rw[c];rfl,by simp[List.lookup,bpL]⟩,λf hf=>by simp at hf;omega,j,by simp[bpL]⟩
 have hc:=B8l gl 90 Q0 60 [.ptr (M.length+1) 0] (BpJ M (M.length+1)) (λ_ _ _ h hg=>h.keep hg) (λM1 p d days v hp hj hv hn=>D6c gl M (M.length+1) M1 p d days v Q0 Q0 hj hv hn) l M1 h1 h2 h3 hj
 have g:A1C prog 100 1 [(0,I 0)] M=some (.vref M.length 0 1 0 1,M++[.vec 3 1 [I 0] 0 [(0,1)]]):=by simp[A1C,A1g,AV.storable,AV.cells]
 have n:A0k (some 1) (M++[A0m.vec 3 1 [I 0] 0 [(0,1)],A0m.cells 100 [.val (.slice none 0 0)]]) (.ptr (M.length+1) 0) (.vref M.length 0 1 0 1)=some M1:=by
  have:(M++[A0m.vec 3 1 [I 0] 0 [(0,1)],A0m.cells 100 [.val (.slice none 0 0)]])[M.length+1]?=some (.cells 100 [.val (.slice none 0 0)]):=by simp[Z0Z]
  rw[A0f this,b];simp[AV.storable,AV.cells,A0e]
 refine A0r (hQ [4]) func45 ?_
 simp -dsimp[A0j,g,n]
 refine A0s (A0l func29 rfl rfl hc) ?_
 rintro _ M2 ⟨v,k1,k2,k3,k4,k5⟩
 have k:obj v≠some (M.length+1):=λe=>(k3 _ e).2 rfl
 simp -dsimp[A0b k1]
 refine A0s (A0l func62 rfl rfl (C5l gl _ v M2 k2 Q0)) ?_
 rintro _ M3 ⟨o3,b3⟩
 have o:=b3.get k1 k
 have q:=(A3g (bpL (A2n l))).length_eq
 simp -dsimp[A0b o]
 refine A0s (A0l func63 rfl rfl (C3x gl _ v M3 o3 Q0)) ?_
 rintro r M4 ⟨p4,b4,o4⟩
 simp -dsimp
 have gr:∀{A B:Mem},Grow M A->A0d (obj v) A B->Grow M B:=λ{A B} h1 h2=>⟨Z0J h1.1 h2.1,λi hi _=>by rw[h2.2 i (Z0S hi h1.1) (λe=>by have:=(k3 _ e).1;omega)];exact h1.2 i hi Q1⟩
 exact⟨gr (gr k4 b3) b4,pre_still p4 (λf hf=>(k3 f (o4 f hf)).1)⟩
end
def hAl:A2r:=⟨λd=>d !=2,λ_=>false,λd=>d==38⟩
@[simp] def E3e:hAl.imm=λd=>d !=2:=(rfl)
@[simp] def E2U:hAl.own=λ_=>false:=(rfl)
@[simp] def E4G:hAl.vec=λd=>d==38:=(rfl)
structure A6v where
 act:Int
 item:Int
 why:Int
def A6v.row(r:A6v):List AV:=[I r.act,I r.item,I r.why]
def A6n(l:List A6v):List (List AV):=l.map A6v.row
def A5s(ap:A0a->EnD->A0a×Int)(s:A0a×List A6v)(d:EnD):A0a×List A6v:=if A1a d.kind=true then((ap s.1 d).1,if(ap s.1 d).2=0 then s.2 else s.2++[⟨d.act,d.item,(ap s.1 d).2⟩])else s
def A1M(ap:A0a->EnD->A0a×Int)(u:A0a)(ds:List EnD):A0a×List A6v:=ds.foldl (A5s ap) (u,[])
def A2x:A0a:=.mk ⟨0,0,0⟩ 0 ⟨#[]⟩ [] [] []
section
variable (gl:Nat->AV)
set_option maxHeartbeats 1000000 in
def C5B(ap:A0a->EnD->A0a×Int)(P:A0a->Prop)(u:A0a)(ds:List EnD)(M:Mem)
 (au:∀u,P u->∀d∈ds,A1a d.kind=true->(∀M,A0c (WC gl) 59 [.agg u.row,.agg d.row] M (λv M'=>v=.tuple [.agg (ap u d).1.row,I (ap u d).2]/\M'=M))/\P (ap u d).1)
 (hu:P u)(hl:ds.length<=1000000):
 A0c (WC gl) 41 [.agg u.row,.list 28 (A2L ds) .no] M (λv M'=>v=.tuple [.agg (A1M ap u ds).1.row,.list 3 (A6n (A1M ap u ds).2) .no]/\M'=M):=by
 refine A1N (λn=>?_) ?_
 .simp only[bdd,A1i,Z1A];refine⟨A1F n _,?_⟩;generalize(A1M ap u ds).2=L;induction L with
  |nil=>simp[A6n,A4n]
  |cons w l ih=>simp only[A6n,Z0x,A4n]at ih|-;exact⟨by simp[A6v.row,A1i,bdd],ih⟩
 refine A0r hAl func41 ?_
 simp -dsimp[A0j]
 obtain⟨z,hz⟩:=ex ([AV.val (Value.int IntKind.i64 0),AV.val (Value.int IntKind.i64 0),AV.val (Value.int IntKind.i64 0),AV.val (Value.int IntKind.i64 0),AV.val (Value.string {data:=#[]}),AV.val (Value.slice none 0 0),AV.val (Value.slice none 0 0),AV.val (Value.slice none 0 0)]:List AV)
 have aw:z.length=8:=by rw[hz];rfl
 rw[<-hz]
 obtain⟨N,hN⟩:=ex (M++[A0m.cells 31 u.row,A0m.cells 31 z])
 have bl:N.length=M.length+2:=ZCS
 have b9:N[M.length]?=some (.cells 31 u.row):=ZCS
 have bg:N[M.length+1]?=some (.cells 31 z):=ZCS
 have b7:Grow M N:=ZAL
 rw[<-hN]
 obtain⟨S,hS⟩:∃S:Nat->A0a×List A6v,S=λi=>(ds.take i).foldl (A5s ap) (u,[]):=⟨_,rfl⟩
 have az:∀i (hi:i<ds.length),S (i+1)=A5s ap (S i) ds[i]:=λi hi=>by rw[hS];simp only[Z0z,Z0g hi,Z0T,Z1X,Z1U,List.foldl_nil]
 have bc:∀i,i<=ds.length->(S i).2.length<=i:=λi=>by
  induction i with
  |zero=>intro _;rw[hS];simp
  |succ i ih=>
   intro h;have:=ih Q0;rw[az i Q0,A5s];split
   .simp only;split
    .omega
    .simp only[Z0k,Z0r,Z1p];omega
   .omega
 have an:S 0=(u,[]):=by rw[hS];rfl
 have bb:A1M ap u ds=S ds.length:=by rw[hS,A1M];simp
 rw[bb]
 refine B2Y (.exit 0) (λT Mi=>T 2=.ptr M.length 0/\T 4=.ptr (M.length+1) 0/\Arr 85 3 A6v.row N.length Mi (T 6) (S ds.length).2/\Mi[M.length]?=some (.cells 31 (S ds.length).1.row)/\Mi[M.length+1]?=some (.cells 31 z)/\Grow M Mi/\N.length<=Mi.length) ?_ ?_
 .refine A1y hAl ds.length 13 (λT Mi=>∃i:Nat,i<=ds.length/\T 2=.ptr M.length 0/\T 4=.ptr (M.length+1) 0/\T 11=.list 28 (A2L ds) .no/\T 12=I ds.length/\T 13=I i/\Arr 85 3 A6v.row N.length Mi (T 6) (S i).2/\Mi[M.length]?=some (.cells 31 (S i).1.row)/\Mi[M.length+1]?=some (.cells 31 z)/\Grow M Mi/\N.length<=Mi.length/\P (S i).1) ?_ ?_
  .exact⟨0,Q0,Q1,Q1,Q1,Q1,Q1,by rw[an];simpa using Arr.nil,by rw[an];exact b9,bg,b7,Z0j _,by rw[an];exact hu⟩
  rintro T Mi ⟨i,i1,t2,t4,a1,t,s,h6,hb,a3,hg,ab,hP⟩;generalize a8:T 6=v6 at*;by_cases hi:i<ds.length;case neg=>have ai:¬(i:Int)<ds.length:=Q0;obtain rfl:i=ds.length:=Q0;simp -dsimp[t2,t4,a1,t,s,ai,a8];exact⟨h6,hb,a3,hg,ab⟩
  have ai:(i:Int)<ds.length:=Q0;have w1:=A6S (i:=i) Q0;have a9:=az i hi;have bk:=bc i i1;obtain⟨d,hd⟩:=ex (ds[i]);have b1:=A6N hi;have ae:d∈ds:=by rw[hd];exact Z0s hi
  rw[<-hd]at b1 a9;obtain⟨q,hq⟩:=ex (Mi.length);obtain⟨M3,am⟩:=ex (Mi++[A0m.cells 55 d.row]);have ac:M3[q]?=some (.cells 55 d.row):=by rw[am,hq];simp
  have j:Grow Mi M3:=by rw[am];exact A0d.app none _ _
  have b8:A0E prog 3 M3 (.ptr q 3)=some (I d.it.h.kind):=by rw[A0b ac,EnD.row_all];simp
  have bd:A0E prog 55 M3 (.ptr q 0)=some (.agg d.row):=by rw[A0b ac];simp[A0p]
  have al:=j.get hb Q1;have ah:A0E prog 31 M3 (.ptr M.length 0)=some (.agg (S i).1.row):=by rw[A0b al];simp[A0p,A0a.row_len]
  have aj:=h6.keep j;simp -dsimp[-A1d,t2,t4,a1,t,s,hi,ai,b1,A0j,A0k,A0e,A0o,A0n];rw[<-hd,<-am,<-hq];simp -dsimp[b8];refine A0g func51 (A9A gl d.it.h.kind M3) ?_;cases hk:A1a d.it.h.kind
  .rw[A5s,Z0d (by simp[EnD.kind,hk])]at a9;simp -dsimp[t2,t4,a1,t,s,a8,w1];have a:S (i+1)=S i:=a9;have bh:N.length<=M3.length:=Z0J ab j.1;exact⟨⟨i+1,Q3,rfl,by rw[a];exact aj,by rw[a];exact al,j.get a3 Q1,hg.trans j,bh,by rw[a];exact hP⟩,Q3⟩
  simp -dsimp[t2,ah,bd];refine A0g func59 ((au _ hP d ae hk).1 M3) ?_;obtain⟨y,hy⟩:=ex (ap (S i).1 d);have aq:=(au _ hP d ae hk).2;rw[<-hy]at aq;have a:S (i+1)=(y.1,if y.2=0 then(S i).2 else(S i).2++[⟨d.act,d.item,y.2⟩]):=by rw[a9,A5s,Z0c (by simp[EnD.kind,hk]),<-hy]
  rw[<-hy];obtain⟨x,hx⟩:=ex (M3.length);obtain⟨M4,ag⟩:=ex (M3++[A0m.cells 31 y.1.row]);have b4:M4[x]?=some (.cells 31 y.1.row):=by rw[ag,hx];simp
  have a2:Grow M3 M4:=by rw[ag];exact A0d.app none _ _
  have a5:=j.trans a2;have p:=a2.get al Q1;have b0:=a5.get a3 Q1;have m:=aj.keep a2;have ak:N.length<=M4.length:=Z0J ab a5.1;have ba:A0E prog 3 M4 (.ptr q 0)=some (I d.act):=by rw[A0b (a2.get ac Q1),EnD.row_all];simp
  have bj:A0E prog 3 M4 (.ptr q 1)=some (I d.item):=by rw[A0b (a2.get ac Q1),EnD.row_all];simp
  have be:A0E prog 31 M4 (.ptr x 0)=some (.agg y.1.row):=by rw[A0b b4];simp[A0p,A0a.row_len]
  have g:=hg.trans a5;simp -dsimp[-A1d,A0j,A0k,A0e,A0o,A0n,A0a.row_len];rw[<-ag,<-hx];have ad:∀Q:Mem,Q[M.length]?=some (.cells 31 (S i).1.row)->A0k (some 8) Q (.ptr M.length 0) (.agg y.1.row)=some (Q.set M.length (.cells 31 y.1.row)):=λQ h=>by rw[A0f h,A0n,Z0c ⟨A0o,ZCY,ZCY⟩];have e1:=A0a.row_len y.1;have e2:=A0a.row_len (S i).1;simp[A0e,e1,e2,Z0v]
  by_cases h0:y.2=0
  .rw[Z0c h0]at a;obtain⟨M5,b⟩:=ex (M4.set M.length (.cells 31 y.1.row));have c:=ad M4 p;rw[<-b]at c;have a4:M.length<M4.length:=(Z0a.1 p).1;simp -dsimp[t2,h0,be,c,t4,a1,t,s,a8,w1];(have ar:A0d (some M.length) M4 M5:=by rw[b];exact A0d.set _ _ _);exact⟨⟨i+1,Q3,rfl,by rw[a];exact⟨m.own.keep (o:=some M.length) ar (λf hf e=>by have:=m.lat f hf;simp at e;omega),m.lat⟩,by rw[a,b];simp[a4],ar.get b0 Q1,by rw[b];exact A0w g (Z0j _),by rw[b];simpa using ak,by rw[a];exact aq⟩,Q3⟩
  .rw[Z0d h0]at a;have b6:A0A prog 85 [(0,I d.act),(1,I d.item),(2,I y.2)]=some (.agg [I d.act,I d.item,I y.2]):=Q2;simp -dsimp[t2,h0,ba,bj,a8];rw[b6];simp -dsimp[A0x,A1g];refine A3B (C:=WC gl) (enc:=A6v.row) (e:=85) (sz:=3) (news:=[⟨d.act,d.item,y.2⟩]) D9K E1Y E2a (λ_=>rfl) m.own (by simp[A0D,A6v.row]) ZCH rfl ?_;intro v' M5 x1 x2 x3 _;(have af:∀k,k<N.length->obj v6≠some k:=λk hk e=>by have:=m.lat _ e;omega);have aa:=x2.get p (af _ Q0);(have b3:A0E prog 31 M5 (.ptr x 0)=some (.agg y.1.row):=by rw[A0b (x2.get b4 (λe=>by have:=aj.own.lt e;omega))];simp[A0p,A0a.row_len]);obtain⟨M6,a6⟩:=ex (M5.set M.length (.cells 31 y.1.row));have c:=ad M5 aa;rw[<-a6]at c;have a4:M.length<M5.length:=(Z0a.1 aa).1;(have b2:A0d (some M.length) M5 M6:=by rw[a6];exact A0d.set _ _ _);have ao:Grow M M5:=⟨Z0J g.1 x2.1,λk hk _=>(x2.2 k (Z0S hk g.1) (af k Q0)).trans (g.2 k hk Q1)⟩;have a0:=m.later ak x3;simp -dsimp[t2,t4,a1,t,s,w1,b3,c];exact⟨⟨i+1,Q3,rfl,by rw[a];exact⟨x1.keep (o:=some M.length) b2 (λf hf e=>by have:=a0 f hf;simp at e;omega),a0⟩,by rw[a,a6];simp[a4],b2.get (x2.get b0 (af _ Q0)) Q1,by rw[a6];exact A0w ao (Z0j _),by rw[a6];simpa using Nat.le_trans ak x2.1,by rw[a];exact aq⟩,Q3⟩
 rintro T Mi ⟨t2,t4,h6,hb,a3,hg,ab⟩
 refine⟨N.length,T.put (some 6) (.list 3 (A6n (S ds.length).2) .no),A6W (A7k T) (Still.rows (λ_=>rfl) (λ_ _ _=>trivial) h6.own h6.lat .nil),?_⟩
 obtain⟨N2,ax⟩:=ex (Mi.take N.length)
 have b5:N2.length=N.length:=by rw[ax,Z0t];omega
 have a7:∀k,k<N.length->N2[k]?=Mi[k]?:=λk hk=>by rw[ax,Z0B,Z0c hk]
 have bf:Grow N2 Mi:=⟨Q0,λk hk _=>(a7 k Q0).symm⟩
 have r:=A5c bf
 rw[b5]at r
 generalize A3y Mi N.length=M2 at*
 have bi:M2[M.length]?=some (.cells 31 (S ds.length).1.row):=r.get ((a7 _ Q0).trans hb) Q1
 have av:M2[M.length+1]?=some (.cells 31 z):=r.get ((a7 _ Q0).trans a3) Q1
 have ay:Grow M M2:=⟨by have:=r.1;omega,λk hk _=>by rw[r.2 k Q0 Q1,a7 k Q0];exact hg.2 k hk Q1⟩
 have ah:A0E prog 31 M2 (.ptr M.length 0)=some (.agg (S ds.length).1.row):=by rw[A0b bi];simp[A0p,A0a.row_len]
 obtain⟨M5,b⟩:=ex (M2.set (M.length+1) (.cells 31 (S ds.length).1.row))
 have c:A0k (some 8) M2 (.ptr (M.length+1) 0) (.agg (S ds.length).1.row)=some M5:=by rw[A0f av,A0n,Z0c ⟨A0o,by simp[A0a.row_len,aw],ZCY⟩,b];have e1:=A0a.row_len (S ds.length).1;simp[A0e,e1,aw,Z0v]
 have a4:M.length+1<M2.length:=(Z0a.1 av).1
 have aa:M5[M.length+1]?=some (.cells 31 (S ds.length).1.row):=by rw[b];simp[a4]
 have ao:Grow M M5:=by rw[b];exact A0w ay Q0
 simp -dsimp[t2,t4,Env.put_some,ah,c]
 simp -dsimp[A2g,aa,A0p,A0a.row_len,ao]
def B9p(M:Mem):A0c (WC gl) 42 [] M (λv M'=>v=.agg A2x.row/\M'=M):=by have a:A0A prog 31 [(1,AV.val (Value.int IntKind.i64 0))]=some (.agg zU):=Q2;refine A0c.dataX ?_;refine A0r hB func42 ?_;simp -dsimp[A0j,A0k,A0e,A0o,A0n];rw[a];simp -dsimp[A0j,A0k,A0e,A0o,A0n,zU,A2g,A0p];refine⟨A0d.app none _ _,?_⟩;rw[A2x,A0a.row_eq,A3h];exact .agg (.same trivial (.same trivial (.same trivial (.same trivial (.same trivial ((A3G.still (e:=4) (enc:=A0z.row) (l:=[]) (.inr Arr.nil) (λ_=>rfl) A4H) ((A3G.still (e:=4) (enc:=A0z.row) (l:=[]) (.inr Arr.nil) (λ_=>rfl) A4H) ((A3G.still (e:=31) (enc:=A0a.row) (l:=[]) (.inr Arr.nil) A0a.row_len A1F) .nil)))))))) .nil
def B4r(day:Int)(purpose:ByteArray)(l:List A1p)(M:Mem)(h1:l.length<=100)(h2:(l.flatMap A1p.acts).length<=1000)(h3:((A2M l).flatMap A0Y.items).length<=1000000):A0c (WC gl) 19 [I day,S purpose,.list 4 (A2f l) .no] M (λv M'=>v=.list 28 (A2L (onD day purpose l)) .no/\M'=M):=by
 refine A0r hB func19 ?_
 simp -dsimp
 refine A0g func14 (D4F gl day purpose l M h1 h2 h3) ?_
 simp -dsimp
end
def C2k(gl:Nat->AV)(ap:A0a->EnD->A0a×Int)(P:A0a->Prop)(ds:List EnD):Prop:=∀u,P u->∀d∈ds,A1a d.kind=true->(∀M,A0c (WC gl) 59 [.agg u.row,.agg d.row] M (λv M'=>v=.tuple [.agg (ap u d).1.row,I (ap u d).2]/\M'=M))/\P (ap u d).1
section
variable (gl:Nat->AV)
def B5O(n:Nat)(u:A0a)(L:List A6v):bdd n (.tuple [.agg u.row,.list 3 (A6n L) .no]):=by
 simp only[bdd,A1i,Z1A];refine⟨A1F n _,?_⟩;induction L with
 |nil=>simp[A6n,A4n]
 |cons w l ih=>simp only[A6n,Z0x,A4n]at ih|-;exact⟨by simp[A6v.row,A1i,bdd],ih⟩
def B7i(ap:A0a->EnD->A0a×Int)(P:A0a->Prop)(ds:List EnD)(M:Mem)(g:C2k gl ap P ds)(hu:P A2x)(hl:ds.length<=1000000):A0c (WC gl) 20 [.list 28 (A2L ds) .no] M (λv M'=>v=.tuple [.agg (A1M ap A2x ds).1.row,.list 3 (A6n (A1M ap A2x ds).2) .no]/\M'=M):=by
 refine A1N (λn=>B5O n _ _) ?_
 obtain⟨z,hz⟩:=ex ([AV.val (Value.int IntKind.i64 0),AV.val (Value.int IntKind.i64 0),AV.val (Value.int IntKind.i64 0),AV.val (Value.int IntKind.i64 0),AV.val (Value.string {data:=#[]}),AV.val (Value.slice none 0 0),AV.val (Value.slice none 0 0),AV.val (Value.slice none 0 0)]:List AV)
 have d:z.length=8:=by rw[hz];rfl
 obtain⟨N,hN⟩:=ex (M++[A0m.cells 31 z])
 have b:N[M.length]?=some (.cells 31 z):=ZCS
 have k:Grow M N:=ZAL
 have e:M.length<N.length:=(Z0a.1 b).1
 have c:=C5B gl ap P A2x ds N g hu hl
 generalize A1M ap A2x ds=R at*
 obtain⟨M5,a⟩:=ex (N.set M.length (.cells 31 R.1.row))
 have f:A0k (some 8) N (.ptr M.length 0) (.agg R.1.row)=some M5:=by rw[A0f b,A0n,Z0c ⟨A0o,by simp[A0a.row_len,d],ZCY⟩,a];simp[A0e,A0a.row_len,d,Z0v]
 have j:M5[M.length]?=some (.cells 31 R.1.row):=by rw[a];simp[e]
 have i:Grow M M5:=by rw[a];exact A0w k (Z0j _)
 refine A0r hB func20 ?_
 simp -dsimp[-A1d,A0j]
 rw[<-hz,<-hN]
 refine A0g func42 (B9p gl N) ?_
 simp -dsimp
 refine A0g func41 c ?_
 simp -dsimp[f]
 simp -dsimp[A2g,j,A0p,A0a.row_len,i]
def D6t(ap:A0a->EnD->A0a×Int)(P:A0a->Prop)(day:Int)(purpose:ByteArray)(l:List A1p)(M:Mem)(j:C2k gl ap P (onD day purpose l))(hu:P A2x)(hl:(onD day purpose l).length<=1000000)
 (h1:l.length<=100)(h2:(l.flatMap A1p.acts).length<=1000)(h3:((A2M l).flatMap A0Y.items).length<=1000000):
 A0c (WC gl) 8 [I day,S purpose,.list 4 (A2f l) .no] M (λv M'=>v=.agg (A1M ap A2x (onD day purpose l)).1.row/\M'=M):=by
 refine A1N (λn=>A1F n _) ?_
 have d:=λM=>B4r gl day purpose l M h1 h2 h3
 have i:=λM=>B7i gl ap P (onD day purpose l) M j hu hl
 generalize A1M ap A2x (onD day purpose l)=R at*
 refine A0r hB func8 ?_
 simp -dsimp[-A1d,A0j]
 refine A0g func19 (d _) ?_
 simp -dsimp
 refine A0g func20 (i _) ?_
 simp -dsimp[A0j,A0k,A0e,A0o,A0n,A0a.row_len,A2g,A0p]
 obtain⟨z,hz⟩:=ex ([AV.val (Value.int IntKind.i64 0),AV.val (Value.int IntKind.i64 0),AV.val (Value.int IntKind.i64 0),AV.val (Value.int IntKind.i64 0),AV.val (Value.string {data:=#[]}),AV.val (Value.slice none 0 0),AV.val (Value.slice none 0 0),AV.val (Value.slice none 0 0)]:List AV)
 have c:z.length=8:=by rw[hz];rfl
 rw[<-hz]
 obtain⟨N,hN⟩:=ex (M++[A0m.cells 31 z,A0m.cells 31 R.1.row])
 have b:N[M.length]?=some (.cells 31 z):=ZCS
 have e:N[M.length+1]?=some (.cells 31 R.1.row):=ZCS
 have p:Grow M N:=ZAL
 have f:M.length<N.length:=(Z0a.1 b).1
 obtain⟨M5,a⟩:=ex (N.set M.length (.cells 31 R.1.row))
 have g:A0k (some 8) N (.ptr M.length 0) (.agg R.1.row)=some M5:=by rw[A0f b,A0n,Z0c ⟨A0o,by simp[A0a.row_len,c],ZCY⟩,a];simp[A0e,A0a.row_len,c,Z0v]
 have o:M5[M.length]?=some (.cells 31 R.1.row):=by rw[a];simp[f]
 have k:Grow M M5:=by rw[a];exact A0w p (Z0j _)
 have m:A0E prog 31 N (.ptr (M.length+1) 0)=some (.agg R.1.row):=by rw[A0b e];simp[A0p,A0a.row_len]
 rw[<-hN]
 simp -dsimp[m,g]
 simp -dsimp[A2g,o,A0p,A0a.row_len,k]
end
def D7M:∃e,A8r prog 162=some (3,e)/\A9n prog e=some (.val .nilFunc)/\B2z prog 162 3 e I:=by refine⟨160,Q2,Q2,B9y 162 160 Q2⟩
def doE:List (AV×AV×Nat):=[(I 0,fnV 114,0),(I 1,fnV 115,1),(I 2,fnV 116,2),(I 3,fnV 117,3),(I 4,fnV 118,4),(I 5,fnV 119,5),(I 6,fnV 120,6)]
def doL:List (Int×FuncId):=[(0,114),(1,115),(2,116),(3,117),(4,118),(5,119),(6,120)]
def D7e{M:Mem}{b:Nat}(h:M[b]?=some (.map doE 7))(k:Int):A1Y prog 162 M (.mapr b) (I k) true=some (.tuple [match A5i doL k with|some g=>fnV g|none=>.val .nilFunc,B (A1a k)]):=by
 obtain⟨e,_,hz,hk⟩:=D7M;have hm:A3n I fnV M b doL:=⟨doE,7,h,rfl⟩;rw[hm.get hk k hz true];by_cases h0:k=0
 .subst h0;rfl
 by_cases h1:k=1
 .subst h1;rfl
 by_cases h2:k=2
 .subst h2;rfl
 by_cases h3:k=3
 .subst h3;rfl
 by_cases h4:k=4
 .subst h4;rfl
 by_cases h5:k=5
 .subst h5;rfl
 by_cases h6:k=6
 .subst h6;rfl
 have ha:A1a k=false:=by rw[Z3D];intro hc;simp only[A1a,Z0h,Z0n]at hc;omega
 simp[A5i,doL,h0,h1,h2,h3,h4,h5,h6,ha]
def B3b{k:Int}{v:AV}{es:List (AV×AV×Nat)}{c:Nat}{M:Mem}(h4:A2Q prog 3 (I k) es=some none):A2b prog 162 (M++[.map es c]) (.mapr M.length) (I k) v=some (M++[.map (es++[(I k,v,c)]) (c+1)]):=by obtain⟨e,a,_,_⟩:=D7M;exact C2L (kt:=3) (et:=e) a Q2 rfl h4
section
variable (gl:Nat->AV)
def D4V(M:Mem):A0c (WC gl) 97 [] M (λv M'=>v=.mapr M.length/\M'=M++[.map doE 7]):=by refine A0r hB func97 ?_;simp -dsimp;rw[B3b Q2];simp -dsimp;rw[B3b Q2];simp -dsimp;rw[B3b Q2];simp -dsimp;rw[B3b Q2];simp -dsimp;rw[B3b Q2];simp -dsimp;rw[B3b Q2];simp -dsimp;rw[B3b Q2];simp -dsimp;rfl
end
end Go.Abs
