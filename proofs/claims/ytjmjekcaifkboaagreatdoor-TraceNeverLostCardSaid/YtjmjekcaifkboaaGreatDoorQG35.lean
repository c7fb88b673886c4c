/- The texts EiH, EjF, EjG, EjH, EjI, EjJ, EjK, EnA, EnL, EkA, EkB, EkC, EkD, EnB, EnC, EnD, EnE, EnF, EnG, EnM. -/
import Derived.Test.YtjmjekcaifkboaaGreatDoorQG34
import Derived.Test.YtjmjekcaifkboaaGreatDoorQG32
import Derived.Test.YtjmjekcaifkboaaGreatDoorQG31
import Derived.Test.YtjmjekcaifkboaaGreatDoorQG29
import Derived.Test.YtjmjekcaifkboaaGreatDoorQG23
set_option linter.all false
set_option maxRecDepth 100000
namespace Go.Abs
open Go.Proofs TryTypes Tryz
def B4D{x:A0H}(h:A2E x=true):A1T x.h.at_=true:=by simp only[A2E,Z0h]at h;exact h.1.1.2.1.1
def B8L{x:A0H}(h:A2E x=true):A7O x.h=true:=by simp only[A2E,Z0h]at h;exact h.2
def D2k{k:Int}(h:A1a k=true):k=0\/k=1\/k=2\/k=3\/k=4\/k=5\/k=6:=by simp only[A1a,Z0h,Z0n]at h;omega
section
variable {h:A1W} (hm:A7O h=true)
include hm
def E1S(hk:h.kind=0):(0<=h.where_/\h.where_<=3)/\B2w h.unit=true:=by unfold A7O at hm;rw[Z0c hk]at hm;simp only[inB,Z0h,Z0n]at hm;exact hm
def E1X(hk:h.kind=2):A4b h.old 1=true/\A4b h.new 0=true/\0<=h.nth:=by simp only[A7O,hk]at hm;simp[inB]at hm;exact⟨hm.1.1,hm.1.2,hm.2.1⟩
def E1U(hk:h.kind=3):A4b h.old 0=true/\A4b h.new 1=true/\0<=h.nth/\(h.old=[]->h.nth=0):=by
 simp only[A7O,hk]at hm;simp[inB]at hm;refine⟨hm.1.1.1,hm.1.1.2,hm.1.2.1,λe=>?_⟩;rcases hm.2 with h|h
 .exact absurd (congrArg List.length e) (by simp;intro e2;simp[e2]at h)
 .exact h
def E6x(hk:h.kind=4):A4b h.new 0=true:=by simp only[A7O,hk]at hm;simpa using hm
def E5x(hk:h.kind=5):A1z h.lab=true:=by simp only[A7O,hk]at hm;simpa using hm
def E1J(hk:h.kind=6):(0<=h.where_/\h.where_<=3)/\A1T h.to=true:=by simp only[A7O,hk]at hm;simpa[inB]using hm
end
def D5o{l:List ByteArray}{n:Int}(h:n<=(l.length:Int))(hn:1<=n):l≠[]:=by rintro rfl;simp at h;omega
def C0c{u x p:A0a}{i:Nat}{d:EnD}(hs:A2m u)(hd:A6a d)(hx:A0N x.id u=some x)(hp:A5G x.id u p i)(hn:A4b d.it.h.new 0=true):A2m (A1A x.id (C0g (A2p d.act d.item 0 d.it.h.new)) u):=by
 obtain⟨s1,s2,_⟩:=B8n hn;have hw:=B7H hd.act hd.item d.it.h.new 0 s2 Q0;have hl:(A2p d.act d.item 0 d.it.h.new).length<=256:=by rw[A7f];exact s1
 exact B8F hs hx rfl rfl rfl (C8j (A3u u x hx hs.right) (C3A hs hp hx) (D2S hl hw)) (D0x (A6g u x hx hs.good) hl λw hq=>(hw w hq).2)
def C6P{u x:A0a}{d:EnD}(hs:A2m u)(hd:A6a d)(hv:A2E d.it=true)(hk:A1a d.kind=true)(h0:(A2c u d.it.h.at_).2=0)(hc:(A2c u d.it.h.at_).1≠u.id\/d.kind=0)(hx:A0N (A2c u d.it.h.at_).1 u=some x):A2m (A9T u x d).1:=by
 have hm:=B8L hv;have f:=(A2U hx).1;have g:=B4D hv;rw[<-f]at hx hc;have a:∀w∈x.words,okW w:=D5W (A4Y (A4S (A3u u x hx hs.right))).2.2 ((A0a.good_iff _).1 (A6g u x hx hs.good)).2.2.2.2.2.2.1;have c:x.words.length<=256:=(A5K (A4Y (A4S (A3u u x hx hs.right))).2.2).1;unfold A9T;simp only;rcases D2k hk with k|k|k|k|k|k|k<;>(have k:d.it.h.kind=_:=k)<;>rw[k]
 .simp only[Z1e];exact C1P hs hd g (E1S hm k).2
 all_goals
  have b:u.id≠x.id:=λe=>hc.elim (λh=>h e.symm) (λh=>by have h:d.it.h.kind=0:=h;omega)
  obtain⟨p,i,hp⟩:=C3s hs.ids hx b
 .simp only[Z1e,reduceIte,Int.reduceEq];exact(A9Z hs hp hx).1
 .simp only[Z1e,reduceIte,Int.reduceEq];obtain⟨m1,m2,m3⟩:=E1X hm k;obtain⟨s1,s2,_⟩:=B8n m2;exact B6l hs hx hp λhe=>C4x hd.act hd.item c s1 s2 a he
 .simp only[Z1e,reduceIte,Int.reduceEq];obtain⟨m1,m2,m3,m4⟩:=E1U hm k;obtain⟨s1,s2,_⟩:=B8n m2;exact B6l hs hx hp λhe=>C2r hd.act hd.item c s1 s2 a he
 .simp only[Z1e,reduceIte,Int.reduceEq];exact C0c hs hd hx hp (E6x hm k)
 .simp only[Z1e,reduceIte,Int.reduceEq];unfold A6w;rw[hp.parI];have j:A5W p.id u=p:=by simp[A5W,hp.find]
  simp only;rw[j];split
  .exact hs
  .rename_i e;exact D0o hs hp hx b (E5x hm k) e
 .simp only[Z1e,reduceIte,Int.reduceEq];exact C7v hs hp hx f.symm (E1J hm k).2
section
variable (gl:Nat->AV)
def C7R(c:gl 2=A1t){u x:A0a}{d:EnD}(hs:A2m u)(hd:A6a d)(hv:A2E d.it=true)(hk:A1a d.kind=true)(h0:(A2c u d.it.h.at_).2=0)(hc:(A2c u d.it.h.at_).1≠u.id\/d.kind=0)(hx:A0N (A2c u d.it.h.at_).1 u=some x)(M:Mem):A2Z (WC gl) (doF d.kind) [.agg u.row,.agg x.row,.agg d.row] M (λv M'=>v=.tuple [.agg (A9T u x d).1.row,I (A9T u x d).2]/\M'=M):=by
 have hm:=B8L hv
 have g:=(A2U hx).1
 have f:=B4D hv
 have m:x.words.length<=256:=(A5K (A4Y (A4S (A3u u x hx hs.right))).2.2).1
 have l:Fit x:=A7W u hs.fit x (A2U hx).2
 rw[<-g]at hx hc
 have a:=hd.small
 unfold A9T
 simp only
 rcases D2k hk with k|k|k|k|k|k|k<;>(have k:d.it.h.kind=_:=k)<;>(rw[show d.kind=d.it.h.kind from rfl,k])
 .simp only[Z1e];obtain⟨m1,m2⟩:=E1S hm k;obtain⟨x1,x2,x3,x4⟩:=B6x hd m2;exact A0l func114 rfl rfl (C6z gl c u x d M hs.fit hs.ids k f m1 a.unit x4 x2)
 all_goals
  have j:u.id≠x.id:=λe=>hc.elim (λh=>h e.symm) (λh=>by have h:d.it.h.kind=0:=h;omega)
  obtain⟨p,i,hp⟩:=C3s hs.ids hx j
  have b:Fit p:=B6V hs.fit hp.par
 .simp only[Z1e,reduceIte,Int.reduceEq];exact A0l func115 rfl rfl (C9S gl u x p i d M hs.fit hp b)
 .simp only[Z1e,reduceIte,Int.reduceEq];obtain⟨m1,m2,m3⟩:=E1X hm k;exact A0l func116 rfl rfl (D2L gl u x d M hs.fit hx Q0 (D5o (B8n m1).2.2 Q0) a.old a.new m3)
 .simp only[Z1e,reduceIte,Int.reduceEq];obtain⟨m1,m2,m3,m4⟩:=E1U hm k;exact A0l func117 rfl rfl (D7w gl u x d M hs.fit hx Q0 (D5o (B8n m2).2.2 Q0) a.old a.new m3 m4)
 .simp only[Z1e,reduceIte,Int.reduceEq];exact A0l func118 rfl rfl (C6K gl u x d M hs.fit hx a.new)
 .simp only[Z1e,reduceIte,Int.reduceEq];exact A0l func119 rfl rfl (C7Q gl c u x p i d M hs.fit hx hp b)
 .simp only[Z1e,reduceIte,Int.reduceEq];obtain⟨m1,m2⟩:=E1J hm k;exact A0l func120 rfl rfl (D4T gl c u x p i d M hs.fit hs.ids k f m2 m1 hp b l (A9Z hs hp hx).1.fit λh=>C0r hs hp hx g.symm m2 h)
def B6r{u:A0a}{d:EnD}(hs:A2m u)(hd:A6a d)(hk:A1a d.kind=true):A2m (A2a u d).1:=by
 unfold A2a;split
 .exact hs
 rename_i e1;split
 .exact hs
 rename_i e2;have hv:A2E d.it=true:=by simpa using e1
 have h0:(A2c u d.it.h.at_).2=0:=by simpa using e2
 split
 .rename_i e3;obtain⟨y,hy,_⟩:=A7l hs.ids (B4D hv) h0;have a:A5W (A2c u d.it.h.at_).1 u=y:=by simp[A5W,hy]
  rw[a];exact C6P hs hd hv hk h0 e3 hy
 .split
  .exact hs
  .exact hs
def A8Y(c:gl 0=.cptr [fnV 356,fnV 357])(a:gl 2=A1t)(b:gl 8=A1E)(ds:List EnD)(hd:∀d∈ds,A1a d.kind=true->A6a d):C2k gl A2a A2m ds:=by intro u hs d hm hk;have hf:=hd d hm hk;exact⟨λM=>D4I gl c a b u d M hs.fit hs.ids hk hf.small λhv h0 hc x hx M=>C7R gl a hs hf hv hk h0 hc hx M,B6r hs hf hk⟩
end
def C8p{ds:List EnD}:∀{s:A0a×List A6v},(∀d∈ds,A1a d.kind=true->A6a d)->A2m s.1->A2m (ds.foldl (A5s A2a) s).1:=by
 induction ds with
 |nil=>intro s _ h;exact h
 |cons d ds ih=>
  intro s hd h;refine ih (λe he=>hd e (by simp[he])) ?_;unfold A5s;split
  .rename_i hk;exact B6r h (hd d Q1 hk) hk
  .exact h
def B1J{ds:List EnD}(hd:∀d∈ds,A1a d.kind=true->A6a d){u:A0a}(hu:A2m u):A2m (A1M A2a u ds).1:=C8p hd hu
open Go.Proofs TryTypes
mutual
def B9s:∀(u:A0a) (b a:Int),A9J u b a<=a->A9J u b a=A0y u
 |.mk _ _ _ _ _ ks,b,a,h=>by
  rw[A9J]at h|-;rw[A0y];by_cases c:20<b
  .rw[Z0c c]at h;omega
  .rw[Z0d c]at h|-;have:=B6b ks b a 1 h;omega
def B6b:∀(ks:List A0a) (b a n:Int),A8j ks b a n<=a->A8j ks b a n=n+A0I ks
 |[],b,a,n,h=>by rw[A8j,A0I];omega
 |k::ks,b,a,n,h=>by
  rw[A8j]at h|-;rw[A0I];by_cases c:n<=a
  .rw[Z0c c]at h|-;have h1:=B6b ks b a _ h;have h2:=B9s k (b+1) (a-n) Q0;omega
  .rw[Z0d c]at h;omega
end
def B7g{l:List A0z}(h:A8n l=true):l.length<=300:=by simp only[A8n,Z0h,Z0n]at h;exact h.2
mutual
def B9A:∀u:A0a,B1Q u=true->A0y u<=1000->u.lims
 |.mk id k l h w ks,hw,hc=>by rw[B1Q]at hw;simp only[Z0h,Z0n]at hw;obtain⟨⟨⟨h1,h2⟩,h3⟩,h4⟩:=hw;rw[A0y]at hc;have:=A2D ks;rw[A0a.lims];exact⟨⟨Z0J (B7g h2) Q0,Z0J (B7g h3) Q0,by show ks.length<=3000;omega,by show l.size<=1000;omega⟩,B5L ks h4 Q0⟩
def B5L:∀ks:List A0a,B0q ks=true->A0I ks<=1000->A5e ks
 |[],_,_=>by rw[A5e];trivial
 |k::ks,hw,hc=>by rw[B0q,Z0h]at hw;rw[A0I]at hc;rw[A5e];exact⟨B9A k hw.1 Q0,B5L ks hw.2 Q0⟩
end
def D6E(u:A0a)(hg:u.good)(h:B9P u 30=true):Fit u/\A0y u<=30:=by simp only[B9P,Z0h,Z0n]at h;have:=B9s u 0 30 h.1;have hc:A0y u<=30:=Q0;exact⟨⟨hg,B9A u h.2 Q0,Q0⟩,hc⟩
structure A8H (l:List A1p):Prop where
 gaz:l.length<=100
 acts:(l.flatMap A1p.acts).length<=1000
 items:((A2M l).flatMap A0Y.items).length<=90
 en:∀d∈A3d l,A6a d
def C5E{x:A0H}(hg:x.good)(hf:B2p x.h):B0P x:=by obtain⟨hh,_,_⟩:=(A0H.good_iff _).1 hg;obtain⟨_,_,_,_,_,hu,ho,hn,_⟩:=hh;have:=hf.ats;have:=hf.tos;have:=hf.old;have:=hf.new;exact⟨(D6E _ hu hf.unit).1,Q0,Q0,Q0,ho.2,Q0,hn.2⟩
def B1r:∀l:List A0Y,A8u l=l.length+(l.flatMap A0Y.items).length
 |[]=>rfl
 |a::l=>by rw[A8u,B1r l];simp only[Z0r,Z0y,Z0k];omega
def D0m{a b:List A0Y}(h:a.Perm b):A8u a=A8u b:=by rw[B1r,B1r,h.length_eq,(h.flatMap_right A0Y.items).length_eq]
def D3a{a b:List A0Y}(h:a.Sublist b):A8u a<=A8u b:=by
 induction h with
 |slnil=>exact Z0j _
 |cons x h ih=>rw[A8u];omega
 |cons_cons x h ih=>rw[A8u,A8u];omega
def B9x(l:List A0Y):(A3m l).Sublist l:=by
 have key:∀(l b:List A0Y),(l.foldl B4c b).Sublist (b++l):=by
  intro l;induction l with
  |nil=>intro b;simp
  |cons a l ih=>
   intro b;rw[Z1U];refine(ih (B4c b a)).trans ?_;unfold B4c;split
   .exact List.Sublist.append (Z4n _) (List.sublist_cons_self _ _)
   .simp
 have:=key l [];rwa[Z1y]at this
def D4N{a i:Int}{x y:A0H}(h:B0N a i x=some y):y∈x.by_:=by
 unfold B0N at h;split at h
 .split at h
  .rename_i z zs e;split at h
   .simp only[Z0b]at h;subst h;rw[e];simp
   .simp at h
  .simp at h
 .simp at h
def D5q{b:List A0Y}{a i:Int}{y:A0H}(h:D7G b a i=some y):∃x∈b.flatMap A0Y.items,y∈x.by_:=by
 unfold D7G at h;generalize b.flatMap A0Y.items=L at h|-;have key:∀(L:List A0H) (r:Option A0H),L.foldl (λr x=>match B0N a i x with|some y=>some y|none=>r) r=some y->r=some y\/∃x∈L,y∈x.by_:=by
  intro L;induction L with
  |nil=>intro r h;exact .inl h
  |cons x L ih=>
   intro r h;rw[Z1U]at h;rcases ih _ h with h|⟨z,hz,hy⟩
   .cases hf:B0N a i x with
    |none=>rw[hf]at h;exact .inl h
    |some w=>rw[hf]at h;simp only[Z0b]at h;subst h;exact .inr ⟨x,Q1,D4N hf⟩
   .exact .inr ⟨z,ZDS,hy⟩
 rcases key L none h with h|h
 .simp at h
 .exact h
def C3n{l:List A1p}(hg:∀g∈l,g.good)(hf:D3e l):A8H l:=by
 obtain⟨h1,h2,h3⟩:=hf;have f:=A5d (A3m (l.flatMap A1p.acts));have k:=B9x (l.flatMap A1p.acts);have hs:A8u (A2M l)<=60:=Z0J (by rw[A2M,D0m f];exact D3a k) h2;have o:∀a∈A2M l,a.good/\C5h a:=λa ha=>by have ha:=k.subset (f.mem_iff.1 ha);obtain⟨g,r,c⟩:=Z1M.1 ha;exact⟨(hg g r).2.2.2.2 a c,h3 g r a c⟩
 have e1:=B1r (l.flatMap A1p.acts);have e2:=B1r (A2M l);refine⟨Q0,Q0,Q0,λd hd=>?_⟩;simp only[A3d,Z0C,Z1M]at hd;obtain⟨e,⟨a,ha,he⟩,rfl⟩:=hd;obtain⟨c,m⟩:=o a ha;simp only[A1I,Z0C]at he;obtain⟨⟨x,i⟩,hx,rfl⟩:=he;obtain⟨v,w⟩:=List.mem_zipIdx' hx|>.symm;have j:x∈a.items:=by rw[v];exact Z0s _
 have n:B0P x:=C5E (c.2.2.2.2.2 x j) (m.2 x j).1;have hi:inI (i:Int):=by have:=m.1;simp only[inI];omega
 unfold A8K;split
 .rename_i y hy;split
  .obtain⟨z,hz,p⟩:=D5q hy;obtain⟨b,hb,q⟩:=Z1M.1 hz;obtain⟨u,s⟩:=o b hb;have t:=u.2.2.2.2.2 z q;exact⟨C5E (((A0H.good_iff _).1 t).2.2 y p) ((s.2 z q).2 y p),c.1,hi⟩
  .exact⟨n,c.1,hi⟩
 .exact⟨n,c.1,hi⟩
def A3D(day:Int)(purpose:ByteArray)(l:List A1p):A0a:=(A1M A2a A2x (onD day purpose l)).1
def D4D{day:Int}{purpose:ByteArray}{l:List A1p}{d:EnD}(h:d∈onD day purpose l):d∈A3d l:=by simp only[onD,A2n,Z0C,Z1o]at h;obtain⟨x,⟨⟨e,⟨he,_⟩,rfl⟩,_⟩,rfl⟩:=h;exact he
def A8H.on{l:List A1p}(h:A8H l)(day:Int)(purpose:ByteArray):∀d∈onD day purpose l,A1a d.kind=true->A6a d:=λd hd _=>h.en d (D4D hd)
def A6b{l:List A1p}(h:A8H l)(day:Int)(purpose:ByteArray):A2m (A3D day purpose l):=B1J (h.on day purpose) A6k
def B5y{l:List A1p}(h:A8H l)(day:Int)(purpose:ByteArray):(onD day purpose l).length<=90:=by
 have e:∀L:List A0Y,(L.flatMap A1I).length=(L.flatMap A0Y.items).length:=λL=>by
  induction L with
  |nil=>rfl
  |cons a L ih=>simp only[Z0y,Z0k,ih,A8d]
 have h1:(A3d l).length<=90:=by simp only[A3d,Z0W,e];exact h.items
 have h2:=Z1q (λd:EnD=>A1a d.kind) (A3d l);have h3:=Z1q (λx:EnD×List A0L=>C2E purpose x.1&&A8I (A3J x.2) day) (A2n l);simp only[onD,A2n,Z0W]at h3|-;omega
section
variable (gl:Nat->AV)
def B4x(c:gl 0=.cptr [fnV 356,fnV 357])(b:gl 2=A1t)(a:gl 8=A1E){l:List A1p}(h:A8H l)(day:Int)(purpose:ByteArray)(M:Mem):A0c (WC gl) 8 [I day,S purpose,.list 4 (A2f l) .no] M (λv M'=>v=.agg (A3D day purpose l).row/\M'=M):=D6t gl A2a A2m day purpose l M (A8Y gl c b a _ (h.on day purpose)) A6k (by have:=B5y h day purpose;omega) h.gaz h.acts (by have:=h.items;omega)
end
def B3r:Option (List A1o)->AV
 |none=>.val (.slice none 0 0)
 |some p=>.list 2 (A0O p) .no
abbrev D1N:=Option (List A1o)×Option (List A1o)
def A4u(B:Int->A0a)(id:IdD)(day:Int)(s:D1N)(b:Int):D1N:=match A3a (B b) id with
 |none=>s
 |some p=>if b<day then(some p,s.2)else if b>day/\s.2=none then(s.1,some p)else s
def B0R(id:IdD)(day:Int)(purpose:ByteArray)(l:List A1p):D1N:=(A5j l).foldl (A4u (λb=>A3D b purpose l) id day) (none,none)
def okP(o:Option (List A1o)):Prop:=∀p,o=some p->∃q,p=A4i::q
def B8H(u:A0a)(x:IdD):okP (A3a u x):=λp h=>by simp only[A3a,Z0l]at h;obtain⟨q,_,e⟩:=h;exact⟨q,e.symm⟩
def C1B(B:Int->A0a)(id:IdD)(day:Int)(K:List Int):okP (K.foldl (A4u B id day) (none,none)).1/\okP (K.foldl (A4u B id day) (none,none)).2:=by
 have key:∀(K:List Int) (s:D1N),okP s.1/\okP s.2->okP (K.foldl (A4u B id day) s).1/\okP (K.foldl (A4u B id day) s).2:=by
  intro K;induction K with
  |nil=>intro s hs;exact hs
  |cons b K ih=>
   intro s hs;refine ih _ ?_;unfold A4u;have hf:=B8H (B b) id;cases hw:A3a (B b) id with
   |none=>exact hs
   |some p=>
    rw[hw]at hf;simp only;split
    .exact⟨hf,hs.2⟩
    .split
     .exact⟨hs.1,hf⟩
     .exact hs
 exact key K _ ⟨λ_ h=>by simp at h,λ_ h=>by simp at h⟩
def C5O(id:IdD)(day:Int)(purpose:ByteArray)(l:List A1p):okP (B0R id day purpose l).1/\okP (B0R id day purpose l).2:=C1B _ id day _
def C9D:∀p:List (EnD×List A0L),(∀q∈p,A5S q.2)->(bpL p).length<=p.length*1048578+1
 |[],_=>by simp[bpL]
 |q::p,h=>by have ih:=C9D p λz hz=>h z ZDS;have:=C8F (h q Q1);simp only[bpL,Z0y,Z0r,Z0k]at ih|-;omega
def C7Z{l:List A1p}(h:A8H l):(A5j l).length<=100000000:=by
 have e:∀L:List A0Y,(L.flatMap A1I).length=(L.flatMap A0Y.items).length:=λL=>by
  induction L with
  |nil=>rfl
  |cons a L ih=>simp only[Z0y,Z0k,ih,A8d]
 have h1:(A3d l).length<=90:=by simp only[A3d,Z0W,e];exact h.items
 have h2:=Z1q (λd:EnD=>A1a d.kind) (A3d l);have h3:=C9D (A2n l) λq hq=>by simp only[A2n,Z0C]at hq;obtain⟨d,_,rfl⟩:=hq;exact B1K _ _ _
 have h4:(A2n l).length<=90:=by simp only[A2n,Z0W];omega
 rw[D1P];have:=B5x (A7A (bpL (A2n l)));have:=(A3g (bpL (A2n l))).length_eq;omega
section
variable (gl:Nat->AV)
set_option maxHeartbeats 2000000 in
def D7s(x:gl 0=.cptr [fnV 356,fnV 357])(t:gl 2=A1t)(u:gl 8=A1E){l:List A1p}(h:A8H l)(id:IdD)(day:Int)(purpose:ByteArray)(M:Mem):A0c (WC gl) 23 [.agg id.row,I day,S purpose,.list 4 (A2f l) .no] M (λv M'=>v=.tuple [B3r (B0R id day purpose l).1,B3r (B0R id day purpose l).2]/\M'=M):=by
 have k:id.row=[I id.act,I id.item,I id.n]:=rfl
 have w:=C9Q gl l M h.gaz h.acts h.items
 have a0:=C7Z h
 have o:=λb M=>B4x gl x t u h b purpose M
 have j:=λb M=>B4h gl (A3D b purpose l) id M (A6b h b purpose).good (by have:=(A6b h b purpose).count;omega)
 have hN:B0R id day purpose l=(A5j l).foldl (A4u (λb=>A3D b purpose l) id day) (none,none):=rfl
 rw[hN,k]
 generalize A5j l=L at*
 rw[k]at j
 have y:=λi=>C1B (λb=>A3D b purpose l) id day (L.take i)
 refine A0r hB func23 ?_
 simp -dsimp -implicitDefEqProofs
 refine A0g func45 w ?_
 simp -dsimp -implicitDefEqProofs
 refine A1y hB L.length 17 (λT Mi=>∃i:Nat,i<=L.length/\T 1=I day/\T 2=S purpose/\T 3=.list 4 (A2f l) .no/\T 4=.cptr [I id.act,I id.item,I id.n]/\T 15=.list 1 (A4X L) .no/\T 16=I L.length/\T 17=I i/\T 8=B3r ((L.take i).foldl (A4u (λb=>A3D b purpose l) id day) (none,none)).1/\T 9=B3r ((L.take i).foldl (A4u (λb=>A3D b purpose l) id day) (none,none)).2/\Mi=M) ?_ ?_
 .exact⟨0,Q0,Q1,Q1,Q1,Q1,Q1,Q1,Q1,by simp[B3r],by simp[B3r],rfl⟩
 rintro T Mi ⟨i,i1,t1,t2,t3,t4,f,d,e,t8,t9,rfl⟩
 by_cases hi:i<L.length
 case neg=>have m:¬(i:Int)<L.length:=Q0;rw[Z0e Q0]at t8 t9;simp -dsimp -implicitDefEqProofs[t1,t2,t3,t4,f,d,e,t8,t9,m]
 have m:(i:Int)<L.length:=Q0
 have w1:=A6S (i:=i) Q0
 obtain⟨b,hb⟩:=ex (L[i])
 have a:(L.take (i+1)).foldl (A4u (λb=>A3D b purpose l) id day) (none,none)=A4u (λb=>A3D b purpose l) id day ((L.take i).foldl (A4u (λb=>A3D b purpose l) id day) (none,none)) b:=by rw[Z0z,Z0g hi,Z0T,Z1X,<-hb];rfl
 obtain⟨k1,k2⟩:=y i
 generalize(L.take i).foldl (A4u (λb=>A3D b purpose l) id day) (none,none)=s at*
 obtain⟨s1,s2⟩:=s
 simp only at t8 t9 k1 k2
 have q:(A4X L)[i]?=some [I b]:=by simp[A4X,hb,hi]
 simp -dsimp -implicitDefEqProofs[t1,t2,t3,t4,f,d,e,hi,m,q,<-hb]
 refine A0X hB (A0B gl) (λ_=>0) (λ_=>0) (by rfl) Q2 ?_
 simp -dsimp -implicitDefEqProofs[t1,t2,t3,t4,<-hb]
 refine A1k (λM=>A0l func8 rfl rfl (o b M)) ?_
 simp -dsimp -implicitDefEqProofs[t1,t2,t3,t4]
 refine A1k (λM=>A0l func21 rfl rfl (j b M)) ?_
 have hn:A4u (λb=>A3D b purpose l) id day (s1,s2) b=match A3a (A3D b purpose l) id with
  |none=>(s1,s2)
  |some p=>if b<day then(some p,s2)else if b>day/\s2=none then(s1,some p)else(s1,s2):=rfl
 cases hw:A3a (A3D b purpose l) id with
 |none=>
  rw[hw]at hn
  simp only at hn
  simp -dsimp -implicitDefEqProofs[B4f,t1,t2,t3,t4,f,d,e,t8,t9,w1]
  exact⟨⟨i+1,Q3,rfl,by rw[a,hn],by rw[a,hn]⟩,Q3⟩
 |some p=>
  rw[hw]at hn
  simp only at hn
  by_cases c1:b<day
  .rw[Z0c c1]at hn;simp -dsimp -implicitDefEqProofs[B4f,t1,t2,t3,t4,f,d,e,t8,t9,w1,c1];exact⟨⟨i+1,Q3,rfl,by rw[a,hn];rfl,by rw[a,hn]⟩,Q3⟩
  rw[Z0d c1]at hn
  by_cases c2:day<b
  .have g:b>day:=c2;cases hs2:s2 with
   |none=>rw[Z0c ⟨g,hs2⟩]at hn;rw[hs2]at t9;simp -dsimp -implicitDefEqProofs[B4f,t1,t2,t3,t4,f,d,e,t8,t9,w1,c1,c2,g,B3r];exact⟨⟨i+1,Q3,rfl,by rw[a,hn],by rw[a,hn];rfl⟩,Q3⟩
   |some z=>rw[Z0d (λc=>by rw[hs2]at c;simp at c)]at hn;obtain⟨zq,r⟩:=k2 z hs2;(have hz:A0O z=A4i.row::A0O zq:=by rw[r];rfl);rw[hs2]at t9 hn;simp only[B3r]at t9;rw[hz]at t9;simp -dsimp -implicitDefEqProofs[B4f,t1,t2,t3,t4,f,d,e,t8,t9,w1,c1,c2,g];exact⟨⟨i+1,Q3,rfl,by rw[a,hs2,hn],by rw[a,hs2,hn,B3r,hz]⟩,Q3⟩
  .have g:¬b>day:=c2;rw[Z0d (λc=>g c.1)]at hn;simp -dsimp -implicitDefEqProofs[B4f,t1,t2,t3,t4,f,d,e,t8,t9,w1,c1,c2,g];exact⟨⟨i+1,Q3,rfl,by rw[a,hn],by rw[a,hn]⟩,Q3⟩
end
abbrev C3N:=Option ((Int×Int)×List A1o)
def A5b(id:IdD):A0a->List EnD->C3N
 |_,[]=>none
 |u,d::ds=>match A3a u id,A3a (A2a u d).1 id with
  |some p,none=>some ((d.act,d.item),p)
  |_,_=>A5b id (A2a u d).1 ds
def A6T(id:IdD)(day:Int)(purpose:ByteArray)(l:List A1p):C3N:=A5b id A2x (onD day purpose l)
def B5v:C3N->List AV
 |some (r,_)=>[I r.1,I r.2]
 |none=>[I 0,I 0]
def B0g:C3N->AV
 |some (_,p)=>A5N p
 |none=>.val (.slice none 0 0)
structure C2c (o:Nat) (M0 M:Mem) (s:C3N):Prop where
 by_:M[o]?=some (.cells 35 (B5v s))
 path:M[o+1]?=some (.cells 33 [B0g s])
 ok:M[o+2]?=some (.cells 4 [B s.isSome])
 low:∀i,i<o->M[i]?=M0[i]?
def C2c.keep{o:Nat}{M0 M M':Mem}{s:C3N}(h:C2c o M0 M s)(hg:Grow M M'):C2c o M0 M' s:=⟨hg.get h.by_ Q1,hg.get h.path Q1,hg.get h.ok Q1,λi hi=>by have:=(Z0a.1 h.by_).1;rw[hg.2 i Q0 Q1];exact h.low i hi⟩
def D7d{a b:Int}:A0A prog 35 [(0,I a),(1,I b)]=some (.agg [I a,I b]):=ZAK
section
variable (gl:Nat->AV)
set_option maxHeartbeats 1000000 in
def D1F(id:IdD)(u v:A0a)(d:EnD)(o:Nat)(M0 M:Mem)(hu:A2m u)(hv:A2m v)(h:C2c o M0 M none):
 A0c (WC gl) 44 [.agg u.row,.agg v.row,.agg d.row,.cptr id.row,.ptr o 0,.ptr (o+1) 0,.ptr (o+2) 0] M (λr M'=>∃s:C3N,r=B s.isSome/\C2c o M0 M' s/\M'.length=M.length/\(∀i,o+2<i->M'[i]?=M[i]?)/\
  s=match A3a u id,A3a v id with
   |some p,none=>some ((d.act,d.item),p)
   |_,_=>none):=by
 have e:id.row=[I id.act,I id.item,I id.n]:=rfl
 have hdr:d.row=I d.act::I d.item::I d.day::d.it.row:=rfl
 have h1:=λM=>B4h gl u id M hu.good (by have:=hu.count;omega)
 have h2:=λM=>B4h gl v id M hv.good (by have:=hv.count;omega)
 obtain⟨a1,a2,a3,a4⟩:=h
 have l1:=(Z0a.1 a1).1
 have l2:=(Z0a.1 a2).1
 have l3:=(Z0a.1 a3).1
 rw[e]at h1 h2|-
 rw[hdr,d.it.row_eq,A1W.row]
 rw[u.row_eq]at h1|-
 rw[v.row_eq]at h2|-
 refine A0r hB func44 ?_
 simp -dsimp -implicitDefEqProofs
 refine A0g func21 (h1 M) ?_
 simp -dsimp -implicitDefEqProofs
 refine A0g func21 (h2 M) ?_
 cases e1:A3a u id with
 |none=>
  simp -dsimp -implicitDefEqProofs[B4f,A0b a3]
  exact⟨a1,a2,a3,a4⟩
 |some p=>
  cases e2:A3a v id with
  |some q=>
   simp -dsimp -implicitDefEqProofs[B4f,A0b a3]
   exact⟨a1,a2,a3,a4⟩
  |none=>
   obtain⟨M1,a⟩:=ex (M.set o (.cells 35 [I d.act,I d.item]))
   obtain⟨M2,b⟩:=ex (M1.set (o+1) (.cells 33 [A5N p]))
   obtain⟨M3,c⟩:=ex (M2.set (o+2) (.cells 4 [B true]))
   have s1:A0k (some 2) M (.ptr o 0) (.agg [I d.act,I d.item])=some M1:=by rw[A0f a1,a];simp[A0o,A0n,B5v,A0e,AV.storable,AV.cells]
   have b2:M1[o+1]?=some (.cells 33 [B0g none]):=by rw[a,Z0f Q0];exact a2
   have s2:A0k (some 1) M1 (.ptr (o+1) 0) (A5N p)=some M2:=by rw[A0f b2,b];simp[A0e,AV.storable,AV.cells,B0g]
   have b3:M2[o+2]?=some (.cells 4 [B false]):=by rw[b,a,Z0f Q0,Z0f Q0];exact a3
   have s3:A0k (some 1) M2 (.ptr (o+2) 0) (B true)=some M3:=by rw[A0f b3,c];simp[A0e,AV.storable,AV.cells]
   have c3:M3[o+2]?=some (.cells 4 [B true]):=by rw[c,b,a];simp[l3]
   simp -dsimp -implicitDefEqProofs[B4f,D7d,s1,s2,s3,A0b c3]
   refine⟨some ((d.act,d.item),p),rfl,⟨?_,?_,c3,λi hi=>?_⟩,by rw[c,b,a];simp,λi hi=>?_,rfl⟩
   .rw[c,b,a,Z0f Q0,Z0f Q0];simp[l1,B5v]
   .rw[c,b,a,Z0f Q0];simp[l2,B0g]
   .rw[c,b,a,Z0f Q0,Z0f Q0,Z0f Q0];exact a4 i hi
   .rw[c,b,a,Z0f Q0,Z0f Q0,Z0f Q0]
set_option maxHeartbeats 2000000 in
def C6L(ax:gl 0=.cptr [fnV 356,fnV 357])(b7:gl 2=A1t)(av:gl 8=A1E){l:List A1p}(hF:A8H l)(id:IdD)(day:Int)(purpose:ByteArray)(o:Nat)(M0 M:Mem)(h:C2c o M0 M none):A0c (WC gl) 43 [I day,S purpose,.list 4 (A2f l) .no,.func (.func 44) [] [.cptr id.row,.ptr o 0,.ptr (o+1) 0,.ptr (o+2) 0]] M (λ_ M'=>C2c o M0 M' (A6T id day purpose l)):=by
 have m:=D4F gl day purpose l
 obtain⟨ds,c⟩:=ex (onD day purpose l)
 have bc:ds.length<=90:=by rw[c];exact B5y hF day purpose
 have az:∀d∈ds,A1a d.kind=true->A6a d:=by rw[c];exact hF.on day purpose
 have b0:∀d∈ds,A1a d.kind=true:=λd hd=>by rw[c]at hd;simp only[onD,A2n,Z0C,Z1o]at hd;obtain⟨x,⟨⟨e,⟨_,he⟩,rfl⟩,_⟩,rfl⟩:=hd;exact he
 have ar:=A8Y gl ax b7 av ds az
 have ae:A6T id day purpose l=A5b id A2x ds:=by rw[c];rfl
 rw[ae]
 have m:=λM=>m M hF.gaz hF.acts ZDB
 rw[<-c]at m
 clear ae c
 obtain⟨cp,a6⟩:=ex ([.cptr id.row,.ptr o 0,.ptr (o+1) 0,.ptr (o+2) 0]:List AV)
 rw[<-a6]
 obtain⟨z,hz⟩:=ex ([AV.val (Value.int IntKind.i64 0),AV.val (Value.int IntKind.i64 0),AV.val (Value.int IntKind.i64 0),AV.val (Value.int IntKind.i64 0),AV.val (Value.string {data:=#[]}),AV.val (Value.slice none 0 0),AV.val (Value.slice none 0 0),AV.val (Value.slice none 0 0)]:List AV)
 have ad:z.length=8:=by rw[hz];rfl
 obtain⟨b,hb⟩:=ex (M.length)
 have b4:o+2<b:=by rw[hb];exact(Z0a.1 h.ok).1
 obtain⟨N,hN⟩:=ex (M++[A0m.cells 31 A2x.row])
 have b1:N[b]?=some (.cells 31 A2x.row):=by rw[hN,hb];simp
 have au:Grow M N:=ZAL
 have b3:=h.keep au
 have ab:A0k (some 8) (M++[A0m.cells 31 z]) (.ptr M.length 0) (.agg A2x.row)=some N:=by
  have:(M++[A0m.cells 31 z])[M.length]?=some (.cells 31 z):=ZBG
  rw[A0f this,hN];simp[A0o,A0n,A0e,ad,A0a.row_len,Z0v]
 refine A0r hB func43 ?_
 simp -dsimp -implicitDefEqProofs[A0j]
 refine A0g func42 (B9p gl M) ?_
 simp -dsimp -implicitDefEqProofs[A0j]
 rw[<-hz,ab,<-hb]
 simp -dsimp -implicitDefEqProofs
 refine A0g func14 (m N) ?_
 simp -dsimp -implicitDefEqProofs
 refine A1y hB ds.length 19 (λT Mi=>∃(i:Nat) (u:A0a),i<=ds.length/\T 3=.func (.func 44) [] cp/\T 8=.ptr b 0/\T 17=.list 28 (A2L ds) .no/\T 18=I ds.length/\T 19=I i/\Mi[b]?=some (.cells 31 u.row)/\A2m u/\C2c o M0 Mi none/\A5b id A2x ds=A5b id u (ds.drop i)) ?_ ?_
 .exact⟨0,A2x,Q0,Q1,Q1,Q1,Q1,Q1,b1,A6k,b3,Q1⟩
 rintro T Mi ⟨i,u,i1,t3,t8,a3,a5,v,hu,am,ah,hG⟩
 by_cases hi:i<ds.length
 case neg=>have t:¬(i:Int)<ds.length:=Q0;rw[Z0v Q0,A5b]at hG;rw[hG];simp -dsimp -implicitDefEqProofs[t3,t8,a3,a5,v,t];exact ah
 have t:(i:Int)<ds.length:=Q0
 have w1:=A6S (i:=i) Q0
 obtain⟨d,hd⟩:=ex (ds[i])
 have aj:=A6N hi
 have n:d∈ds:=by rw[hd];exact Z0s hi
 rw[Z0m hi,<-hd,A5b]at hG
 rw[<-hd]at aj
 have ba:b<Mi.length:=(Z0a.1 hu).1
 obtain⟨q,hq⟩:=ex (Mi.length)
 obtain⟨M3,a1⟩:=ex (Mi++[A0m.cells 55 d.row])
 have ao:M3[q]?=some (.cells 55 d.row):=by rw[a1,hq];simp
 have a4:Grow Mi M3:=by rw[a1];exact A0d.app none _ _
 have b2:A0E prog 55 M3 (.ptr q 0)=some (.agg d.row):=by rw[A0b ao];simp[A0p]
 have a7:=a4.get hu Q1
 have aq:A0E prog 31 M3 (.ptr b 0)=some (.agg u.row):=by rw[A0b a7];simp[A0p,A0a.row_len]
 obtain⟨f,a0⟩:=ar u am d n (b0 d n)
 obtain⟨y,hy⟩:=ex (A2a u d)
 rw[<-hy]at f a0 hG
 simp -dsimp -implicitDefEqProofs[-A1d,t3,t8,a3,a5,v,hi,t,aj,A0j,A0k,A0e,A0o,A0n]
 rw[<-hd,<-a1,<-hq]
 simp -dsimp -implicitDefEqProofs[t8,aq,b2]
 refine A0g func59 (f M3) ?_
 obtain⟨x,hx⟩:=ex (M3.length)
 obtain⟨M4,r⟩:=ex (M3++[A0m.cells 31 y.1.row])
 have an:M4[x]?=some (.cells 31 y.1.row):=by rw[r,hx];simp
 have a2:Grow M3 M4:=by rw[r];exact A0d.app none _ _
 have a9:=a2.get a7 Q1
 have ay:=a2.get ao Q1
 have ac:=ah.keep (a4.trans a2)
 have aa:A0E prog 55 M4 (.ptr q 0)=some (.agg d.row):=by rw[A0b ay];simp[A0p]
 have ag:A0E prog 31 M4 (.ptr b 0)=some (.agg u.row):=by rw[A0b a9];simp[A0p,A0a.row_len]
 have ap:A0E prog 31 M4 (.ptr x 0)=some (.agg y.1.row):=by rw[A0b an];simp[A0p,A0a.row_len]
 have b9:o+2<x:=by rw[hx];have:=a4.1;omega
 have k:=D1F gl id u y.1 d o M0 M4 am a0 ac
 have b8:[AV.agg u.row,.agg y.1.row,.agg d.row,.cptr id.row,.ptr o 0,.ptr (o+1) 0,.ptr (o+2) 0]=.agg u.row::.agg y.1.row::.agg d.row::cp:=by rw[a6]
 rw[b8]at k
 have ai:A0k (some 8) (M3++[A0m.cells 31 z]) (.ptr M3.length 0) (.agg y.1.row)=some M4:=by
  have:(M3++[A0m.cells 31 z])[M3.length]?=some (.cells 31 z):=ZBG
  rw[A0f this,r];simp[A0o,A0n,A0e,ad,A0a.row_len,Z0v]
 simp -dsimp -implicitDefEqProofs[-A1d,A0j]
 rw[<-hz,ai,<-hx]
 simp -dsimp -implicitDefEqProofs[-A1d,t3,t8,aa,ag,ap]
 refine A0s (A0l func44 rfl rfl k) ?_
 rintro _ M5 ⟨s,rfl,g,bb,a8,a⟩
 cases s with
 |some w=>
  have:A5b id A2x ds=some w:=by
   rw[hG];cases e1:A3a u id with
   |none=>rw[e1]at a;simp at a
   |some p=>
    cases e2:A3a y.1 id with
    |none=>rw[e1,e2]at a;simpa using a.symm
    |some p2=>rw[e1,e2]at a;simp at a
  rw[this]
  simp -dsimp -implicitDefEqProofs
  exact g
 |none=>
  have b5:A5b id A2x ds=A5b id y.1 (ds.drop (i+1)):=by
   rw[hG];cases e1:A3a u id with
   |none=>rfl
   |some p=>
    cases e2:A3a y.1 id with
    |none=>rw[e1,e2]at a;simp at a
    |some p2=>rfl
  have aw:M5[x]?=some (.cells 31 y.1.row):=by rw[a8 x b9];exact an
  have af:M5[b]?=some (.cells 31 u.row):=by rw[a8 b b4];exact a9
  have al:A0E prog 31 M5 (.ptr x 0)=some (.agg y.1.row):=by rw[A0b aw];simp[A0p,A0a.row_len]
  have b6:b<M5.length:=(Z0a.1 af).1
  have ak:A0k (some 8) M5 (.ptr b 0) (.agg y.1.row)=some (M5.set b (.cells 31 y.1.row)):=by rw[A0f af];simp[A0o,A0n,A0e,A0a.row_len,Z0v]
  simp -dsimp -implicitDefEqProofs[-A1d,t3,t8,a3,a5,v,al,ak,w1]
  refine⟨⟨i+1,Q3,rfl,y.1,by simp[b6],a0,⟨?_,?_,?_,λj hj=>?_⟩,b5⟩,Q3⟩
  .rw[Z0f Q0];exact g.by_
  .rw[Z0f Q0];exact g.path
  .rw[Z0f Q0];exact g.ok
  .rw[Z0f Q0];exact g.low j hj
end
def tkP:C3N->List A1o
 |some (_,p)=>p
 |none=>[]
def D8B(o:Nat):∀i k,(λk:Nat=>if k<3 then 1 else if k<6 then 2 else 0) i=1->(λi k:Nat=>k==i+3) i k=false->(λi:Nat=>o+i) i∈(λk:Nat=>if k=3 then[o+1,o+2]else if k=4 then[o,o+2]else if k=5 then[o,o+1]else[o,o+1,o+2]) k:=by
 intro i k h1 h2;simp only[Z1R,ne_eq]at h1 h2|-;have:i=0\/i=1\/i=2:=by
  split at h1
  .omega
  .split at h1<;>omega
 rcases this with rfl|rfl|rfl<;>(repeat' split)<;>simp<;>omega
def A9O{α:Type}{l:List α}{i:Nat}{x:α}(h:l[i]?=some x):l.set i x=l:=by obtain⟨hl,e⟩:=Z0a.1 h;subst e;exact Z3P hl
section
variable (gl:Nat->AV)
set_option maxHeartbeats 2000000 in
def C6Y(j:gl 0=.cptr [fnV 356,fnV 357])(g:gl 2=A1t)(m:gl 8=A1E){l:List A1p}(hF:A8H l)(id:IdD)(day:Int)(purpose:ByteArray)(M:Mem):A0c (WC gl) 22 [.agg id.row,I day,S purpose,.list 4 (A2f l) .no] M (λv M'=>v=.tuple [.agg (B5v (A6T id day purpose l)),A5N (tkP (A6T id day purpose l)),B (A6T id day purpose l).isSome]/\M'=M):=by
 refine A0c.dataX ?_
 have b:id.row=[I id.act,I id.item,I id.n]:=rfl
 obtain⟨o,ho⟩:=ex (M.length)
 obtain⟨M1,a⟩:=ex (M++[A0m.cells 35 [I 0,I 0],A0m.cells 33 [.val (.slice none 0 0)],A0m.cells 4 [B false]])
 have hT:C2c o M M1 none:=by
  refine⟨?_,?_,?_,λi hi=>?_⟩
  .rw[a,ho];simp[B5v]
  .rw[a,ho];simp[B0g,Z0Z]
  .rw[a,ho];simp[Z0Z]
  .rw[a,Z0o Q0]
 have e:=C6L gl j g m hF id day purpose o M M1 hT
 rw[b]at e|-
 generalize A6T id day purpose l=s at*
 refine A0r hB func22 ?_
 simp -dsimp -implicitDefEqProofs[A0j]
 have f:M.length+1=o+1:=Q0
 have c:M.length+2=o+2:=Q0
 rw[<-a,<-ho]
 refine A0s (A0l func43 rfl rfl e) ?_
 rintro _ M2 ⟨a1,a2,a3,a4⟩
 have l1:=(Z0a.1 a1).1
 have l2:=(Z0a.1 a2).1
 have l3:=(Z0a.1 a3).1
 simp -dsimp -implicitDefEqProofs
 refine A7r hB (A0B gl) (λk=>if k<3 then 1 else if k<6 then 2 else 0) (λi=>o+i) (λi k=>k==i+3) (λk=>if k=3 then[o+1,o+2]else if k=4 then[o,o+2]else if k=5 then[o,o+1]else[o,o+1,o+2]) (D8B o) (by rfl) Q2 ?_
 have d:Grow M M2:=⟨Q0,λi hi _=>a4 i Q0⟩
 cases s with
 |none=>
  have s1:A0k (some 2) M2 (.ptr o 0) (.agg [I 0,I 0])=some M2:=ZBZ
  have s2:A0k (some 1) M2 (.ptr (o+1) 0) (.val (.slice none 0 0))=some M2:=by rw[A0f a2];simp[B0g,A0e,AV.storable,AV.cells];exact A9O a2
  have s3:A0k (some 1) M2 (.ptr (o+2) 0) (B false)=some M2:=by rw[A0f a3];simp[A0e,AV.storable,AV.cells];exact A9O a3
  simp only[B5v,B0g,Option.isSome_none]at a1 a2 a3
  simp -dsimp -implicitDefEqProofs[A0b a1,A0b a2,A0b a3,A1e,A5t,s1,s2,s3,A2g,a1,a2,a3,f,c,A0h]
  exact⟨d,.tuple (.same (by simp[B5v,bdd,A1i]) (.nilS (.same trivial .nil))) .nil⟩
 |some w=>
  obtain⟨⟨ra,ri⟩,p⟩:=w
  have s1:A0k (some 2) M2 (.ptr o 0) (.agg [I ra,I ri])=some M2:=ZBZ
  have s2:A0k (some 1) M2 (.ptr (o+1) 0) (A5N p)=some M2:=by rw[A0f a2];simp[B0g,A0e,AV.storable,AV.cells];exact A9O a2
  have s3:A0k (some 1) M2 (.ptr (o+2) 0) (B true)=some M2:=by rw[A0f a3];simp[A0e,AV.storable,AV.cells];exact A9O a3
  simp only[B5v,B0g,Option.isSome_some]at a1 a2 a3
  simp -dsimp -implicitDefEqProofs[A0b a1,A0b a2,A0b a3,A1e,A5t,s1,s2,s3,A2g,a1,a2,a3,f,c,A0h]
  exact⟨d,.tuple (.same (by simp[B5v,bdd,A1i]) (.same (by simp only[bdd,Z1A];exact B2h _ _) (.same trivial .nil))) .nil⟩
end
structure A8t where
 kind:Int
 path:List A1o
 by_:Int×Int
def A5F(id:IdD)(day:Int)(purpose:ByteArray)(l:List A1p):A8t:=match A3a (A3D day purpose l) id with
 |some p=>⟨0,p,(0,0)⟩
 |none=>match A6T id day purpose l with
  |some (r,p)=>⟨1,p,r⟩
  |none=>match B0R id day purpose l with
   |(some p,_)=>⟨2,p,(0,0)⟩
   |(none,some p)=>⟨3,p,(0,0)⟩
   |(none,none)=>⟨4,[],(0,0)⟩
def A8t.row(id:IdD)(s:A8t):List AV:=[I s.kind,I id.act,I id.item,I id.n,A5N s.path,I s.by_.1,I s.by_.2]
def z7:List AV:=[I 0,I 0,I 0,I 0,.val (.slice none 0 0),I 0,I 0]
def B8j{k a b c:Int}{p:List A1o}:A0A prog 37 [(0,I k),(1,.agg [I a,I b,I c]),(2,A5N p)]=some (.agg [I k,I a,I b,I c,A5N p,I 0,I 0]):=ZAK
def D3y{k a b c d e:Int}{p:List A1o}:A0A prog 37 [(0,I k),(1,.agg [I a,I b,I c]),(2,A5N p),(3,.agg [I d,I e])]=some (.agg [I k,I a,I b,I c,A5N p,I d,I e]):=ZAK
def D5y{k a b c:Int}:A0A prog 37 [(0,I k),(1,.agg [I a,I b,I c])]=some (.agg [I k,I a,I b,I c,.val (.slice none 0 0),I 0,I 0]):=ZAK
section
variable (gl:Nat->AV)
set_option maxHeartbeats 2000000 in
def B3e(a5:gl 0=.cptr [fnV 356,fnV 357])(f:gl 2=A1t)(a7:gl 8=A1E){l:List A1p}(hF:A8H l)(id:IdD)(day:Int)(purpose:ByteArray)(M:Mem):A0c (WC gl) 9 [.agg id.row,I day,S purpose,.list 4 (A2f l) .no] M (λv M'=>v=.agg ((A5F id day purpose l).row id)/\M'=M):=by
 refine A0c.dataX ?_
 have a8:id.row=[I id.act,I id.item,I id.n]:=rfl
 obtain⟨b,hb⟩:=ex (M.length)
 obtain⟨M1,a2⟩:=ex (M++[A0m.cells 37 z7])
 have h1:M1[b]?=some (.cells 37 z7):=by rw[a2,hb];simp
 have a3:Grow M M1:=by rw[a2];exact A0d.app none _ _
 have a9:b<M1.length:=(Z0a.1 h1).1
 have a6:=λM=>B4x gl a5 f a7 hF day purpose M
 have x:=λM=>B4h gl (A3D day purpose l) id M (A6b hF day purpose).good (by have:=(A6b hF day purpose).count;omega)
 have a0:=C6Y gl a5 f a7 hF id day purpose M1
 have u:=λM=>D7s gl a5 f a7 hF id day purpose M
 have t:okP (B0R id day purpose l).1/\okP (B0R id day purpose l).2:=C5O id day purpose l
 have hS:A5F id day purpose l=match A3a (A3D day purpose l) id with
  |some p=>⟨0,p,(0,0)⟩
  |none=>match A6T id day purpose l with
   |some (r,p)=>⟨1,p,r⟩
   |none=>match B0R id day purpose l with
    |(some p,_)=>⟨2,p,(0,0)⟩
    |(none,some p)=>⟨3,p,(0,0)⟩
    |(none,none)=>⟨4,[],(0,0)⟩:=rfl
 rw[hS]
 clear hS
 generalize A6T id day purpose l=tk at*
 generalize B0R id day purpose l=nr at*
 rw[a8]at x a0 u|-
 have m:∀(Mx:Mem) (cs:List AV),Grow M Mx->Grow M (Mx.set b (.cells 37 cs)):=λMx cs hg=>A0w hg Q0
 have z:∀(k d e:Int) (p:List A1o) (Mx:Mem),Still Mx b (bdd b) [.agg [I k,I id.act,I id.item,I id.n,A5N p,I d,I e]] [.agg (A8t.row id ⟨k,p,(d,e)⟩)]:=λk d e p Mx=>by refine .same ?_ .nil;simp only[bdd,A1i,Z1A,Z2J];exact B2h _ _
 have st:∀(Mx:Mem) (cs:List AV),Mx[b]?=some (.cells 37 z7)->cs.length=7->A0k (some 7) Mx (.ptr b 0) (.agg cs)=some (Mx.set b (.cells 37 cs)):=λMx cs h hc=>by rw[A0f h];simp[A0o,A0n,A0e,hc,z7,Z0v]
 refine A0r hB func9 ?_
 simp -dsimp -implicitDefEqProofs[A0j]
 rw[show([I 0,I 0,I 0,I 0,AV.val (Value.slice none 0 0),I 0,I 0]:List AV)=z7 from rfl,<-a2,<-hb]
 refine A0X hB (A0B gl) (λ_=>0) (λ_=>0) (by rfl) Q2 ?_
 simp -dsimp -implicitDefEqProofs
 refine A1k (λM=>A0l func8 rfl rfl (a6 M)) ?_
 simp -dsimp -implicitDefEqProofs
 refine A1k (λM=>A0l func21 rfl rfl (x M)) ?_
 cases hw:A3a (A3D day purpose l) id with
 |some p=>
  simp -dsimp -implicitDefEqProofs[B4f,B8j,st M1 _ h1,A0u a9,A0h]
  exact⟨m _ _ a3,z 0 0 0 p _⟩
 |none=>
  simp -dsimp -implicitDefEqProofs[B4f]
  refine A0g func22 a0 ?_
  cases tk with
  |some w=>
   obtain⟨⟨ra,ri⟩,p⟩:=w
   obtain⟨M2,j⟩:=ex (M1++[A0m.cells 35 [I ra,I ri]])
   have h2:M2[M1.length]?=some (A0m.cells 35 [I ra,I ri]):=by rw[j];simp
   have f:Grow M1 M2:=ZCM
   have i:=f.get h1 Q1
   have o:b<M2.length:=(Z0a.1 i).1
   simp -dsimp -implicitDefEqProofs[B5v,tkP,A0j,A0k,A0e,A0o,A0n]
   rw[<-j]
   simp -dsimp -implicitDefEqProofs[A0b h2,D3y,st M2 _ i,A0u o,A0h]
   exact⟨m _ _ (a3.trans f),z 1 ra ri p _⟩
  |none=>
   obtain⟨M2,j⟩:=ex (M1++[A0m.cells 35 [I 0,I 0]])
   have h2:M2[M1.length]?=some (A0m.cells 35 [I 0,I 0]):=by rw[j];simp
   have f:Grow M1 M2:=ZCM
   have i:=f.get h1 Q1
   have o:b<M2.length:=(Z0a.1 i).1
   have s:=a3.trans f
   simp -dsimp -implicitDefEqProofs[B5v,tkP,A0j,A0k,A0e,A0o,A0n]
   rw[<-j]
   refine A0g func23 (u M2) ?_
   obtain⟨ea,la⟩:=nr
   simp only at t
   cases ea with
   |some p=>
    obtain⟨q,hq⟩:=t.1 p rfl
    have hp:A0O p=A4i.row::A0O q:=by rw[hq];rfl
    have a4:B3r (some p)=.list 2 (A4i.row::A0O q) .no:=by rw[B3r,hp]
    have a1:A5N p=.list 2 (A4i.row::A0O q) .no:=by rw[<-hp];rfl
    have y:=B8j (k:=2) (a:=id.act) (b:=id.item) (c:=id.n) (p:=p)
    have g:=z 2 0 0 p
    rw[a1]at y g
    simp -dsimp -implicitDefEqProofs[a4,y,st M2 _ i,A0u o,A0h]
    exact⟨m _ _ s,g _⟩
   |none=>
    cases la with
    |some p=>
     obtain⟨q,hq⟩:=t.2 p rfl
     have hp:A0O p=A4i.row::A0O q:=by rw[hq];rfl
     have a4:B3r (some p)=.list 2 (A4i.row::A0O q) .no:=by rw[B3r,hp]
     have a1:A5N p=.list 2 (A4i.row::A0O q) .no:=by rw[<-hp];rfl
     have y:=B8j (k:=3) (a:=id.act) (b:=id.item) (c:=id.n) (p:=p)
     have g:=z 3 0 0 p
     rw[a1]at y g
     simp -dsimp -implicitDefEqProofs[show B3r none=.val (.slice none 0 0)from rfl,a4,y,st M2 _ i,A0u o,A0h]
     exact⟨m _ _ s,g _⟩
    |none=>
     simp -dsimp -implicitDefEqProofs[show B3r none=.val (.slice none 0 0)from rfl,D5y,st M2 _ i,A0u o,A0h]
     exact⟨m _ _ s,.agg (.same trivial (.same trivial (.same trivial (.same trivial (.nilS (.same trivial (.same trivial .nil))))))) .nil⟩
end
mutual
def B7Q(x:IdD):∀u:A0a,(A8b x u).isSome=(A0N x u).isSome
 |.mk id k l h w ks=>by
  rw[A8b,A0N];split
  .rfl
  .exact C1t x ks
def C1t(x:IdD):∀ks:List A0a,(B2r x ks).isSome=(A6R x ks).isSome
 |[]=>by rw[B2r,A6R];rfl
 |k::ks=>by
  have h:=B7Q x k;rw[B2r,A6R];cases h1:A8b x k with
  |none=>
   rw[h1]at h;cases h2:A0N x k with
   |none=>exact C1t x ks
   |some v=>rw[h2]at h;simp at h
  |some p=>
   rw[h1]at h;cases h2:A0N x k with
   |none=>rw[h2]at h;simp at h
   |some v=>rfl
end
def C8D{x:IdD}:∀{ks:List A0a} {i:Nat} (hi:i<ks.length) {q:List A1o},(∀k∈ks.take i,A0N x k=none)->A8b x ks[i]=some q->B2r x ks=some (⟨ks[i].kind,ks[i].label⟩::q)
 |[],i,hi,_,_,_=>by simp at hi
 |k::ks,0,hi,q,_,h=>by simp only[Z2O]at h|-;rw[B2r,h]
 |k::ks,i+1,hi,q,hn,h=>by
  have h0:A0N x k=none:=hn k Q1;have h1:=B7Q x k;rw[h0]at h1;have h2:A8b x k=none:=ZBF
  simp only[Z1P]at h|-;rw[B2r,h2];exact C8D ZAS (λz hz=>hn z (by simp[Z1h,hz])) h
def D0B(z k:A0a):A2O ⟨z.kind,z.label⟩ k=decide (kl k=kl z):=by simp only[A2O,kl,Z0i];rw[Z4B]
def B8x{α β:Type}[DecidableEq β](f:α->β):∀{l:List α} {i:Nat} (hi:i<l.length),(l.map f).Nodup->l.filter (λk=>decide (f k=f l[i]))=[l[i]]
 |[],i,hi,_=>by simp at hi
 |a::l,0,hi,hn=>by rw[Z0x,Z1B]at hn;simp only[Z2O];rw[Z2Y Q1,Z2N.2];intro b hb e;exact hn.1 (Z0C.2 ⟨b,hb,by simpa using e⟩)
 |a::l,i+1,hi,hn=>by
  rw[Z0x,Z1B]at hn;simp only[Z1P];have hi:i<l.length:=ZAS
  rw[Z3B,B8x f hi hn.2];simp only[Z0n];intro e;exact hn.1 (Z0C.2 ⟨l[i],Z0s hi,e.symm⟩)
def B9t{x:IdD}:∀(u y:A0a),A1u u=true->A0N x u=some y->∃q,A8b x u=some q/\A5m q [u]=[y]/\q.length<=A1m u/\∀s∈q,0<s.k/\s.k<=7/\A1z s.lab=true:=by
 intro u y hr h;rcases A2W (λu=>u) h with⟨e,rfl,_⟩|⟨i,s⟩
 .refine⟨[],?_,rfl,Q1,Q1⟩;obtain⟨a,b,c,d,f,g⟩:=y;rw[A8b,Z0c (show a=x from e)]
 .have hi:=s.lt;have hlt:=A5a hi;obtain⟨r1,r2,r3⟩:=(A2k u).1 hr;obtain⟨n1,n2⟩:=r2 _ (Z0s hi);obtain⟨q,q1,q2,q3,q4⟩:=B9t u.kids[i] y n2 s.find;have hw:A8b x u=some (⟨u.kids[i].kind,u.kids[i].label⟩::q):=by have j:=s.ne;have:=C8D hi s.none q1;obtain⟨a,b,c,d,f,g⟩:=u;rw[A8b,Z0d (show¬a=x from j)];exact this
  refine⟨_,hw,?_,?_,?_⟩
  .show A5m q (A4h _ [u])=[y];(have:A4h ⟨u.kids[i].kind,u.kids[i].label⟩ [u]=[u.kids[i]]:=by unfold A4h;simp only[Z0y,List.flatMap_nil,Z1b];rw[show(A2O ⟨u.kids[i].kind,u.kids[i].label⟩)=λk=>decide (kl k=kl u.kids[i])from funext λk=>D0B _ _];exact B8x kl hi r3);rw[this];exact q2
  .have:=B3v u.kids[i] (Z0s hi);rw[A3M u];simp only[Z0r];omega
  .intro z hz;rcases Z0p.1 hz with rfl|hz
   .have ha:=A4S n2;have hk:=B9a n1;have h7:=(A4Y ha).1;refine⟨by show 0<u.kids[i].kind;omega,h7.2,?_⟩;generalize u.kids[i]=v at*;obtain⟨a,k,l,hd,w,k0⟩:=v;have hk:k≠0:=hk;simp only[A2R,Z0h]at ha;have c5:(if k=0 then decide (l.size=0)&&decide (hd.length=0)&&decide (w.length=0)else A1z l)=true:=ha.2;rw[Z0d hk]at c5;exact c5
   .exact q4 z hz
termination_by u=>SizeOf.sizeOf u
def C5d{u x:A0a}(hs:A2m u)(hx:x∈A2j u):∃p,A3a u x.id=some p/\A1T p=true/\A2c u p=(x.id,0):=by
 obtain⟨q,q1,q2,q3,q4⟩:=B9t (x:=x.id) u x hs.right (A8U hs.ids hx);have hd:=hs.depth;have hv:A1T (A4i::q)=true:=by
  simp only[A1T,Z0h,Z0n,Z0D];refine⟨by simp only[Z0r];omega,λj hj=>?_⟩;have hj:j<(A4i::q).length:=ZAP
  cases j with
  |zero=>simp[B1s,B0L,A4i]
  |succ j=>
   (have a:j<q.length:=by simpa using hj);have:=q4 q[j] (Z0s a)
   simp[B1s,Z1l,a,this.1,this.2.1,this.2.2]
 refine⟨A4i::q,by rw[A3a,q1];rfl,hv,?_⟩;have hf:B2N u (A4i::q)=[x]:=by
  rw[B2N,Z0c hv];show A5m q (A6I u A4i)=[x];have:A6I u A4i=[u]:=by unfold A6I;rw[Z0c (by simp[B0L,A4i])]
  rw[this];exact q2
 rw[A2c,hf]
def D0d{u:A0a}{x:IdD}(h:∀v∈A2j u,v.id≠x):A3a u x=none:=by
 have h1:=B7Q x u;have h2:A0N x u=none:=by rw[A9C];exact List.find?_eq_none.2 λv hv=>by simpa using h v hv
 rw[h2]at h1;have:A8b x u=none:=ZBF
 rw[A3a,this];rfl
def C2Z{L:List A0L}(d:Int)(hs:L.Pairwise λa b=>a.1<b.1):∀f i j,j<=i+f->i<=j->j<=L.length->(∀k (h:k<L.length),k<i->L[k].1<d)->(∀k (h:k<L.length),j<=k->d<=L[k].1)->
 bsD L d f i j<=L.length/\(∀k (h:k<L.length),k<bsD L d f i j->L[k].1<d)/\∀k (h:k<L.length),bsD L d f i j<=k->d<=L[k].1
 |0,i,j,h1,h2,h3,h4,h5=>by obtain rfl:i=j:=Q0;exact⟨h3,h4,h5⟩
 |f+1,i,j,h1,h2,h3,h4,h5=>by
  rw[Z1G]at hs;rw[bsD];split
  .rename_i hij;have hm:(i+j)/2<L.length:=Q0;rw[Z1l,Z0g hm,Z1m];split
   .rename_i hd;refine C2Z d (Z1G.2 hs) f _ j Q0 Q0 h3 (λk hk hki=>?_) h5;by_cases e:k=(i+j)/2
    .subst e;exact hd
    .have:=hs k ((i+j)/2) hk hm Q0;omega
   .rename_i hd;refine C2Z d (Z1G.2 hs) f i _ Q0 Q0 Q0 h4 λk hk hki=>?_;by_cases e:k=(i+j)/2
    .subst e;omega
    .have:=hs ((i+j)/2) k hm hk Q0;omega
  .obtain rfl:i=j:=Q0;exact⟨h3,h4,h5⟩
def C8z{L:List A0L}(hn:A5S L)(d:Int):A8I L d=true<->∃x∈L,x.1<=d/\d<x.2:=by
 obtain⟨h1,h2,h3⟩:=C2Z d hn.asc L.length 0 L.length Q0 Q0 (Z0j _) (λk h hk=>by omega) (λk h hk=>by omega);have hp:=hn.2;have hq:=hn.asc;rw[Z1G]at hp hq;unfold A8I;generalize bsD L d L.length 0 L.length=a at*;simp only[Z1V,Z0h,Z0n];constructor
 .rintro(⟨u,v⟩|⟨u,v⟩)
  .rw[Z1l,Z0g u,Z1m]at v;have:=hn.1 _ (Z0s u);exact⟨_,Z0s u,Q0,Q0⟩
  .have hl:a-1<L.length:=Q0;rw[Z1l,Z0g hl,Z1m]at v;have:=h2 (a-1) hl Q0;exact⟨_,Z0s hl,Q0,v⟩
 .rintro⟨x,hx,u,v⟩;obtain⟨k,hk,rfl⟩:=Z3Z hx;by_cases e:L[k].1=d
  ·(have c:a<=k:=by have:=h2 k hk;omega);have b:a<L.length:=Q0
   refine .inl ⟨b,?_⟩;rw[Z1l,Z0g b,Z1m];have:=h3 a b Q0;by_cases e2:a=k
   .subst e2;exact e
   .have:=hq a k b hk Q0;omega
  ·(have f:k<a:=by have:=h3 k hk;omega);have hl:a-1<L.length:=Q0
   refine .inr ⟨Q0,?_⟩;rw[Z1l,Z0g hl,Z1m];by_cases e2:k=a-1
   .subst e2;exact v
   .have:=hp k (a-1) hk hl Q0;have:=h2 (a-1) hl Q0;omega
def C0G:∀{l:List Int} {x:Int},x∈l->x∈A2X l
 |[_],x,h=>h
 |a::b::l,x,h=>by
  have ih:=λh=>C0G (l:=b::l) (x:=x) h;rw[A2X];split
  .rename_i e;rcases Z0p.1 h with rfl|h
   .exact ih (by rw[e];simp)
   .exact ih h
  .rcases Z0p.1 h with rfl|h
   .simp
   .exact Z1v _ (ih h)
def B4G{l:List A1p}{x:Int}(h:x=0\/∃q∈A2n l,x∈A5Q q.2):x∈A5j l:=by
 refine C0G ((A3g _).mem_iff.2 ?_);rcases h with rfl|⟨q,hq,hx⟩
 .simp
 .exact Z1v _ (Z1M.2 ⟨q,hq,hx⟩)
def C9x(a:Int):∀(K:List Int),(∃z∈K,z<=a)->∃b∈K,b<=a/\∀c∈K,c<=a->c<=b
 |[],⟨z,hz,_⟩=>by simp at hz
 |y::K,h=>by
  by_cases hy:∃z∈K,z<=a
  .obtain⟨b,h1,h2,h3⟩:=C9x a K hy;by_cases hc:y<=a/\b<y
   .exact⟨y,Q1,hc.1,λc d hca=>by
     rcases Z0p.1 d with rfl|d
     .omega
     .have:=h3 c d hca;omega⟩
   .exact⟨b,by simp[h1],h2,λc d hca=>by
     rcases Z0p.1 d with rfl|d
     .omega
     .exact h3 c d hca⟩
  .obtain⟨z,hz,e⟩:=h;rcases Z0p.1 hz with rfl|hz
   .exact⟨z,Q1,e,λc d hca=>by
     rcases Z0p.1 d with rfl|d
     .omega
     .exact absurd ⟨c,d,hca⟩ hy⟩
   .exact absurd ⟨z,hz,e⟩ hy
def C7k(l:List A1p)(purpose:ByteArray){a:Int}(h0:0<=a)(h1:a<=1048576):∃b∈A5j l,b<=a/\A3D b purpose l=A3D a purpose l:=by
 obtain⟨b,hb,i,c⟩:=C9x a (A5j l) ⟨0,B4G (.inl rfl),h0⟩;refine⟨b,hb,i,?_⟩;have key:∀q∈A2n l,A8I (A3J q.2) b=A8I (A3J q.2) a:=λq hq=>by
  have hn:A5S (A3J q.2):=by have f:=hq;simp only[A2n,Z0C]at f;obtain⟨d,_,rfl⟩:=f;exact A7N (B1K _ _ _).asc'
  have e:∀x∈A3J q.2,x.1∈A5j l/\(x.2<A2T->x.2∈A5j l):=λx hx=>⟨B4G (.inr ⟨q,hq,Z1M.2 ⟨x,hx,by split<;>simp⟩⟩),λh=>B4G (.inr ⟨q,hq,Z1M.2 ⟨x,hx,by rw[Z0c h];simp⟩⟩)⟩;rw[Z2k,C8z hn,C8z hn];constructor
  .rintro⟨x,hx,u,v⟩;refine⟨x,hx,Q0,?_⟩;have:=(e x hx).2;have h3:=hn.1 x hx;by_cases hf:x.2<A2T
   .by_cases hc:x.2<=a
    .have:=c _ (this hf) hc;omega
    .omega
   .have:A2T=1048577:=rfl;omega
  .rintro⟨x,hx,u,v⟩;have:=c _ (e x hx).1 u;exact⟨x,hx,this,Q0⟩
 have g:onD b purpose l=onD a purpose l:=by unfold onD;rw[List.filter_congr λq hq=>by rw[key q hq]]
 rw[A3D,g,A3D]
def C0v(B:Int->A0a)(id:IdD)(day:Int):∀(K:List Int) (s:D1N),(s.1.isSome->(K.foldl (A4u B id day) s).1.isSome)/\(s.2.isSome->(K.foldl (A4u B id day) s).2.isSome)
 |[],s=>⟨λh=>h,λh=>h⟩
 |b::K,s=>by
  have ih:=C0v B id day K (A4u B id day s b);rw[Z1U];have h1:(s.1.isSome->(A4u B id day s b).1.isSome)/\(s.2.isSome->(A4u B id day s b).2.isSome):=by
   unfold A4u;split
   .exact⟨λh=>h,λh=>h⟩
   .split
    .exact⟨λ_=>rfl,λh=>h⟩
    .split
     .exact⟨λh=>h,λ_=>rfl⟩
     .exact⟨λh=>h,λh=>h⟩
  exact⟨λh=>ih.1 (h1.1 h),λh=>ih.2 (h1.2 h)⟩
def C3X(B:Int->A0a)(id:IdD)(day:Int){p:List A1o}{b:Int}(hp:A3a (B b) id=some p):∀(K:List Int) (s:D1N),b∈K->(b<day->(K.foldl (A4u B id day) s).1.isSome)/\(day<b->(K.foldl (A4u B id day) s).2.isSome)
 |c::K,s,h=>by
  rw[Z1U];by_cases e:b=c
  .subst e;have h1:=C0v B id day K (A4u B id day s b);refine⟨λhb=>h1.1 ?_,λhb=>h1.2 ?_⟩
   .unfold A4u;rw[hp];simp only;rw[Z0c hb];rfl
   .unfold A4u;rw[hp];simp only;rw[Z0d Q0];split
    .rfl
    .rename_i hc;cases h2:s.2 with
     |some q=>rfl
     |none=>exact absurd ⟨hb,h2⟩ hc
  .refine C3X B id day hp K _ ?_;rcases Z0p.1 h with h|h
   .exact absurd h e
   .exact h
def C4s(id:IdD):∀(ds:List EnD) (u:A0a) (r:Int×Int) (p:List A1o),A5b id u ds=some (r,p)->p≠[]
 |[],u,r,p,h=>by simp[A5b]at h
 |d::ds,u,r,p,h=>by
  rw[A5b]at h;split at h
  .rename_i q hq _;obtain⟨z,rfl⟩:=B8H u id q hq;simp only[Z0b,Z0i]at h;rw[<-h.2];simp
  .exact C4s id ds _ r p h
def C9J{l:List A1p}{a b:Int}{purpose:ByteArray}(hF:A8H l)(h0:0<=a)(h1:a<=1048576){x:A0a}(hx:x∈A2j (A3D a purpose l)):(A5F x.id b purpose l).kind≠4/\(A5F x.id b purpose l).path≠[]/\((A5F x.id b purpose l).kind=3->b<a):=by
 obtain⟨p,hp,_⟩:=C5d (A6b hF a purpose) hx
 obtain⟨c,hc,i,d⟩:=C7k l purpose h0 h1
 rw[<-d]at hp
 obtain⟨n1,n2⟩:=C5O x.id b purpose l
 have hh:=C3X (λb=>A3D b purpose l) x.id b hp (A5j l) (none,none) hc
 have hN:(A5j l).foldl (A4u (λb=>A3D b purpose l) x.id b) (none,none)=B0R x.id b purpose l:=rfl
 rw[hN]at hh
 rw[A5F]
 cases h2:A3a (A3D b purpose l) x.id with
 |some q=>
  obtain⟨z,rfl⟩:=B8H _ _ _ h2
  exact⟨(by decide:(0:Int)≠4),Q1,λh=>absurd h (by decide:(0:Int)≠3)⟩
 |none=>
  simp only
  have j:c≠b:=λe=>by subst e;rw[h2]at hp;simp at hp
  cases h3:A6T x.id b purpose l with
  |some w=>
   obtain⟨r,q⟩:=w
   exact⟨(by decide:(1:Int)≠4),C4s _ _ _ _ _ h3,λh=>absurd h (by decide:(1:Int)≠3)⟩
  |none=>
   simp only
   generalize B0R x.id b purpose l=nr at*
   obtain⟨e,f⟩:=nr
   cases e with
   |some q=>
    obtain⟨z,rfl⟩:=n1 q rfl
    exact⟨(by decide:(2:Int)≠4),Q1,λh=>absurd h (by decide:(2:Int)≠3)⟩
   |none=>
    have g:b<c:=by
     have:=hh.1;by_cases hlt:c<b
     .simpa using this hlt
     .omega
    cases f with
    |none=>simpa using hh.2 g
    |some q=>
     obtain⟨z,rfl⟩:=n2 q rfl
     exact⟨(by decide:(3:Int)≠4),Q1,λ_=>by omega⟩
def E5J{l:List A0a}{i:Nat}(h:i<l.length):(A0t l)[i]?=some l[i].row:=by simp[A3h,h]
section
variable (gl:Nat->AV)
set_option maxHeartbeats 4000000 in
def D6j(a7:gl 0=.cptr [fnV 356,fnV 357])(ad:gl 2=A1t)(af:gl 8=A1E)(a b:Int)(purpose:ByteArray)(l:List A1p)(hl:l.length<=maxLen)(hg:∀g∈l,g.good)
 (f:∀M,A2Z (WC gl) 5 [] M (λr m=>r=.val (.bool true)/\m=M))(M:Mem):
 A0c (WC gl) 3 [I a,I b,S purpose,.list 4 (A2f l) .no] M (λv M'=>v=B true):=by
 have ae:=C9l gl l purpose M hl hg
 have ap:∀(K:AV->Mem->Prop) (N:Mem),K (B true) N->K (B true) N:=λ_ _ h=>h
 refine A0r hB func3 ?_
 simp -dsimp -implicitDefEqProofs
 refine A0s (f M) ?_
 rintro _ _ ⟨rfl,rfl⟩
 simp -dsimp -implicitDefEqProofs
 refine A0s (A0l func6 rfl rfl ae) ?_
 rintro _ M ⟨⟨c,rfl,hb⟩,rfl⟩
 cases c with
 |false=>
  simp -dsimp -implicitDefEqProofs
  refine A0s (f M) ?_
  rintro _ _ ⟨rfl,rfl⟩
  simp -dsimp -implicitDefEqProofs
 |true=>
 by_cases h0:a<0
 .simp -dsimp -implicitDefEqProofs[h0];refine A0s (f M) ?_;rintro _ _ ⟨rfl,rfl⟩;simp -dsimp -implicitDefEqProofs
 by_cases h1:1048576<a
 .simp -dsimp -implicitDefEqProofs[h0,h1];refine A0s (f M) ?_;rintro _ _ ⟨rfl,rfl⟩;simp -dsimp -implicitDefEqProofs
 have hF:A8H l:=C3n hg (hb rfl)
 have hs:=A6b hF a purpose
 have a4:=hs.count
 have d:=B4x gl a7 ad af hF a purpose
 have a3:=λx M=>B3e gl a7 ad af hF x b purpose M
 have a1:=λx hx=>C9J (a:=a) (b:=b) (purpose:=purpose) hF Q0 Q0 (x:=x) hx
 have ac:=λM=>C0U gl (A3D a purpose l) M hs.good Q0
 have aq:(A2j (A3D a purpose l)).length<=1024:=by rw[D4l];exact a4
 generalize A3D a purpose l=u at*
 generalize hL:A2j u=L at*
 simp -dsimp -implicitDefEqProofs[h0,h1]
 refine A0g func8 (d M) ?_
 simp -dsimp -implicitDefEqProofs
 refine A0g func7 (ac M) ?_
 simp -dsimp -implicitDefEqProofs
 refine A1y hB L.length 35 (λT Mi=>∃i:Nat,i<=L.length/\T 0=I a/\T 1=I b/\T 2=S purpose/\T 3=.list 4 (A2f l) .no/\T 33=.list 8 (A0t L) .no/\T 34=I L.length/\T 35=I i) ?_ ?_
 .exact⟨0,Q0,Q1,Q1,Q1,Q1,Q1,Q1,Q1⟩
 clear ac d
 rintro T Mi ⟨i,i1,t0,t1,t2,t3,w,a2,o⟩
 by_cases hi:i<L.length
 case neg=>have t:¬(i:Int)<L.length:=Q0;simp -dsimp -implicitDefEqProofs[t0,t1,t2,t3,w,a2,o,t]
 have t:(i:Int)<L.length:=Q0
 have w1:=A1O (i:=i) Q0
 obtain⟨x,hx⟩:=ex (L[i])
 have a8:=E5J hi
 rw[<-hx]at a8
 have ao:x∈L:=by rw[hx];exact Z0s hi
 obtain⟨k1,k2,k3⟩:=a1 x ao
 have ak:x.id.row=[I x.id.act,I x.id.item,I x.id.n]:=rfl
 obtain⟨z,hz⟩:=ex ([AV.val (Value.int IntKind.i64 0),AV.val (Value.int IntKind.i64 0),AV.val (Value.int IntKind.i64 0),AV.val (Value.int IntKind.i64 0),AV.val (Value.string {data:=#[]}),AV.val (Value.slice none 0 0),AV.val (Value.slice none 0 0),AV.val (Value.slice none 0 0)]:List AV)
 have ai:z.length=8:=by rw[hz];rfl
 have a5:∀(Q:Mem) (v:A0a),A0k (some 8) (Q++[A0m.cells 31 z]) (.ptr Q.length 0) (.agg v.row)=some (Q++[A0m.cells 31 v.row]):=λQ v=>by
  have:(Q++[A0m.cells 31 z])[Q.length]?=some (.cells 31 z):=ZBG
  rw[A0f this];simp[A0o,A0n,A0e,ai,A0a.row_len,Z0v]
 obtain⟨q,hq⟩:=ex (Mi.length)
 obtain⟨M3,ab⟩:=ex (Mi++[A0m.cells 31 x.row])
 have aa:M3[q]?=some (.cells 31 x.row):=by rw[ab,hq];simp
 have a9:∀Q:Mem,Q[q]?=some (.cells 31 x.row)->A0E prog 28 Q (.ptr q 0)=some (.agg [I x.id.act,I x.id.item,I x.id.n]):=λQ h=>by rw[A0b h,x.row_eq];simp[A0p]
 have a0:=a3 x.id M3
 rw[A8t.row,ak]at a0
 generalize A5F x.id b purpose l=s at*
 obtain⟨k,p,r1,r2⟩:=s
 simp only at k1 k2 k3 a0
 have an:¬(p.length:Int)=0:=λe=>k2 (Z0w Q0)
 have aj:¬(p.length:Int)<1:=Q0
 obtain⟨r,hr⟩:=ex (M3.length)
 obtain⟨M4,j⟩:=ex (M3++[A0m.cells 37 [I k,I x.id.act,I x.id.item,I x.id.n,A5N p,I r1,I r2]])
 have y:M4[r]?=some (A0m.cells 37 [I k,I x.id.act,I x.id.item,I x.id.n,A5N p,I r1,I r2]):=by rw[j,hr];simp
 have al:Grow M3 M4:=ZCM
 have ag:=al.get aa Q1
 have a6:=C9A x.id x.id
 rw[Z0A rfl]at a6
 have am:=a9 M3 aa
 have ah:=a9 M4 ag
 have j0:A0E prog 3 M4 (.ptr r 0)=some (I k):=by rw[A0b y];simp[A0p]
 have j1:A0E prog 28 M4 (.ptr r 1)=some (.agg [I x.id.act,I x.id.item,I x.id.n]):=by rw[A0b y];simp[A0p]
 have j4:A0E prog 33 M4 (.ptr r 4)=some (A5N p):=by rw[A0b y];simp[A0p]
 simp -dsimp -implicitDefEqProofs[-A1d,t0,t1,t2,t3,w,a2,o,hi,t,a8,A0j,<-hz,a5]
 rw[<-hx,<-ab,<-hq]
 simp -dsimp -implicitDefEqProofs[-A1d,t0,t1,t2,t3,am]
 refine A0g func9 a0 ?_
 simp -dsimp -implicitDefEqProofs[-A1d,A0j,A0k,A0e,A0o,A0n]
 rw[<-j,<-hr]
 by_cases c2:k=2<;>by_cases c3:k=3<;>by_cases c4:b<a
 all_goals first
  |(exfalso;omega)
  |(exfalso;exact absurd (k3 c3) c4)
  |skip
 all_goals
  have c5:a<=b<->¬b<a:=Q0
  simp -dsimp -implicitDefEqProofs[-A1d,t0,t1,t2,t3,w,a2,o,j0,j1,j4,ah,a6,k1,c2,c3,c4,c5,k2,an,aj,w1]
  exact⟨⟨i+1,Q3,rfl⟩,Q3⟩
end
def A8c:List ByteArray:=[⟨#[98,111,111,107]⟩,⟨#[112,97,114,116]⟩,⟨#[115,101,99,116,105,111,110]⟩,⟨#[112,97,114,97,103,114,97,112,104]⟩,⟨#[116,97,98,108,101]⟩,⟨#[114,111,119]⟩,⟨#[99,101,108,108]⟩,⟨#[110,111,116,101]⟩]
def B5C:List (Nat×AV):=[(0,S ⟨#[98,111,111,107]⟩),(1,S ⟨#[112,97,114,116]⟩),(2,S ⟨#[115,101,99,116,105,111,110]⟩),(3,S ⟨#[112,97,114,97,103,114,97,112,104]⟩),(4,S ⟨#[116,97,98,108,101]⟩),(5,S ⟨#[114,111,119]⟩),(6,S ⟨#[99,101,108,108]⟩),(7,S ⟨#[110,111,116,101]⟩)]
def D4a:A0A prog 214 B5C=none:=Q2
def D7B:A1b prog 214=none:=Q2
def D9g:B1m prog 214 B5C=some (.agg (A8c.map S)):=Q2
def D6L:C2e prog 214=some (8,9):=Q2
def knW(k:Int):ByteArray:=A8c.getD k.toNat ⟨#[]⟩
def A9g(p:List A1o):List ByteArray:=p.flatMap λs=>if B0L s=true then[knW s.k]else[knW s.k,s.lab]
section
variable (gl:Nat->AV)
def C9y(i:Nat)(hi:i<100)(M:Mem):A0c (WC gl) 92 [I i] M (λv M'=>v=S (B3j (Lib.decDigits i))/\M'=M):=by refine A5P λG w vs hi' hr=>?_;simp only[A0v]at hr;obtain⟨y,_,rfl,hy,rfl⟩:=hr;simp only[Rep]at hy;subst hy;exact Z1E (strconv_Itoa_small i hi w) λe w' ⟨he,hw⟩=>⟨he,hw▸RowKit.Below.refl _ _⟩
def D1j(k:Int)(h0:0<=k)(h1:k<8)(M:Mem):A0c (WC gl) 109 [I k] M (λv M'=>v=.tuple [S (knW k),B true]/\M'=M):=by
 refine A0c.dataX ?_;have c1:¬k<0:=Q0;have c2:¬k>=8:=Q0;have c3:¬8<=k:=Q0;have hk:k=0\/k=1\/k=2\/k=3\/k=4\/k=5\/k=6\/k=7:=Q0;have hp:B5C=[(0,S ⟨#[98,111,111,107]⟩),(1,S ⟨#[112,97,114,116]⟩),(2,S ⟨#[115,101,99,116,105,111,110]⟩),(3,S ⟨#[112,97,114,97,103,114,97,112,104]⟩),(4,S ⟨#[116,97,98,108,101]⟩),(5,S ⟨#[114,111,119]⟩),(6,S ⟨#[99,101,108,108]⟩),(7,S ⟨#[110,111,116,101]⟩)]:=rfl;have hb:=D4a;have ha:=D9g;rw[hp]at hb ha;obtain⟨N,hN⟩:=ex (M++[A0m.cells 214 (A8c.map S)]);have hM:N[M.length]?=some (A0m.cells 214 (A8c.map S)):=ZCS
 have hg:Grow M N:=ZAL
 refine A0r hB func109 ?_;simp -dsimp -implicitDefEqProofs[hb];simp -dsimp -implicitDefEqProofs[A0W,A0J,A1V,A1X,A1c,hb,ha,A0j,A0k,A0e,A0o,A0n,c1,c2,c3];have hd:List.drop A8c.length [AV.val (Value.string {data:=#[]}),AV.val (Value.string {data:=#[]}),AV.val (Value.string {data:=#[]}),AV.val (Value.string {data:=#[]}),AV.val (Value.string {data:=#[]}),AV.val (Value.string {data:=#[]}),AV.val (Value.string {data:=#[]}),AV.val (Value.string {data:=#[]})]=[]:=rfl;rw[hd,Z1b,<-hN];refine⟨⟨ZAR,rfl⟩,?_⟩;simp -dsimp -implicitDefEqProofs[D7B,D6L,A6j,h0,h1];rcases hk with rfl|rfl|rfl|rfl|rfl|rfl|rfl|rfl<;>simp -dsimp -implicitDefEqProofs[A0b hM,A8c,knW]<;>exact⟨hg,.tuple (.same trivial (.same trivial .nil)) .nil⟩
def hF:A2r:=⟨λ_=>true,λ_=>false,λd=>d==26||d==34⟩
@[simp] def E6G:hF.own=λ_=>false:=(rfl)
@[simp] def E5G:hF.vec=λd=>d==26||d==34:=(rfl)
def D1U{p:List A1o}{i:Nat}(h:i<p.length):A9g (p.take (i+1))=A9g (p.take i)++(if B0L p[i]=true then[knW p[i].k]else[knW p[i].k,p[i].lab]):=by rw[A9g,A9g,Z0z,Z0g h,Z0T,Z1n,Z0y,List.flatMap_nil,Z1b]
def C3O(p:List A1o):(A9g p).length<=2*p.length:=by
 induction p with
 |nil=>simp[A9g]
 |cons s p ih=>
  have e:A9g (s::p)=(if B0L s=true then[knW s.k]else[knW s.k,s.lab])++A9g p:=by rw[A9g,Z0y];rfl
  rw[e,Z0k,Z0r];split<;>simp only[Z0r,Z1p]<;>omega
set_option maxHeartbeats 1000000 in
def D2i(p:List A1o)(M:Mem)(hv:A1T p=true)(w:(Lib.join ((A9g p).map (·.data.toList)) [32]).length<=140737488355328):A0c (WC gl) 90 [.list 2 (A0O p) .no] M (λv M'=>v=S (B5H (A9g p) ⟨#[32]⟩)/\M'=M):=by
 refine A0c.dataX ?_;obtain⟨aa,z⟩:=B6w hv;have u:=λM=>C2z gl p M Q0;rw[hv]at u;have a9:=C3O p;have hj:=λM=>C9d gl M (A9g p) .no ⟨#[32]⟩ Q0 w;refine A0r hF func90 ?_;simp -dsimp -implicitDefEqProofs;refine A0g func64 (u M) ?_;simp -dsimp -implicitDefEqProofs;refine B2Y (.exit 0) (λT Mi=>Arr 9 1 A8m M.length Mi (T 3) (A9g p)/\Grow M Mi) ?_ ?_
 .refine A1y hF p.length 13 (λT Mi=>∃i:Nat,i<=p.length/\T 11=.list 2 (A0O p) .no/\T 12=I p.length/\T 13=I i/\Arr 9 1 A8m M.length Mi (T 3) (A9g (p.take i))/\Grow M Mi) ?_ ?_
  .exact⟨0,Q0,Q1,Q1,Q1,by simpa[A9g]using Arr.nil,A0d.refl _ _⟩
  rintro T Mi ⟨i,i1,c,b,a,h3,hg⟩;generalize q:T 3=v3 at*;by_cases hi:i<p.length;case neg=>have l:¬(i:Int)<p.length:=Q0;rw[Z0e Q0]at h3;simp -dsimp -implicitDefEqProofs[c,b,a,l,q];exact⟨h3,hg⟩
  have l:(i:Int)<p.length:=Q0;have w1:=A1O (i:=i) Q0;have x:=z i hi;have d:=D1U hi;have a8:=C3O (p.take i);rw[Z0t]at a8;obtain⟨s,hs⟩:=ex (p[i]);rw[<-hs]at x d;have a3:(A0O p)[i]?=some [I s.k,S s.lab]:=by rw[hs];simp[A0O,hi,A1o.row]
  have hk:0<=s.k/\s.k<8:=by
   rcases x with⟨_,h⟩|h
   .rw[h];simp[A4i]
   .omega
  obtain⟨b0,m⟩:=ex (Mi.length);obtain⟨M4,f⟩:=ex (Mi++[A0m.cells 78 [I s.k,S s.lab]]);have a4:M4[b0]?=some (A0m.cells 78 [I s.k,S s.lab]):=by rw[f,m];simp
  have j:Grow Mi M4:=ZBT
  have n:=h3.keep j;have a6:=D1j gl s.k hk.1 hk.2 M4;have y:=λM=>B0s gl s M;have a0:s.row=[I s.k,S s.lab]:=rfl;rw[a0]at y;simp -dsimp -implicitDefEqProofs[c,b,a,hi,l,a3,A0j,A0k,A0e,A0o,A0n];rw[<-hs,<-f,<-m];refine A0g func109 a6 ?_;simp -dsimp -implicitDefEqProofs[A0x,A1g,q];refine A3B (C:=WC gl) (enc:=A8m) (e:=9) (sz:=1) (news:=[knW s.k]) B7u C3S D3I (λ_=>rfl) n.own ZDC ZAB rfl ?_;intro v' M5 u1 u2 u3 _;have g:Arr 9 1 A8m M.length M5 v' (A9g (p.take i)++[knW s.k]):=⟨u1,n.later (hg.trans j).1 u3⟩;have o:=n.grow (hg.trans j) u2;have a7:obj v3≠some b0:=λe=>by have:=h3.own.lt e;omega
  have t:M5[b0]?=some (A0m.cells 78 [I s.k,S s.lab]):=by rw[u2.2 b0 (by rw[f,m];simp) a7];exact a4
  simp -dsimp -implicitDefEqProofs[c,b,a,A0b t];refine A0g func65 (y M5) ?_;cases hb:B0L s with
  |true=>rw[hb,Z0c rfl]at d;simp -dsimp -implicitDefEqProofs[c,b,a,w1];exact⟨⟨i+1,Q3,rfl,by rw[d];exact g,o⟩,Q3⟩
  |false=>rw[hb,Z0d Q1]at d;simp -dsimp -implicitDefEqProofs[c,b,a,A0b t,A0x,A1g];refine A3B (C:=WC gl) (enc:=A8m) (e:=9) (sz:=1) (news:=[s.lab]) B7u C3S D3I (λ_=>rfl) g.own ZDC ZAB rfl ?_;intro a5 M6 y1 y2 y3 _;have a2:Arr 9 1 A8m M.length M6 a5 ((A9g (p.take i)++[knW s.k])++[s.lab]):=⟨y1,g.later o.1 y3⟩;simp -dsimp -implicitDefEqProofs[c,b,a,w1];exact⟨⟨i+1,Q3,rfl,by rw[d];simpa using a2,g.grow o y2⟩,Q3⟩
 rintro T Mi ⟨r,hg⟩;refine⟨M.length,T.put (some 3) (.list 1 (A0K (A9g p)) .no),A6W (A7k T) (Still.rows (λ_=>rfl) (λ_ _ _=>trivial) r.own r.lat .nil),?_⟩;have a1:=A5c hg;generalize A3y Mi M.length=M2 at*;simp -dsimp -implicitDefEqProofs[Env.put_some];refine A0g func110 (hj M2) ?_;simp -dsimp -implicitDefEqProofs;exact⟨a1,.same trivial .nil⟩
end
def p6:List A1o:=[⟨0,⟨#[]⟩⟩,⟨2,⟨#[54]⟩⟩]
def C8i:ByteArray:=⟨#[98,111,111,107,32,115,101,99,116,105,111,110,32,54]⟩
def C4u:ByteArray:=⟨#[98,111,111,107,32,115,101,99,116,105,111,110,32,54,44,32,103,111,110,101,32,98,121,32,97,99,116,32,51,32,105,116,101,109,32,48]⟩
def g1:ByteArray:=⟨#[98,111,111,107,32,115,101,99,116,105,111,110,32,54,44,32,103,111,110,101,32,98,121,32,97,99,116,32]⟩
def g2:ByteArray:=⟨#[98,111,111,107,32,115,101,99,116,105,111,110,32,54,44,32,103,111,110,101,32,98,121,32,97,99,116,32,51]⟩
def g3:ByteArray:=⟨#[98,111,111,107,32,115,101,99,116,105,111,110,32,54,44,32,103,111,110,101,32,98,121,32,97,99,116,32,51,32,105,116,101,109,32]⟩
def C9o(a b:ByteArray)(h:decide (a.size+b.size<=1000)=true):¬(9223372036854775807:Int)<(a.size:Int)+(b.size:Int):=by have:=Z1C h;omega
def D6v:B5H (A9g p6) ⟨#[32]⟩=C8i:=Q2
def D2X:A1T p6=true:=Q2
def D1l{u:Nat}(h:u<=9):Lib.decDigits u=[UInt8.ofNat (48+u)]:=by rw[Lib.decDigits,dif_pos Q0]
def A6Y(b:Nat):List A0m:=[.cells 90 [.func (.func 89) [] []],.map [(I 0,.func (.func 89) [] [],0),(I 1,.func (.func 91) [] [.ptr b 0],1),(I 2,.func (.func 93) [] [.ptr b 0],2),(I 3,.func (.func 94) [] [.ptr b 0],3),(I 4,.func (.func 95) [] [],4)] 5]
def C5Q{M:Mem}{c0:A0m}{es:List (AV×AV×Nat)}{a:Nat}{k:Int}{v:AV}(hk:A2Q prog 3 (I k) es=some none):A2b prog 114 (M++[c0,.map es a]) (.mapr (M.length+1)) (I k) v=some (M++[c0,.map (es++[(I k,v,a)]) (a+1)]):=by
 have e1:A8r prog 114=some (3,90):=Q2
 have e2:((A6E prog 3||B6j prog 3)&&A4P prog 30 3 (I k))=true:=Q2
 have e3:(M++[c0,.map es a])[M.length+1]?=some (.map es a):=by rw[Z1t Q0];simp
 have e4:(M++[c0,.map es a]).set (M.length+1) (.map (es++[(I k,v,a)]) (a+1))=M++[c0,.map (es++[(I k,v,a)]) (a+1)]:=by rw[Z3Q _ _ Q0];simp
 simp only[A2b,e1,e3,e2,Z1e,hk,e4]
def D3f{M:Mem}(b:Nat)(k:Int)(v:AV)(hk:A1Y prog 114 (A6Y b) (.mapr 1) (I k) true=some v):A1Y prog 114 (M++A6Y b) (.mapr (M.length+1)) (I k) true=some v:=by
 have e:A4I (M++A6Y b) (.mapr (M.length+1))=A4I (A6Y b) (.mapr 1):=by
  have:(M++A6Y b)[M.length+1]?=(A6Y b)[1]?:=by rw[Z1t Q0];simp
  simp only[A4I,this]
 unfold A1Y at hk|-;rw[e];exact hk
section
variable (gl:Nat->AV)
def B9J(M:Mem):A0c (WC gl) 57 [] M (λv M'=>v=.mapr (M.length+1)/\M'=M++A6Y M.length):=by
 refine A0r hB func57 ?_;have hM:(M++[A0m.cells 90 [AV.func (Fn.func 89) [] []],A0m.map [] 0])[M.length]?=some (.cells 90 [AV.func (Fn.func 89) [] []]):=ZBG
 simp -dsimp -implicitDefEqProofs[A0j,A0k,A0e,A0b hM];rw[C5Q Q2];simp -dsimp -implicitDefEqProofs;rw[C5Q Q2];simp -dsimp -implicitDefEqProofs;rw[C5Q Q2];simp -dsimp -implicitDefEqProofs;rw[C5Q Q2];simp -dsimp -implicitDefEqProofs;rw[C5Q Q2];simp -dsimp -implicitDefEqProofs[A6Y]
def C1L(id:IdD)(k:Int)(r:Int×Int)(M:Mem):A0c (WC gl) 89 [.agg (A8t.row id ⟨k,p6,r⟩)] M (λv M'=>v=S C8i/\M'=M):=by have h:=D2i gl p6 M D2X (by show(Lib.join ((A9g p6).map (·.data.toList)) [32]).length<=140737488355328;have:(Lib.join ((A9g p6).map (·.data.toList)) [32]).length=14:=Q2;omega);rw[D6v]at h;refine A0r hB func89 ?_;simp -dsimp -implicitDefEqProofs[A8t.row];refine A0g func90 h ?_;simp -dsimp -implicitDefEqProofs
def D0l(id:IdD)(M:Mem){b:Nat}(hM:M[b]?=some (.cells 90 [.func (.func 89) [] []])):A0c (WC gl) 91 [.agg (A8t.row id ⟨1,p6,(3,0)⟩),.ptr b 0] M (λv M'=>v=S C4u/\M'=M):=by have hp:=λM=>C1L gl id 1 (3,0) M;have h3:=λM=>C9y gl 3 Q0 M;have h0:=λM=>C9y gl 0 Q0 M;rw[D1l Q0]at h3 h0;refine A0r hB func91 ?_;rw[A8t.row]at hp|-;simp -dsimp -implicitDefEqProofs;refine A0X hB (A0B gl) (λk=>if k=0 then 1 else 0) (λ_=>b) (by rfl) Q2 ?_;simp -dsimp -implicitDefEqProofs[A0b hM];refine A1k (λM=>A0l func89 rfl rfl (hp M)) ?_;have e1:C8i++⟨#[44,32,103,111,110,101,32,98,121,32,97,99,116,32]⟩=g1:=Q2;have e2:g1++B3j [51]=g2:=Q2;have e3:g2++⟨#[32,105,116,101,109,32]⟩=g3:=Q2;have e4:g3++B3j [48]=C4u:=Q2;simp -dsimp -implicitDefEqProofs;rw[Z0d (C9o C8i _ Q2),e1];simp -dsimp -implicitDefEqProofs;refine A1k (λM=>A0l func92 rfl rfl (h3 M)) ?_;simp -dsimp -implicitDefEqProofs;rw[Z0d (C9o g1 _ Q2),e2];simp -dsimp -implicitDefEqProofs;rw[Z0d (C9o g2 _ Q2),e3];simp -dsimp -implicitDefEqProofs;refine A1k (λM=>A0l func92 rfl rfl (h0 M)) ?_;simp -dsimp -implicitDefEqProofs;rw[Z0d (C9o g3 _ Q2),e4];simp -dsimp -implicitDefEqProofs
def D7I(id:IdD)(r:Int×Int)(M:Mem):A0c (WC gl) 37 [.agg (A8t.row id ⟨0,p6,r⟩)] M (λv M'=>v=S C8i/\M'=M):=by refine A0c.dataX ?_;have hp:=λM=>C1L gl id 0 r M;have a:Grow M (M++A6Y M.length):=.app _ _ _;have hl:=D3f (M:=M) M.length 0 (.tuple [.func (.func 89) [] [],B true]) Q2;rw[A8t.row]at hp|-;refine A0r hB func37 ?_;simp -dsimp -implicitDefEqProofs;refine A0X hB (A0B gl) (λk=>if k=0 then 2 else if k=3 then 1 else 0) (λ_=>M.length+1) (by rfl) Q2 ?_;simp -dsimp -implicitDefEqProofs;refine A5R (A0l func57 rfl rfl (B9J gl M)) ?_;simp -dsimp -implicitDefEqProofs[hl,A1e];refine A0s (A0l func89 rfl rfl (hp _)) ?_;rintro r M' ⟨rfl,rfl⟩;simp -dsimp -implicitDefEqProofs;exact⟨a,.same trivial .nil⟩
def D6u(id:IdD)(M:Mem):A0c (WC gl) 37 [.agg (A8t.row id ⟨1,p6,(3,0)⟩)] M (λv M'=>v=S C4u/\M'=M):=by
 refine A0c.dataX ?_;have hM:(M++A6Y M.length)[M.length]?=some (.cells 90 [.func (.func 89) [] []]):=by simp[A6Y]
 have hp:=D0l gl id (M++A6Y M.length) hM;have a:Grow M (M++A6Y M.length):=.app _ _ _;have hl:=D3f (M:=M) M.length 1 (.tuple [.func (.func 91) [] [.ptr M.length 0],B true]) Q2;rw[A8t.row]at hp|-;refine A0r hB func37 ?_;simp -dsimp -implicitDefEqProofs;refine A0X hB (A0B gl) (λk=>if k=0 then 2 else if k=3 then 1 else 0) (λ_=>M.length+1) (by rfl) Q2 ?_;simp -dsimp -implicitDefEqProofs;refine A5R (A0l func57 rfl rfl (B9J gl M)) ?_;simp -dsimp -implicitDefEqProofs[hl,A1e];refine A0s (A0l func91 rfl rfl hp) ?_;rintro r M' ⟨rfl,rfl⟩;simp -dsimp -implicitDefEqProofs;exact⟨a,.same trivial .nil⟩
def B2J(f:gl 0=.cptr [fnV 356,fnV 357])(e:gl 2=A1t)(d:gl 8=A1E){l:List A1p}(hF:A8H l)(id:IdD)(day:Int)(purpose b:ByteArray)(M:Mem) (h:∀M,A0c (WC gl) 37 [.agg ((A5F id day purpose l).row id)] M (λv M'=>v=S b/\M'=M)):A0c (WC gl) 16 [.agg id.row,I day,S purpose,.list 4 (A2f l) .no] M (λv M'=>v=S b/\M'=M):=by
 have c:id.row=[I id.act,I id.item,I id.n]:=rfl
 have a:=B3e gl f e d hF id day purpose M
 rw[c]at a|-
 rw[A8t.row]at h a
 refine A0r hB func16 ?_
 simp -dsimp -implicitDefEqProofs
 refine A0g func9 a ?_
 simp -dsimp -implicitDefEqProofs
 refine A0g func37 (h M) ?_
 simp -dsimp -implicitDefEqProofs
end
def D3M:A1W:=⟨0,[],[],0,0,A2x,[],[],⟨#[]⟩,⟨#[]⟩,⟨0,0,⟨#[]⟩⟩,0,0,0,⟨#[]⟩⟩
def it1:A0H:=.mk {D3M with where_:=1,unit:=.mk ⟨0,0,0⟩ 2 ⟨#[53]⟩ [] [] []} []
def it2:A0H:=.mk {D3M with kind:=5,at_:=[⟨2,⟨#[53]⟩⟩],lab:=⟨#[54]⟩} []
def it3:A0H:=.mk {D3M with kind:=1,at_:=[⟨2,⟨#[54]⟩⟩]} []
def exG:A1p:=⟨1,0,⟨#[]⟩,[⟨1,⟨#[65]⟩,0,⟨1,10,⟨#[]⟩⟩,[it1]⟩,⟨2,⟨#[66]⟩,0,⟨1,20,⟨#[]⟩⟩,[it2]⟩,⟨3,⟨#[67]⟩,0,⟨1,30,⟨#[]⟩⟩,[it3]⟩]⟩
def C7p:IdD:=⟨1,0,1⟩
def E5P:A5F C7p 20 ⟨#[]⟩ [exG]=⟨0,p6,(0,0)⟩:=Q2
def E5v:A5F C7p 30 ⟨#[]⟩ [exG]=⟨1,p6,(3,0)⟩:=Q2
abbrev A3A:AV:=.val (.slice none 0 0)
def E6A{k d:Int}:A0A prog 50 [(0,I k),(1,I d)]=some (.agg [I k,I d,S ⟨#[]⟩]):=ZAK
def E5t{k:Int}{l:ByteArray}:A0A prog 31 [(1,I k),(2,S l)]=some (.agg [I 0,I 0,I 0,I k,S l,A3A,A3A,A3A]):=ZAK
def E6s{k:Int}{l:ByteArray}:A0A prog 78 [(0,I k),(1,S l)]=some (.agg [I k,S l]):=ZAK
def B8P(k w:Int)(at_:AV)(u:List AV)(lab:ByteArray):List AV:=[I k,at_,A3A,I w,I 0]++u++[A3A,A3A,S lab,S ⟨#[]⟩,I 0,I 0,S ⟨#[]⟩,I 0,I 0,I 0,S ⟨#[]⟩,A3A]
def D0M:List AV:=[I 0,I 0,I 0,I 0,S ⟨#[]⟩,A3A,A3A,A3A]
def C5X{a:Int}{p:AV}{l:ByteArray}:(B8P a 0 p D0M l).length=25:=rfl
def E2O{a b c d e:Int}{l:ByteArray}:A0A prog 53 [(0,I a),(3,I b),(5,.agg [I c,I d,I e,I 2,S l,A3A,A3A,A3A])]=some (.agg (B8P a b A3A [I c,I d,I e,I 2,S l,A3A,A3A,A3A] ⟨#[]⟩)):=by simp[A0A,A1l,putCells,A0e,B8P]
def E2j{a:Int}{p:List (List AV)}{l:ByteArray}:A0A prog 53 [(0,I a),(1,.list 2 p .no),(8,S l)]=some (.agg (B8P a 0 (.list 2 p .no) D0M l)):=by simp[A0A,A1l,putCells,A0e,B8P,D0M]
def E1g{a:Int}{p:List (List AV)}:A0A prog 53 [(0,I a),(1,.list 2 p .no)]=some (.agg (B8P a 0 (.list 2 p .no) D0M ⟨#[]⟩)):=by simp[A0A,A1l,putCells,A0e,B8P,D0M]
def D9m{n k d:Int}{t e:ByteArray}{rows:List (List AV)}{o:Own}:A0A prog 93 [(0,I n),(1,S t),(3,.agg [I k,I d,S e]),(4,.list 25 rows o)]=some (.agg [I n,S t,I 0,I k,I d,S e,.list 25 rows o]):=ZAK
def E6D{n:Int}{rows:List (List AV)}{o:Own}:A0A prog 61 [(0,I n),(3,.list 7 rows o)]=some (.agg [I n,I 0,S ⟨#[]⟩,.list 7 rows o]):=ZAK
section
variable (gl:Nat->AV)
def D6x(d:Int)(M:Mem):A0c (WC gl) 38 [I d] M (λv M'=>v=.agg [I 1,I d,S ⟨#[]⟩]/\M'=M):=by
 refine A1N (λn=>by simp[bdd,A1i]) ?_;obtain⟨N,hN⟩:=ex (M++[A0m.cells 50 [I 1,I d,S ⟨#[]⟩]]);have hM:N[M.length]?=some (A0m.cells 50 [I 1,I d,S ⟨#[]⟩]):=ZCS
 have hg:Grow M N:=ZAL
 refine A0r hB func38 ?_;simp -dsimp -implicitDefEqProofs[E6A,A0j,A0k,A0e,A0o,A0n];rw[<-hN];simp -dsimp -implicitDefEqProofs[A2g,hM,A0h,hg]
def D6w(l:ByteArray)(M:Mem):A0c (WC gl) 39 [S l] M (λv M'=>v=.list 2 [[I 2,S l]] .no/\M'=M):=by refine A0c.softR ?_;refine A0r hB func39 ?_;simp -dsimp -implicitDefEqProofs[E6s,A0x,A1g];exact .list (.cons (.cons .same (.cons .same .nil)) .nil)
set_option maxHeartbeats 2000000 in
def C7O(M:Mem):A0c (WC gl) 17 [] M (λv M'=>v=.agg exG.row/\M'=M):=by
 refine A1N (λn=>?_) ?_
 .simp only[bdd];simp only[A1p.row,A1i,bdd,Z1A,Z2J,exG];simp only[A5o,Z0x,Z1N,A4n,Z1A];exact⟨B6R _ _,B6R _ _,B6R _ _⟩
 refine A0c.softR ?_;have j:=λd M=>D6x gl d M;have o:=λl M=>D6w gl l M;obtain⟨N,hN⟩:=ex (M++[A0m.cells 61 [I 0,I 0,S ⟨#[]⟩,A3A],A0m.cells 53 (B8P 0 1 A3A [I 0,I 0,I 0,I 2,S ⟨#[53]⟩,A3A,A3A,A3A] ⟨#[]⟩)]);have h0:N[M.length]?=some (A0m.cells 61 [I 0,I 0,S ⟨#[]⟩,A3A]):=ZCS
 have h1:N[M.length+1]?=some (A0m.cells 53 (B8P 0 1 A3A [I 0,I 0,I 0,I 2,S ⟨#[53]⟩,A3A,A3A,A3A] ⟨#[]⟩)):=by rw[hN];simp[Z0Z]
 have hg:Grow M N:=ZAL
 have hl:M.length<N.length:=(Z0a.1 h0).1;refine A0r hB func17 ?_;obtain⟨i,f⟩:=ex (B8P 0 1 A3A [I 0,I 0,I 0,I 2,S ⟨#[53]⟩,A3A,A3A,A3A] ⟨#[]⟩);have g:i.length=25:=by rw[f];rfl
 rw[<-f]at hN h1;have m:=E2O (a:=0) (b:=1) (c:=0) (d:=0) (e:=0) (l:=⟨#[53]⟩);rw[<-f]at m;have p:∀cs:List AV,cs.length=25->A0k (some 25) (M++[A0m.cells 61 [I 0,I 0,S ⟨#[]⟩,A3A],A0m.cells 53 cs]) (.ptr (M.length+1) 0) (.agg i)=some N:=λcs hc=>by
  have:(M++[A0m.cells 61 [I 0,I 0,S ⟨#[]⟩,A3A],A0m.cells 53 cs])[M.length+1]?=some (.cells 53 cs):=by simp[Z0Z]
  rw[A0f this,hN];simp[A0o,A0n,A0e,g,hc,Z0v]
 have q:∀Q:Mem,Q[M.length+1]?=N[M.length+1]?->A0E prog 53 Q (.ptr (M.length+1) 0)=some (.agg i):=λQ h=>by rw[h1]at h;rw[A0b h];simp[A0p,g,Z0e]
 simp -dsimp -implicitDefEqProofs[E5t,m,A0j];rw[p _ (by rfl)];simp -dsimp -implicitDefEqProofs;refine A0X hB (A0B gl) (λk=>if k=2 then 1 else if k=19 then 2 else 0) (λ_=>M.length+1) (by rfl) Q2 ?_;simp -dsimp -implicitDefEqProofs;refine A1k (λM=>A0l func38 rfl rfl (j 10 M)) ?_;simp -dsimp -implicitDefEqProofs[q N rfl,A1e,A5t,A0x,A1g,D9m,g];refine A1k (λM=>A0l func38 rfl rfl (j 20 M)) ?_;simp -dsimp -implicitDefEqProofs;refine A1k (λM=>A0l func39 rfl rfl (o _ M)) ?_;simp -dsimp -implicitDefEqProofs[E2j,A0x,A1g,D9m,C5X];refine A1k (λM=>A0l func38 rfl rfl (j 30 M)) ?_;simp -dsimp -implicitDefEqProofs;refine A1k (λM=>A0l func39 rfl rfl (o _ M)) ?_;simp -dsimp -implicitDefEqProofs[E1g,A0x,A1g,D9m,E6D,C5X];simp -dsimp -implicitDefEqProofs[A0f h0,A0o,A0n,A0u hl,A0h];refine⟨?_,A0w hg (Z0j _)⟩;rw[f];simp only[exG,A1p.row,A5o,A0Y.row,Z0x,Z1N,A1w,it1,it2,it3,A0H.row,A1W.row,D3M,B8P,D0M,Z0Q,Z1y,A1J.row,A0O,A0i,A0K,A0t,A1o.row,A2x,A0a.id,A0a.kind,A0a.label,A0a.head,A0a.words,A0a.kids];repeat (first|exact B4a.same|exact B4a.nil|apply B4a.list|apply B4a.agg|exact A4M.nil|apply A4M.cons|exact A9H.nil|apply A9H.cons)
end
def in0{k:Int}(h:decide (-1000<=k/\k<=1000)=true):inI k:=by have:=Z1C h;simp only[inI];omega
def lnL{n:Nat}(h:decide (n<=1000)=true):n<=maxLen:=by have:=Z1C h;have hm:maxLen=9223372036854775807:=rfl;omega
def C3g{k:Int}{l:ByteArray}(h:inI k)(hl:l.size<=maxLen):(A0a.mk ⟨0,0,0⟩ k l [] [] []).good:=(A0a.good_iff _).2 ⟨⟨in0 rfl,in0 rfl,in0 rfl⟩,h,hl,lnL rfl,λ_ h=>by simp[A0a.head]at h,lnL rfl,λ_ h=>by simp[A0a.words]at h,lnL rfl,λ_ h=>by simp[A0a.kids]at h⟩
def E1m:A9x []:=⟨lnL rfl,λ_ h=>by simp at h⟩
def D8d:B4i []:=⟨lnL rfl,λ_ h=>by simp at h⟩
def E1j{k:Int}{l:ByteArray}(h:inI k)(hl:l.size<=maxLen):A9x [⟨k,l⟩]:=⟨lnL rfl,λs hs=>by rw[Z0L.1 hs];exact⟨h,hl⟩⟩
def C1Y{k w:Int}{p:List A1o}{u:A0a}{lab:ByteArray}(h1:inI k)(h2:A9x p)(h3:inI w)(h4:u.good)(h5:lab.size<=maxLen):(A0H.mk {D3M with kind:=k,at_:=p,where_:=w,unit:=u,lab:=lab} []).good:=(A0H.good_iff _).2 ⟨⟨h1,h2,E1m,h3,in0 rfl,h4,D8d,D8d,h5,lnL rfl,⟨in0 rfl,in0 rfl,lnL rfl⟩,in0 rfl,in0 rfl,in0 rfl,lnL rfl⟩,lnL rfl,λ_ h=>by simp[A0H.by_]at h⟩
def B9l{n d:Int}{t:ByteArray}{x:A0H}(h1:inI n)(h2:inI d)(h3:t.size<=maxLen)(hx:x.good):(A0Y.mk n t 0 ⟨1,d,⟨#[]⟩⟩ [x]).good:=⟨h1,h3,in0 rfl,⟨in0 rfl,h2,lnL rfl⟩,lnL rfl,λy hy=>by rw[Z0L.1 hy];exact hx⟩
def C2h{n d:Int}{t:ByteArray}{x:A0H}(hx:B2p x.h)(hb:x.by_=[]):C5h (A0Y.mk n t 0 ⟨1,d,⟨#[]⟩⟩ [x]):=⟨Q1,λy hy=>by rw[Z0L.1 hy];exact⟨hx,by rw[hb];simp⟩⟩
def C3p:A8H [exG]:=by
 have g1:it1.good:=C1Y (in0 rfl) E1m (in0 rfl) (C3g (in0 rfl) (lnL rfl)) (lnL rfl);have g2:it2.good:=C1Y (in0 rfl) (E1j (in0 rfl) (lnL rfl)) (in0 rfl) (C3g (in0 rfl) (lnL rfl)) (lnL rfl);have g3:it3.good:=C1Y (in0 rfl) (E1j (in0 rfl) (lnL rfl)) (in0 rfl) (C3g (in0 rfl) (lnL rfl)) (lnL rfl);refine C3n (λg hg=>?_) ⟨Q1,by simp[exG,A8u],λg hg a ha=>?_⟩
 .rw[Z0L.1 hg];refine⟨in0 rfl,in0 rfl,lnL rfl,lnL rfl,λa ha=>?_⟩;simp only[exG,Z0p,Z1H,Z2R]at ha;rcases ha with rfl|rfl|rfl
  .exact B9l (in0 rfl) (in0 rfl) (lnL rfl) g1
  .exact B9l (in0 rfl) (in0 rfl) (lnL rfl) g2
  .exact B9l (in0 rfl) (in0 rfl) (lnL rfl) g3
 .rw[Z0L.1 hg]at ha;simp only[exG,Z0p,Z1H,Z2R]at ha;rcases ha with rfl|rfl|rfl
  .exact C2h ⟨ZAR,ZAR,ZAR,ZAR,Q2⟩ rfl
  .exact C2h ⟨ZAR,ZAR,ZAR,ZAR,Q2⟩ rfl
  .exact C2h ⟨ZAR,ZAR,ZAR,ZAR,Q2⟩ rfl
def E6z:A0A prog 28 [(0,I 1),(2,I 1)]=some (.agg [I 1,I 0,I 1]):=ZAK
section
variable (gl:Nat->AV)
def C0D(d:gl 0=.cptr [fnV 356,fnV 357])(f:gl 2=A1t)(g:gl 8=A1E)(M:Mem):A0c (WC gl) 5 [] M (λv M'=>v=B true/\M'=M):=by
 refine A1N (λn=>by simp[bdd]) ?_;have b:∀(day:Int),A4M [AV.agg [I 1,I 0,I 1],I day,S ⟨#[]⟩,.list 4 [exG.row] .full] [AV.agg C7p.row,I day,S ⟨#[]⟩,.list 4 (A2f [exG]) .no]:=λday=>.cons .same (.cons .same (.cons .same (.cons (.list (.cons (A4M.refl _) .nil)) .nil)));have i:=λM=>(B2J gl d f g C3p C7p 20 ⟨#[]⟩ C8i M (λM=>by rw[E5P];exact D7I gl C7p (0,0) M)).softA (b 20);have j:=λM=>(B2J gl d f g C3p C7p 30 ⟨#[]⟩ C4u M (λM=>by rw[E5v];exact D6u gl C7p M)).softA (b 30);have c:=λM=>C7O gl M;have a:exG.row.length=4:=rfl;generalize exG.row=row at*;obtain⟨N,hN⟩:=ex (M++[A0m.cells 28 [I 1,I 0,I 1]]);have hM:N[M.length]?=some (A0m.cells 28 [I 1,I 0,I 1]):=ZCS
 have hg:Grow M N:=ZAL
 have e:A0E prog 28 N (.ptr M.length 0)=some (.agg [I 1,I 0,I 1]):=by rw[A0b hM];simp[A0p]
 refine A0r hB func5 ?_;simp -dsimp -implicitDefEqProofs[E6z,A0j,A0k,A0e,A0o,A0n];rw[<-hN];refine A0X hB (A0B gl) (λk=>if k=0\/k=6 then 1 else 0) (λ_=>M.length) (by rfl) Q2 ?_;simp -dsimp -implicitDefEqProofs[e,A1e,A5t];refine A1k (λM=>A0l func17 rfl rfl (c M)) ?_;simp -dsimp -implicitDefEqProofs[A0x,A1g,a];refine A1k (λM=>A0l func16 rfl rfl (i M)) ?_;simp -dsimp -implicitDefEqProofs[C8i,e,A1e,A5t];refine A1k (λM=>A0l func17 rfl rfl (c M)) ?_;simp -dsimp -implicitDefEqProofs[A0x,A1g,a];refine A1k (λM=>A0l func16 rfl rfl (j M)) ?_;simp -dsimp -implicitDefEqProofs[C4u,hg]
end
def ltE(a b:EnD):Prop:=a.day<b.day\/(a.day=b.day/\(a.act<b.act\/(a.act=b.act/\a.item<b.item)))
def B2s(a:EnD)(r:Int×Int)(day:Int):Int:=orL [A6o a.day day,A6o a.act r.1,A6o a.item r.2]
def B4O{a:A0Y}{d:EnD}(h:d∈A1I a):d.act=a.number/\d.day=a.day:=by simp only[A1I,Z0C]at h;obtain⟨x,_,rfl⟩:=h;exact⟨rfl,rfl⟩
def B7D(L:List A0Y)(d:EnD):(A8K L d).act=d.act/\(A8K L d).item=d.item/\(A8K L d).day=d.day:=by
 unfold A8K;split
 .split
  .exact⟨rfl,rfl,rfl⟩
  .exact⟨rfl,rfl,rfl⟩
 .exact⟨rfl,rfl,rfl⟩
def B7I(l:List A1p):((A2M l).map (·.number)).Nodup:=((A5d _).map _).nodup_iff.2 (B0n _)
def C5U(l:List A1p):(A3d l).Pairwise ltE:=by
 have h1:=B0w (A3m (l.flatMap A1p.acts));have h2:=B7I l;rw[show B4e (A3m (l.flatMap A1p.acts))=A2M l from rfl]at h1;unfold A3d;generalize A2M l=A at h1 h2|-;rw[Z2E];refine List.Pairwise.imp (R:=ltE) (λ{a b} h=>?_) ?_
 .have:=B7D A a;have:=B7D A b;simp only[ltE]at h|-;omega
 .rw[List.pairwise_flatMap];refine⟨λa _=>?_,?_⟩
  .unfold A1I;rw[Z2E];(have:(a.items.zipIdx.map Prod.snd).Pairwise (·<·):=by rw[List.zipIdx_map_snd];exact List.pairwise_lt_range');rw[Z2E]at this;refine this.imp λ{x y} h=>.inr ⟨rfl,.inr ⟨rfl,?_⟩⟩;show(x.2:Int)<y.2;omega
  .rw[List.Nodup,Z2E]at h2;refine(h1.and h2).imp λ{a b} h x hx y hy=>?_;have e1:=B4O hx;have e2:=B4O hy;have:=(B4d a b).1 h.1;have:=h.2;simp only[ltE,e1.1,e1.2,e2.1,e2.2];omega
def D9z(day:Int)(purpose:ByteArray)(l:List A1p):(onD day purpose l).Sublist (A3d l):=by unfold onD A2n;rw[List.filter_map,Z4u];have:((λx:EnD×List A0L=>x.1)∘λd:EnD=>(d,B1G (B0A (A2M l) d.act) d (A3d l)))=id:=rfl;rw[this,List.map_id];exact(Z3n).trans Z3n
def D3z(day:Int)(purpose:ByteArray)(l:List A1p):(onD day purpose l).Pairwise ltE:=(C5U l).sublist (D9z day purpose l)
def D2m{day:Int}{purpose:ByteArray}{l:List A1p}{d:EnD}(h:d∈onD day purpose l):A1a d.kind=true:=by simp only[onD,A2n,Z0C,Z1o]at h;obtain⟨x,⟨⟨e,⟨_,he⟩,rfl⟩,_⟩,rfl⟩:=h;exact he
def C3a(a b:EnD):B2s a (b.act,b.item) b.day<0<->ltE a b:=by
 simp only[B2s,orL,A6o,ltE];repeat' split
 all_goals omega
def C2o(a b:EnD):B2s a (b.act,b.item) b.day<=0<->¬ltE b a:=by
 simp only[B2s,orL,A6o,ltE];repeat' split
 all_goals omega
def B6a(u:A0a)(ds:List EnD):A0a:=ds.foldl (λu d=>(A2a u d).1) u
def refuse{u:A0a}{d:EnD}(h:(A2a u d).2≠0):(A2a u d).1=u:=by
 have hw:∀x r,(A7h u x r).2≠0->(A7h u x r).1=u:=λx r h=>by unfold A7h at h|-;split at h<;>simp_all
 have hr:∀x r,(A6w u x r).2≠0->(A6w u x r).1=u:=λx r h=>by unfold A6w at h|-;split at h<;>simp_all
 have hi:(A7V u d).2≠0->(A7V u d).1=u:=λh=>by
  simp only[A7V]at h|-;repeat' split at h
  all_goals first|exact absurd rfl h|(simp only[*,Z1e,Z2f,ne_eq,Z3c,Z4l,reduceCtorEq])
 have hm:∀x r,(B2B u x r).2≠0->(B2B u x r).1=u:=λx r h=>by
  simp only[B2B]at h|-;repeat' split at h
  all_goals first|exact absurd rfl h|(simp only[*,Z1e,Z2f,ne_eq,Z3c,Z4l,reduceCtorEq])
 have hd:∀x,(A9T u x d).2≠0->(A9T u x d).1=u:=λx h=>by
  simp only[A9T]at h|-;split at h
  .simp_all
  split at h
  .simp_all
  split at h
  .rename_i h2;simp only[h2]at*;exact hw _ _ h
  split at h
  .rename_i h2;simp only[h2]at*;exact hw _ _ h
  split at h
  .simp_all
  split at h
  .rename_i h2;simp only[h2]at*;exact hr _ _ h
  .simp_all
 by_cases c1:A2E d.it=false
 .rw[A2a,Z0c c1]
 rw[A2a,Z0d c1]at h|-;by_cases c2:(A2c u d.it.h.at_).2≠0
 .rw[Z0c c2]
 rw[Z0d c2]at h|-;by_cases c3:(A2c u d.it.h.at_).1≠u.id\/d.kind=0
 .rw[Z0c c3]at h|-;exact hd _ h
 rw[Z0d c3]at h|-;by_cases c4:d.kind=6/\(A2c u d.it.h.to).2≠0
 .rw[Z0c c4]
 .rw[Z0d c4]
def B3Z{ds:List EnD}(hk:∀d∈ds,A1a d.kind=true):∀{u:A0a} {R:List A6v},(ds.foldl (A5s A2a) (u,R)).1=B6a u ds/\∀r∈(ds.foldl (A5s A2a) (u,R)).2,r∈R\/∃g d f,ds=g++d::f/\r.act=d.act/\r.item=d.item/\(A2a (B6a u g) d).2≠0:=by
 induction ds with
 |nil=>intro u R;exact⟨rfl,λr hr=>.inl hr⟩
 |cons d ds ih=>
  intro u R
  rw[Z1U,A5s,Z0c (hk d Q1)]
  obtain⟨h1,h2⟩:=ih (λz hz=>hk z ZDS) (u:=(A2a u d).1) (R:=if(A2a u d).2=0 then R else R++[⟨d.act,d.item,(A2a u d).2⟩])
  refine⟨h1,λr hr=>?_⟩
  rcases h2 r hr with hr|⟨g,e,f,rfl,a,b,c⟩
  .split at hr
   .exact .inl hr
   .rename_i hne;rcases Z0N.1 hr with hr|hr
    .exact .inl hr
    .rw[Z0L.1 hr];exact .inr ⟨[],d,ds,rfl,rfl,rfl,hne⟩
  .exact .inr ⟨d::g,e,f,rfl,a,b,c⟩
def B9O{id:IdD}:∀{ds:List EnD} {u:A0a} {r:Int×Int} {p:List A1o},A5b id u ds=some (r,p)->
 ∃f d g,ds=f++d::g/\r=(d.act,d.item)/\A3a (B6a u f) id=some p/\A3a (B6a u (f++[d])) id=none
 |[],u,r,p,h=>by simp[A5b]at h
 |d::ds,u,r,p,h=>by
  rw[A5b]at h;split at h
  .rename_i q h1 h2;simp only[Z0b,Z0i]at h;exact⟨[],d,ds,rfl,h.1.symm,by rw[<-h.2];exact h1,h2⟩
  .obtain⟨f,e,g,rfl,a,b,c⟩:=B9O h;exact⟨d::f,e,g,rfl,a,b,c⟩
def B1i(r:Int×Int)(l:List A1p):Option Int:=((A2M l).find? λa=>decide (a.number=r.1)).map A0Y.day
def A9u(day:Int)(purpose:ByteArray)(r:Int×Int)(l:List A1p)(c:Int->Bool):A0a:=match B1i r l with
 |none=>A2x
 |some x=>(A1M A2a A2x ((onD day purpose l).filter λd=>c (B2s d r x))).1
def B1L(r:Int×Int)(a i:Int):Bool:=decide (a=r.1)&&decide (i=r.2)
def B6X(day:Int)(purpose:ByteArray)(r:Int×Int)(l:List A1p):Bool:=(onD day purpose l).any (λd=>B1L r d.act d.item)&&!((A1M A2a A2x (onD day purpose l)).2.any λm=>B1L r m.act m.item)
def D5f{l:List A1p}{d:EnD}(h:d∈A3d l):B1i (d.act,d.item) l=some d.day:=by
 have hn:=B7I l;simp only[A3d,Z0C,Z1M]at h;obtain⟨e,⟨a,ha,he⟩,rfl⟩:=h;have h1:=B7D (A2M l) e;have h2:=B4O he;have hf:(A2M l).find? (λz=>decide (z.number=(A8K (A2M l) e).act))=some a:=by
  rw[h1.1,h2.1];generalize A2M l=A at ha hn;induction A with
  |nil=>simp at ha
  |cons z A ih=>
   rw[Z0x,Z1B]at hn;rw[Z3W];rcases Z0p.1 ha with rfl|ha
   .simp
   .have:z.number≠a.number:=λe=>hn.1 (Z0C.2 ⟨a,ha,e.symm⟩);simp only[this,Z4S];exact ih ha hn.2
 rw[B1i,hf,h1.2.2,h2.2];rfl
def C9p(a:EnD):¬ltE a a:=by simp only[ltE];omega
def C0y{a b:EnD}(h:ltE a b):¬ltE b a:=by simp only[ltE]at h|-;omega
def C7L{a b:List EnD}{d:EnD}(h:(a++d::b).Pairwise ltE):(a++d::b).filter (λe=>decide (B2s e (d.act,d.item) d.day<0))=a/\(a++d::b).filter (λe=>decide (B2s e (d.act,d.item) d.day<=0))=a++[d]:=by
 rw[Z3i,Z1c]at h
 obtain⟨_,⟨a2,_⟩,h3⟩:=h
 have a1:∀e∈a,ltE e d:=λe he=>h3 e he d Q1
 refine⟨?_,?_⟩
 .rw[Z2a,List.filter_eq_self.2 λe he=>by simp[C3a,a1 e he],Z3B (by simp[C3a,C9p]),Z2N.2 λe he=>by simp[C3a,C0y (a2 e he)],Z1b]
 .rw[Z2a,List.filter_eq_self.2 λe he=>by simp[C2o,C0y (a1 e he)],Z2Y (by simp[C2o,C9p]),Z2N.2 λe he=>by simp[C2o,a2 e he]]
def B5R{ds:List EnD}(hk:∀d∈ds,A1a d.kind=true)(hd:∀d∈ds,A6a d):A2m (B6a A2x ds):=by have:=B1J (ds:=ds) (λd h _=>hd d h) A6k;rw[A1M,(B3Z hk).1]at this;exact this
def D0V{u:A0a}{id:IdD}{p:List A1o}(hs:A2m u)(h:A3a u id=some p):A1T p=true/\A2c u p=(id,0):=by
 by_cases hx:∃x∈A2j u,x.id=id
 .obtain⟨x,hx,rfl⟩:=hx;obtain⟨q,h1,h2,h3⟩:=C5d hs hx;rw[h1]at h;cases h;exact⟨h2,h3⟩
 .rw[D0d λv hv e=>hx ⟨v,hv,e⟩]at h;simp at h
def C2b{l:List A1p}{day:Int}{purpose:ByteArray}{id:IdD}(hF:A8H l)(hk:(A5F id day purpose l).kind=1):let f:=A5F id day purpose l
 A1T f.path=true/\A2m (A9u day purpose f.by_ l λk=>decide (k<0))/\A2m (A9u day purpose f.by_ l λk=>decide (k<=0))/\
 A2c (A9u day purpose f.by_ l λk=>decide (k<0)) f.path=(id,0)/\A3a (A9u day purpose f.by_ l λk=>decide (k<=0)) id=none/\A3a (A3D day purpose l) id=none/\
 (onD day purpose l).any (λd=>B1L f.by_ d.act d.item)=true/\B6X day purpose f.by_ l=true:=by
 intro f
 have b:=D3z day purpose l
 have j:=λd (h:d∈onD day purpose l)=>D2m h
 have g:=λd (h:d∈onD day purpose l)=>hF.en d (D4D h)
 have s:=λd (h:d∈onD day purpose l)=>D5f (D4D h)
 have h0:A3a (A3D day purpose l) id=none:=by
  rw[A5F]at hk;split at hk
  .exact absurd hk (by decide:¬(0:Int)=1)
  .assumption
 have ht:∃r p,A6T id day purpose l=some (r,p)/\f=⟨1,p,r⟩:=by
  show∃r p,A6T id day purpose l=some (r,p)/\A5F id day purpose l=⟨1,p,r⟩;rw[A5F,h0]at hk|-;simp only at hk|-;cases h1:A6T id day purpose l with
  |some w=>obtain⟨r,p⟩:=w;exact⟨r,p,rfl,rfl⟩
  |none=>
   rw[h1]at hk;simp only at hk;split at hk
   .exact absurd hk (by decide:¬(2:Int)=1)
   .exact absurd hk (by decide:¬(3:Int)=1)
   .exact absurd hk (by decide:¬(4:Int)=1)
 obtain⟨r,p,ht,hf⟩:=ht
 rw[hf]
 simp only
 obtain⟨a,d,i,e,rfl,h1,h2⟩:=B9O (show A5b id A2x (onD day purpose l)=_ from ht)
 unfold A9u B6X
 obtain⟨a1,q⟩:=B3Z (ds:=onD day purpose l) j (u:=A2x) (R:=[])
 rw[show(onD day purpose l).foldl (A5s A2a) (A2x,[])=A1M A2a A2x (onD day purpose l)from rfl]at q
 generalize onD day purpose l=ds at*
 subst e
 have hx:=s d Q1
 rw[hx]
 simp only
 obtain⟨f1,f2⟩:=C7L b
 rw[f1,f2]
 have k1:∀z∈a,A1a z.kind=true:=λz hz=>j z ZDS
 have k2:∀z∈a++[d],A1a z.kind=true:=λz hz=>j z (by
  rcases Z0N.1 hz with hz|hz
  .simp[hz]
  .rw[Z0L.1 hz];simp)
 have n1:∀z∈a,A6a z:=λz hz=>g z ZDS
 have n2:∀z∈a++[d],A6a z:=λz hz=>g z (by
  rcases Z0N.1 hz with hz|hz
  .simp[hz]
  .rw[Z0L.1 hz];simp)
 have s1:=B5R k1 n1
 have s2:=B5R k2 n2
 rw[A1M,(B3Z k1).1,A1M,(B3Z k2).1]
 obtain⟨v1,v2⟩:=D0V s1 h1
 refine⟨v1,s1,s2,v2,h2,h0,by simp[B1L],?_⟩
 rw[Z0h,Z2C,List.any_eq_false]
 refine⟨by simp[B1L],λm hm hh=>?_⟩
 rcases q m hm with hm|⟨c,d',x,e',ea,ei,v⟩
 .simp at hm
 have e1:=refuse v
 simp only[B1L,Z0h,Z0n]at hh
 have t:c.length=a.length:=by
  rw[Z1G]at b;have a0:(a++d::i)[c.length]?=some d':=by rw[e'];simp
  have hd:(a++d::i)[a.length]?=some d:=ZBG
  obtain⟨l1,g1⟩:=Z0a.1 a0;obtain⟨l2,g2⟩:=Z0a.1 hd;have y:d'.day=d.day:=by have n:=s d' (by rw[e'];simp);rw[show(d'.act,d'.item)=(d.act,d.item)by rw[<-ea,<-ei,hh.1,hh.2],hx]at n;exact(Z1a n).symm
  have o:¬ltE d' d/\¬ltE d d':=by simp only[ltE,y,<-ea,<-ei,hh.1,hh.2];omega
  rcases Nat.lt_trichotomy c.length a.length with h|h|h
  .have:=b _ _ l1 l2 h;rw[g1,g2]at this;exact absurd this o.1
  .exact h
  .have:=b _ _ l2 l1 h;rw[g1,g2]at this;exact absurd this o.2
 obtain⟨rfl,h4⟩:=List.append_inj e' t.symm
 simp only[Z2e]at h4
 obtain⟨rfl,_⟩:=h4
 rw[show B6a A2x (a++[d])=(A2a (B6a A2x a) d).1 by simp[B6a],e1,h1]at h2
 simp at h2
def A6O(a i d:Int)(rest:List AV):List AV:=I a::I i::I d::rest
section
variable (gl:Nat->AV)
def C4b(k:Int)(M:Mem):A0c (WC gl) 26 [I k] M (λv M'=>v=B (decide (k<0))/\M'=M):=by refine A0r hB func26 ?_;by_cases c:k<0<;>simp -dsimp[c]
def C2a(k:Int)(M:Mem):A0c (WC gl) 28 [I k] M (λv M'=>v=B (decide (k<=0))/\M'=M):=by refine A0r hB func28 ?_;by_cases c:k<=0<;>simp -dsimp[c]
def D2I(a i d a2 i2 d2:Int)(r r2:List AV)(M:Mem):A0c (WC gl) 72 [.agg (A6O a i d r),.agg (A6O a2 i2 d2 r2)] M (λv M'=>v=I (orL [A6o d d2,A6o a a2,A6o i i2])/\M'=M):=by refine A0r hB func72 ?_;simp -dsimp[A6O];refine A0X hB (A0B gl) (λ_=>0) (λ_=>0) (by rfl) Q2 ?_;simp -dsimp;refine A1k (λM=>A0l func78 rfl rfl (B4Q gl M _ _)) ?_;simp -dsimp;refine A1k (λM=>A0l func78 rfl rfl (B4Q gl M _ _)) ?_;simp -dsimp;refine A1k (λM=>A0l func78 rfl rfl (B4Q gl M _ _)) ?_;simp -dsimp[A0x,A1g];refine A1k (λM=>A0l func77 rfl rfl (D7N gl M [A6o d d2,A6o a a2,A6o i i2] Q1)) ?_;simp -dsimp
def D5m(r:Int×Int)(d:EnD)(M:Mem):A0c (WC gl) 32 [.agg d.row,.cptr [I r.1,I r.2]] M (λv M'=>v=B (B1L r d.act d.item)/\M'=M):=by refine A0r hB func32 ?_;rw[show d.row=I d.act::I d.item::I d.day::d.it.row from rfl];by_cases c1:d.act=r.1<;>by_cases c2:d.item=r.2<;>simp -dsimp[c1,c2,B1L]
def D5v(r:Int×Int)(d:A6v)(M:Mem):A0c (WC gl) 33 [.agg d.row,.cptr [I r.1,I r.2]] M (λv M'=>v=B (B1L r d.act d.item)/\M'=M):=by refine A0r hB func33 ?_;rw[show d.row=[I d.act,I d.item,I d.why]from rfl];by_cases c1:d.act=r.1<;>by_cases c2:d.item=r.2<;>simp -dsimp[c1,c2,B1L]
end
@[simp] def E0D{p:List A6v}{i:Nat}(h:i<(A6n p).length):(A6n p)[i]=(p[i]'(by simpa[A6n]using h)).row:=by simp[A6n]
@[simp] def A6v.row_len(d:A6v):d.row.length=3:=(rfl)
@[simp] def A6v.row_take(d:A6v):List.take 3 d.row=d.row:=(rfl)
def D3b{l:List A6v}{i:Nat}(h:i<l.length):(A6n l)[i]?=some l[i].row:=by simp[A6n,h]
section
variable (gl:Nat->AV)
def C4f(p:EnD->Bool)(g:FuncId)(cap:List AV)(l:List EnD)(o:Own)(M:Mem)(hl:l.length<=3000)(hp:∀u∈l,A2Z (WC gl) g (.agg u.row::cap) M (λv M'=>v=B (p u)/\M'=M)):
 A0c (WC gl) 55 [.list 28 (A2L l) o,.func (.func g) [] cap] M (λv M'=>v=I (A2l p l 0)/\M'=M):=by
 refine A0r hB func55 ?_
 simp -dsimp
 refine A1y hB l.length 8 (λT M1=>∃i:Nat,i<=l.length/\M1=M/\T 0=.list 28 (A2L l) o/\T 1=.func (.func g) [] cap/\T 7=I l.length/\T 8=I i/\A2l p l 0=A2l p (l.drop i) i) ?_ ?_
 .exact⟨0,Q0,rfl,Q1,Q1,Q1,Q1,Q1⟩
 .rintro T M1 ⟨i,i1,rfl,t0,t1,t7,t8,ho⟩;by_cases hi:i<l.length
  .have a:(i:Int)<l.length:=Q0;have w1:=A1O (i:=i) Q0;have hd:l.drop i=l[i]::l.drop (i+1):=Z0m hi;rw[hd,A2l]at ho;have b:=A6N hi;simp -dsimp[t0,t1,t7,t8,hi,a,b];refine A0s (hp l[i] (Z0s hi)) ?_;rintro _ _ ⟨rfl,rfl⟩;cases hq:p l[i]
   .rw[hq,Z0d Q1]at ho;simp -dsimp[t0,t1,t7,t8,w1];exact⟨⟨i+1,Q3,rfl,ho⟩,Q3⟩
   .rw[hq,Z0c rfl]at ho;simp -dsimp[t0,t1,t7,t8,ho]
  .have a:¬(i:Int)<l.length:=Q0;rw[show l.drop i=[]from Z0v Q0]at ho;simp -dsimp[t0,t1,t7,t8,a,ho,A2l]
def D3P(p:A6v->Bool)(g:FuncId)(cap:List AV)(l:List A6v)(o:Own)(M:Mem)(hl:l.length<=3000)(hp:∀u∈l,A2Z (WC gl) g (.agg u.row::cap) M (λv M'=>v=B (p u)/\M'=M)):
 A0c (WC gl) 56 [.list 3 (A6n l) o,.func (.func g) [] cap] M (λv M'=>v=I (A2l p l 0)/\M'=M):=by
 refine A0r hB func56 ?_
 have b:(A6n l).length=l.length:=by simp[A6n]
 simp -dsimp[b]
 refine A1y hB l.length 8 (λT M1=>∃i:Nat,i<=l.length/\M1=M/\T 0=.list 3 (A6n l) o/\T 1=.func (.func g) [] cap/\T 7=I l.length/\T 8=I i/\A2l p l 0=A2l p (l.drop i) i) ?_ ?_
 .exact⟨0,Q0,rfl,Q1,Q1,Q1,Q1,Q1⟩
 .rintro T M1 ⟨i,i1,rfl,t0,t1,t7,t8,ho⟩;by_cases hi:i<l.length
  .have a:(i:Int)<l.length:=Q0;have w1:=A1O (i:=i) Q0;have hd:l.drop i=l[i]::l.drop (i+1):=Z0m hi;rw[hd,A2l]at ho;have c:=D3b hi;simp -dsimp[t0,t1,t7,t8,hi,a,c,b];refine A0s (hp l[i] (Z0s hi)) ?_;rintro _ _ ⟨rfl,rfl⟩;cases hq:p l[i]
   .rw[hq,Z0d Q1]at ho;simp -dsimp[t0,t1,t7,t8,w1];exact⟨⟨i+1,Q3,rfl,ho⟩,Q3⟩
   .rw[hq,Z0c rfl]at ho;simp -dsimp[t0,t1,t7,t8,ho]
  .have a:¬(i:Int)<l.length:=Q0;rw[show l.drop i=[]from Z0v Q0]at ho;simp -dsimp[t0,t1,t7,t8,a,ho,A2l]
def D3W(p:EnD->Bool)(g:FuncId)(cap:List AV)(l:List EnD)(o:Own)(M:Mem)(hl:l.length<=3000)(hp:∀u∈l,A2Z (WC gl) g (.agg u.row::cap) M (λv M'=>v=B (p u)/\M'=M)):
 A0c (WC gl) 34 [.list 28 (A2L l) o,.func (.func g) [] cap] M (λv M'=>v=B (l.any p)/\M'=M):=by
 refine A0r hB func34 ?_
 simp -dsimp
 refine A0g func55 (C4f gl p g cap l o M hl hp) ?_
 rw[<-A5J _ l 0]
 simp -dsimp
def D3l(p:A6v->Bool)(g:FuncId)(cap:List AV)(l:List A6v)(o:Own)(M:Mem)(hl:l.length<=3000)(hp:∀u∈l,A2Z (WC gl) g (.agg u.row::cap) M (λv M'=>v=B (p u)/\M'=M)):
 A0c (WC gl) 35 [.list 3 (A6n l) o,.func (.func g) [] cap] M (λv M'=>v=B (l.any p)/\M'=M):=by
 refine A0r hB func35 ?_
 simp -dsimp
 refine A0g func56 (D3P gl p g cap l o M hl hp) ?_
 rw[<-A5J _ l 0]
 simp -dsimp
end
abbrev nl:AV:=.val (.slice none 0 0)
def A4O:List AV:=[I 0,nl,nl,I 0,I 0,I 0,I 0,I 0,I 0,S ⟨#[]⟩,nl,nl,nl,nl,nl,S ⟨#[]⟩,S ⟨#[]⟩,I 0,I 0,S ⟨#[]⟩,I 0,I 0,I 0,S ⟨#[]⟩,nl]
def B3K{a i d:Int}:(A6O a i d A4O).length=28:=rfl
def C1I{a i d:Int}:List.take 28 (A6O a i d A4O)=A6O a i d A4O:=rfl
def E6j{a i d:Int}:A0A prog 55 [(0,I a),(1,I i),(2,I d)]=some (.agg (A6O a i d A4O)):=by simp[A0A,A1l,putCells,A0e,A6O,A4O]
def E2J:A0A prog 55 []=some (.agg (A6O 0 0 0 A4O)):=by simp[A0A,A1l,putCells,A0e,A6O,A4O]
def B4U(r:Int×Int)(o:Option Int):AV:=match o with
 |none=>.tuple [.agg (A6O 0 0 0 A4O),B false]
 |some x=>.tuple [.agg (A6O r.1 r.2 x A4O),B true]
def D3k(n:Nat)(a i d:Int):A1i n (A6O a i d A4O):=by simp[A6O,A4O,A1i,bdd]
section
variable (gl:Nat->AV)
set_option maxHeartbeats 1000000 in
def C6R(r:Int×Int)(l:List A1p)(M:Mem)(h1:l.length<=100)(h2:(l.flatMap A1p.acts).length<=1000):A0c (WC gl) 47 [.agg [I r.1,I r.2],.list 4 (A2f l) .no] M (λv M'=>v=B4U r (B1i r l)/\M'=M):=by
 refine A1N (λn=>?_) ?_
 .cases B1i r l<;>simp[B4U,bdd,A1i,D3k]
 have a0:=λM=>C8Z gl l M h1 h2
 have a1:B1i r l=((A2M l).find? λa=>decide (a.number=r.1)).map A0Y.day:=rfl
 have a5:(A2M l).length<=1000:=by rw[show(A2M l).length=(A3m (l.flatMap A1p.acts)).length from(A5d _).length_eq];exact Z0J (B0a _) h2
 generalize B1i r l=P at*
 generalize A2M l=A at*
 subst a1
 obtain⟨z,hz⟩:=ex (A6O 0 0 0 A4O)
 have m:z.length=28:=by rw[hz];rfl
 obtain⟨b,hb⟩:=ex (M.length)
 obtain⟨N,hN⟩:=ex (M++[A0m.cells 55 z])
 have a4:N[b]?=some (.cells 55 z):=by rw[hN,hb];simp
 have a3:Grow M N:=ZAL
 have w:∀(Q:Mem) (c:List AV),c.length=28->Q[b]?=some (.cells 55 z)->A0k (some 28) Q (.ptr b 0) (.agg c)=some (Q.set b (.cells 55 c)):=λQ c hc h=>by rw[A0f h,A0n,Z0c ⟨A0o,by simp[hc,m],by simp[hc]⟩];simp[A0e,hc,m,Z0v]
 refine A0r hB func47 ?_
 simp -dsimp[-A1d,A0j]
 rw[show[I 0,I 0,I 0,I 0,nl,nl,I 0,I 0,I 0,I 0,I 0,I 0,S ⟨#[]⟩,nl,nl,nl,nl,nl,S ⟨#[]⟩,S ⟨#[]⟩,I 0,I 0,S ⟨#[]⟩,I 0,I 0,I 0,S ⟨#[]⟩,nl]=z from hz.symm,<-hN,<-hb]
 refine A0g func49 (a0 N) ?_
 simp -dsimp
 refine A1y hB A.length 11 (λT Mi=>∃i:Nat,i<=A.length/\T 2=.cptr [I r.1,I r.2]/\T 4=.ptr b 0/\T 9=.list 7 (A5o A) .no/\T 10=I A.length/\T 11=I i/\Mi[b]?=some (.cells 55 z)/\Grow M Mi/\A.find? (λa=>decide (a.number=r.1))=(A.drop i).find? (λa=>decide (a.number=r.1))) ?_ ?_
 .exact⟨0,Q0,Q1,Q1,Q1,Q1,Q1,a4,a3,rfl⟩
 rintro T Mi ⟨i,i1,t2,t4,t9,e,f,h4,hg,hf⟩
 by_cases hi:i<A.length
 case neg=>
  have k:¬(i:Int)<A.length:=Q0;rw[show A.drop i=[]from Z0v Q0]at hf;have hs:=w Mi z m h4;have s:b<Mi.length:=(Z0a.1 h4).1;obtain⟨M5,d⟩:=ex (Mi.set b (.cells 55 z));have o:M5[b]?=some (.cells 55 z):=by rw[d];simp[s]
  have t:Grow M M5:=by rw[d];exact A0w hg Q0
  rw[<-d]at hs;simp -dsimp[t2,t4,t9,e,f,k,E2J,<-hz,hs];simp -dsimp[A2g,o,A0p,B3K,C1I,hf,List.find?_nil,B4U,hz,t]
 have k:(i:Int)<A.length:=Q0
 have w1:=A1O (i:=i) Q0
 have x:=B4m hi
 rw[Z0m hi,Z3W]at hf
 obtain⟨a,ha⟩:=ex (A[i])
 rw[<-ha]at x hf
 obtain⟨q,hq⟩:=ex (Mi.length)
 obtain⟨M3,g⟩:=ex (Mi++[A0m.cells 93 a.row])
 have y:M3[q]?=some (.cells 93 a.row):=by rw[g,hq];simp
 have j:Grow Mi M3:=ZBU
 have p:=j.get h4 Q1
 have u:A0E prog 3 M3 (.ptr q 0)=some (I a.number):=by rw[A0b y,A0Y.row];simp[A0p]
 have a2:A0E prog 3 M3 (.ptr q 2)=some (I a.day):=by rw[A0b y,A0Y.row];simp[A0p]
 simp -dsimp[-A1d,t2,t4,t9,e,f,hi,k,x,A0j,A0k,A0e,A0o,A0n]
 rw[<-ha,<-g,<-hq]
 by_cases c:a.number=r.1
 .have hs:=w M3 (A6O r.1 r.2 a.day A4O) rfl p;have s:b<M3.length:=(Z0a.1 p).1;obtain⟨M5,d⟩:=ex (M3.set b (.cells 55 (A6O r.1 r.2 a.day A4O)));have o:M5[b]?=some (.cells 55 (A6O r.1 r.2 a.day A4O)):=by rw[d];simp[s]
  have t:Grow M M5:=by rw[d];exact A0w (hg.trans j) Q0
  rw[<-d]at hs;simp only[c,Z3I]at hf;simp -dsimp[t2,t4,t9,e,f,u,a2,c,E6j,hs];simp -dsimp[A2g,o,A0p,B3K,C1I,hf,B4U,t]
 .simp only[c,Z4S]at hf;simp -dsimp[t2,t4,t9,e,f,u,c,w1];exact⟨⟨i+1,Q3,rfl,p,hg.trans j,hf⟩,Q3⟩
def C7u(c:Int->Bool)(g:FuncId)(r:Int×Int)(x:Int)(d:EnD)(M:Mem)(hc:∀k M,A2Z (WC gl) g [I k] M (λv M'=>v=B (c k)/\M'=M)):
 A0c (WC gl) 71 [.agg d.row,.cptr [.func (.func g) [] []],.cptr (A6O r.1 r.2 x A4O)] M (λv M'=>v=B (!c (B2s d r x))/\M'=M):=by
 have a:=λM=>D2I gl d.act d.item d.day r.1 r.2 x d.it.row A4O M
 refine A0r hB func71 ?_
 rw[show d.row=A6O d.act d.item d.day d.it.row from rfl]
 have hl:(A6O d.act d.item d.day d.it.row).length=28:=d.row_len
 generalize A6O d.act d.item d.day d.it.row=X at*
 simp -dsimp[hl]
 refine A0X hB (A0B gl) (λ_=>0) (λ_=>0) (by rfl) Q2 ?_
 simp -dsimp[hl,B3K,Z0e]
 refine A1k (λM=>A0l func72 rfl rfl (a M)) ?_
 simp -dsimp
 refine A1k (λM=>hc _ M) ?_
 simp -dsimp[B2s]
end
def B3q(M:Mem)(f g n:Nat)(X:List EnD):Prop:=∃hist,M[f]?=some (.vec 55 28 (X.flatMap EnD.row) g hist)/\hist.lookup g=some n/\X.length=n
def B3q.keep{M M':Mem}{f g n:Nat}{X:List EnD}(h:B3q M f g n X)(hg:M'[f]?=M[f]?):B3q M' f g n X:=by obtain⟨a,h1,h2⟩:=h;exact⟨a,by rw[hg,h1],h2⟩
def B3q.load{M:Mem}{f g n:Nat}{X:List EnD}(h:B3q M f g n X){i:Nat}(hi:i<X.length):A0E prog 55 M (.vptr f g (i*28))=some (.agg X[i].row):=by obtain⟨a,hm,hl,hn⟩:=h;have b:=A2d EnD.row_len X;simp only[A0E,A2g,hm,hl,Z2g,A0h,E1v,E5O];rw[Z0e Q0,A3q EnD.row_len,Z0m hi,Z0y,A7o];rw[Z0c (by rw[Z0k,EnD.row_len];omega),Z3O,EnD.row_len,Z4w,Z0e (by rw[EnD.row_len];omega),Z2c,Z1b]
def B3q.store{M:Mem}{f g n:Nat}{X:List EnD}(h:B3q M f g n X){i:Nat}(hi:i<X.length)(y:EnD):∃M',A0k (some 28) M (.vptr f g (i*28)) (.agg y.row)=some M'/\B3q M' f g n (X.set i y)/\A0d (some f) M M':=by
 obtain⟨a,hm,hl,hn⟩:=h;have hlt:f<M.length:=(Z0a.1 hm).1;have b:i*28+28<=n*28:=Q0;refine⟨M.set f (.vec 55 28 (A0e (X.flatMap EnD.row) (i*28) y.row) g (A0Q 28 g (i*28) a)),?_,⟨A0Q 28 g (i*28) a,?_,A2C _ hl,by simpa using hn⟩,A0d.set _ _ _⟩
 .simp only[A0k,hm,hl,AV.storable,AV.cells,EnD.row_len,Z0A b,Z3I,Z2H,Z1e]
 .rw[B0X EnD.row_len _ _ _ hi];simp[hlt]
def B3q.clear{M:Mem}{f g n:Nat}{X:List EnD}(h:B3q M f g n X){i:Nat}(hi:i<n):∃M',A7L prog 66 M (.vref f g 28 i (n-i))=some (.tuple [],M')/\A0d (some f) M M'/\Pre 55 28 EnD.row M' (.vref f g 28 0 i) (X.take i):=by
 obtain⟨a,hm,hl,hn⟩:=h;have hlt:f<M.length:=(Z0a.1 hm).1;obtain⟨cs,c⟩:=ex (A0e (X.flatMap EnD.row) (i*28) (List.replicate (n-i) (A4O.length::[]|>.flatMap λ_=>(A6O 0 0 0 A4O))).flatten);have b:(X.take i).length=i:=ZCJ
 refine⟨M.set f (.vec 55 28 cs g (A0Q 28 g (i*28) a)),?_,A0d.set _ _ _,.inr ⟨f,g,A0Q 28 g (i*28) a,cs,n,by rw[b],ZDE,?_,A2C _ hl,Q0⟩⟩
 .have h1:i+(n-i)<=n:=Q0;have h2:¬n-i=0:=Q0;simp[A7L,hm,hl,h1,h2,c,A6O,A4O]
 .rw[b,c,A0e,Z0F,Z1D (by rw[Z0t,A2d EnD.row_len];omega),Z1Y,Nat.min_self,A7b EnD.row_len]
def Pre.still{α:Type}{e sz:Nat}{enc:α->List AV}{M:Mem}{n:Nat}{v:AV}{l:List α}(he:∀x,(enc x).length=sz)(hb:∀n x,A1i n (enc x))(h:Pre e sz enc M v l)(hn:A1L n v):Still M n (bdd n) [v] [.list sz (l.map enc) .no]:=by
 rcases h with⟨rfl,rfl⟩|⟨f,g,b,cs,m,rfl,hm,hc,hl,a⟩
 .exact .nilS .nil
 .refine .vec (hn f rfl) hm hl a Q1 (λr hr=>?_) ?_ .nil
  .obtain⟨x,_,rfl⟩:=Z0C.1 hr;exact he x
  .rw[hc];exact Still.flat λx _=>Still.refl (A8A (hb n x))
def C3L{α:Type}(p:α->Bool):∀(X:List α) (i:Nat),(A2l p X i=-1/\X.filter (λx=>!p x)=X)\/∃k,∃h:k<X.length,A2l p X i=((i+k:Nat):Int)/\(X.take k).filter (λx=>!p x)=X.take k/\p X[k]=true
 |[],i=>.inl ⟨rfl,rfl⟩
 |x::X,i=>by
  rw[A2l];cases h:p x with
  |true=>exact .inr ⟨0,Q1,Q1,Q1,ZAJ⟩
  |false=>
   rcases C3L p X (i+1)with⟨h1,h2⟩|⟨k,h1,h2,h3,h4⟩
   .exact .inl ⟨ZBF,by rw[Z2Y (by simp[h]),h2]⟩
   .refine .inr ⟨k+1,ZBF,?_,?_,by simpa using h4⟩
    .rw[Z0d Q1,h2];omega
    .rw[Z1h,Z2Y (by simp[h]),h3]
section
variable (gl:Nat->AV)
def C6G(l:List EnD)(M:Mem)(hn:l.length<=1000000):A0c (WC gl) 70 [.list 28 (A2L l) .no] M (λv M'=>A1r 55 28 EnD.row M' v l/\Grow M M'/\A1L M.length v):=by
 refine A0r (hQ [5,7]) func70 ?_;have hz:A1C prog 66 0 [] M=some (.vref M.length 0 28 0 0,M++[.vec 55 28 [] 0 [(0,0)]]):=by simp[A1C,A1g]
 have a:A1r 55 28 EnD.row (M++[.vec 55 28 [] 0 [(0,0)]]) (.vref M.length 0 28 0 0) []:=.inr ⟨M.length,0,[(0,0)],rfl,Q1,Q1⟩;have key:∀(K:AV->Mem->Prop),(∀v' M',A1r 55 28 EnD.row M' v' l->Grow M M'->A1L M.length v'->K v' M')->A3s (WC gl) false true 66 66 (.vref M.length 0 28 0 0) (.list 28 (A2L l) .no) (M++[.vec 55 28 [] 0 [(0,0)]]) K ⟨⟩:=by
  intro K hK;refine A3B (C:=WC gl) (enc:=EnD.row) (e:=55) (sz:=28) (news:=l) D9v E1Q C8O EnD.row_len a (by simp[A0D,A2L,Z4x]) ZAB rfl ?_;intro v' M' h1 h2 h3 _;refine hK v' M' h1 ⟨by have:=h2.1;simp at this;omega,λi hi _=>by rw[h2.2 i ZAB ZAB,Z0o hi]⟩ λq hq=>?_;rcases h3 with e|e
  .rw[e]at hq;simp at hq;omega
  .have:=e q hq;simp at this;omega
 cases l with
 |nil=>
  simp only[A2L,Z1N]at key|-;simp -dsimp;rw[A5B (.inl rfl) underlying66];intro b;cases b
  .simp -dsimp[hz];refine key _ ?_;intro v' M' h1 h2 h3;simp -dsimp[h1,h2,h3]
  .simp -dsimp[A1r.nil,A0d.refl,A1L]
 |cons k ks=>simp only[A2L,Z0x]at key|-;simp -dsimp[hz];refine key _ ?_;intro v' M' h1 h2 h3;simp -dsimp[h1,h2,h3]
def D1i(p:EnD->Bool)(fn:FuncId)(cap:List AV)(f g n:Nat)(X:List EnD)(M:Mem)(hn:n<=3000)(hv:B3q M f g n X)(hp:∀u∈X,A2Z (WC gl) fn (.agg u.row::cap) M (λv M'=>v=B (p u)/\M'=M)):
 A0c (WC gl) 55 [.vref f g 28 0 n,.func (.func fn) [] cap] M (λv M'=>v=I (A2l p X 0)/\M'=M):=by
 have d:X.length=n:=hv.choose_spec.2.2
 refine A0r hB func55 ?_
 simp -dsimp
 refine A1y hB n 8 (λT M1=>∃i:Nat,i<=n/\M1=M/\T 0=.vref f g 28 0 n/\T 1=.func (.func fn) [] cap/\T 7=I n/\T 8=I i/\A2l p X 0=A2l p (X.drop i) i) ?_ ?_
 .exact⟨0,Q0,rfl,Q1,Q1,Q1,Q1,Q1⟩
 rintro T M1 ⟨i,i1,rfl,t0,t1,t7,t8,ho⟩
 by_cases hi:i<n
 case neg=>have b:¬(i:Int)<n:=Q0;rw[show X.drop i=[]from Z0v Q0]at ho;simp -dsimp[t0,t1,t7,t8,b,ho,A2l]
 have b:(i:Int)<n:=Q0
 have w1:=A1O (i:=i) Q0
 have a:i<X.length:=Q0
 have hd:X.drop i=X[i]::X.drop (i+1):=Z0m a
 rw[hd,A2l]at ho
 have c:=hv.load a
 simp -dsimp[t0,t1,t7,t8,hi,b,c]
 refine A0s (hp X[i] (Z0s a)) ?_
 rintro _ _ ⟨rfl,rfl⟩
 cases hq:p X[i]
 .rw[hq,Z0d Q1]at ho;simp -dsimp[t0,t1,t7,t8,w1];exact⟨⟨i+1,Q3,rfl,ho⟩,Q3⟩
 .rw[hq,Z0c rfl]at ho;simp -dsimp[t0,t1,t7,t8,ho]
set_option maxHeartbeats 1000000 in
def D5p(p:EnD->Bool)(fn:FuncId)(cap:List AV)(v:AV)(X:List EnD)(M:Mem)(hn:X.length<=3000)(ho:A1r 55 28 EnD.row M v X)(hp:∀u∈X,∀M,A2Z (WC gl) fn (.agg u.row::cap) M (λv M'=>v=B (p u)/\M'=M)):
 A0c (WC gl) 69 [v,.func (.func fn) [] cap] M (λr M'=>Pre 55 28 EnD.row M' r (X.filter λx=>!p x)/\A0d (obj v) M M'/\∀f,obj r=some f->obj v=some f):=by
 rcases ho with⟨rfl,rfl⟩|⟨f,g,m,rfl,hm,hl⟩
 .refine A0r hB func69 ?_;simp -dsimp;refine A0g func55 (A0c.atNil [] (C4f gl p fn cap [] .no M Q1 Q1)) ?_;simp -dsimp[A2l];exact⟨.inl ⟨rfl,rfl⟩,.refl _ _⟩
 have hv:B3q M f g X.length X:=⟨m,hm,hl,rfl⟩
 have hx:=D1i gl p fn cap f g X.length X M hn hv (λu hu=>hp u hu M)
 rcases C3L p X 0 with⟨h1,h2⟩|⟨k,hk,h1,h2,h3⟩
 .rw[h1]at hx;refine A0r hB func69 ?_;simp -dsimp;refine A0g func55 hx ?_;simp -dsimp;rw[h2];exact⟨.inr ⟨f,g,m,_,X.length,rfl,hm,by rw[Z0e (by rw[A2d EnD.row_len];exact Z0j _)],hl,Z0j _⟩,.refl _ _⟩
 rw[h1,Z0P]at hx
 have w0:=A1O (i:=k) Q0
 have a6:¬(k:Int)=-1:=Q0
 refine A0r hB func69 ?_
 simp -dsimp
 refine A0g func55 hx ?_
 simp -dsimp[a6,w0]
 refine A6V (.exit 0) (λT Mi=>∃(i:Nat) (Y:List EnD),T 0=.vref f g 28 0 X.length/\T 5=I i/\i<X.length/\B3q Mi f g X.length Y/\Y.take i=X.filter (λx=>!p x)/\A0d (some f) M Mi) ?_ ?_
 .refine A1y hB X.length 6 (λT Mi=>∃j:Nat,j<=X.length/\∃(i:Nat) (Y:List EnD),i<j/\T 0=.vref f g 28 0 X.length/\T 1=.func (.func fn) [] cap/\T 5=I i/\T 6=I j/\B3q Mi f g X.length Y/\Y.take i=(X.take j).filter (λx=>!p x)/\Y.drop j=X.drop j/\A0d (some f) M Mi) ?_ ?_
  .refine⟨k+1,Q0,k,X,Q0,Q1,Q1,Q1,Q1,hv,?_,rfl,.refl _ _⟩;rw[Z0z,Z0g hk,Z0T,Z2a,h2,Z3B (by simp[h3])];simp
  rintro T Mi ⟨j,j1,i,Y,a8,t0,t1,t5,t6,hV,hT,hD,hK⟩;have a7:Y.length=X.length:=hV.choose_spec.2.2;by_cases hj:j<X.length;case neg=>have n:¬(j:Int)<X.length:=Q0;rw[Z0e (show X.length<=j by omega)]at hT;simp -dsimp[t0,t1,t5,t6,n];exact⟨i,rfl,Q0,Y,hV,hT,hK⟩
  have n:(j:Int)<X.length:=Q0;have w1:=A1O (i:=j) Q0;have w2:=A1O (i:=i) Q0;have w:j<Y.length:=Q0;have a5:Y[j]=X[j]:=by have:=congrArg (λl=>l[0]?) hD;simpa[w,hj]using this
  obtain⟨d,hd⟩:=ex (X[j]);have t:=hV.load w;rw[a5,<-hd]at t;have c:(X.take (j+1)).filter (λx=>!p x)=(X.take j).filter (λx=>!p x)++(if p d=true then[]else[d]):=by rw[Z0z,Z0g hj,Z0T,Z2a,<-hd];cases h:p d<;>simp[h]
  have a2:d∈X:=by rw[hd];exact Z0s hj
  have o:Y.drop (j+1)=X.drop (j+1):=by rw[<-Z2b,hD,Z2b]
  obtain⟨q,hq⟩:=ex (Mi.length);obtain⟨M3,e⟩:=ex (Mi++[A0m.cells 55 d.row]);have a4:M3[q]?=some (.cells 55 d.row):=by rw[e,hq];simp
  have z:Grow Mi M3:=ZBJ
  have hlt:f<Mi.length:=(Z0a.1 hV.choose_spec.1).1;have s:B3q M3 f g X.length Y:=hV.keep (by rw[e,Z0o hlt]);have b:A0d (some f) M M3:=⟨Z0J hK.1 z.1,λa ha hne=>by rw[z.2 a (Z0S ha hK.1) Q1];exact hK.2 a ha hne⟩;have a0:A0E prog 55 M3 (.ptr q 0)=some (.agg d.row):=by rw[A0b a4];simp[A0p]
  simp -dsimp[-A1d,t0,t1,t5,t6,hj,n,t,A0j,A0k,A0e,A0o,A0n];rw[<-e,<-hq];simp -dsimp[t0,t1,a0];refine A0s (hp d a2 M3) ?_;rintro _ _ ⟨rfl,rfl⟩;cases hc:p d;case true=>rw[hc,Z0c rfl,Z1b]at c;simp -dsimp[t0,t1,t5,t6,w1];exact⟨⟨j+1,ZAD,i,ZAD,rfl,rfl,Y,s,by rw[c];exact hT,o,b⟩,ZAD⟩
  rw[hc,Z0d Q1]at c;obtain⟨M4,s1,s2,s3⟩:=s.store (i:=i) Q0 d;have a1:i<X.length:=Q0;have y:(i:Int)<X.length:=Q0;have a3:A0d (some f) M M4:=⟨Z0J b.1 s3.1,λa ha hne=>by rw[s3.2 a (Z0S ha b.1) hne];exact b.2 a ha hne⟩;simp -dsimp[t0,t1,t5,t6,w1,w2,a0,a1,y,s1];refine⟨⟨j+1,ZAD,i+1,ZAD,rfl,rfl,Y.set i d,s2,?_,?_,a3⟩,ZAD⟩
  .rw[c,<-hT,Z0z];rw[Z3Y (Z0j _)];simp[show i<Y.length by omega]
  .rw[List.drop_set_of_lt Q0,o]
 rintro T Mi ⟨i,Y,t0,t5,hi,hV,hT,hK⟩
 obtain⟨M2,c1,c2,c3⟩:=hV.clear hi
 have h5:A1Q prog 66 (.vref f g 28 0 X.length) (some (I i)) none none=some (.vref f g 28 i (X.length-i)):=by have h1:(i:Int)<=X.length:=Q0;simp[A1Q,A4d,A7K,A1s,A8L,h1]
 have h6:A1Q prog 66 (.vref f g 28 0 X.length) none (some (I i)) none=some (.vref f g 28 0 i):=by have h1:(i:Int)<=X.length:=Q0;simp[A1Q,A4d,A7K,A1s,A8L,h1]
 simp -dsimp[t0,t5,h5,h6,c1]
 rw[<-hT]
 exact⟨c3,⟨Z0J hK.1 c2.1,λa ha hne=>by rw[c2.2 a (Z0S ha hK.1) hne];exact hK.2 a ha hne⟩⟩
end
section
variable (gl:Nat->AV)
def C7Y(c:Int->Bool)(g:FuncId)(r:Int×Int)(x:Int)(ds:List EnD)(M:Mem)(hl:ds.length<=3000)(hc:∀k M,A2Z (WC gl) g [I k] M (λv M'=>v=B (c k)/\M'=M)):
 A0c (WC gl) 48 [.list 28 (A2L ds) .no,.agg (A6O r.1 r.2 x A4O),.func (.func g) [] []] M (λv M'=>v=.list 28 (A2L (ds.filter λd=>c (B2s d r x))) .no/\M'=M):=by
 refine A0c.dataX ?_
 have hd:=λ(u:EnD) M=>A0l func71 rfl rfl (C7u gl c g r x u M hc)
 generalize hX:A6O r.1 r.2 x A4O=X at*
 have b:X.length=28:=by rw[<-hX];rfl
 refine A0r hB func48 ?_
 simp -dsimp
 refine A3R func70 (C6G gl ds M Q0) ?_
 rintro v M1 ⟨h1,h2,h3⟩
 simp -dsimp
 refine A3R func69 (D5p gl (λd=>!c (B2s d r x)) 71 _ v ds M1 hl h1 (λu _ M=>hd u M)) ?_
 rintro w M2 ⟨k1,k2,k3⟩
 simp -dsimp
 have e:(ds.filter λd=>!(!c (B2s d r x)))=ds.filter λd=>c (B2s d r x):=ZBG
 rw[e]at k1
 have hL:A1L M.length w:=λf hf=>h3 f (k3 f hf)
 refine⟨⟨Z0J h2.1 k2.1,λa ha _=>?_⟩,Pre.still EnD.row_len C7c k1 hL⟩
 rw[k2.2 a (Z0S ha h2.1) (λe=>by have:=h3 a e;omega)]
 exact h2.2 a ha Q1
set_option maxHeartbeats 1000000 in
def C0Q(a9:gl 0=.cptr [fnV 356,fnV 357])(a7:gl 2=A1t)(a8:gl 8=A1E){l:List A1p}(hF:A8H l)(c:Int->Bool)(g:FuncId)(day:Int)(purpose:ByteArray)(r:Int×Int)(M:Mem)(hc:∀k M,A2Z (WC gl) g [I k] M (λv M'=>v=B (c k)/\M'=M)):
 A0c (WC gl) 25 [I day,S purpose,.agg [I r.1,I r.2],.list 4 (A2f l) .no,.func (.func g) [] []] M (λv M'=>v=.agg (A9u day purpose r l c).row/\M'=M):=by
 refine A1N (λn=>A1F n _) ?_
 have j:=λM=>C6R gl r l M hF.gaz hF.acts
 have a1:=λM=>B4r gl day purpose l M hF.gaz hF.acts ZDB
 have ab:=B5y hF day purpose
 have a3:=hF.on day purpose
 rw[A9u]
 generalize B1i r l=P at*
 generalize onD day purpose l=ds at*
 obtain⟨z,hz⟩:=ex ([AV.val (Value.int IntKind.i64 0),AV.val (Value.int IntKind.i64 0),AV.val (Value.int IntKind.i64 0),AV.val (Value.int IntKind.i64 0),AV.val (Value.string {data:=#[]}),AV.val (Value.slice none 0 0),AV.val (Value.slice none 0 0),AV.val (Value.slice none 0 0)]:List AV)
 have a0:z.length=8:=by rw[hz];rfl
 obtain⟨b,hb⟩:=ex (M.length)
 obtain⟨N,hN⟩:=ex (M++[A0m.cells 31 z])
 have y:N[b]?=some (.cells 31 z):=by rw[hN,hb];simp
 have w:Grow M N:=ZAL
 have o:∀(Q:Mem) (u:A0a),Q[b]?=some (.cells 31 z)->Grow M Q->∃Q',A0k (some 8) Q (.ptr b 0) (.agg u.row)=some Q'/\Q'[b]?=some (.cells 31 u.row)/\Grow M Q':=λQ u h hg=>by refine⟨Q.set b (.cells 31 u.row),?_,by simp[(Z0a.1 h).1],A0w hg Q0⟩;rw[A0f h,A0n,Z0c ⟨A0o,by simp[A0a.row_len,a0],ZCY⟩];simp[A0e,A0a.row_len,a0,Z0v]
 have t:=j N
 refine A0r hB func25 ?_
 simp -dsimp[-A1d,A0j]
 rw[<-hz,<-hN,<-hb]
 refine A0g func47 t ?_
 clear j t
 cases P with
 |none=>
  obtain⟨N2,a⟩:=ex (N++[A0m.cells 55 (A6O 0 0 0 A4O)])
  have e:Grow N N2:=ZAH
  obtain⟨Q,q1,q2,q3⟩:=o N2 A2x (e.get y Q1) (w.trans e)
  simp -dsimp[-A1d,B4U,A0j,A0k,A0e,A0o,A0n,B3K]
  rw[<-a]
  refine A0g func42 (B9p gl N2) ?_
  simp -dsimp[q1]
  simp -dsimp[A2g,q2,A0p,A0a.row_len,q3]
 |some x=>
  dsimp only
  obtain⟨X,hX⟩:=ex (A6O r.1 r.2 x A4O)
  have m:X.length=28:=by rw[hX];rfl
  obtain⟨q,hq⟩:=ex (N.length)
  obtain⟨N2,a⟩:=ex (N++[A0m.cells 55 X])
  have aa:N2[q]?=some (.cells 55 X):=by rw[a,hq];simp
  have e:Grow N N2:=ZAH
  have a5:A0E prog 55 N2 (.ptr q 0)=some (.agg X):=by rw[A0b aa];simp[A0p,m,Z0e]
  have i:=λM=>C7Y gl c g r x ds M Q0 hc
  rw[<-hX]at i
  have ac:=Z1q (λd=>c (B2s d r x)) ds
  have a4:=λM=>B7i gl A2a A2m (ds.filter λd=>c (B2s d r x)) M (A8Y gl a9 a7 a8 _ λd hd hk=>a3 d (Z1o.1 hd).1 hk) A6k Q0
  generalize ds.filter (λd=>c (B2s d r x))=es at*
  generalize A1M A2a A2x es=R at*
  obtain⟨s,hs⟩:=ex (N2.length)
  obtain⟨N3,f⟩:=ex (N2++[A0m.cells 31 R.1.row])
  have a2:N3[s]?=some (.cells 31 R.1.row):=by rw[f,hs];simp
  have p:Grow N2 N3:=ZBT
  have a6:A0E prog 31 N3 (.ptr s 0)=some (.agg R.1.row):=by rw[A0b a2];simp[A0p,A0a.row_len]
  obtain⟨Q,q1,q2,q3⟩:=o N3 R.1 (p.get (e.get y Q1) Q1) (w.trans (e.trans p))
  simp -dsimp[-A1d,B4U,<-hX,A0j,A0k,A0e,A0o,A0n,m]
  rw[<-a,<-hq]
  refine A0g func19 (a1 N2) ?_
  simp -dsimp[a5]
  refine A0s (A0l func48 rfl rfl (i N2)) ?_
  rintro _ _ ⟨rfl,rfl⟩
  simp -dsimp
  refine A0g func20 (a4 _) ?_
  simp -dsimp[-A1d,A0j,A0k,A0e,A0o,A0n,A0a.row_len]
  rw[<-f,<-hs]
  simp -dsimp[a6,q1]
  simp -dsimp[A2g,q2,A0p,A0a.row_len,q3]
def C5T(c:gl 0=.cptr [fnV 356,fnV 357])(b:gl 2=A1t)(a:gl 8=A1E){l:List A1p}(hF:A8H l)(day:Int)(purpose:ByteArray)(r:Int×Int)(M:Mem):A0c (WC gl) 11 [I day,S purpose,.agg [I r.1,I r.2],.list 4 (A2f l) .no] M (λv M'=>v=.agg (A9u day purpose r l λk=>decide (k<0)).row/\M'=M):=by
 refine A1N (λn=>A1F n _) ?_
 have hp:=λM=>C0Q gl c b a hF (λk=>decide (k<0)) 26 day purpose r M λk M=>A0l func26 rfl rfl (C4b gl k M)
 generalize A9u day purpose r l (λk=>decide (k<0))=u at*
 refine A0r hB func11 ?_
 simp -dsimp[A0j]
 refine A0g func25 (hp _) ?_
 simp -dsimp[A0k,A0e,A0o,A0n,A0a.row_len,A2g,A0p]
 exact A0d.app none _ _
def C2m(c:gl 0=.cptr [fnV 356,fnV 357])(b:gl 2=A1t)(a:gl 8=A1E){l:List A1p}(hF:A8H l)(day:Int)(purpose:ByteArray)(r:Int×Int)(M:Mem):A0c (WC gl) 13 [I day,S purpose,.agg [I r.1,I r.2],.list 4 (A2f l) .no] M (λv M'=>v=.agg (A9u day purpose r l λk=>decide (k<=0)).row/\M'=M):=by
 refine A1N (λn=>A1F n _) ?_
 have hp:=λM=>C0Q gl c b a hF (λk=>decide (k<=0)) 28 day purpose r M λk M=>A0l func28 rfl rfl (C2a gl k M)
 generalize A9u day purpose r l (λk=>decide (k<=0))=u at*
 refine A0r hB func13 ?_
 simp -dsimp[A0j]
 refine A0g func25 (hp _) ?_
 simp -dsimp[A0k,A0e,A0o,A0n,A0a.row_len,A2g,A0p]
 exact A0d.app none _ _
def D0G(e:gl 0=.cptr [fnV 356,fnV 357])(d:gl 2=A1t)(c:gl 8=A1E){l:List A1p}(hF:A8H l)(day:Int)(purpose:ByteArray)(M:Mem):A0c (WC gl) 36 [I day,S purpose,.list 4 (A2f l) .no] M (λv M'=>v=.list 3 (A6n (A1M A2a A2x (onD day purpose l)).2) .no/\M'=M):=by
 refine A1N (λn=>?_) ?_
 .have:=B5O n A2x (A1M A2a A2x (onD day purpose l)).2;simp only[bdd,A1i,Z1A]at this|-;exact this.2
 have a:=λM=>B4r gl day purpose l M hF.gaz hF.acts ZDB
 have b:=λM=>B7i gl A2a A2m (onD day purpose l) M (A8Y gl e d c _ (hF.on day purpose)) A6k (by have:=B5y hF day purpose;omega)
 generalize A1M A2a A2x (onD day purpose l)=R at*
 refine A0r hB func36 ?_
 simp -dsimp
 refine A0g func19 (a M) ?_
 simp -dsimp
 refine A0g func20 (b M) ?_
 simp -dsimp[A0j,A0k,A0e,A0o,A0n,A0a.row_len]
 exact A0d.app none _ _
def D2x(ds:List EnD):(A1M A2a A2x ds).2.length<=ds.length:=by
 have:∀(ds:List EnD) (s:A0a×List A6v),(ds.foldl (A5s A2a) s).2.length<=s.2.length+ds.length:=λds=>by
  induction ds with
  |nil=>intro s;simp
  |cons d ds ih=>
   intro s;have:=ih (A5s A2a s d);rw[Z1U,Z0r];have h2:(A5s A2a s d).2.length<=s.2.length+1:=by
    rw[A5s];split
    .split<;>simp
    .omega
   omega
 simpa[A1M]using this ds (A2x,[])
def C3Q(e:gl 0=.cptr [fnV 356,fnV 357])(g:gl 2=A1t)(i:gl 8=A1E){l:List A1p}(hF:A8H l)(day:Int)(purpose:ByteArray)(r:Int×Int)(M:Mem):A0c (WC gl) 15 [I day,S purpose,.agg [I r.1,I r.2],.list 4 (A2f l) .no] M (λv M'=>v=B (B6X day purpose r l)/\M'=M):=by
 have a:=B4r gl day purpose l M hF.gaz hF.acts ZDB
 have b:=D0G gl e g i hF day purpose M
 have k:=B5y hF day purpose
 have j:=D2x (onD day purpose l)
 rw[B6X]
 have f:=D3W gl (λd=>B1L r d.act d.item) 32 [.cptr [I r.1,I r.2]] (onD day purpose l) .no M Q0 λu _=>A0l func32 rfl rfl (D5m gl r u M)
 generalize A1M A2a A2x (onD day purpose l)=R at*
 have c:=D3l gl (λd=>B1L r d.act d.item) 33 [.cptr [I r.1,I r.2]] R.2 .no M Q0 λu _=>A0l func33 rfl rfl (D5v gl r u M)
 generalize onD day purpose l=ds at*
 refine A0r hB func15 ?_
 simp -dsimp
 refine A0g func19 a ?_
 simp -dsimp
 refine A0g func34 f ?_
 cases ds.any λd=>B1L r d.act d.item
 .simp -dsimp
 .simp -dsimp;refine A0g func36 b ?_;simp -dsimp;refine A0g func35 c ?_;simp -dsimp
end
def D6F{id:IdD}{day:Int}{purpose:ByteArray}{l:List A1p}(h:(A5F id day purpose l).kind≠1):(A5F id day purpose l).by_=(0,0):=by
 rw[A5F]at h|-;split
 .rfl
 .split
  .rename_i h1 _ _ _ h2;rw[h1]at h;simp only[h2]at h;exact absurd rfl h
  .split<;>rfl
def D5x:A0A prog 35 []=some (.agg [I 0,I 0]):=by simp[A0A,A1l]
def E5T:A1K prog .eql 35 (.agg [I 0,I 0]) (.agg [I 0,I 0])=some (B true):=Q2
section
variable (gl:Nat->AV)
set_option maxHeartbeats 4000000 in
def D6S(y:gl 0=.cptr [fnV 356,fnV 357])(z:gl 2=A1t)(w:gl 8=A1E)(id:IdD)(day:Int)(purpose:ByteArray)(l:List A1p)(hl:l.length<=maxLen)(hg:∀g∈l,g.good)
 (ah:∀M,A2Z (WC gl) 5 [] M (λr m=>r=.val (.bool true)/\m=M))(M:Mem):
 A0c (WC gl) 4 [.agg id.row,I day,S purpose,.list 4 (A2f l) .no] M (λv M'=>v=B true):=by
 have f:id.row=[I id.act,I id.item,I id.n]:=rfl
 have al:=C9l gl l purpose M hl hg
 rw[f]
 refine A0r hB func4 ?_
 simp -dsimp -implicitDefEqProofs
 refine A0s (ah M) ?_
 rintro _ _ ⟨rfl,rfl⟩
 simp -dsimp -implicitDefEqProofs
 refine A0s (A0l func6 rfl rfl al) ?_
 rintro _ M ⟨⟨c,rfl,hb⟩,rfl⟩
 cases c with
 |false=>
  simp -dsimp -implicitDefEqProofs
  refine A0s (ah M) ?_
  rintro _ _ ⟨rfl,rfl⟩
  simp -dsimp -implicitDefEqProofs
 |true=>
 have hF:A8H l:=C3n hg (hb rfl)
 have ab:=B3e gl y z w hF id day purpose M
 rw[A8t.row,f]at ab
 have ay:=D6F (id:=id) (day:=day) (purpose:=purpose) (l:=l)
 have a1:=C2b (id:=id) (day:=day) (purpose:=purpose) hF
 have t:=λr M=>C5T gl y z w hF day purpose r M
 have o:=λr M=>C2m gl y z w hF day purpose r M
 have a2:=λM=>B4x gl y z w hF day purpose M
 have ae:=A6b hF day purpose
 have j:=λr M=>C3Q gl y z w hF day purpose r M
 have ag:=λM=>D4F gl day purpose l M hF.gaz hF.acts ZDB
 have b3:=B5y hF day purpose
 simp only at a1
 generalize hk:(A5F id day purpose l).kind=k at*
 generalize hr:(A5F id day purpose l).by_=r at*
 generalize hp:(A5F id day purpose l).path=p at*
 obtain⟨q,hq⟩:=ex (M.length)
 obtain⟨N,hN⟩:=ex (M++[A0m.cells 37 [I k,I id.act,I id.item,I id.n,A5N p,I r.1,I r.2]])
 have e:N[q]?=some (A0m.cells 37 [I k,I id.act,I id.item,I id.n,A5N p,I r.1,I r.2]):=by rw[hN,hq];simp
 have j0:∀Q:Mem,Q[q]?=N[q]?->A0E prog 3 Q (.ptr q 0)=some (I k):=λQ h=>by rw[A0b (h.trans e)];simp[A0p]
 have j4:∀Q:Mem,Q[q]?=N[q]?->A0E prog 33 Q (.ptr q 4)=some (A5N p):=λQ h=>by rw[A0b (h.trans e)];simp[A0p]
 have j5:∀Q:Mem,Q[q]?=N[q]?->A0E prog 35 Q (.ptr q 5)=some (.agg [I r.1,I r.2]):=λQ h=>by rw[A0b (h.trans e)];simp[A0p]
 have ap:∀Q:Mem,Q[q]?=N[q]?->A0E prog 3 Q (.ptr q 5)=some (I r.1):=λQ h=>by rw[A0b (h.trans e)];simp[A0p]
 have b1:∀Q:Mem,Q[q]?=N[q]?->A0E prog 3 Q (.ptr q 6)=some (I r.2):=λQ h=>by rw[A0b (h.trans e)];simp[A0p]
 simp -dsimp -implicitDefEqProofs
 refine A0g func9 ab ?_
 simp -dsimp -implicitDefEqProofs[-A1d,A0j,A0k,A0e,A0o,A0n]
 rw[<-hN,<-hq]
 by_cases c1:k=1
 case neg=>obtain rfl:=ay c1;simp -dsimp -implicitDefEqProofs[-A1d,j0 N rfl,j5 N rfl,c1,D5x,E5T]
 obtain⟨v1,s1,s2,v2,v3,v4,v5,v6⟩:=a1 c1
 have b2:=λi=>(λ(d:EnD)=>B1L r d.act d.item) i
 have t:=t r
 have o:=o r
 have j:=j r
 rw[v6]at j
 generalize A9u day purpose r l (λk=>decide (k<0))=u1 at*
 generalize A9u day purpose r l (λk=>decide (k<=0))=u2 at*
 generalize A3D day purpose l=u3 at*
 generalize onD day purpose l=ds at*
 have x:=λM=>B2d gl u1 p M s1.fit s1.ids v1
 rw[v2,f]at x
 have ad:=λM=>C2j gl u2 id M s2.good (by have:=s2.count;omega)
 have a8:=λM=>C2j gl u3 id M ae.good (by have:=ae.count;omega)
 rw[v3,f]at ad
 rw[v4,f]at a8
 simp -dsimp -implicitDefEqProofs[-A1d,j0 N rfl,c1]
 obtain⟨s,hs⟩:=ex (N.length)
 obtain⟨N1,ac⟩:=ex (N++[A0m.cells 28 [I id.act,I id.item,I id.n]])
 have ar:N1[s]?=some (A0m.cells 28 [I id.act,I id.item,I id.n]):=by rw[ac,hs];simp
 have u:N1[q]?=N[q]?:=by rw[ac,Z0o (Z0a.1 e).1]
 refine A9V hB (A0B gl) (λk=>if k=3\/k=7 then 1 else if k=12\/k=13 then 2 else 0) (λ_=>q) (λ_=>false) [q] (by intros;simp) (by rfl) Q2 ?_
 simp -dsimp -implicitDefEqProofs[-A1d,A1e,A5t,j5 N rfl]
 refine A1k (λM=>A0l func11 rfl rfl (t M)) ?_
 simp -dsimp -implicitDefEqProofs[-A1d,A1e,A5t,j4 N rfl]
 refine A1k (λM=>A0l func10 rfl rfl (x M)) ?_
 simp -dsimp -implicitDefEqProofs[-A1d,A0j,A0k,A0e,A0o,A0n]
 rw[<-ac,<-hs]
 have aj:=(Z0a.1 e).1
 refine⟨Z0o aj,by rw[u,Z0o aj],?_⟩
 refine A0X hB (A0B gl) (λk=>if k=3 then 1 else 0) (λ_=>q) (by rfl) Q2 ?_
 simp -dsimp -implicitDefEqProofs[-A1d,A1e,A5t,j5 N1 u]
 refine A1k (λM=>A0l func13 rfl rfl (o M)) ?_
 simp -dsimp -implicitDefEqProofs[-A1d]
 refine A1k (λM=>A0l func12 rfl rfl (ad M)) ?_
 simp -dsimp -implicitDefEqProofs[-A1d]
 refine A0X hB (A0B gl) (λ_=>0) (λ_=>q) (by rfl) Q2 ?_
 simp -dsimp -implicitDefEqProofs[-A1d]
 refine A1k (λM=>A0l func8 rfl rfl (a2 M)) ?_
 simp -dsimp -implicitDefEqProofs[-A1d]
 refine A1k (λM=>A0l func12 rfl rfl (a8 M)) ?_
 simp -dsimp -implicitDefEqProofs[-A1d]
 refine A0g func14 (ag N1) ?_
 simp -dsimp -implicitDefEqProofs[-A1d]
 obtain⟨A,hA⟩:∃A:Nat->Bool,A=λi=>(ds.take i).any λd=>B1L r d.act d.item:=⟨_,rfl⟩
 have b0:∀i (hi:i<ds.length),A (i+1)=(A i||B1L r ds[i].act ds[i].item):=λi hi=>by rw[hA];simp only[Z0z,Z0g hi,Z0T,List.any_append,Z2Z,List.any_nil,Z3k]
 have ao:A ds.length=true:=by rw[hA];simpa using v5
 have ax:A 0=false:=by rw[hA];rfl
 clear hA
 refine A1y hB ds.length 77 (λT Mi=>∃i:Nat,i<=ds.length/\T 1=I day/\T 2=S purpose/\T 3=.list 4 (A2f l) .no/\T 4=.cptr [I id.act,I id.item,I id.n]/\T 9=.ptr q 0/\T 10=.ptr s 0/\T 11=I 0/\T 13=B false/\T 15=B false/\T 16=B (A i)/\T 75=.list 28 (A2L ds) .no/\T 76=I ds.length/\T 77=I i/\Grow N1 Mi) ?_ ?_
 .exact⟨0,Q0,Q1,Q1,Q1,Q1,Q1,Q1,Q1,Q1,Q1,by simp[ax],Q1,Q1,Q1,A0d.refl _ _⟩
 clear o a2 ag ab t x ad a8
 rintro T Mi ⟨i,i1,t1,t2,t3,t4,t9,aa,a7,a6,a5,a3,t75,t76,t77,hG⟩
 have az:Mi[q]?=N[q]?:=(hG.2 q (by have:=(Z0a.1 (u.trans e)).1;omega) Q1).trans u
 by_cases hi:i<ds.length
 case neg=>
  have a4:¬(i:Int)<ds.length:=Q0;obtain rfl:i=ds.length:=Q0;rw[ao]at a3;have au:=hG.get ar Q1;have aq:A0E prog 28 Mi (.ptr s 0)=some (.agg [I id.act,I id.item,I id.n]):=by rw[A0b au];simp[A0p]
  have he:=C2D id id;rw[Z0A rfl]at he;simp -dsimp -implicitDefEqProofs[-A1d,t1,t2,t3,t4,t9,aa,a7,a6,a5,a3,t75,t76,t77,a4,aq,he,j5 Mi az];refine A0g func15 (j Mi) ?_;simp -dsimp -implicitDefEqProofs
 have a4:(i:Int)<ds.length:=Q0
 have w1:=A1O (i:=i) Q0
 have ak:=A6N hi
 have a0:=b0 i hi
 obtain⟨d,hd⟩:=ex (ds[i])
 rw[<-hd]at ak a0
 obtain⟨b,hb⟩:=ex (Mi.length)
 obtain⟨M3,a9⟩:=ex (Mi++[A0m.cells 55 d.row])
 have am:M3[b]?=some (.cells 55 d.row):=by rw[a9,hb];simp
 have aw:Grow Mi M3:=by rw[a9];exact A0d.app none _ _
 have af:=hG.trans aw
 have ai:M3[q]?=N[q]?:=(af.2 q (by have:=(Z0a.1 (u.trans e)).1;omega) Q1).trans u
 have an:A0E prog 3 M3 (.ptr b 0)=some (I d.act):=by rw[A0b am,EnD.row];simp[A0p]
 have av:A0E prog 3 M3 (.ptr b 1)=some (I d.item):=by rw[A0b am,EnD.row];simp[A0p]
 have k1:=ap M3 ai
 have k2:=b1 M3 ai
 generalize A i=a at*
 simp -dsimp -implicitDefEqProofs[-A1d,t1,t2,t3,t4,t9,aa,a7,a6,a5,t75,t76,t77,hi,a4,ak,A0j,A0k,A0e,A0o,A0n]
 rw[<-hd,<-a9,<-hb]
 cases a<;>by_cases e1:d.act=r.1<;>by_cases e2:d.item=r.2
 all_goals
  rw[B1L]at a0
  simp only[e1,e2,Z3I,Z4S,Bool.and_true,Z0U,Z2V,Z0K,Bool.or_true,Z4R,Z3k,Z2G]at a0
  simp -dsimp -implicitDefEqProofs[-A1d,t1,t2,t3,t4,t9,aa,a7,a6,a5,a3,t75,t76,t77,an,av,k1,k2,e1,e2,w1]
  exact⟨⟨i+1,Q3,by simp[a0,e1,e2],Q3,af⟩,Q3⟩
end
end Go.Abs
