/- The texts EiG, EiH, EjF, EjG, EjH, EjI, EjJ, EjK, EjL. -/
import Derived.Test.YtmihnfpinnfnfaaGreatDoorPG42
import Derived.Test.YtmihnfpinnfnfaaGreatDoorPG38
import Derived.Test.YtmihnfpinnfnfaaGreatDoorPG36
set_option linter.all false
set_option maxRecDepth 100000
namespace Go.Abs
open Go.Proofs TryTypes
def okW(w:A0z):Prop:=A2B w.text=true/\w.good
def D1b{l:List A0z}(h1:l.length<=256)(h2:∀w∈l,okW w):A3a l=true:=by simp only[A3a,Z0h,Z0m,Z0D];exact⟨h1,λw hw=>(h2 w hw).1⟩
def D4d{l:List A0z}(h:A3a l=true)(hg:∀w∈l,w.good):∀w∈l,okW w:=λw hw=>by simp only[A3a,Z0h,Z0m,Z0D]at h;exact⟨h.2 w hw,hg w hw⟩
def D2f{s:ByteArray}(h:A2B s=true):s.size<=maxLen:=by simp only[A2B,Z0h,Z0m]at h;have hm:maxLen=9223372036854775807:=rfl;omega
def B6W{a i:Int}(ha:inI a)(hi:inI i):∀(l:List ByteArray) (n:Nat),(∀t∈l,A2B t=true)->n+l.length<=2000000000->∀w∈A2h a i n l,okW w
 |[],n,_,_,w,hw=>by simp[A2h]at hw
 |t::l,n,ht,hn,w,hw=>by
  rw[A2h]at hw;simp only[Z0q]at hn;rcases Z0r.1 hw with rfl|hw
  .have h:=ht t Q1;refine⟨h,D2f h,ha,hi,?_⟩;simp only[inI];omega
  .exact B6W ha hi l (n+1) (λq hq=>ht q (by simp[hq])) Q0 w hw
def B7D{l:List ByteArray}{n:Int}(h:A3S l n=true):l.length<=256/\(∀t∈l,A2B t=true)/\n<=l.length:=by simp only[A3S,Z0h,Z0m,Z0D]at h;exact⟨h.1.1,h.1.2,h.2⟩
def C3m{a i:Int}(ha:inI a)(hi:inI i)(c:Nat)(b:List ByteArray)(hf:b.length<=256)(hw:∀t∈b,A2B t=true):∀(ps:List Nat) (w:List A0z) (k:Nat),k+ps.length<=1000->(∀q∈w,okW q)->∀q∈A9W c b a i w ps k,okW q
 |[],w,k,_,h,q,hq=>by rw[A9W]at hq;exact h q hq
 |p::ps,w,k,hk,h,q,hq=>by
  simp only[Z0q]at hk;rw[A9W,C4L]at hq;have ih:=C3m ha hi c b hf hw ps w (k+1) Q0 h;rcases Z0T.1 hq with hq|hq
  .rcases Z0T.1 hq with hq|hq
   .exact ih q (Z1m hq)
   .refine B6W ha hi b _ hw ?_ q hq;have:k*b.length<=1000*256:=Z4x Q0 hf;omega
  .exact ih q (Z1l hq)
def B7k{a i:Int}(ha:inI a)(hi:inI i){w:List A0z}{c:Nat}{b:List ByteArray}{ps:List Nat}(hf:b.length<=256)(hw:∀t∈b,A2B t=true)(hp:ps.length<=1000)(h:∀q∈w,okW q) (he:(B1S w ps c b a i).2=0):(B1S w ps c b a i).1.length<=256/\∀q∈(B1S w ps c b a i).1,okW q:=by
 unfold B1S at he|-
 split at he
 .exact absurd he (by decide)
 .rename_i hl;rw[Z0d hl];exact⟨by show(A9W c b a i w ps 0).length<=_;omega,C3m ha hi c b hf hw ps w 0 Q0 h⟩
def C3g{a i:Int}(ha:inI a)(hi:inI i){w:List A0z}{d b:List ByteArray}{c:Int}(hl:w.length<=256)(hf:b.length<=256)(hw:∀t∈b,A2B t=true)(h:∀q∈w,okW q) (he:(A4M w d b c a i).2=0):(A4M w d b c a i).1.length<=256/\∀q∈(A4M w d b c a i).1,okW q:=by
 have e:=B0b w d c
 unfold A4M at he|-
 simp only at he|-
 split at he
 .exact absurd he (by decide)
 .rename_i hl;rw[Z0d hl];exact B7k ha hi hf hw Q0 h he
def C1s{a i:Int}(ha:inI a)(hi:inI i){w:List A0z}{d b:List ByteArray}{c:Int}(hl:w.length<=256)(hf:b.length<=256)(hw:∀t∈b,A2B t=true)(h:∀q∈w,okW q) (he:(A3K w d b c a i).2=0):(A3K w d b c a i).1.length<=256/\∀q∈(A3K w d b c a i).1,okW q:=by
 have f:=B0b w d c
 unfold A3K at he|-
 simp only at he|-
 split at he
 .rename_i e;rw[Z0c e];exact B7k ha hi hf hw Q1 h he
 .rename_i e;rw[Z0d e];split at he
  .exact absurd he (by decide)
  .rename_i hl;rw[Z0d hl];exact B7k ha hi hf hw (by rw[Z0N];omega) h he
section
variable {u x p y:A0a}
def C5J{ws:List A0z}(h:A1o y=true)(hk:y.kind≠0)(hw:A3a ws=true):A1o (B2n ws y)=true:=by obtain⟨r1,r2,r3⟩:=(A2f y).1 h;refine(A2f _).2 ⟨?_,r2,r3⟩;obtain⟨a,k,l,hd,w,k0⟩:=y;have hk:k≠0:=hk;simp only[A2J,Z0h,Z0m]at r1|-;refine⟨⟨⟨r1.1.1.1,r1.1.1.2⟩,hw⟩,?_⟩;have c5:(if k=0 then decide (l.size=0)&&decide (hd.length=0)&&decide (w.length=0)else A1u l)=true:=r1.2;rw[Z0d hk]at c5;show(if k=0 then _ else A1u l)=true;rw[Z0d hk];exact c5
def C6E{ws:List A0z}(h:A1o y=true)(hk:y.kind≠0)(hw:A3a ws=true):A1o (B9s ws y)=true:=by obtain⟨r1,r2,r3⟩:=(A2f y).1 h;refine(A2f _).2 ⟨?_,r2,r3⟩;obtain⟨a,k,l,hd,w,k0⟩:=y;have hk:k≠0:=hk;simp only[A2J,Z0h,Z0m]at r1|-;refine⟨⟨⟨r1.1.1.1,hw⟩,r1.1.2⟩,?_⟩;have c5:(if k=0 then decide (l.size=0)&&decide (hd.length=0)&&decide (w.length=0)else A1u l)=true:=r1.2;rw[Z0d hk]at c5;show(if k=0 then _ else A1u l)=true;rw[Z0d hk];exact c5
def C7c{n:Nat}(h:n<=256):n<=maxLen:=by have hm:maxLen=9223372036854775807:=rfl;omega
def C8H{ws:List A0z}(h:y.good)(hl:ws.length<=256)(hw:∀w∈ws,w.good):(B2n ws y).good:=by obtain⟨g1,g2,g3,g4,g5,g6,g7,g8,g9⟩:=(A0a.good_iff _).1 h;exact(A0a.good_iff _).2 ⟨g1,g2,g3,g4,g5,C7c hl,hw,g8,g9⟩
def C8J{ws:List A0z}(h:y.good)(hl:ws.length<=256)(hw:∀w∈ws,w.good):(B9s ws y).good:=by obtain⟨g1,g2,g3,g4,g5,g6,g7,g8,g9⟩:=(A0a.good_iff _).1 h;exact(A0a.good_iff _).2 ⟨g1,g2,g3,C7c hl,hw,g6,g7,g8,g9⟩
def C2q{x:IdD}{i:Nat}(hs:A2w u)(hp:A5q x u p i)(hy:A0O x u=some y):y.kind≠0:=by have c:=hp.lt;have a:=B3u hs.ids hp hy;have b:=A3e u p hp.find hs.right;exact B8n (((A2f p).1 b).2.1 y (by rw[<-a];exact Z0u c)).1
def B5z{i:Nat}{r:List A0z×Int}(hs:A2w u)(hy:A0O y.id u=some y)(hp:A5q y.id u p i)(hr:r.2=0->r.1.length<=256/\∀q∈r.1,okW q):A2w (A8J u y r).1:=by
 unfold A8J;split
 .exact hs
 .rename_i e;obtain⟨h1,h2⟩:=hr (by simpa using e);exact B7V hs hy rfl rfl rfl (C5J (A3e u y hy hs.right) (C2q hs hp hy) (D1b h1 h2)) (C8H (A5L u y hy hs.good) h1 λw hw=>(h2 w hw).2)
end
structure A7h (d:EnD):Prop where
 small:B0n d.it
 act:inI d.act
 item:inI d.item
def C4I{x:A0a}(h:B1V x=true):A1o x=true/\A0x x<=1024:=by simp only[B1V,C0m,A9Z,Z0h,Z0m,B1k]at h;exact⟨h.1.1.1.1.1.1,h.1.1.1.1.2⟩
def C0G{x:IdD}{u y:A0a}(h:A0O x u=some y):(A1f x u).length=(B0d x u).length+1:=by have:=(A5H (λu=>u) u y h).1;simp only[B0d,Z0N,List.length_reverse,List.length_dropLast];omega
def B5L{d:EnD}(hd:A7h d)(hu:B1V d.it.h.unit=true):A1o (A2U d.act d.item d.it.h.unit 0 0)=true/\Fit (A2U d.act d.item d.it.h.unit 0 0)/\(A0T (A2U d.act d.item d.it.h.unit 0 0)).Nodup/\wcU d.it.h.unit<=1000000000:=by obtain⟨h1,h2⟩:=C4I hu;have hw:=C3z _ h1;obtain⟨f1,f2⟩:=B9Q hd.act hd.item d.it.h.unit 0 0 hd.small.unit.1 hd.small.unit.2.1 Q0 Q0;refine⟨B5J _ _ _ _ _ h1,⟨f1,f2,by rw[B4Z];omega⟩,by rw[B9x];exact C5y _ _ _ _,Q0⟩
def C0W{u:A0a}{d:EnD}(hs:A2w u)(hd:A7h d)(hv:A1O d.it.h.at_=true)(hu:B1V d.it.h.unit=true):A2w (B1F u d).1:=by
 obtain⟨x1,x2,x3,_⟩:=B5L hd hu;have c:=λh=>B5c (u:=u) (p:=d.it.h.at_) (w:=d.it.h.where_) hs.ids hv h;unfold B1F;simp only;generalize A5f u d.it.h.at_ d.it.h.where_=r at*;generalize A2U d.act d.item d.it.h.unit 0 0=x at*;split
 .exact hs
 rename_i e0;split
 .exact hs
 rename_i e1;split
 .exact hs
 rename_i e2;split
 .exact hs
 rename_i e3;obtain⟨p,hp,g⟩:=c (by simpa using e0);have f:A5B r.1.1 u=p:=by simp[A5B,hp]
 rw[f]at e1 e2;have i:=C0G hp;simp only[Z1V,Z0m,B1o,Z4r]at e2;obtain⟨⟨e4,e5⟩,e6⟩:=e2;refine C0e hs hp x1 x2.1 (by simpa using e1) Q0 Q0 Q0 (Z2y.2 ⟨hs.ids,x3,?_⟩);intro a ha b hb e;subst e;refine e3 (Z2R.2 ⟨a,hb,Z2R.2 ⟨a,ha,Q1⟩⟩)
def B9D{u p X:A0a}{i:Nat}{h:A1Q}(hs:A2w u)(hp:A5q X.id u p i)(hX:A0O X.id u=some X)(he:(A2c u h.at_).1=X.id)(a:A1O h.to=true)(h0:(A8d u h).2=0):∃q,A0O (A8d u h).1.1 (A1T X.id u)=some q/\(A8d u h).1.2<=q.kids.length:=by
 unfold A8d at h0|-
 rw[he]at h0|-
 split at h0
 .rename_i c1;rw[Z0c c1];split at h0
  .rename_i c2;rw[Z0c c2];obtain⟨T,hT,_⟩:=A6M hs.ids a c2;have hg:=λhh=>C9U (w:=h.where_) hs hp hX hT hh;generalize A7V u X.id (A2c u h.to).1 h.where_=r at*;simp only at h0|-;split at h0
   .rename_i c3;rw[Z0c c3];exact hg c3
   .rename_i c3;exact absurd h0 c3
  .rename_i c;exact absurd h0 c
 .rename_i c;exact absurd h0 c
def C5X{u p X:A0a}{i:Nat}{h:A1Q}(hs:A2w u)(hp:A5q X.id u p i)(hX:A0O X.id u=some X)(he:(A2c u h.at_).1=X.id)(c:A1O h.to=true):A2w (B7p u X h).1:=by
 have hdr:=λh0=>B9D (h:=h) hs hp hX he c h0;obtain⟨r1,⟨A,B,r2,r3⟩,r4⟩:=A9y hs hp hX;unfold B7p;simp only;generalize A8d u h=r at*;have a:=hp.lt;rw[hp.parI];split
 .exact hs
 rename_i e0;split
 .exact hs
 rename_i e1;split
 .exact hs
 rename_i e2;obtain⟨q,hq,g⟩:=hdr (by simpa using e0);have b:A5B r.1.1 (A1T X.id u)=q:=by simp[A5B,hq]
 rw[b]at e1 e2;have f:=C0G hq;simp only[Z1V,Z0h,Z0m,B1o,Z4r,not_and]at e2;have e:=A3e u X hX hs.right;have d:=A5L u X hX hs.good;have c1:=congrArg List.length r2;have c2:=congrArg List.length r3;simp only[Z0k,A3C]at c1 c2;have hc:=hs.count;refine C0e r1 hq e d (by simpa using e1) ?_ Q0 Q0 ?_
 .by_cases ht:r.1.1=p.id
  .rw[ht,r4]at hq;simp only[Z0b]at hq;subst hq;show(p.kids.eraseIdx i).length<64;rw[List.length_eraseIdx,Z0c a];have:=B4G ((A2f p).1 (A3e u p hp.find hs.right)).1;omega
  .have:=e2.1 ht;omega
 .rw[r3];have:(A++B++A0T X).Perm (A++A0T X++B):=by simp only[Z0F];exact Z2Z _ Z3E
  refine this.nodup_iff.2 ?_;rw[<-r2];exact hs.ids
open Go.Proofs TryTypes Tryz
def B4d{x:A0G}(h:A2A x=true):A1O x.h.at_=true:=by simp only[A2A,Z0h]at h;exact h.1.1.2.1.1
def B8a{x:A0G}(h:A2A x=true):A7p x.h=true:=by simp only[A2A,Z0h]at h;exact h.2
def D0v{k:Int}(h:A1d k=true):k=0\/k=1\/k=2\/k=3\/k=4\/k=5\/k=6:=by simp only[A1d,Z0h,Z0m]at h;omega
section
variable {h:A1Q} (hm:A7p h=true)
include hm
def E0p(hk:h.kind=0):(0<=h.where_/\h.where_<=3)/\B1V h.unit=true:=by unfold A7p at hm;rw[Z0c hk]at hm;simp only[inB,Z0h,Z0m]at hm;exact hm
def E0v(hk:h.kind=2):A3S h.old 1=true/\A3S h.new 0=true/\0<=h.nth:=by simp only[A7p,hk]at hm;simp[inB]at hm;exact⟨hm.1.1,hm.1.2,hm.2.1⟩
def E0s(hk:h.kind=3):A3S h.old 0=true/\A3S h.new 1=true/\0<=h.nth/\(h.old=[]->h.nth=0):=by
 simp only[A7p,hk]at hm;simp[inB]at hm;refine⟨hm.1.1.1,hm.1.1.2,hm.1.2.1,λe=>?_⟩;rcases hm.2 with h|h
 .exact absurd (congrArg List.length e) (by simp;intro e2;simp[e2]at h)
 .exact h
def E4O(hk:h.kind=4):A3S h.new 0=true:=by simp only[A7p,hk]at hm;simpa using hm
def E3N(hk:h.kind=5):A1u h.lab=true:=by simp only[A7p,hk]at hm;simpa using hm
def E0i(hk:h.kind=6):(0<=h.where_/\h.where_<=3)/\A1O h.to=true:=by simp only[A7p,hk]at hm;simpa[inB]using hm
end
def D3w{l:List ByteArray}{n:Int}(h:n<=(l.length:Int))(hn:1<=n):l≠[]:=by rintro rfl;simp at h;omega
def B9o{u x p:A0a}{i:Nat}{d:EnD}(hs:A2w u)(hd:A7h d)(hx:A0O x.id u=some x)(hp:A5q x.id u p i)(hn:A3S d.it.h.new 0=true):A2w (A1v x.id (B9s (A2h d.act d.item 0 d.it.h.new)) u):=by
 obtain⟨s1,s2,_⟩:=B7D hn;have hw:=B6W hd.act hd.item d.it.h.new 0 s2 Q0;have hl:(A2h d.act d.item 0 d.it.h.new).length<=256:=by rw[A6F];exact s1
 exact B7V hs hx rfl rfl rfl (C6E (A3e u x hx hs.right) (C2q hs hp hx) (D1b hl hw)) (C8J (A5L u x hx hs.good) hl λw hq=>(hw w hq).2)
def C5u{u x:A0a}{d:EnD}(hs:A2w u)(hd:A7h d)(hv:A2A d.it=true)(hk:A1d d.kind=true)(h0:(A2c u d.it.h.at_).2=0)(hc:(A2c u d.it.h.at_).1≠u.id\/d.kind=0)(hx:A0O (A2c u d.it.h.at_).1 u=some x):A2w (B2f u x d).1:=by
 have hm:=B8a hv;have f:=(A2K hx).1;have g:=B4d hv;rw[<-f]at hx hc;have a:∀w∈x.words,okW w:=D4d (A4Q (A4L (A3e u x hx hs.right))).2.2 ((A0a.good_iff _).1 (A5L u x hx hs.good)).2.2.2.2.2.2.1;have c:x.words.length<=256:=(A5t (A4Q (A4L (A3e u x hx hs.right))).2.2).1;unfold B2f;simp only;rcases D0v hk with k|k|k|k|k|k|k<;>(have k:d.it.h.kind=_:=k)<;>rw[k]
 .simp only[Z1f];exact C0W hs hd g (E0p hm k).2
 all_goals
  have b:u.id≠x.id:=λe=>hc.elim (λh=>h e.symm) (λh=>by have h:d.it.h.kind=0:=h;omega)
  obtain⟨p,i,hp⟩:=C2i hs.ids hx b
 .simp only[Z1f,reduceIte,Int.reduceEq];exact(A9y hs hp hx).1
 .simp only[Z1f,reduceIte,Int.reduceEq];obtain⟨m1,m2,m3⟩:=E0v hm k;obtain⟨s1,s2,_⟩:=B7D m2;exact B5z hs hx hp λhe=>C3g hd.act hd.item c s1 s2 a he
 .simp only[Z1f,reduceIte,Int.reduceEq];obtain⟨m1,m2,m3,m4⟩:=E0s hm k;obtain⟨s1,s2,_⟩:=B7D m2;exact B5z hs hx hp λhe=>C1s hd.act hd.item c s1 s2 a he
 .simp only[Z1f,reduceIte,Int.reduceEq];exact B9o hs hd hx hp (E4O hm k)
 .simp only[Z1f,reduceIte,Int.reduceEq];unfold A9f;rw[hp.parI];have j:A5B p.id u=p:=by simp[A5B,hp.find]
  simp only;rw[j];split
  .exact hs
  .rename_i e;exact C8B hs hp hx b (E3N hm k) e
 .simp only[Z1f,reduceIte,Int.reduceEq];exact C5X hs hp hx f.symm (E0i hm k).2
section
variable (gl:Nat->AV)
def C6p(c:gl 2=A1C){u x:A0a}{d:EnD}(hs:A2w u)(hd:A7h d)(hv:A2A d.it=true)(hk:A1d d.kind=true)(h0:(A2c u d.it.h.at_).2=0)(hc:(A2c u d.it.h.at_).1≠u.id\/d.kind=0)(hx:A0O (A2c u d.it.h.at_).1 u=some x)(M:Mem):A3E (WC gl) (doF d.kind) [.agg u.row,.agg x.row,.agg d.row] M (λv M'=>v=.tuple [.agg (B2f u x d).1.row,I (B2f u x d).2]/\M'=M):=by
 have hm:=B8a hv
 have g:=(A2K hx).1
 have f:=B4d hv
 have m:x.words.length<=256:=(A5t (A4Q (A4L (A3e u x hx hs.right))).2.2).1
 have l:Fit x:=A7v u hs.fit x (A2K hx).2
 rw[<-g]at hx hc
 have a:=hd.small
 unfold B2f
 simp only
 rcases D0v hk with k|k|k|k|k|k|k<;>(have k:d.it.h.kind=_:=k)<;>(rw[show d.kind=d.it.h.kind from rfl,k])
 .simp only[Z1f];obtain⟨m1,m2⟩:=E0p hm k;obtain⟨x1,x2,x3,x4⟩:=B5L hd m2;exact A0m func88 rfl rfl (C5e gl c u x d M hs.fit hs.ids k f m1 a.unit x4 x2)
 all_goals
  have j:u.id≠x.id:=λe=>hc.elim (λh=>h e.symm) (λh=>by have h:d.it.h.kind=0:=h;omega)
  obtain⟨p,i,hp⟩:=C2i hs.ids hx j
  have b:Fit p:=B6o hs.fit hp.par
 .simp only[Z1f,reduceIte,Int.reduceEq];exact A0m func89 rfl rfl (C8c gl u x p i d M hs.fit hp b)
 .simp only[Z1f,reduceIte,Int.reduceEq];obtain⟨m1,m2,m3⟩:=E0v hm k;exact A0m func90 rfl rfl (D0U gl u x d M hs.fit hx Q0 (D3w (B7D m1).2.2 Q0) a.old a.new m3)
 .simp only[Z1f,reduceIte,Int.reduceEq];obtain⟨m1,m2,m3,m4⟩:=E0s hm k;exact A0m func91 rfl rfl (D5O gl u x d M hs.fit hx Q0 (D3w (B7D m2).2.2 Q0) a.old a.new m3 m4)
 .simp only[Z1f,reduceIte,Int.reduceEq];exact A0m func92 rfl rfl (C5n gl u x d M hs.fit hx a.new)
 .simp only[Z1f,reduceIte,Int.reduceEq];exact A0m func93 rfl rfl (C6n gl c u x p i d M hs.fit hx hp b)
 .simp only[Z1f,reduceIte,Int.reduceEq];obtain⟨m1,m2⟩:=E0i hm k;exact A0m func94 rfl rfl (D2Z gl c u x p i d M hs.fit hs.ids k f m2 m1 hp b l (A9y hs hp hx).1.fit λh=>B9D hs hp hx g.symm m2 h)
def B5F{u:A0a}{d:EnD}(hs:A2w u)(hd:A7h d)(hk:A1d d.kind=true):A2w (A6w u d).1:=by
 unfold A6w;split
 .exact hs
 rename_i e1;split
 .exact hs
 rename_i e2;have hv:A2A d.it=true:=by simpa using e1
 have h0:(A2c u d.it.h.at_).2=0:=by simpa using e2
 split
 .rename_i e3;obtain⟨y,hy,_⟩:=A6M hs.ids (B4d hv) h0;have a:A5B (A2c u d.it.h.at_).1 u=y:=by simp[A5B,hy]
  rw[a];exact C5u hs hd hv hk h0 e3 hy
 .split
  .exact hs
  .exact hs
def B5N(c:gl 0=.cptr [fnV 336,fnV 337])(a:gl 2=A1C)(b:gl 8=A1U)(ds:List EnD)(hd:∀d∈ds,A1d d.kind=true->A7h d):C1o gl A6w A2w ds:=by intro u hs d hm hk;have hf:=hd d hm hk;exact⟨λM=>D2N gl c a b u d M hs.fit hs.ids hk hf.small λhv h0 hc x hx M=>C6p gl a hs hf hv hk h0 hc hx M,B5F hs hf hk⟩
end
def C6J{ds:List EnD}:∀{s:A0a×List B1Q},(∀d∈ds,A1d d.kind=true->A7h d)->A2w s.1->A2w (ds.foldl (B0H A6w) s).1:=by
 induction ds with
 |nil=>intro s _ h;exact h
 |cons d ds ih=>
  intro s hd h;refine ih (λe he=>hd e (by simp[he])) ?_;unfold B0H;split
  .rename_i hk;exact B5F h (hd d Q1 hk) hk
  .exact h
def B8R{ds:List EnD}(hd:∀d∈ds,A1d d.kind=true->A7h d){u:A0a}(hu:A2w u):A2w (A3J A6w u ds).1:=C6J hd hu
mutual
def B8E:∀(u:A0a) (b a:Int),A9l u b a<=a->A9l u b a=A0x u
 |.mk _ _ _ _ _ ks,b,a,h=>by
  rw[A9l]at h|-;rw[A0x];by_cases c:20<b
  .rw[Z0c c]at h;omega
  .rw[Z0d c]at h|-;have:=B5o ks b a 1 h;omega
def B5o:∀(ks:List A0a) (b a n:Int),A7L ks b a n<=a->A7L ks b a n=n+A0H ks
 |[],b,a,n,h=>by rw[A7L,A0H];omega
 |k::ks,b,a,n,h=>by
  rw[A7L]at h|-;rw[A0H];by_cases c:n<=a
  .rw[Z0c c]at h|-;have h1:=B5o ks b a _ h;have h2:=B8E k (b+1) (a-n) Q0;omega
  .rw[Z0d c]at h;omega
end
def B6y{l:List A0z}(h:A7Q l=true):l.length<=300:=by simp only[A7Q,Z0h,Z0m]at h;exact h.2
mutual
def B8N:∀u:A0a,B1l u=true->A0x u<=1000->u.lims
 |.mk id k l h w ks,hw,hc=>by rw[B1l]at hw;simp only[Z0h,Z0m]at hw;obtain⟨⟨⟨h1,h2⟩,h3⟩,h4⟩:=hw;rw[A0x]at hc;have:=A2t ks;rw[A0a.lims];exact⟨⟨Z0L (B6y h2) Q0,Z0L (B6y h3) Q0,by show ks.length<=3000;omega,by show l.size<=1000;omega⟩,B5b ks h4 Q0⟩
def B5b:∀ks:List A0a,A9Q ks=true->A0H ks<=1000->A4U ks
 |[],_,_=>by rw[A4U];trivial
 |k::ks,hw,hc=>by rw[A9Q,Z0h]at hw;rw[A0H]at hc;rw[A4U];exact⟨B8N k hw.1 Q0,B5b ks hw.2 Q0⟩
end
def D4Q(u:A0a)(hg:u.good)(h:B9c u 30=true):Fit u/\A0x u<=30:=by simp only[B9c,Z0h,Z0m]at h;have:=B8E u 0 30 h.1;have hc:A0x u<=30:=Q0;exact⟨⟨hg,B8N u h.2 Q0,Q0⟩,hc⟩
structure B2r (l:List A1G):Prop where
 gaz:l.length<=100
 acts:(l.flatMap A1G.acts).length<=1000
 items:((A4j l).flatMap A0X.items).length<=90
 en:∀d∈A3V l,A7h d
def C4q{x:A0G}(hg:x.good)(hf:B1O x.h):B0n x:=by obtain⟨hh,_,_⟩:=(A0G.good_iff _).1 hg;obtain⟨_,_,_,_,_,hu,ho,hn,_⟩:=hh;have:=hf.ats;have:=hf.tos;have:=hf.old;have:=hf.new;exact⟨(D4Q _ hu hf.unit).1,Q0,Q0,Q0,ho.2,Q0,hn.2⟩
def B0O:∀l:List A0X,A7U l=l.length+(l.flatMap A0X.items).length
 |[]=>rfl
 |a::l=>by rw[A7U,B0O l];simp only[Z0q,Z0z,Z0k];omega
def C8z{a b:List A0X}(h:a.Perm b):A7U a=A7U b:=by rw[B0O,B0O,h.length_eq,(h.flatMap_right A0X.items).length_eq]
def D1k{a b:List A0X}(h:a.Sublist b):A7U a<=A7U b:=by
 induction h with
 |slnil=>exact Z0j _
 |cons x h ih=>rw[A7U];omega
 |cons_cons x h ih=>rw[A7U,A7U];omega
def B8K(l:List A0X):(A3D l).Sublist l:=by
 have key:∀(l b:List A0X),(l.foldl B3G b).Sublist (b++l):=by
  intro l;induction l with
  |nil=>intro b;simp
  |cons a l ih=>
   intro b;rw[Z2t];refine(ih (B3G b a)).trans ?_;unfold B3G;split
   .exact List.Sublist.append (Z4a _) (List.sublist_cons_self _ _)
   .simp
 have:=key l [];rwa[Z1v]at this
def D2T{a i:Int}{x y:A0G}(h:B0k a i x=some y):y∈x.by_:=by
 unfold B0k at h;split at h
 .split at h
  .rename_i z zs e;split at h
   .simp only[Z0b]at h;subst h;rw[e];simp
   .simp at h
  .simp at h
 .simp at h
def D3x{b:List A0X}{a i:Int}{y:A0G}(h:D5X b a i=some y):∃x∈b.flatMap A0X.items,y∈x.by_:=by
 unfold D5X at h;generalize b.flatMap A0X.items=L at h|-;have key:∀(L:List A0G) (r:Option A0G),L.foldl (λr x=>match B0k a i x with|some y=>some y|none=>r) r=some y->r=some y\/∃x∈L,y∈x.by_:=by
  intro L;induction L with
  |nil=>intro r h;exact .inl h
  |cons x L ih=>
   intro r h;rw[Z2t]at h;rcases ih _ h with h|⟨z,hz,hy⟩
   .cases hf:B0k a i x with
    |none=>rw[hf]at h;exact .inl h
    |some w=>rw[hf]at h;simp only[Z0b]at h;subst h;exact .inr ⟨x,Q1,D2T hf⟩
   .exact .inr ⟨z,by simp[hz],hy⟩
 rcases key L none h with h|h
 .simp at h
 .exact h
def C7S{l:List A1G}(hg:∀g∈l,g.good)(hf:D1n l):B2r l:=by
 obtain⟨h1,h2,h3⟩:=hf;have f:=A6K (A3D (l.flatMap A1G.acts));have k:=B8K (l.flatMap A1G.acts);have hs:A7U (A4j l)<=60:=Z0L (by rw[A4j,C8z f];exact D1k k) h2;have o:∀a∈A4j l,a.good/\C3Q a:=λa ha=>by have ha:=k.subset (f.mem_iff.1 ha);obtain⟨g,r,c⟩:=Z1Y.1 ha;exact⟨(hg g r).2.2.2.2 a c,h3 g r a c⟩
 have e1:=B0O (l.flatMap A1G.acts);have e2:=B0O (A4j l);refine⟨Q0,Q0,Q0,λd hd=>?_⟩;simp only[A3V,Z0H,Z1Y]at hd;obtain⟨e,⟨a,ha,he⟩,rfl⟩:=hd;obtain⟨c,m⟩:=o a ha;simp only[A1F,Z0H]at he;obtain⟨⟨x,i⟩,hx,rfl⟩:=he;obtain⟨v,w⟩:=List.mem_zipIdx' hx|>.symm;have j:x∈a.items:=by rw[v];exact Z0u _
 have n:B0n x:=C4q (c.2.2.2.2.2 x j) (m.2 x j).1;have hi:inI (i:Int):=by have:=m.1;simp only[inI];omega
 unfold B1e;split
 .rename_i y hy;split
  .obtain⟨z,hz,p⟩:=D3x hy;obtain⟨b,hb,q⟩:=Z1Y.1 hz;obtain⟨u,s⟩:=o b hb;have t:=u.2.2.2.2.2 z q;exact⟨C4q (((A0G.good_iff _).1 t).2.2 y p) ((s.2 z q).2 y p),c.1,hi⟩
  .exact⟨n,c.1,hi⟩
 .exact⟨n,c.1,hi⟩
def A4k(day:Int)(purpose:ByteArray)(l:List A1G):A0a:=(A3J A6w A4v (onD day purpose l)).1
def E0O{day:Int}{purpose:ByteArray}{l:List A1G}{d:EnD}(h:d∈onD day purpose l):d∈A3V l:=by simp only[onD,A2O,Z0H,Z1u]at h;obtain⟨x,⟨⟨e,⟨he,_⟩,rfl⟩,_⟩,rfl⟩:=h;exact he
def B2r.on{l:List A1G}(h:B2r l)(day:Int)(purpose:ByteArray):∀d∈onD day purpose l,A1d d.kind=true->A7h d:=λd hd _=>h.en d (E0O hd)
def A6D{l:List A1G}(h:B2r l)(day:Int)(purpose:ByteArray):A2w (A4k day purpose l):=B8R (h.on day purpose) B1g
def D3B{l:List A1G}(h:B2r l)(day:Int)(purpose:ByteArray):(onD day purpose l).length<=90:=by
 have e:∀L:List A0X,(L.flatMap A1F).length=(L.flatMap A0X.items).length:=λL=>by
  induction L with
  |nil=>rfl
  |cons a L ih=>simp only[Z0z,Z0k,ih,A7E]
 have h1:(A3V l).length<=90:=by simp only[A3V,Z0N,e];exact h.items
 have h2:=Z1s (λd:EnD=>A1d d.kind) (A3V l);have h3:=Z1s (λx:EnD×List A0L=>C1C purpose x.1&&B0t (A4a x.2) day) (A2O l);simp only[onD,A2O,Z0N]at h3|-;omega
section
variable (gl:Nat->AV)
def B9b(c:gl 0=.cptr [fnV 336,fnV 337])(b:gl 2=A1C)(a:gl 8=A1U){l:List A1G}(h:B2r l)(day:Int)(purpose:ByteArray)(M:Mem):A0c (WC gl) 6 [I day,S purpose,.list 4 (A2G l) .no] M (λv M'=>v=.agg (A4k day purpose l).row/\M'=M):=D4C gl A6w A2w day purpose l M (B5N gl c b a _ (h.on day purpose)) B1g (by have:=D3B h day purpose;omega) h.gaz h.acts (by have:=h.items;omega)
end
def B2U:Option (List A1n)->AV
 |none=>.val (.slice none 0 0)
 |some p=>.list 2 (A0P p) .no
abbrev D5I:=Option (List A1n)×Option (List A1n)
def A8y(B:Int->A0a)(id:IdD)(day:Int)(s:D5I)(b:Int):D5I:=match A3O (B b) id with
 |none=>s
 |some p=>if b<day then(some p,s.2)else if b>day/\s.2=none then(s.1,some p)else s
def B2a(id:IdD)(day:Int)(purpose:ByteArray)(l:List A1G):D5I:=(B1A l).foldl (A8y (λb=>A4k b purpose l) id day) (none,none)
def okP(o:Option (List A1n)):Prop:=∀p,o=some p->∃q,p=A3Z::q
def D2l(u:A0a)(x:IdD):okP (A3O u x):=λp h=>by simp only[A3O,Z0l]at h;obtain⟨q,_,e⟩:=h;exact⟨q,e.symm⟩
def C0J(B:Int->A0a)(id:IdD)(day:Int)(K:List Int):okP (K.foldl (A8y B id day) (none,none)).1/\okP (K.foldl (A8y B id day) (none,none)).2:=by
 have key:∀(K:List Int) (s:D5I),okP s.1/\okP s.2->okP (K.foldl (A8y B id day) s).1/\okP (K.foldl (A8y B id day) s).2:=by
  intro K;induction K with
  |nil=>intro s hs;exact hs
  |cons b K ih=>
   intro s hs;refine ih _ ?_;unfold A8y;have hf:=D2l (B b) id;cases hw:A3O (B b) id with
   |none=>exact hs
   |some p=>
    rw[hw]at hf;simp only;split
    .exact⟨hf,hs.2⟩
    .split
     .exact⟨hs.1,hf⟩
     .exact hs
 exact key K _ ⟨λ_ h=>by simp at h,λ_ h=>by simp at h⟩
def D3a(id:IdD)(day:Int)(purpose:ByteArray)(l:List A1G):okP (B2a id day purpose l).1/\okP (B2a id day purpose l).2:=C0J _ id day _
def C7N:∀p:List (EnD×List A0L),(∀q∈p,A5U q.2)->(bpL p).length<=p.length*1048578+1
 |[],_=>by simp[bpL]
 |q::p,h=>by have ih:=C7N p λz hz=>h z (by simp[hz]);have:=C6X (h q Q1);simp only[bpL,Z0z,Z0q,Z0k]at ih|-;omega
def C6v{l:List A1G}(h:B2r l):(B1A l).length<=100000000:=by
 have e:∀L:List A0X,(L.flatMap A1F).length=(L.flatMap A0X.items).length:=λL=>by
  induction L with
  |nil=>rfl
  |cons a L ih=>simp only[Z0z,Z0k,ih,A7E]
 have h1:(A3V l).length<=90:=by simp only[A3V,Z0N,e];exact h.items
 have h2:=Z1s (λd:EnD=>A1d d.kind) (A3V l);have h3:=C7N (A2O l) λq hq=>by simp only[A2O,Z0H]at hq;obtain⟨d,_,rfl⟩:=hq;exact B5M _ _ _
 have h4:(A2O l).length<=90:=by simp only[A2O,Z0N];omega
 rw[D0a];have:=B4O (A7b (bpL (A2O l)));have:=(A3h (bpL (A2O l))).length_eq;omega
section
variable (gl:Nat->AV)
set_option maxHeartbeats 2000000 in
def D5J(x:gl 0=.cptr [fnV 336,fnV 337])(t:gl 2=A1C)(u:gl 8=A1U){l:List A1G}(h:B2r l)(id:IdD)(day:Int)(purpose:ByteArray)(M:Mem):A0c (WC gl) 17 [.agg id.row,I day,S purpose,.list 4 (A2G l) .no] M (λv M'=>v=.tuple [B2U (B2a id day purpose l).1,B2U (B2a id day purpose l).2]/\M'=M):=by
 have k:id.row=[I id.act,I id.item,I id.n]:=rfl
 have w:=C8a gl l M h.gaz h.acts h.items
 have a0:=C6v h
 have o:=λb M=>B9b gl x t u h b purpose M
 have j:=λb M=>B3K gl (A4k b purpose l) id M (A6D h b purpose).good (by have:=(A6D h b purpose).count;omega)
 have hN:B2a id day purpose l=(B1A l).foldl (A8y (λb=>A4k b purpose l) id day) (none,none):=rfl
 rw[hN,k]
 generalize B1A l=L at*
 rw[k]at j
 have y:=λi=>C0J (λb=>A4k b purpose l) id day (L.take i)
 refine A0t hB func17 ?_
 simp -dsimp -implicitDefEqProofs
 refine A0h func29 w ?_
 simp -dsimp -implicitDefEqProofs
 refine A1E hB L.length 17 (λT Mi=>∃i:Nat,i<=L.length/\T 1=I day/\T 2=S purpose/\T 3=.list 4 (A2G l) .no/\T 4=.cptr [I id.act,I id.item,I id.n]/\T 15=.list 1 (A4P L) .no/\T 16=I L.length/\T 17=I i/\T 8=B2U ((L.take i).foldl (A8y (λb=>A4k b purpose l) id day) (none,none)).1/\T 9=B2U ((L.take i).foldl (A8y (λb=>A4k b purpose l) id day) (none,none)).2/\Mi=M) ?_ ?_
 .exact⟨0,Q0,Q1,Q1,Q1,Q1,Q1,Q1,Q1,by simp[B2U],by simp[B2U],rfl⟩
 rintro T Mi ⟨i,i1,t1,t2,t3,t4,f,d,e,t8,t9,rfl⟩
 by_cases hi:i<L.length
 case neg=>have m:¬(i:Int)<L.length:=Q0;rw[Z0e Q0]at t8 t9;simp -dsimp -implicitDefEqProofs[t1,t2,t3,t4,f,d,e,t8,t9,m]
 have m:(i:Int)<L.length:=Q0
 have w1:=A6s (i:=i) Q0
 obtain⟨b,hb⟩:=ex (L[i])
 have a:(L.take (i+1)).foldl (A8y (λb=>A4k b purpose l) id day) (none,none)=A8y (λb=>A4k b purpose l) id day ((L.take i).foldl (A8y (λb=>A4k b purpose l) id day) (none,none)) b:=by rw[Z0A,Z0i hi,Z0X,Z1S,<-hb];rfl
 obtain⟨k1,k2⟩:=y i
 generalize(L.take i).foldl (A8y (λb=>A4k b purpose l) id day) (none,none)=s at*
 obtain⟨s1,s2⟩:=s
 simp only at t8 t9 k1 k2
 have q:(A4P L)[i]?=some [I b]:=by simp[A4P,hb,hi]
 simp -dsimp -implicitDefEqProofs[t1,t2,t3,t4,f,d,e,hi,m,q,<-hb]
 refine A0Z hB (A0E gl) (λ_=>0) (λ_=>0) (by rfl) Q2 ?_
 simp -dsimp -implicitDefEqProofs[t1,t2,t3,t4,<-hb]
 refine A1J (λM=>A0m func6 rfl rfl (o b M)) ?_
 simp -dsimp -implicitDefEqProofs[t1,t2,t3,t4]
 refine A1J (λM=>A0m func15 rfl rfl (j b M)) ?_
 have hn:A8y (λb=>A4k b purpose l) id day (s1,s2) b=match A3O (A4k b purpose l) id with
  |none=>(s1,s2)
  |some p=>if b<day then(some p,s2)else if b>day/\s2=none then(s1,some p)else(s1,s2):=rfl
 cases hw:A3O (A4k b purpose l) id with
 |none=>
  rw[hw]at hn
  simp only at hn
  simp -dsimp -implicitDefEqProofs[B3I,t1,t2,t3,t4,f,d,e,t8,t9,w1]
  exact⟨⟨i+1,Q3,rfl,by rw[a,hn],by rw[a,hn]⟩,Q3⟩
 |some p=>
  rw[hw]at hn
  simp only at hn
  by_cases c1:b<day
  .rw[Z0c c1]at hn;simp -dsimp -implicitDefEqProofs[B3I,t1,t2,t3,t4,f,d,e,t8,t9,w1,c1];exact⟨⟨i+1,Q3,rfl,by rw[a,hn];rfl,by rw[a,hn]⟩,Q3⟩
  rw[Z0d c1]at hn
  by_cases c2:day<b
  .have g:b>day:=c2;cases hs2:s2 with
   |none=>rw[Z0c ⟨g,hs2⟩]at hn;rw[hs2]at t9;simp -dsimp -implicitDefEqProofs[B3I,t1,t2,t3,t4,f,d,e,t8,t9,w1,c1,c2,g,B2U];exact⟨⟨i+1,Q3,rfl,by rw[a,hn],by rw[a,hn];rfl⟩,Q3⟩
   |some z=>rw[Z0d (λc=>by rw[hs2]at c;simp at c)]at hn;obtain⟨zq,r⟩:=k2 z hs2;(have hz:A0P z=A3Z.row::A0P zq:=by rw[r];rfl);rw[hs2]at t9 hn;simp only[B2U]at t9;rw[hz]at t9;simp -dsimp -implicitDefEqProofs[B3I,t1,t2,t3,t4,f,d,e,t8,t9,w1,c1,c2,g];exact⟨⟨i+1,Q3,rfl,by rw[a,hs2,hn],by rw[a,hs2,hn,B2U,hz]⟩,Q3⟩
  .have g:¬b>day:=c2;rw[Z0d (λc=>g c.1)]at hn;simp -dsimp -implicitDefEqProofs[B3I,t1,t2,t3,t4,f,d,e,t8,t9,w1,c1,c2,g];exact⟨⟨i+1,Q3,rfl,by rw[a,hn],by rw[a,hn]⟩,Q3⟩
end
abbrev C2C:=Option ((Int×Int)×List A1n)
def A8I(id:IdD):A0a->List EnD->C2C
 |_,[]=>none
 |u,d::ds=>match A3O u id,A3O (A6w u d).1 id with
  |some p,none=>some ((d.act,d.item),p)
  |_,_=>A8I id (A6w u d).1 ds
def A9z(id:IdD)(day:Int)(purpose:ByteArray)(l:List A1G):C2C:=A8I id A4v (onD day purpose l)
def B4M:C2C->List AV
 |some (r,_)=>[I r.1,I r.2]
 |none=>[I 0,I 0]
def A9G:C2C->AV
 |some (_,p)=>A6t p
 |none=>.val (.slice none 0 0)
structure C1h (o:Nat) (M0 M:Mem) (s:C2C):Prop where
 by_:M[o]?=some (.cells 35 (B4M s))
 path:M[o+1]?=some (.cells 33 [A9G s])
 ok:M[o+2]?=some (.cells 4 [B s.isSome])
 low:∀i,i<o->M[i]?=M0[i]?
def C1h.keep{o:Nat}{M0 M M':Mem}{s:C2C}(h:C1h o M0 M s)(hg:Grow M M'):C1h o M0 M' s:=⟨hg.get h.by_ Q1,hg.get h.path Q1,hg.get h.ok Q1,λi hi=>by have:=(Z0a.1 h.by_).1;rw[hg.2 i Q0 Q1];exact h.low i hi⟩
def D5r{a b:Int}:A0A prog 35 [(0,I a),(1,I b)]=some (.agg [I a,I b]):=by simp[A0A,A1m,putCells,A0e]
section
variable (gl:Nat->AV)
set_option maxHeartbeats 1000000 in
def C9Q(id:IdD)(u v:A0a)(d:EnD)(o:Nat)(M0 M:Mem)(hu:A2w u)(hv:A2w v)(h:C1h o M0 M none):
 A0c (WC gl) 28 [.agg u.row,.agg v.row,.agg d.row,.cptr id.row,.ptr o 0,.ptr (o+1) 0,.ptr (o+2) 0] M (λr M'=>∃s:C2C,r=B s.isSome/\C1h o M0 M' s/\M'.length=M.length/\(∀i,o+2<i->M'[i]?=M[i]?)/\
  s=match A3O u id,A3O v id with
   |some p,none=>some ((d.act,d.item),p)
   |_,_=>none):=by
 have e:id.row=[I id.act,I id.item,I id.n]:=rfl
 have hdr:d.row=I d.act::I d.item::I d.day::d.it.row:=rfl
 have h1:=λM=>B3K gl u id M hu.good (by have:=hu.count;omega)
 have h2:=λM=>B3K gl v id M hv.good (by have:=hv.count;omega)
 obtain⟨a1,a2,a3,a4⟩:=h
 have l1:=(Z0a.1 a1).1
 have l2:=(Z0a.1 a2).1
 have l3:=(Z0a.1 a3).1
 rw[e]at h1 h2|-
 rw[hdr,d.it.row_eq,A1Q.row]
 rw[u.row_eq]at h1|-
 rw[v.row_eq]at h2|-
 refine A0t hB func28 ?_
 simp -dsimp -implicitDefEqProofs
 refine A0h func15 (h1 M) ?_
 simp -dsimp -implicitDefEqProofs
 refine A0h func15 (h2 M) ?_
 cases e1:A3O u id with
 |none=>
  simp -dsimp -implicitDefEqProofs[B3I,A0b a3]
  exact⟨a1,a2,a3,a4⟩
 |some p=>
  cases e2:A3O v id with
  |some q=>
   simp -dsimp -implicitDefEqProofs[B3I,A0b a3]
   exact⟨a1,a2,a3,a4⟩
  |none=>
   obtain⟨M1,a⟩:=ex (M.set o (.cells 35 [I d.act,I d.item]))
   obtain⟨M2,b⟩:=ex (M1.set (o+1) (.cells 33 [A6t p]))
   obtain⟨M3,c⟩:=ex (M2.set (o+2) (.cells 4 [B true]))
   have s1:A0k (some 2) M (.ptr o 0) (.agg [I d.act,I d.item])=some M1:=by rw[A0f a1,a];simp[A0o,A0n,B4M,A0e,AV.storable,AV.cells]
   have b2:M1[o+1]?=some (.cells 33 [A9G none]):=by rw[a,Z0f Q0];exact a2
   have s2:A0k (some 1) M1 (.ptr (o+1) 0) (A6t p)=some M2:=by rw[A0f b2,b];simp[A0e,AV.storable,AV.cells,A9G]
   have b3:M2[o+2]?=some (.cells 4 [B false]):=by rw[b,a,Z0f Q0,Z0f Q0];exact a3
   have s3:A0k (some 1) M2 (.ptr (o+2) 0) (B true)=some M3:=by rw[A0f b3,c];simp[A0e,AV.storable,AV.cells]
   have c3:M3[o+2]?=some (.cells 4 [B true]):=by rw[c,b,a];simp[l3]
   simp -dsimp -implicitDefEqProofs[B3I,D5r,s1,s2,s3,A0b c3]
   refine⟨some ((d.act,d.item),p),rfl,⟨?_,?_,c3,λi hi=>?_⟩,by rw[c,b,a];simp,λi hi=>?_,rfl⟩
   .rw[c,b,a,Z0f Q0,Z0f Q0];simp[l1,B4M]
   .rw[c,b,a,Z0f Q0];simp[l2,A9G]
   .rw[c,b,a,Z0f Q0,Z0f Q0,Z0f Q0];exact a4 i hi
   .rw[c,b,a,Z0f Q0,Z0f Q0,Z0f Q0]
set_option maxHeartbeats 2000000 in
def C5o(ax:gl 0=.cptr [fnV 336,fnV 337])(b7:gl 2=A1C)(av:gl 8=A1U){l:List A1G}(hF:B2r l)(id:IdD)(day:Int)(purpose:ByteArray)(o:Nat)(M0 M:Mem)(h:C1h o M0 M none):A0c (WC gl) 27 [I day,S purpose,.list 4 (A2G l) .no,.func (.func 28) [] [.cptr id.row,.ptr o 0,.ptr (o+1) 0,.ptr (o+2) 0]] M (λ_ M'=>C1h o M0 M' (A9z id day purpose l)):=by
 have m:=D6B gl day purpose l
 obtain⟨ds,c⟩:=ex (onD day purpose l)
 have bc:ds.length<=90:=by rw[c];exact D3B hF day purpose
 have az:∀d∈ds,A1d d.kind=true->A7h d:=by rw[c];exact hF.on day purpose
 have b0:∀d∈ds,A1d d.kind=true:=λd hd=>by rw[c]at hd;simp only[onD,A2O,Z0H,Z1u]at hd;obtain⟨x,⟨⟨e,⟨_,he⟩,rfl⟩,_⟩,rfl⟩:=hd;exact he
 have ar:=B5N gl ax b7 av ds az
 have ae:A9z id day purpose l=A8I id A4v ds:=by rw[c];rfl
 rw[ae]
 have m:=λM=>m M hF.gaz hF.acts (by have:=hF.items;omega)
 rw[<-c]at m
 clear ae c
 obtain⟨cp,a6⟩:=ex ([.cptr id.row,.ptr o 0,.ptr (o+1) 0,.ptr (o+2) 0]:List AV)
 rw[<-a6]
 obtain⟨z,hz⟩:=ex ([AV.val (Value.int IntKind.i64 0),AV.val (Value.int IntKind.i64 0),AV.val (Value.int IntKind.i64 0),AV.val (Value.int IntKind.i64 0),AV.val (Value.string {data:=#[]}),AV.val (Value.slice none 0 0),AV.val (Value.slice none 0 0),AV.val (Value.slice none 0 0)]:List AV)
 have ad:z.length=8:=by rw[hz];rfl
 obtain⟨b,hb⟩:=ex (M.length)
 have b4:o+2<b:=by rw[hb];exact(Z0a.1 h.ok).1
 obtain⟨N,hN⟩:=ex (M++[A0l.cells 30 A4v.row])
 have b1:N[b]?=some (.cells 30 A4v.row):=by rw[hN,hb];simp
 have au:Grow M N:=by rw[hN];exact A0d.app none _ _
 have b3:=h.keep au
 have ab:A0k (some 8) (M++[A0l.cells 30 z]) (.ptr M.length 0) (.agg A4v.row)=some N:=by
  have:(M++[A0l.cells 30 z])[M.length]?=some (.cells 30 z):=by simp
  rw[A0f this,hN];simp[A0o,A0n,A0e,ad,A0a.row_len,Z0y]
 refine A0t hB func27 ?_
 simp -dsimp -implicitDefEqProofs[A0j]
 refine A0h func25 (C4k gl M) ?_
 simp -dsimp -implicitDefEqProofs[A0j]
 rw[<-hz,ab,<-hb]
 simp -dsimp -implicitDefEqProofs
 refine A0h func23 (m N) ?_
 simp -dsimp -implicitDefEqProofs
 refine A1E hB ds.length 19 (λT Mi=>∃(i:Nat) (u:A0a),i<=ds.length/\T 3=.func (.func 28) [] cp/\T 8=.ptr b 0/\T 17=.list 28 (A3Q ds) .no/\T 18=I ds.length/\T 19=I i/\Mi[b]?=some (.cells 30 u.row)/\A2w u/\C1h o M0 Mi none/\A8I id A4v ds=A8I id u (ds.drop i)) ?_ ?_
 .exact⟨0,A4v,Q0,Q1,Q1,Q1,Q1,Q1,b1,B1g,b3,Q1⟩
 rintro T Mi ⟨i,u,i1,t3,t8,a3,a5,v,hu,am,ah,hG⟩
 by_cases hi:i<ds.length
 case neg=>have t:¬(i:Int)<ds.length:=Q0;rw[Z0y Q0,A8I]at hG;rw[hG];simp -dsimp -implicitDefEqProofs[t3,t8,a3,a5,v,t];exact ah
 have t:(i:Int)<ds.length:=Q0
 have w1:=A6s (i:=i) Q0
 obtain⟨d,hd⟩:=ex (ds[i])
 have aj:=A8h hi
 have n:d∈ds:=by rw[hd];exact Z0u hi
 rw[Z0o hi,<-hd,A8I]at hG
 rw[<-hd]at aj
 have ba:b<Mi.length:=(Z0a.1 hu).1
 obtain⟨q,hq⟩:=ex (Mi.length)
 obtain⟨M3,a1⟩:=ex (Mi++[A0l.cells 80 d.row])
 have ao:M3[q]?=some (.cells 80 d.row):=by rw[a1,hq];simp
 have a4:Grow Mi M3:=by rw[a1];exact A0d.app none _ _
 have b2:A0M prog 80 M3 (.ptr q 0)=some (.agg d.row):=by rw[A0b ao];simp[A0y]
 have a7:=a4.get hu Q1
 have aq:A0M prog 30 M3 (.ptr b 0)=some (.agg u.row):=by rw[A0b a7];simp[A0y,A0a.row_len]
 obtain⟨f,a0⟩:=ar u am d n (b0 d n)
 obtain⟨y,hy⟩:=ex (A6w u d)
 rw[<-hy]at f a0 hG
 simp -dsimp -implicitDefEqProofs[-A2x,t3,t8,a3,a5,v,hi,t,aj,A0j,A0k,A0e,A0o,A0n]
 rw[<-hd,<-a1,<-hq]
 simp -dsimp -implicitDefEqProofs[t8,aq,b2]
 refine A0h func37 (f M3) ?_
 obtain⟨x,hx⟩:=ex (M3.length)
 obtain⟨M4,r⟩:=ex (M3++[A0l.cells 30 y.1.row])
 have an:M4[x]?=some (.cells 30 y.1.row):=by rw[r,hx];simp
 have a2:Grow M3 M4:=by rw[r];exact A0d.app none _ _
 have a9:=a2.get a7 Q1
 have ay:=a2.get ao Q1
 have ac:=ah.keep (a4.trans a2)
 have aa:A0M prog 80 M4 (.ptr q 0)=some (.agg d.row):=by rw[A0b ay];simp[A0y]
 have ag:A0M prog 30 M4 (.ptr b 0)=some (.agg u.row):=by rw[A0b a9];simp[A0y,A0a.row_len]
 have ap:A0M prog 30 M4 (.ptr x 0)=some (.agg y.1.row):=by rw[A0b an];simp[A0y,A0a.row_len]
 have b9:o+2<x:=by rw[hx];have:=a4.1;omega
 have k:=C9Q gl id u y.1 d o M0 M4 am a0 ac
 have b8:[AV.agg u.row,.agg y.1.row,.agg d.row,.cptr id.row,.ptr o 0,.ptr (o+1) 0,.ptr (o+2) 0]=.agg u.row::.agg y.1.row::.agg d.row::cp:=by rw[a6]
 rw[b8]at k
 have ai:A0k (some 8) (M3++[A0l.cells 30 z]) (.ptr M3.length 0) (.agg y.1.row)=some M4:=by
  have:(M3++[A0l.cells 30 z])[M3.length]?=some (.cells 30 z):=by simp
  rw[A0f this,r];simp[A0o,A0n,A0e,ad,A0a.row_len,Z0y]
 simp -dsimp -implicitDefEqProofs[-A2x,A0j]
 rw[<-hz,ai,<-hx]
 simp -dsimp -implicitDefEqProofs[-A2x,t3,t8,aa,ag,ap]
 refine A0v (A0m func28 rfl rfl k) ?_
 rintro _ M5 ⟨s,rfl,g,bb,a8,a⟩
 cases s with
 |some w=>
  have:A8I id A4v ds=some w:=by
   rw[hG];cases e1:A3O u id with
   |none=>rw[e1]at a;simp at a
   |some p=>
    cases e2:A3O y.1 id with
    |none=>rw[e1,e2]at a;simpa using a.symm
    |some p2=>rw[e1,e2]at a;simp at a
  rw[this]
  simp -dsimp -implicitDefEqProofs
  exact g
 |none=>
  have b5:A8I id A4v ds=A8I id y.1 (ds.drop (i+1)):=by
   rw[hG];cases e1:A3O u id with
   |none=>rfl
   |some p=>
    cases e2:A3O y.1 id with
    |none=>rw[e1,e2]at a;simp at a
    |some p2=>rfl
  have aw:M5[x]?=some (.cells 30 y.1.row):=by rw[a8 x b9];exact an
  have af:M5[b]?=some (.cells 30 u.row):=by rw[a8 b b4];exact a9
  have al:A0M prog 30 M5 (.ptr x 0)=some (.agg y.1.row):=by rw[A0b aw];simp[A0y,A0a.row_len]
  have b6:b<M5.length:=(Z0a.1 af).1
  have ak:A0k (some 8) M5 (.ptr b 0) (.agg y.1.row)=some (M5.set b (.cells 30 y.1.row)):=by rw[A0f af];simp[A0o,A0n,A0e,A0a.row_len,Z0y]
  simp -dsimp -implicitDefEqProofs[-A2x,t3,t8,a3,a5,v,al,ak,w1]
  refine⟨⟨i+1,Q3,rfl,y.1,by simp[b6],a0,⟨?_,?_,?_,λj hj=>?_⟩,b5⟩,Q3⟩
  .rw[Z0f Q0];exact g.by_
  .rw[Z0f Q0];exact g.path
  .rw[Z0f Q0];exact g.ok
  .rw[Z0f Q0];exact g.low j hj
end
def tkP:C2C->List A1n
 |some (_,p)=>p
 |none=>[]
def D6W(o:Nat):∀i k,(λk:Nat=>if k<3 then 1 else if k<6 then 2 else 0) i=1->(λi k:Nat=>k==i+3) i k=false->(λi:Nat=>o+i) i∈(λk:Nat=>if k=3 then[o+1,o+2]else if k=4 then[o,o+2]else if k=5 then[o,o+1]else[o,o+1,o+2]) k:=by
 intro i k h1 h2;simp only[Z1P,ne_eq]at h1 h2|-;have:i=0\/i=1\/i=2:=by
  split at h1
  .omega
  .split at h1<;>omega
 rcases this with rfl|rfl|rfl<;>(repeat' split)<;>simp<;>omega
def A9q{α:Type}{l:List α}{i:Nat}{x:α}(h:l[i]?=some x):l.set i x=l:=by obtain⟨hl,e⟩:=Z0a.1 h;subst e;exact Z3C hl
section
variable (gl:Nat->AV)
set_option maxHeartbeats 2000000 in
def C5C(j:gl 0=.cptr [fnV 336,fnV 337])(g:gl 2=A1C)(m:gl 8=A1U){l:List A1G}(hF:B2r l)(id:IdD)(day:Int)(purpose:ByteArray)(M:Mem):A0c (WC gl) 16 [.agg id.row,I day,S purpose,.list 4 (A2G l) .no] M (λv M'=>v=.tuple [.agg (B4M (A9z id day purpose l)),A6t (tkP (A9z id day purpose l)),B (A9z id day purpose l).isSome]/\M'=M):=by
 refine A0c.dataX ?_
 have b:id.row=[I id.act,I id.item,I id.n]:=rfl
 obtain⟨o,ho⟩:=ex (M.length)
 obtain⟨M1,a⟩:=ex (M++[A0l.cells 35 [I 0,I 0],A0l.cells 33 [.val (.slice none 0 0)],A0l.cells 4 [B false]])
 have hT:C1h o M M1 none:=by
  refine⟨?_,?_,?_,λi hi=>?_⟩
  .rw[a,ho];simp[B4M]
  .rw[a,ho];simp[A9G,Z0Y]
  .rw[a,ho];simp[Z0Y]
  .rw[a,Z0n Q0]
 have e:=C5o gl j g m hF id day purpose o M M1 hT
 rw[b]at e|-
 generalize A9z id day purpose l=s at*
 refine A0t hB func16 ?_
 simp -dsimp -implicitDefEqProofs[A0j]
 have f:M.length+1=o+1:=Q0
 have c:M.length+2=o+2:=Q0
 rw[<-a,<-ho]
 refine A0v (A0m func27 rfl rfl e) ?_
 rintro _ M2 ⟨a1,a2,a3,a4⟩
 have l1:=(Z0a.1 a1).1
 have l2:=(Z0a.1 a2).1
 have l3:=(Z0a.1 a3).1
 simp -dsimp -implicitDefEqProofs
 refine A6S hB (A0E gl) (λk=>if k<3 then 1 else if k<6 then 2 else 0) (λi=>o+i) (λi k=>k==i+3) (λk=>if k=3 then[o+1,o+2]else if k=4 then[o,o+2]else if k=5 then[o,o+1]else[o,o+1,o+2]) (D6W o) (by rfl) Q2 ?_
 have d:Grow M M2:=⟨Q0,λi hi _=>a4 i Q0⟩
 cases s with
 |none=>
  have s1:A0k (some 2) M2 (.ptr o 0) (.agg [I 0,I 0])=some M2:=by rw[A0f a1];simp[A0o,A0n,B4M,A0e,AV.storable,AV.cells];exact A9q a1
  have s2:A0k (some 1) M2 (.ptr (o+1) 0) (.val (.slice none 0 0))=some M2:=by rw[A0f a2];simp[A9G,A0e,AV.storable,AV.cells];exact A9q a2
  have s3:A0k (some 1) M2 (.ptr (o+2) 0) (B false)=some M2:=by rw[A0f a3];simp[A0e,AV.storable,AV.cells];exact A9q a3
  simp only[B4M,A9G,Option.isSome_none]at a1 a2 a3
  simp -dsimp -implicitDefEqProofs[A0b a1,A0b a2,A0b a3,A1g,A5S,s1,s2,s3,A2r,a1,a2,a3,f,c,A0g]
  exact⟨d,.tuple (.same (by simp[B4M,bdd,A1l]) (.nilS (.same trivial .nil))) .nil⟩
 |some w=>
  obtain⟨⟨ra,ri⟩,p⟩:=w
  have s1:A0k (some 2) M2 (.ptr o 0) (.agg [I ra,I ri])=some M2:=by rw[A0f a1];simp[A0o,A0n,B4M,A0e,AV.storable,AV.cells];exact A9q a1
  have s2:A0k (some 1) M2 (.ptr (o+1) 0) (A6t p)=some M2:=by rw[A0f a2];simp[A9G,A0e,AV.storable,AV.cells];exact A9q a2
  have s3:A0k (some 1) M2 (.ptr (o+2) 0) (B true)=some M2:=by rw[A0f a3];simp[A0e,AV.storable,AV.cells];exact A9q a3
  simp only[B4M,A9G,Option.isSome_some]at a1 a2 a3
  simp -dsimp -implicitDefEqProofs[A0b a1,A0b a2,A0b a3,A1g,A5S,s1,s2,s3,A2r,a1,a2,a3,f,c,A0g]
  exact⟨d,.tuple (.same (by simp[B4M,bdd,A1l]) (.same (by simp only[bdd,Z1z];exact B1D _ _) (.same trivial .nil))) .nil⟩
end
structure A7m where
 kind:Int
 path:List A1n
 by_:Int×Int
def B0W(id:IdD)(day:Int)(purpose:ByteArray)(l:List A1G):A7m:=match A3O (A4k day purpose l) id with
 |some p=>⟨0,p,(0,0)⟩
 |none=>match A9z id day purpose l with
  |some (r,p)=>⟨1,p,r⟩
  |none=>match B2a id day purpose l with
   |(some p,_)=>⟨2,p,(0,0)⟩
   |(none,some p)=>⟨3,p,(0,0)⟩
   |(none,none)=>⟨4,[],(0,0)⟩
def A7m.row(id:IdD)(s:A7m):List AV:=[I s.kind,I id.act,I id.item,I id.n,A6t s.path,I s.by_.1,I s.by_.2]
def z7:List AV:=[I 0,I 0,I 0,I 0,.val (.slice none 0 0),I 0,I 0]
def B7z{k a b c:Int}{p:List A1n}:A0A prog 37 [(0,I k),(1,.agg [I a,I b,I c]),(2,A6t p)]=some (.agg [I k,I a,I b,I c,A6t p,I 0,I 0]):=by simp[A0A,A1m,putCells,A0e]
def D1E{k a b c d e:Int}{p:List A1n}:A0A prog 37 [(0,I k),(1,.agg [I a,I b,I c]),(2,A6t p),(3,.agg [I d,I e])]=some (.agg [I k,I a,I b,I c,A6t p,I d,I e]):=by simp[A0A,A1m,putCells,A0e]
def D3F{k a b c:Int}:A0A prog 37 [(0,I k),(1,.agg [I a,I b,I c])]=some (.agg [I k,I a,I b,I c,.val (.slice none 0 0),I 0,I 0]):=by simp[A0A,A1m,putCells,A0e]
section
variable (gl:Nat->AV)
set_option maxHeartbeats 2000000 in
def B7N(a5:gl 0=.cptr [fnV 336,fnV 337])(f:gl 2=A1C)(a7:gl 8=A1U){l:List A1G}(hF:B2r l)(id:IdD)(day:Int)(purpose:ByteArray)(M:Mem):A0c (WC gl) 8 [.agg id.row,I day,S purpose,.list 4 (A2G l) .no] M (λv M'=>v=.agg ((B0W id day purpose l).row id)/\M'=M):=by
 refine A0c.dataX ?_
 have a8:id.row=[I id.act,I id.item,I id.n]:=rfl
 obtain⟨b,hb⟩:=ex (M.length)
 obtain⟨M1,a2⟩:=ex (M++[A0l.cells 37 z7])
 have h1:M1[b]?=some (.cells 37 z7):=by rw[a2,hb];simp
 have a3:Grow M M1:=by rw[a2];exact A0d.app none _ _
 have a9:b<M1.length:=(Z0a.1 h1).1
 have a6:=λM=>B9b gl a5 f a7 hF day purpose M
 have x:=λM=>B3K gl (A4k day purpose l) id M (A6D hF day purpose).good (by have:=(A6D hF day purpose).count;omega)
 have a0:=C5C gl a5 f a7 hF id day purpose M1
 have u:=λM=>D5J gl a5 f a7 hF id day purpose M
 have t:okP (B2a id day purpose l).1/\okP (B2a id day purpose l).2:=D3a id day purpose l
 have hS:B0W id day purpose l=match A3O (A4k day purpose l) id with
  |some p=>⟨0,p,(0,0)⟩
  |none=>match A9z id day purpose l with
   |some (r,p)=>⟨1,p,r⟩
   |none=>match B2a id day purpose l with
    |(some p,_)=>⟨2,p,(0,0)⟩
    |(none,some p)=>⟨3,p,(0,0)⟩
    |(none,none)=>⟨4,[],(0,0)⟩:=rfl
 rw[hS]
 clear hS
 generalize A9z id day purpose l=tk at*
 generalize B2a id day purpose l=nr at*
 rw[a8]at x a0 u|-
 have m:∀(Mx:Mem) (cs:List AV),Grow M Mx->Grow M (Mx.set b (.cells 37 cs)):=λMx cs hg=>A0u hg Q0
 have z:∀(k d e:Int) (p:List A1n) (Mx:Mem),Still Mx b (bdd b) [.agg [I k,I id.act,I id.item,I id.n,A6t p,I d,I e]] [.agg (A7m.row id ⟨k,p,(d,e)⟩)]:=λk d e p Mx=>by refine .same ?_ .nil;simp only[bdd,A1l,Z1z,Z2B];exact B1D _ _
 have st:∀(Mx:Mem) (cs:List AV),Mx[b]?=some (.cells 37 z7)->cs.length=7->A0k (some 7) Mx (.ptr b 0) (.agg cs)=some (Mx.set b (.cells 37 cs)):=λMx cs h hc=>by rw[A0f h];simp[A0o,A0n,A0e,hc,z7,Z0y]
 refine A0t hB func8 ?_
 simp -dsimp -implicitDefEqProofs[A0j]
 rw[show([I 0,I 0,I 0,I 0,AV.val (Value.slice none 0 0),I 0,I 0]:List AV)=z7 from rfl,<-a2,<-hb]
 refine A0Z hB (A0E gl) (λ_=>0) (λ_=>0) (by rfl) Q2 ?_
 simp -dsimp -implicitDefEqProofs
 refine A1J (λM=>A0m func6 rfl rfl (a6 M)) ?_
 simp -dsimp -implicitDefEqProofs
 refine A1J (λM=>A0m func15 rfl rfl (x M)) ?_
 cases hw:A3O (A4k day purpose l) id with
 |some p=>
  simp -dsimp -implicitDefEqProofs[B3I,B7z,st M1 _ h1,A0r a9,A0g]
  exact⟨m _ _ a3,z 0 0 0 p _⟩
 |none=>
  simp -dsimp -implicitDefEqProofs[B3I]
  refine A0h func16 a0 ?_
  cases tk with
  |some w=>
   obtain⟨⟨ra,ri⟩,p⟩:=w
   obtain⟨M2,j⟩:=ex (M1++[A0l.cells 35 [I ra,I ri]])
   have h2:M2[M1.length]?=some (A0l.cells 35 [I ra,I ri]):=by rw[j];simp
   have f:Grow M1 M2:=by rw[j];exact A0d.app none _ _
   have i:=f.get h1 Q1
   have o:b<M2.length:=(Z0a.1 i).1
   simp -dsimp -implicitDefEqProofs[B4M,tkP,A0j,A0k,A0e,A0o,A0n]
   rw[<-j]
   simp -dsimp -implicitDefEqProofs[A0b h2,D1E,st M2 _ i,A0r o,A0g]
   exact⟨m _ _ (a3.trans f),z 1 ra ri p _⟩
  |none=>
   obtain⟨M2,j⟩:=ex (M1++[A0l.cells 35 [I 0,I 0]])
   have h2:M2[M1.length]?=some (A0l.cells 35 [I 0,I 0]):=by rw[j];simp
   have f:Grow M1 M2:=by rw[j];exact A0d.app none _ _
   have i:=f.get h1 Q1
   have o:b<M2.length:=(Z0a.1 i).1
   have s:=a3.trans f
   simp -dsimp -implicitDefEqProofs[B4M,tkP,A0j,A0k,A0e,A0o,A0n]
   rw[<-j]
   refine A0h func17 (u M2) ?_
   obtain⟨ea,la⟩:=nr
   simp only at t
   cases ea with
   |some p=>
    obtain⟨q,hq⟩:=t.1 p rfl
    have hp:A0P p=A3Z.row::A0P q:=by rw[hq];rfl
    have a4:B2U (some p)=.list 2 (A3Z.row::A0P q) .no:=by rw[B2U,hp]
    have a1:A6t p=.list 2 (A3Z.row::A0P q) .no:=by rw[<-hp];rfl
    have y:=B7z (k:=2) (a:=id.act) (b:=id.item) (c:=id.n) (p:=p)
    have g:=z 2 0 0 p
    rw[a1]at y g
    simp -dsimp -implicitDefEqProofs[a4,y,st M2 _ i,A0r o,A0g]
    exact⟨m _ _ s,g _⟩
   |none=>
    cases la with
    |some p=>
     obtain⟨q,hq⟩:=t.2 p rfl
     have hp:A0P p=A3Z.row::A0P q:=by rw[hq];rfl
     have a4:B2U (some p)=.list 2 (A3Z.row::A0P q) .no:=by rw[B2U,hp]
     have a1:A6t p=.list 2 (A3Z.row::A0P q) .no:=by rw[<-hp];rfl
     have y:=B7z (k:=3) (a:=id.act) (b:=id.item) (c:=id.n) (p:=p)
     have g:=z 3 0 0 p
     rw[a1]at y g
     simp -dsimp -implicitDefEqProofs[show B2U none=.val (.slice none 0 0)from rfl,a4,y,st M2 _ i,A0r o,A0g]
     exact⟨m _ _ s,g _⟩
    |none=>
     simp -dsimp -implicitDefEqProofs[show B2U none=.val (.slice none 0 0)from rfl,D3F,st M2 _ i,A0r o,A0g]
     exact⟨m _ _ s,.agg (.same trivial (.same trivial (.same trivial (.same trivial (.nilS (.same trivial (.same trivial .nil))))))) .nil⟩
end
mutual
def B7f(x:IdD):∀u:A0a,(A7B x u).isSome=(A0O x u).isSome
 |.mk id k l h w ks=>by
  rw[A7B,A0O];split
  .rfl
  .exact C0B x ks
def C0B(x:IdD):∀ks:List A0a,(B1R x ks).isSome=(A6r x ks).isSome
 |[]=>by rw[B1R,A6r];rfl
 |k::ks=>by
  have h:=B7f x k;rw[B1R,A6r];cases h1:A7B x k with
  |none=>
   rw[h1]at h;cases h2:A0O x k with
   |none=>exact C0B x ks
   |some v=>rw[h2]at h;simp at h
  |some p=>
   rw[h1]at h;cases h2:A0O x k with
   |none=>rw[h2]at h;simp at h
   |some v=>rfl
end
def C6V{x:IdD}:∀{ks:List A0a} {i:Nat} (hi:i<ks.length) {q:List A1n},(∀k∈ks.take i,A0O x k=none)->A7B x ks[i]=some q->B1R x ks=some (⟨ks[i].kind,ks[i].label⟩::q)
 |[],i,hi,_,_,_=>by simp at hi
 |k::ks,0,hi,q,_,h=>by simp only[Z2G]at h|-;rw[B1R,h]
 |k::ks,i+1,hi,q,hn,h=>by
  have h0:A0O x k=none:=hn k Q1;have h1:=B7f x k;rw[h0]at h1;have h2:A7B x k=none:=by simpa using h1
  simp only[Z1M]at h|-;rw[B1R,h2];exact C6V (by simpa using hi) (λz hz=>hn z (by simp[Z1j,hz])) h
def C8O(z k:A0a):A2F ⟨z.kind,z.label⟩ k=decide (kl k=kl z):=by simp only[A2F,kl,Z0g];rw[Z4m]
def B7M{α β:Type}[DecidableEq β](f:α->β):∀{l:List α} {i:Nat} (hi:i<l.length),(l.map f).Nodup->l.filter (λk=>decide (f k=f l[i]))=[l[i]]
 |[],i,hi,_=>by simp at hi
 |a::l,0,hi,hn=>by rw[Z0w,Z1D]at hn;simp only[Z2G];rw[List.filter_cons_of_pos Q1,Z3v.2];intro b hb e;exact hn.1 (Z0H.2 ⟨b,hb,by simpa using e⟩)
 |a::l,i+1,hi,hn=>by
  rw[Z0w,Z1D]at hn;simp only[Z1M];have hi:i<l.length:=by simpa using hi
  rw[List.filter_cons_of_neg,B7M f hi hn.2];simp only[Z0m];intro e;exact hn.1 (Z0H.2 ⟨l[i],Z0u hi,e.symm⟩)
def B8G{x:IdD}:∀(u y:A0a),A1o u=true->A0O x u=some y->∃q,A7B x u=some q/\A5b q [u]=[y]/\q.length<=A1i u/\∀s∈q,0<s.k/\s.k<=7/\A1u s.lab=true:=by
 intro u y hr h;rcases A2M (λu=>u) h with⟨e,rfl,_⟩|⟨i,s⟩
 .refine⟨[],?_,rfl,Q1,Q1⟩;obtain⟨a,b,c,d,f,g⟩:=y;rw[A7B,Z0c (show a=x from e)]
 .have hi:=s.lt;have m:=A4S hi;obtain⟨r1,r2,r3⟩:=(A2f u).1 hr;obtain⟨n1,n2⟩:=r2 _ (Z0u hi);obtain⟨q,q1,q2,q3,q4⟩:=B8G u.kids[i] y n2 s.find;have hw:A7B x u=some (⟨u.kids[i].kind,u.kids[i].label⟩::q):=by have j:=s.ne;have:=C6V hi s.none q1;obtain⟨a,b,c,d,f,g⟩:=u;rw[A7B,Z0d (show¬a=x from j)];exact this
  refine⟨_,hw,?_,?_,?_⟩
  .show A5b q (A3Y _ [u])=[y];(have:A3Y ⟨u.kids[i].kind,u.kids[i].label⟩ [u]=[u.kids[i]]:=by unfold A3Y;simp only[Z0z,List.flatMap_nil,Z1g];rw[show(A2F ⟨u.kids[i].kind,u.kids[i].label⟩)=λk=>decide (kl k=kl u.kids[i])from funext λk=>C8O _ _];exact B7M kl hi r3);rw[this];exact q2
  .have:=B2Y u.kids[i] (Z0u hi);rw[A3y u];simp only[Z0q];omega
  .intro z hz;rcases Z0r.1 hz with rfl|hz
   .have ha:=A4L n2;have hk:=B8n n1;have h7:=(A4Q ha).1;refine⟨by show 0<u.kids[i].kind;omega,h7.2,?_⟩;generalize u.kids[i]=v at*;obtain⟨a,k,l,hd,w,k0⟩:=v;have hk:k≠0:=hk;simp only[A2J,Z0h]at ha;have c5:(if k=0 then decide (l.size=0)&&decide (hd.length=0)&&decide (w.length=0)else A1u l)=true:=ha.2;rw[Z0d hk]at c5;exact c5
   .exact q4 z hz
termination_by u=>SizeOf.sizeOf u
def D2x{u x:A0a}(hs:A2w u)(hx:x∈A2a u):∃p,A3O u x.id=some p/\A1O p=true/\A2c u p=(x.id,0):=by
 obtain⟨q,q1,q2,q3,q4⟩:=B8G (x:=x.id) u x hs.right (A8u hs.ids hx);have hd:=hs.depth;have hv:A1O (A3Z::q)=true:=by
  simp only[A1O,Z0h,Z0m,Z0D];refine⟨by simp only[Z0q];omega,λj hj=>?_⟩;have hj:j<(A3Z::q).length:=by simpa using hj
  cases j with
  |zero=>simp[B0P,B0j,A3Z]
  |succ j=>
   (have a:j<q.length:=by simpa using hj);have:=q4 q[j] (Z0u a)
   simp[B0P,Z1Q,a,this.1,this.2.1,this.2.2]
 refine⟨A3Z::q,by rw[A3O,q1];rfl,hv,?_⟩;have hf:B2p u (A3Z::q)=[x]:=by
  rw[B2p,Z0c hv];show A5b q (A6l u A3Z)=[x];have:A6l u A3Z=[u]:=by unfold A6l;rw[Z0c (by simp[B0j,A3Z])]
  rw[this];exact q2
 rw[A2c,hf]
def C8q{u:A0a}{x:IdD}(h:∀v∈A2a u,v.id≠x):A3O u x=none:=by
 have h1:=B7f x u;have h2:A0O x u=none:=by rw[A9d];exact List.find?_eq_none.2 λv hv=>by simpa using h v hv
 rw[h2]at h1;have:A7B x u=none:=by simpa using h1
 rw[A3O,this];rfl
def D4s{l:List A1G}{day:Int}{purpose:ByteArray}(hF:B2r l){x:A0a}(hx:x∈A2a (A4k day purpose l)):∃p,B0W x.id day purpose l=⟨0,p,(0,0)⟩/\A1O p=true/\A2c (A4k day purpose l) p=(x.id,0):=by obtain⟨p,h1,h2,h3⟩:=D2x (A6D hF day purpose) hx;exact⟨p,by rw[B0W,h1],h2,h3⟩
def D3n{l:List A1G}{day:Int}{purpose:ByteArray}{id:IdD}(h:∀v∈A2a (A4k day purpose l),v.id≠id):(B0W id day purpose l).kind≠0:=by
 rw[B0W,C8q h];simp only;split
 .exact(by decide:(1:Int)≠0)
 .split
  .exact(by decide:(2:Int)≠0)
  .exact(by decide:(3:Int)≠0)
  .exact(by decide:(4:Int)≠0)
def C4p(L:List A0a)(id:IdD):Bool:=L.any λx=>decide (x.id=id)
def D3E:A0A prog 35 []=some (.agg [I 0,I 0]):=by simp[A0A,A1m]
def E0h:A1A prog .neq 35 (.agg [I 0,I 0]) (.agg [I 0,I 0])=some (B false):=Q2
def E3X{l:List A0a}{i:Nat}(h:i<l.length):(A0q l)[i]?=some l[i].row:=by simp[A2S,h]
section
variable (gl:Nat->AV)
set_option maxHeartbeats 4000000 in
def D4q(ah:gl 0=.cptr [fnV 336,fnV 337])(ar:gl 2=A1C)(ax:gl 8=A1U)(id:IdD)(day:Int)(purpose:ByteArray)(l:List A1G)(hl:l.length<=maxLen)(hg:∀g∈l,g.good)
 (ad:∀M,A3E (WC gl) 4 [] M (λr m=>r=.val (.bool true)/\m=M))(M:Mem):
 A0c (WC gl) 3 [.agg id.row,I day,S purpose,.list 4 (A2G l) .no] M (λv M'=>v=B true):=by
 have w:id.row=[I id.act,I id.item,I id.n]:=rfl
 have aw:=D5x gl l purpose M hl hg
 rw[w]
 refine A0t hB func3 ?_
 simp -dsimp -implicitDefEqProofs
 refine A0v (ad M) ?_
 rintro _ _ ⟨rfl,rfl⟩
 simp -dsimp -implicitDefEqProofs
 refine A0v (A0m func5 rfl rfl aw) ?_
 rintro _ M ⟨⟨b,rfl,hb⟩,rfl⟩
 cases b with
 |false=>
  simp -dsimp -implicitDefEqProofs
  refine A0v (ad M) ?_
  rintro _ _ ⟨rfl,rfl⟩
  simp -dsimp -implicitDefEqProofs
 |true=>
 have hF:B2r l:=C7S hg (hb rfl)
 have hs:=A6D hF day purpose
 have a8:=hs.count
 have o:=B9b gl ah ar ax hF day purpose
 have k:=λx M=>B7N gl ah ar ax hF x day purpose M
 have av:=λx hx=>D4s (day:=day) (purpose:=purpose) hF (x:=x) hx
 have ai:=D3n (l:=l) (day:=day) (purpose:=purpose) (id:=id)
 have ap:=λM=>C0c gl (A4k day purpose l) M hs.good Q0
 have af:=λp hv M=>B1y gl (A4k day purpose l) p M hs.fit hs.ids hv
 have a7:(∃x∈A2a (A4k day purpose l),x.id=id)->∃p,B0W id day purpose l=⟨0,p,(0,0)⟩:=λ⟨x,hx,e⟩=>by obtain⟨p,h,_⟩:=av x hx;exact⟨p,by rw[<-e];exact h⟩
 have bh:(A2a (A4k day purpose l)).length<=1024:=by rw[D2s];exact a8
 generalize A4k day purpose l=u at*
 generalize hL:A2a u=L at*
 obtain⟨z,hz⟩:=ex ([AV.val (Value.int IntKind.i64 0),AV.val (Value.int IntKind.i64 0),AV.val (Value.int IntKind.i64 0),AV.val (Value.int IntKind.i64 0),AV.val (Value.string {data:=#[]}),AV.val (Value.slice none 0 0),AV.val (Value.slice none 0 0),AV.val (Value.slice none 0 0)]:List AV)
 have b4:z.length=8:=by rw[hz];rfl
 have y:∀(Q:Mem) (v:A0a),A0k (some 8) (Q++[A0l.cells 30 z]) (.ptr Q.length 0) (.agg v.row)=some (Q++[A0l.cells 30 v.row]):=λQ v=>by
  have:(Q++[A0l.cells 30 z])[Q.length]?=some (.cells 30 z):=by simp
  rw[A0f this];simp[A0o,A0n,A0e,b4,A0a.row_len,Z0y]
 obtain⟨b,au⟩:=ex (M.length)
 obtain⟨M1,a2⟩:=ex (M++[A0l.cells 30 u.row])
 have h1:M1[b]?=some (.cells 30 u.row):=by rw[a2,au];simp
 have ab:∀Q:Mem,Q[b]?=some (.cells 30 u.row)->A0M prog 30 Q (.ptr b 0)=some (.agg u.row):=λQ h=>by rw[A0b h];simp[A0y,A0a.row_len]
 simp -dsimp -implicitDefEqProofs
 refine A0h func6 (o M) ?_
 simp -dsimp -implicitDefEqProofs[A0j]
 rw[<-hz,y M u,<-a2,<-au]
 simp -dsimp -implicitDefEqProofs[-A2x,ab M1 h1]
 refine A0h func7 (ap M1) ?_
 simp -dsimp -implicitDefEqProofs
 refine A1E hB L.length 32 (λT Mi=>∃i:Nat,i<=L.length/\T 1=I day/\T 2=S purpose/\T 3=.list 4 (A2G l) .no/\T 4=.cptr [I id.act,I id.item,I id.n]/\T 9=.ptr b 0/\T 10=B (C4p (L.take i) id)/\T 30=.list 8 (A0q L) .no/\T 31=I L.length/\T 32=I i/\Mi[b]?=some (.cells 30 u.row)) ?_ ?_
 .exact⟨0,Q0,Q1,Q1,Q1,Q1,Q1,(by simp;rfl),Q1,Q1,Q1,h1⟩
 clear h1 a2 M1 ap o
 rintro T Mi ⟨i,i1,t1,t2,t3,t4,t9,c,j,t31,f,hu⟩
 by_cases hi:i<L.length
 case neg=>
  have t:¬(i:Int)<L.length:=Q0;rw[Z0e Q0]at c;have d:=k id Mi;rw[w]at d;by_cases hex:∃x∈L,x.id=id
  .obtain⟨p,hp⟩:=a7 hex;(have a:C4p L id=true:=by obtain⟨x,hx,e⟩:=hex;exact Z2R.2 ⟨x,hx,by simpa using e⟩);rw[hp]at d;rw[a]at c;simp -dsimp -implicitDefEqProofs[t1,t2,t3,t4,t9,c,j,t31,f,t];refine A0h func8 d ?_;simp -dsimp -implicitDefEqProofs[A7m.row]
  .have ak:∀v∈L,v.id≠id:=λv hv e=>hex ⟨v,hv,e⟩;have hk:=ai ak;(have a:C4p L id=false:=List.any_eq_false.2 λv hv=>by simpa using ak v hv);rw[a]at c;generalize B0W id day purpose l=s at*;simp -dsimp -implicitDefEqProofs[t1,t2,t3,t4,t9,c,j,t31,f,t];refine A0h func8 d ?_;simp -dsimp -implicitDefEqProofs[A7m.row,hk]
 have t:(i:Int)<L.length:=Q0
 have w1:=A1Y (i:=i) Q0
 obtain⟨x,hx⟩:=ex (L[i])
 have aj:=E3X hi
 rw[<-hx]at aj
 have bf:x∈L:=by rw[hx];exact Z0u hi
 have b8:L.take (i+1)=L.take i++[x]:=by rw[Z0A,Z0i hi,Z0X,<-hx]
 have a:C4p (L.take (i+1)) id=(C4p (L.take i) id||decide (x.id=id)):=by rw[b8,C4p,List.any_append];simp[C4p]
 obtain⟨p,b7,b1,b0⟩:=av x bf
 have an:x.id.row=[I x.id.act,I x.id.item,I x.id.n]:=rfl
 obtain⟨q,hq⟩:=ex (Mi.length)
 obtain⟨M3,a4⟩:=ex (Mi++[A0l.cells 30 x.row])
 have al:M3[q]?=some (.cells 30 x.row):=by rw[a4,hq];simp
 have bb:Grow Mi M3:=by rw[a4];exact A0d.app none _ _
 have ay:=bb.get hu Q1
 have a3:∀Q:Mem,Q[q]?=some (.cells 30 x.row)->A0M prog 23 Q (.ptr q 0)=some (.agg [I x.id.act,I x.id.item,I x.id.n]):=λQ h=>by rw[A0b h,x.row_eq];simp[A0y]
 obtain⟨r,hr⟩:=ex (M3.length)
 obtain⟨M4,a1⟩:=ex (M3++[A0l.cells 37 [I 0,I x.id.act,I x.id.item,I x.id.n,A6t p,I 0,I 0]])
 have am:M4[r]?=some (A0l.cells 37 [I 0,I x.id.act,I x.id.item,I x.id.n,A6t p,I 0,I 0]):=by rw[a1,hr];simp
 have ao:Grow M3 M4:=by rw[a1];exact A0d.app none _ _
 have ae:=ao.get al Q1
 have ac:=ao.get ay Q1
 obtain⟨s,a9⟩:∃s,s=M4.length:=⟨_,rfl⟩
 obtain⟨M5,a5⟩:=ex (M4++[A0l.cells 23 [I x.id.act,I x.id.item,I x.id.n]])
 have b9:M5[s]?=some (A0l.cells 23 [I x.id.act,I x.id.item,I x.id.n]):=by rw[a5,a9];simp
 have a6:Grow M4 M5:=by rw[a5];exact A0d.app none _ _
 have b3:=a6.get ae Q1
 have a0:=a6.get am Q1
 have ba:=a6.get ac Q1
 have d:=k x.id M3
 rw[b7,A7m.row,an]at d
 have aa:=af p b1 M4
 rw[b0,an]at aa
 have ag:=C7K x.id x.id
 rw[Z0B rfl]at ag
 have bd:=C1B x.id id
 have be:=a3 M3 al
 have bi:=a3 M4 ae
 have bc:=a3 M5 b3
 have aq:=ab M4 ac
 have b5:A0M prog 33 M4 (.ptr r 4)=some (A6t p):=by rw[A0b am];simp[A0y]
 have az:A0M prog 3 M5 (.ptr r 0)=some (I 0):=by rw[A0b a0];simp[A0y]
 have b2:A0M prog 23 M5 (.ptr r 1)=some (.agg [I x.id.act,I x.id.item,I x.id.n]):=by rw[A0b a0];simp[A0y]
 have b6:A0M prog 35 M5 (.ptr r 5)=some (.agg [I 0,I 0]):=by rw[A0b a0];simp[A0y]
 have bg:A0M prog 23 M5 (.ptr s 0)=some (.agg [I x.id.act,I x.id.item,I x.id.n]):=by rw[A0b b9];simp[A0y]
 generalize C4p (L.take i) id=A at*
 simp -dsimp -implicitDefEqProofs[-A2x,t1,t2,t3,t4,t9,j,t31,f,hi,t,aj,A0j,<-hz,y]
 rw[<-hx,<-a4,<-hq]
 cases A<;>
 .simp -dsimp -implicitDefEqProofs[-A2x,t1,t2,t3,t4,t9,c,j,t31,f,be,bd];refine A0h func8 d ?_;simp -dsimp -implicitDefEqProofs[-A2x,A0j,A0k,A0e,A0o,A0n];rw[<-a1,<-hr];simp -dsimp -implicitDefEqProofs[-A2x,t9,aq,b5];refine A0h func9 aa ?_;simp -dsimp -implicitDefEqProofs[-A2x,A0j,A0k,A0e,A0o,A0n];rw[<-a5,<-a9];simp -dsimp -implicitDefEqProofs[-A2x,az,b2,bg,b6,bc,ag,D3E,E0h,t1,t2,t3,t4,t9,c,j,t31,f,w1];exact⟨⟨i+1,Q3,by simp[a],Q3,ba⟩,Q3⟩
end
end Go.Abs
