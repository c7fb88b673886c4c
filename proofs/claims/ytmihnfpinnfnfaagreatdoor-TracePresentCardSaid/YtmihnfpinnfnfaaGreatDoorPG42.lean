/- The texts EiC, EiD, EiE, EhO, EiF, EhP, EhX. -/
import Derived.Test.YtmihnfpinnfnfaaGreatDoorPG41
import Derived.Test.YtmihnfpinnfnfaaGreatDoorPG40
set_option linter.all false
set_option maxRecDepth 100000
namespace Go.Abs
open Go.Proofs TryTypes
def C3P{x:IdD}{y:A0a}:∀{ks:List A0a},A6r x ks=some y->∃i,∃hi:i<ks.length,(∀k∈ks.take i,A0O x k=none)/\A0O x ks[i]=some y
 |[],h=>by simp[A6r]at h
 |k::ks,h=>by
  rw[A6r]at h;cases hk:A0O x k with
  |some v=>rw[hk]at h;simp only[Z0b]at h;subst h;exact⟨0,Q1,Q1,by simpa using hk⟩
  |none=>
   rw[hk]at h;obtain⟨i,hi,h1,h2⟩:=C3P h;refine⟨i+1,by simp;omega,?_,by simpa using h2⟩;intro q hq;rw[Z1j]at hq;rcases Z0r.1 hq with rfl|hq
   .exact hk
   .exact h1 q hq
structure D6y (x:IdD) (f:A0a->A0a) (u y:A0a) (i:Nat):Prop where
 ne:u.id≠x
 lt:i<u.kids.length
 none:∀k∈u.kids.take i,A0O x k=none
 find:A0O x u.kids[i]=some y
 eq:A1v x f u=B1M u (u.kids.set i (A1v x f u.kids[i]))
 route:A1f x u=u::A1f x u.kids[i]
def C0U{x:IdD}:∀{ks:List A0a} {i:Nat} (hi:i<ks.length),(∀k∈ks.take i,A0O x k=none)->(A0O x ks[i]).isSome=true->A3g x ks=A1f x ks[i]
 |[],i,hi,_,_=>by simp at hi
 |k::ks,i,hi,hn,hs=>by
  cases i with
  |zero=>
   rw[A3g];simp only[Z2G]at hs|-;cases hr:A1f x k with
   |nil=>rw[A3z,hr]at hs;simp at hs
   |cons r rs=>rfl
  |succ i=>have h0:A0O x k=none:=hn k Q1;(have hr:A1f x k=[]:=by rw[A3z,List.getLast?_eq_none_iff]at h0;exact h0);rw[A3g,hr];simp only[Z1M]at hs|-;exact C0U (by simpa using hi) (λq hq=>hn q (by simp[Z1j,hq])) hs
def A2M{x:IdD}(f:A0a->A0a){u y:A0a}(h:A0O x u=some y):(u.id=x/\y=u/\A1v x f u=f u/\A1f x u=[u])\/∃i,D6y x f u y i:=by
 obtain⟨id,k,l,hd,w,ks⟩:=u;rw[A0O]at h;by_cases he:id=x
 .rw[Z0c he]at h;simp only[Z0b]at h;exact .inl ⟨he,h.symm,by rw[A1v,Z0c he],by rw[A1f,Z0c he]⟩
 .rw[Z0d he]at h;obtain⟨i,hi,h1,h2⟩:=C3P h;have hs:(A0O x ks[i]).isSome=true:=by rw[h2];rfl
  refine .inr ⟨i,he,hi,h1,h2,?_,?_⟩
  .rw[A1v,Z0d he,B4B hi h1 hs];rfl
  .rw[A1f,Z0d he,C0U hi h1 hs];show _=A0a.mk id k l hd w ks::A1f x ks[i];cases hr:A1f x ks[i]with
   |nil=>rw[A3z,hr]at hs;simp at hs
   |cons r rs=>rfl
def A4S{u:A0a}{i:Nat}(h:i<u.kids.length):SizeOf.sizeOf u.kids[i]<SizeOf.sizeOf u:=A0a.kid_lt (Z0u h)
def A6i:∀a b:List A0a,A2N (a++b)=A2N a++A2N b
 |[],b=>by simp[A2N]
 |k::a,b=>by rw[Z0O,A2N,A2N,A6i a b,Z0F]
def A4J(u:A0a):A0T u=u.id::A2N u.kids:=by obtain⟨a,b,c,d,e,f⟩:=u;rw[A0T];rfl
def A6B{α:Type}{l:List α}{i:Nat}(h:i<l.length)(z:α):l=l.take i++l[i]::l.drop (i+1)/\l.set i z=l.take i++z::l.drop (i+1):=by refine⟨by rw[<-Z0o h,Z1b],?_⟩;rw[Z2i,Z0c h]
def A9c{x:IdD}(f:A0a->A0a):∀(u y:A0a),A0O x u=some y->∃A B,A0T u=A++A0T y++B/\A0T (A1v x f u)=A++A0T (f y)++B:=by
 intro u y h;rcases A2M f h with⟨_,rfl,e,_⟩|⟨i,s⟩
 .exact⟨[],[],Q1,by simp[e]⟩
 .have hi:=s.lt;have a:=A4S hi;obtain⟨A,B,h1,h2⟩:=A9c f u.kids[i] y s.find;obtain⟨e1,e2⟩:=A6B s.lt (A1v x f u.kids[i]);refine⟨u.id::(A2N (u.kids.take i)++A),B++A2N (u.kids.drop (i+1)),?_,?_⟩
  .rw[A4J]
   conv=>lhs;rw[e1]
   rw[A6i,A2N,h1];simp
  .rw[s.eq,A4J];show u.id::A2N (u.kids.set i _)=_;rw[e2,A6i,A2N,h2];simp
termination_by u=>SizeOf.sizeOf u
def C7E{x:IdD}(f:A0a->A0a){u y:A0a}(h:A0O x u=some y)(hk:kl (f y)=kl y):kl (A1v x f u)=kl u:=by
 rcases A2M f h with⟨_,rfl,e,_⟩|⟨i,s⟩
 .rw[e,hk]
 .rw[s.eq];rfl
def D5k{x:IdD}(f:A0a->A0a){u y:A0a}(h:A0O x u=some y)(hk:(f y).id=y.id):(A1v x f u).id=u.id:=by
 rcases A2M f h with⟨_,rfl,e,_⟩|⟨i,s⟩
 .rw[e,hk]
 .rw[s.eq];rfl
def C5P{ks:List A0a}{i:Nat}(h:i<ks.length){z:A0a}(hz:kl z=kl ks[i]):(ks.set i z).map kl=ks.map kl:=by
 rw[List.map_set,hz];apply Z4i Q1;intro n h1 h2;rw[List.getElem_set];split
 .rename_i e;subst e;simp
 .rfl
def C5U{u:A0a}{i:Nat}(h:i<u.kids.length){z:A0a}(hr:A1o u=true)(hz:A1o z=true)(hk:kl z=kl u.kids[i]):A1o (B1M u (u.kids.set i z))=true:=by
 obtain⟨h1,h2,h3⟩:=(A2f _).1 hr;refine(A2f _).2 ⟨A9H h1 (by rw[Z1N];simp only[A2J,Z0h,Z0m]at h1;exact h1.1.1.1.2),?_,?_⟩
 .intro q hq;have hq:q∈u.kids.set i z:=hq;rcases Z2q hq with hq|rfl
  .exact h2 q hq
  .refine⟨?_,hz⟩;have:=(h2 _ (Z0u h)).1;rw[show q.kind=u.kids[i].kind from congrArg Prod.fst hk];exact this
 .show((u.kids.set i z).map kl).Nodup;rw[C5P h hk];exact h3
def B6t{x:IdD}(f:A0a->A0a):∀(u y:A0a),A0O x u=some y->A1o u=true->A1o (f y)=true->kl (f y)=kl y->A1o (A1v x f u)=true:=by
 intro u y h hr hy hk;rcases A2M f h with⟨_,rfl,e,_⟩|⟨i,s⟩
 .rw[e];exact hy
 .have hi:=s.lt;have a:=A4S hi;rw[s.eq];refine C5U s.lt hr ?_ (C7E f s.find hk);exact B6t f _ y s.find (B1q hr _ (Z0u s.lt)) hy hk
termination_by u=>SizeOf.sizeOf u
def A3e{x:IdD}:∀(u y:A0a),A0O x u=some y->A1o u=true->A1o y=true:=by
 intro u y h hr;rcases A2M (λu=>u) h with⟨_,rfl,e,_⟩|⟨i,s⟩
 .exact hr
 .have hi:=s.lt;have a:=A4S hi;exact A3e _ y s.find (B1q hr _ (Z0u s.lt))
termination_by u=>SizeOf.sizeOf u
def B1L{u:A0a}{ks:List A0a}(h:u.good)(hl:ks.length<=maxLen)(hk:∀k∈ks,k.good):(B1M u ks).good:=by obtain⟨g1,g2,g3,g4,g5,g6,g7,g8,g9⟩:=(A0a.good_iff _).1 h;exact(A0a.good_iff _).2 ⟨g1,g2,g3,g4,g5,g6,g7,hl,hk⟩
def C0z{x:IdD}(f:A0a->A0a):∀(u y:A0a),A0O x u=some y->u.good->(f y).good->(A1v x f u).good:=by
 intro u y h hg hy;rcases A2M f h with⟨_,rfl,e,_⟩|⟨i,s⟩
 .rw[e];exact hy
 .have hi:=s.lt;have a:=A4S hi;obtain⟨_,_,_,_,_,_,_,g8,g9⟩:=(A0a.good_iff _).1 hg;rw[s.eq];refine B1L hg (by rw[Z1N];exact g8) λk hk=>?_;rcases Z2q hk with hk|rfl
  .exact g9 k hk
  .exact C0z f _ y s.find (g9 _ (Z0u s.lt)) hy
termination_by u=>SizeOf.sizeOf u
def A5L{x:IdD}:∀(u y:A0a),A0O x u=some y->u.good->y.good:=by
 intro u y h hg;rcases A2M (λu=>u) h with⟨_,rfl,e,_⟩|⟨i,s⟩
 .exact hg
 .have hi:=s.lt;have a:=A4S hi;obtain⟨_,_,_,_,_,_,_,g8,g9⟩:=(A0a.good_iff _).1 hg;exact A5L _ y s.find (g9 _ (Z0u s.lt))
termination_by u=>SizeOf.sizeOf u
def A4s:∀a b:List A0a,A1L (a++b)=max (A1L a) (A1L b)
 |[],b=>by simp[A1L]
 |k::a,b=>by rw[Z0O,A1L,A1L,A4s a b];omega
def A3y(u:A0a):A1i u=A1L u.kids:=by obtain⟨a,b,c,d,e,f⟩:=u;rw[A1i];rfl
def A5H{x:IdD}(f:A0a->A0a):∀(u y:A0a),A0O x u=some y->1<=(A1f x u).length/\(A1f x u).length-1+A1i y<=A1i u/\A1i (A1v x f u)<=max (A1i u) ((A1f x u).length-1+A1i (f y)):=by
 intro u y h;rcases A2M f h with⟨_,rfl,e,r⟩|⟨i,s⟩
 .rw[e,r];simp;omega
 .have hi:=s.lt;have a:=A4S hi;obtain⟨h0,h1,h2⟩:=A5H f u.kids[i] y s.find;obtain⟨e1,e2⟩:=A6B s.lt (A1v x f u.kids[i]);have hu:A1i u=max (A1L (u.kids.take i)) (max (1+A1i u.kids[i]) (A1L (u.kids.drop (i+1)))):=by
   rw[A3y]
   conv=>lhs;rw[e1]
   rw[A4s,A1L]
  have hw:A1i (A1v x f u)=max (A1L (u.kids.take i)) (max (1+A1i (A1v x f u.kids[i])) (A1L (u.kids.drop (i+1)))):=by rw[s.eq,A3y];show A1L (u.kids.set i _)=_;rw[e2,A4s,A1L]
  rw[s.route,Z0q,hu,hw];omega
termination_by u=>SizeOf.sizeOf u
def B8t{s:ByteArray}(h:A1u s=true):s.size<=7:=by simp only[A1u,Z0h,Z0m,Z2N]at h;have:=h.1.1.1.2;have:=h.1.2;omega
def B8I:∀u:A0a,A1o u=true->u.lims:=by
 intro u hr;obtain⟨h1,h2,h3⟩:=(A2f _).1 hr;have hk:∀k∈u.kids,k.lims:=λk hk=>by have:=A0a.kid_lt hk;exact B8I k (h2 k hk).2
 obtain⟨id,k,l,h,w,ks⟩:=u;rw[A0a.lims];refine⟨?_,A4d.2 hk⟩;simp only[A2J,Z0h]at h1;obtain⟨⟨⟨⟨c1,c2⟩,c3⟩,c4⟩,c5⟩:=h1;have c2:ks.length<=64:=Z1X c2;have c3:A3a h=true:=c3;have c4:A3a w=true:=c4;have c5:(if k=0 then decide (l.size=0)&&decide (h.length=0)&&decide (w.length=0)else A1u l)=true:=c5;have r1:=(A5t c3).1;have r2:=(A5t c4).1;refine⟨?_,?_,?_,?_⟩
 .show h.length<=_;omega
 .show w.length<=_;omega
 .show ks.length<=_;omega
 .show l.size<=1000;by_cases hk0:k=0
  .rw[Z0c hk0]at c5;simp only[Z0h,Z0m]at c5;omega
  .rw[Z0d hk0]at c5;have:=B8t c5;omega
termination_by u=>SizeOf.sizeOf u
def B4L:∀ks:List A0a,A2N ks=(ks.map A0T).flatten
 |[]=>by simp[A2N]
 |k::ks=>by rw[A2N,B4L ks];simp
def B3c{u:A0a}(hn:(A0T u).Nodup){i j:Nat}(hi:i<u.kids.length)(hj:j<u.kids.length){a:IdD}(h1:a∈A0T u.kids[i])(h2:a∈A0T u.kids[j]):i=j:=by
 rw[A4J,Z1D,B4L]at hn;have hp:=(List.pairwise_flatten.1 hn.2).2;rw[Z2O]at hp;rcases Nat.lt_trichotomy i j with h|h|h
 .exact absurd rfl (hp i j (by simpa using hi) (by simpa using hj) h a (by simpa using h1) a (by simpa using h2))
 .exact h
 .exact absurd rfl (hp j i (by simpa using hj) (by simpa using hi) h a (by simpa using h2) a (by simpa using h1))
def C0I{u:A0a}(hn:(A0T u).Nodup){k:A0a}(hk:k∈u.kids):(A0T k).Nodup:=B8C hn k (A7c u u (A4A u) k hk)
def A6Q{u v:A0a}(h:v∈A2a u):v.id∈A0T u:=by rw[<-A5n];exact Z0H.2 ⟨v,h,rfl⟩
def D5f{u:A0a}{i:Nat}(hi:i<u.kids.length){a:IdD}(h:a∈A0T u.kids[i]):a∈A2N u.kids:=by rw[B4L];exact Z3y.2 ⟨_,Z0H.2 ⟨_,Z0u hi,rfl⟩,h⟩
def C0g{u:A0a}(hn:(A0T u).Nodup){i:Nat}(hi:i<u.kids.length):u.id∉A0T u.kids[i]:=λh=>by rw[A4J,Z1D]at hn;exact hn.1 (D5f hi h)
def B9W{α:Type}(f:α->Bool):∀(l:List α) (k i:Nat),A3b f l k=((k+i:Nat):Int)->∀h:i<l.length,f l[i]=true
 |[],k,i,h,hi=>by simp at hi
 |a::l,k,i,h,hi=>by
  rw[A3b]at h;split at h
  .rename_i ha;have:i=0:=Q0;subst this;exact ha
  .rename_i ha;cases i with
   |zero=>exfalso;rcases idxL_dec f l (k+1)with e|e<;>omega
   |succ i=>simp only[Z1M];exact B9W f l (k+1) i (by rw[h];omega) (by simpa using hi)
where
 idxL_dec (f:α->Bool):∀(l:List α) (k:Nat),A3b f l k=-1\/(k:Int)<=A3b f l k
  |[],k=>.inl (by rw[A3b])
  |a::l,k=>by
   rw[A3b];split
   .exact .inr (Int.le_refl _)
   .rcases idxL_dec f l (k+1)with e|e
    .exact .inl e
    .exact .inr Q0
def B3u{x:IdD}{u p y:A0a}{i:Nat}(hn:(A0T u).Nodup)(hp:A5q x u p i)(h:A0O x u=some y):p.kids[i]'hp.lt=y:=by obtain⟨h1,q,h2,h3⟩:=B1B x u p hp.par;have hq:A0O q.id u=some q:=A8u hn (A7c u p h1 q h2);rw[h3,h]at hq;simp only[Z0b]at hq;subst hq;obtain⟨j,hj,e⟩:=List.getElem_of_mem h2;have hs:=B9W _ p.kids 0 i (by rw[hp.idx,Z0P]) hp.lt;obtain⟨w,hw⟩:=Z4j.1 hs;obtain⟨a,b⟩:=A2K hw;have q1:=A6Q b;rw[a]at q1;have q2:=A6Q (A4A y);rw[h3,<-e]at q2;have:i=j:=B3c (B8C hn p h1) hp.lt hj q1 q2;subst this;exact e
def C0h(u:A0a):A0O u.id u=some u:=by obtain⟨a,b,c,d,e,f⟩:=u;rw[A0O,Z0c (show a=(A0a.mk a b c d e f).id from rfl)]
def B9G(f:A0a->A0a)(u:A0a):A1v u.id f u=f u:=by obtain⟨a,b,c,d,e,g⟩:=u;rw[A1v,Z0c (show a=(A0a.mk a b c d e g).id from rfl)]
def B6x{x:IdD}{u y:A0a}(h:A0O x u=some y):A1f x u≠[]:=λe=>by rw[A3z,e]at h;simp at h
def D1B{x:IdD}{u y:A0a}{i:Nat}{f:A0a->A0a}(s:D6y x f u y i)(a:(u.kids[i]'s.lt).id≠x):A7s x u=A7s x (u.kids[i]'s.lt):=by
 have hr:=s.route;rcases A2M (λu=>u) s.find with⟨h,_⟩|⟨j,t⟩
 .exact absurd h a
 .have hR:=B6x t.find;unfold A7s;rw[hr,t.route];obtain⟨r,rs,e⟩:=Z3c hR;rw[e];simp[List.dropLast,List.getLast?_cons]
def C2i{x:IdD}{u y:A0a}(hn:(A0T u).Nodup)(h:A0O x u=some y)(a:u.id≠x):∃p i,A5q x u p i:=by
 rcases A9n x hn with e|h'
 .exfalso;rcases A2M (λu=>u) h with⟨e1,_⟩|⟨i,s⟩
  .exact a e1
  .have hR:=B6x s.find;obtain⟨r,rs,er⟩:=Z3c hR;unfold A7s at e;rw[s.route,er]at e;simp[List.dropLast,List.getLast?_cons]at e
 .exact h'
def C3I{x:IdD}(f:A0a->A0a):∀(u y:A0a),(A0T u).Nodup->A0O x u=some y->u.id≠x->∀p i,A5q x u p i->A1v x f u=A1v p.id (λp=>B1M p (p.kids.set i (f y))) u:=by
 intro u y hn h k p i hp;rcases A2M f h with⟨e,_⟩|⟨j,s⟩
 .exact absurd e k
 .have hj:=s.lt;have q:=A4S hj;by_cases hk:u.kids[j].id=x
  .have hy:u.kids[j]=y:=by have h1:=s.find;have h2:=C0h u.kids[j];rw[hk]at h2;rw[h1]at h2;simpa using h2.symm
   (have o:A7s x u=some u:=by rw[<-hk];exact C5D hn (A4A u) (Z0u hj));have b:=hp.par
   rw[o]at b;simp only[Z0b]at b;subst b;have e1:=B3u hn hp h;have q1:=A6Q (A4A u.kids[j]);rw[hk]at q1;have q2:=q1;rw[hy,<-e1]at q2;have n:i=j:=B3c hn hp.lt hj q2 q1;subst n;rw[B9G,s.eq];congr 2;have:=B9G f u.kids[i];rw[hk]at this;rw[this,hy]
  .have hd:=D1B s hk;have d:=C0I hn (Z0u hj);(have c:A7s x u.kids[j]=some p:=by rw[<-hd];exact hp.par);have hm:=(B1B x _ p c).1;have g:A5q x u.kids[j] p i:=⟨c,hp.idx,hp.lt,A8u d hm⟩;have ih:=C3I f u.kids[j] y d s.find hk p i g;rcases A2M (λp=>B1M p (p.kids.set i (f y))) hp.find with⟨e,e2,_⟩|⟨m,t⟩
   .exfalso;exact C0g hn hj (by rw[e];exact A6Q hm)
   .have l:m=j:=B3c hn t.lt hj (a:=p.id) (A6Q (A2K t.find).2) (A6Q hm);subst l;rw[s.eq,t.eq,ih]
termination_by u=>SizeOf.sizeOf u
def B9E{x:IdD}(f:A0a->A0a):∀(u y:A0a),A0O x u=some y->(f y).id=x->A0O x (A1v x f u)=some (f y):=by
 intro u y h g;rcases A2M f h with⟨_,rfl,e,_⟩|⟨i,s⟩
 .rw[e,<-g,C0h]
 .have hi:=s.lt;have l:=A4S hi;have ih:=B9E f _ y s.find g;obtain⟨e1,e2⟩:=A6B hi (A1v x f u.kids[i]);rw[s.eq];obtain⟨a,b,c,d,e,ks⟩:=u;have j:a≠x:=s.ne;show A0O x (.mk a b c d e (ks.set i _))=_;rw[A0O,Z0d j];have hl:i<(ks.set i (A1v x f ks[i])).length:=by rw[Z1N];exact hi
  refine B8A hl (λk hk=>s.none k ?_) ?_
  .rw[List.take_set_of_le (Z0j _)]at hk;exact hk
  .have:(ks.set i (A1v x f ks[i]))[i]=A1v x f ks[i]:=List.getElem_set_self hl;exact(congrArg (A0O x) this).trans ih
termination_by u=>SizeOf.sizeOf u
structure A2w (u:A0a):Prop where
 kind:u.kind=0
 id:u.id=idZ
 right:A1o u=true
 depth:A1i u<=8
 count:A0x u<=1024
 ids:(A0T u).Nodup
 good:u.good
def A2w.fit{u:A0a}(h:A2w u):Fit u:=⟨h.good,B8I u h.right,Z0L h.count Q0⟩
def B1g:A2w A4v:=by refine⟨rfl,rfl,by rfl,by decide,by decide,by decide,?_⟩;refine(A0a.good_iff _).2 ⟨⟨?_,?_,?_⟩,?_,?_,?_,?_,?_,?_,?_,?_⟩<;>simp[A4v,inI,maxLen,A0a.kind,A0a.kids,A0a.head,A0a.words,A0a.label,A0a.id,ByteArray.size]
def B8n{p k:Int}(h:A4h p k=true):k≠0:=by rintro rfl;simp only[A4h,Z0h,Z0m]at h;obtain⟨⟨h1,h2⟩,h3⟩:=h;have:p=0\/p=1\/p=2\/p=3\/p=4\/p=5\/p=6\/p=7:=Q0;rcases this with rfl|rfl|rfl|rfl|rfl|rfl|rfl|rfl<;>revert h3<;>decide
def C6s{x:IdD}(f:A0a->A0a){u y:A0a}(h:A0O x u=some y):A0x (A1v x f u)+A0x y=A0x u+A0x (f y):=by obtain⟨A,B,h1,h2⟩:=A9c f u y h;have e1:=congrArg List.length h1;have e2:=congrArg List.length h2;simp only[Z0k,A3C]at e1 e2;omega
section
variable {u p y:A0a} {t x:IdD}
def A9V{f:A0a->A0a}(hs:A2w u)(h:A0O t u=some p)(b:(f p).id=p.id)(a:kl (f p)=kl p)(hr:A1o (f p)=true)(hg:(f p).good) (hn:(A0T (A1v t f u)).Nodup)(hc:A0x (f p)+A0x u<=1024+A0x p)(hd:(A1f t u).length-1+A1i (f p)<=8):A2w (A1v t f u):=by
 have hk:=C7E f h a
 refine⟨?_,?_,B6t f u p h hs.right hr a,?_,?_,hn,C0z f u p h hs.good hg⟩
 .rw[<-hs.kind];exact congrArg Prod.fst hk
 .rw[D5k f h b];exact hs.id
 .have:=(A5H f u p h).2.2;have:=hs.depth;omega
 .have:=C6s f h;omega
def B7V{f:A0a->A0a}(hs:A2w u)(h:A0O x u=some y)(a:(f y).id=y.id)(hk:(f y).kids=y.kids)(b:kl (f y)=kl y)(hr:A1o (f y)=true)(hg:(f y).good):A2w (A1v x f u):=by
 have e:A0T (f y)=A0T y:=by rw[A4J,A4J,a,hk]
 have ec:A0x (f y)=A0x y:=by rw[<-A3C,<-A3C,e]
 have ed:A1i (f y)=A1i y:=by rw[A3y,A3y,hk]
 refine A9V hs h a b hr hg ?_ ?_ ?_
 .obtain⟨A,B,h1,h2⟩:=A9c f u y h;rw[h2,e,<-h1];exact hs.ids
 .have:=hs.count;omega
 .have:=(A5H f u y h).2.1;have:=hs.depth;omega
def C8r(i:Nat)(p:A0a)(h:i<p.kids.length):A0T p=p.id::A2N (p.kids.take i)++A0T p.kids[i]++A2N (p.kids.drop (i+1))/\A0T (B0s i p)=p.id::A2N (p.kids.take i)++A2N (p.kids.drop (i+1)):=by
 constructor
 .rw[A4J]
  conv=>lhs;rw[(A6B h p).1]
  rw[A6i,A2N];simp
 .rw[A4J];show p.id::A2N (p.kids.eraseIdx i)=_;rw[Z2r,A6i];simp
def C9l(i:Nat)(p:A0a):A1i (B0s i p)<=A1i p:=by
 rw[A3y,A3y];show A1L (p.kids.eraseIdx i)<=_;rw[Z2r,A4s];by_cases h:i<p.kids.length
 .conv=>rhs;rw[(A6B h p).1]
  rw[A4s,A1L];omega
 .rw[Z0e Q0,Z1r Q0];simp[A1L]
def B4G(h:A2J u=true):u.kids.length<=64:=by simp only[A2J,Z0h,Z0m]at h;exact h.1.1.1.2
def A9y{i:Nat}(hs:A2w u)(hp:A5q x u p i)(hy:A0O x u=some y):A2w (A1T x u)/\(∃A B,A0T u=A++A0T y++B/\A0T (A1T x u)=A++B)/\A0O p.id (A1T x u)=some (B0s i p):=by
 have hw:A1T x u=A1v p.id (B0s i) u:=by unfold A1T;rw[hp.parI]
 have f:=hp.lt;have c:=B3u hs.ids hp hy;rw[hw];have e:=A3e u p hp.find hs.right;have d:=A5L u p hp.find hs.good;obtain⟨s1,s2⟩:=C8r i p hp.lt;rw[c]at s1;obtain⟨A,B,h1,h2⟩:=A9c (B0s i) u p hp.find;have a:(p.kids.eraseIdx i).Sublist p.kids:=Z4y _ _;obtain⟨r1,r2,r3⟩:=(A2f p).1 e;obtain⟨_,_,_,_,_,_,_,g8,g9⟩:=(A0a.good_iff _).1 d;have hl:(p.kids.eraseIdx i).length<=p.kids.length:=a.length_le;have e1:A0T u=(A++(p.id::A2N (p.kids.take i)))++A0T y++(A2N (p.kids.drop (i+1))++B):=by rw[h1,s1];simp
 have e2:A0T (A1v p.id (B0s i) u)=(A++(p.id::A2N (p.kids.take i)))++(A2N (p.kids.drop (i+1))++B):=by rw[h2,s2];simp
 have b:=hs.ids;rw[e1]at b;refine⟨A9V hs hp.find rfl rfl ?_ (B1L d (Z0L hl g8) λk hk=>g9 k (a.subset hk)) ?_ ?_ ?_,⟨_,_,e1,e2⟩,B9E _ u p hp.find rfl⟩
 .refine(A2f _).2 ⟨A9H r1 (Z0L hl (B4G r1)),λq hq=>r2 q (a.subset hq),?_⟩;exact r3.sublist (a.map kl)
 .rw[e2];refine b.sublist ?_;exact(List.sublist_append_left _ _).append (Z4a _)
 .have:=congrArg List.length s1;have:=congrArg List.length s2;have:=hs.count;simp only[Z0k,Z0q,A3C]at*;omega
 .have:=(A5H (B0s i) u p hp.find).2.1;have:=C9l i p;have:=hs.depth;omega
def D5S(n:Nat)(z p:A0a):(A0T (A8V n z p)).Perm (A0T p++A0T z):=by
 rw[A4J,A4J];show(p.id::A2N (p.kids.take n++z::p.kids.drop n)).Perm _
 conv=>rhs;rw[<-Z1b n p.kids]
 rw[A6i,A6i,A2N];simp only[Z0O,Z0F];refine List.Perm.cons _ (Z2Z _ ?_);exact Z3E
def B7Q{z:A0a}(h:A3W p z=0):A4h p.kind z.kind=true/\∀k∈p.kids,kl k≠kl z:=by
 unfold A3W at h;split at h
 .exact absurd h (by decide)
 .rename_i h1;split at h
  .exact absurd h (by decide)
  .rename_i h2;refine⟨by simpa using h1,λk hk e=>h2 (Z2R.2 ⟨k,hk,?_⟩)⟩;simp only[kl,Z0g]at e;simp[kl2,e.1,e.2]
def C0e{n:Nat}{z:A0a}(hs:A2w u)(h:A0O t u=some p)(hz:A1o z=true)(f:z.good)(ht:A3W p z=0)(o:p.kids.length<64)(j:(A1f t u).length+A1i z<=8) (hc:A0x u+A0x z<=1024)(hn:(A0T u++A0T z).Nodup):A2w (A1v t (A8V n z) u):=by
 obtain⟨t1,t2⟩:=B7Q ht
 have d:=A3e u p h hs.right
 have c:=A5L u p h hs.good
 obtain⟨r1,r2,r3⟩:=(A2f p).1 d
 obtain⟨_,_,_,_,_,_,_,g8,g9⟩:=(A0a.good_iff _).1 c
 have a:(p.kids.take n++z::p.kids.drop n).Perm (z::p.kids):=by
  conv=>rhs;rw[<-Z1b n p.kids]
  exact List.perm_middle
 have hl:=a.length_eq
 rw[Z0q]at hl
 have hm:maxLen=9223372036854775807:=rfl
 obtain⟨A,B,h1,h2⟩:=A9c (A8V n z) u p h
 have b:=D5S n z p
 have i:=b.length_eq
 simp only[Z0k,A3C]at i
 refine A9V hs h rfl rfl ?_ (B1L c Q0 λk hk=>?_) ?_ Q0 ?_
 .refine(A2f _).2 ⟨A9H r1 Q0,λq hq=>?_,?_⟩
  .rcases Z0r.1 (a.mem_iff.1 hq)with rfl|hq
   .exact⟨t1,hz⟩
   .exact r2 q hq
  .refine((a.map kl).nodup_iff).2 ?_;rw[Z0w,Z1D];refine⟨λhm=>?_,r3⟩;obtain⟨k,hk,e⟩:=Z0H.1 hm;exact t2 k hk e
 .rcases Z0r.1 (a.mem_iff.1 hk)with rfl|hk
  .exact f
  .exact g9 k hk
 .have g:(A++A0T (A8V n z p)++B).Perm (A++A0T p++B++A0T z):=by refine((b.append_left A).append_right B).trans ?_;simp only[Z0F];refine Z2Z _ (Z2Z _ ?_);exact Z3E
  rw[h2];refine g.nodup_iff.2 ?_;rw[<-h1];exact hn
 .have l:=A5H (A8V n z) u p h;have:=hs.depth;have m:A1i (A8V n z p)<=max (A1i p) (1+A1i z):=by
   rw[A3y,A3y p];show A1L (p.kids.take n++z::p.kids.drop n)<=_
   conv=>rhs;rw[<-Z1b n p.kids]
   rw[A4s,A4s,A1L];omega
  omega
def C5N{lab:ByteArray}(h:A1o y=true)(hk:y.kind≠0)(hl:A1u lab=true):A1o (A5R lab y)=true:=by obtain⟨r1,r2,r3⟩:=(A2f y).1 h;refine(A2f _).2 ⟨?_,r2,r3⟩;obtain⟨a,k,l,hd,w,k0⟩:=y;have hk:k≠0:=hk;simp only[A2J,Z0h,Z0m]at r1|-;refine⟨r1.1,?_⟩;show(if k=0 then _ else A1u lab)=true;rw[Z0d hk];exact hl
def C9n{lab:ByteArray}(h:y.good)(hl:lab.size<=maxLen):(A5R lab y).good:=by obtain⟨g1,g2,g3,g4,g5,g6,g7,g8,g9⟩:=(A0a.good_iff _).1 h;exact(A0a.good_iff _).2 ⟨g1,g2,hl,g4,g5,g6,g7,g8,g9⟩
def C8B{i:Nat}{lab:ByteArray}(hs:A2w u)(hp:A5q x u p i)(hy:A0O x u=some y)(m:u.id≠x)(hl:A1u lab=true)(ht:A3W p (A5R lab y)≠10):A2w (A1v x (A5R lab) u):=by
 rw[C3I (A5R lab) u y hs.ids hy m p i hp];have d:=hp.lt;have b:=B3u hs.ids hp hy;have l:=A3e u p hp.find hs.right;have f:=A5L u p hp.find hs.good;obtain⟨r1,r2,r3⟩:=(A2f p).1 l;obtain⟨_,_,_,_,_,_,_,g8,g9⟩:=(A0a.good_iff _).1 f;have j:y∈p.kids:=by rw[<-b];exact Z0u d
 obtain⟨n1,n2⟩:=r2 y j;have r:A3W p (A5R lab y)=0:=by
  unfold A3W at ht|-;rw[Z0d (by rw[show(A5R lab y).kind=y.kind from rfl,n1];simp)]at ht|-;split at ht
  .exact absurd rfl ht
  .rename_i h;rw[Z0d h]
 obtain⟨t1,t2⟩:=B7Q r;obtain⟨e1,e2⟩:=A6B d (A5R lab y);rw[b]at e1;have g:A0T (A5R lab y)=A0T y:=by rw[A4J,A4J];rfl
 have a:A0T (B1M p (p.kids.set i (A5R lab y)))=A0T p:=by
  rw[A4J,A4J];show p.id::A2N (p.kids.set i (A5R lab y))=_;rw[e2]
  conv=>rhs;rw[e1]
  rw[A6i,A6i,A2N,A2N,g]
 have n:A1i (B1M p (p.kids.set i (A5R lab y)))=A1i p:=by
  rw[A3y,A3y];show A1L (p.kids.set i (A5R lab y))=_;rw[e2]
  conv=>rhs;rw[e1]
  rw[A4s,A4s,A1L,A1L,A3y (A5R lab y),A3y y];rfl
 have hc:A0x (B1M p (p.kids.set i (A5R lab y)))=A0x p:=by rw[<-A3C,<-A3C,a]
 have s:=B8t hl;have hm:maxLen=9223372036854775807:=rfl;refine A9V hs hp.find rfl rfl ?_ (B1L f (by rw[Z1N];exact g8) λk hk=>?_) ?_ ?_ ?_
 .refine(A2f _).2 ⟨A9H r1 (by rw[Z1N];exact B4G r1),λq hq=>?_,?_⟩
  .rcases Z2q hq with hq|rfl
   .exact r2 q hq
   .exact⟨t1,C5N n2 (B8n n1) hl⟩
  .show((p.kids.set i (A5R lab y)).map kl).Nodup;(have o:((p.kids.set i (A5R lab y)).map kl).Perm (kl (A5R lab y)::(p.kids.take i++p.kids.drop (i+1)).map kl):=by rw[e2];simp only[Z1c,Z0w];exact List.perm_middle);(have c:(p.kids.take i++p.kids.drop (i+1)).Sublist p.kids:=by rw[<-Z2r];exact Z4y _ _);refine o.nodup_iff.2 (Z1D.2 ⟨λhm=>?_,r3.sublist (c.map kl)⟩);obtain⟨k,hk,e⟩:=Z0H.1 hm;exact t2 k (c.subset hk) e
 .rcases Z2q hk with hk|rfl
  .exact g9 k hk
  .exact C9n (g9 y j) Q0
 .obtain⟨A,B,h1,h2⟩:=A9c (λp=>B1M p (p.kids.set i (A5R lab y))) u p hp.find;rw[h2,a,<-h1];exact hs.ids
 .show A0x (B1M p (p.kids.set i (A5R lab y)))+_<=_;rw[hc];have:=hs.count;omega
 .show _+A1i (B1M p (p.kids.set i (A5R lab y)))<=_;rw[n];have:=(A5H (B0s i) u p hp.find).2.1;have:=hs.depth;omega
end
open Go.Proofs TryTypes Tryz
def B7O{u y:A0a}{t:IdD}{w:Int}(hn:(A0T u).Nodup)(ht:A0O t u=some y)(h:(A2k u t w).2=0):∃p,A0O (A2k u t w).1.1 u=some p/\(A2k u t w).1.2<=p.kids.length:=by
 have hb:∀k≤1,(A2y u t k).2=0->∃p,A0O (A2y u t k).1.1 u=some p/\(A2y u t k).1.2<=p.kids.length:=λk hk h=>by
  rcases A9n t hn with e|⟨p,i,e⟩
  .rw[A2y,e]at h;simp at h
  .have h2:=e.lt;refine⟨p,?_,?_⟩
   .simp only[A2y,e.par];exact e.find
   .simp only[A2y,e.par,C8S,e.idx,Z3r];omega
 unfold A2k at h|-;split at h
 .rename_i h0;rw[Z0c h0];exact⟨y,ht,Q1⟩
 rename_i h0;rw[Z0d h0];split at h
 .rename_i h1;rw[Z0c h1];exact⟨y,ht,by simp[A5B,ht]⟩
 rename_i h1;rw[Z0d h1];split at h
 .rename_i h2;rw[Z0c h2];exact hb 1 Q0 h
 .rename_i h2;rw[Z0d h2];exact hb 0 Q0 h
def B5c{u:A0a}{p:List A1n}{w:Int}(hn:(A0T u).Nodup)(hv:A1O p=true)(h:(A5f u p w).2=0):∃y,A0O (A5f u p w).1.1 u=some y/\(A5f u p w).1.2<=y.kids.length:=by
 have a:A5f u p w=if(A2c u p).2=0 then(if(A2k u (A2c u p).1 w).2=0 then A2k u (A2c u p).1 w else((idZ,0),(A2k u (A2c u p).1 w).2))else((idZ,0),(A2c u p).2):=rfl;by_cases h1:(A2c u p).2=0
 .rw[Z0c h1]at a;by_cases h2:(A2k u (A2c u p).1 w).2=0
  .rw[Z0c h2]at a;rw[a];obtain⟨y,hy,_,_⟩:=A6M hn hv h1;exact B7O hn hy h2
  .rw[Z0d h2]at a;rw[a]at h;exact absurd h h2
 .rw[Z0d h1]at a;rw[a]at h;exact absurd h h1
def A9O{M1:Mem}{x:IdD}:A0k (some 3) (M1++[A0l.cells 23 [I 0,I 0,I 0],A0l.cells 3 [I 0]]) (.ptr M1.length 0) (.agg [I x.act,I x.item,I x.n])=some (M1++[A0l.cells 23 [I x.act,I x.item,I x.n],A0l.cells 3 [I 0]]):=by
 have:(M1++[A0l.cells 23 [I 0,I 0,I 0],A0l.cells 3 [I 0]])[M1.length]?=some (A0l.cells 23 [I 0,I 0,I 0]):=by simp
 rw[A0f this];simp[A0o,A0n,A0e]
def A9I{M1 M2:Mem}{x:IdD}{n:Nat}(h:M2=M1++[A0l.cells 23 [I x.act,I x.item,I x.n],A0l.cells 3 [I n]]):A0k (some 1) (M1++[A0l.cells 23 [I x.act,I x.item,I x.n],A0l.cells 3 [I 0]]) (.ptr (M1.length+1) 0) (I n)=some M2:=by
 have:(M1++[A0l.cells 23 [I x.act,I x.item,I x.n],A0l.cells 3 [I 0]])[M1.length+1]?=some (A0l.cells 3 [I 0]):=by simp[Z0Y]
 rw[A0f this];simp[A0e,h,List.set_append,AV.storable,AV.cells]
section
variable (gl:Nat->AV)
def C4v(u x:A0a)(t:IdD)(M:Mem)(hf:Fit u)(e:Fit x):A0c (WC gl) 129 [.agg u.row,.agg t.row,.agg x.row] M (λv M'=>v=B (B1o u t x)/\M'=M):=by
 have b:=λM=>C0V gl u t M hf;have k:=A5y t u;have o:=hf.2.2;have g:=λM=>B7v gl x M e.1 e.2.2;have m:=B8O x;have l:=e.2.2;have i:t.row=[I t.act,I t.item,I t.n]:=rfl;have c:(A1f t u).dropLast.reverse.map A0a.id=B0d t u:=rfl;have p:(B0d t u).length<=3000:=by rw[<-c];simp;omega
 rw[c]at b;have j:B1o u t x=decide (8<(B0d t u).length+1+A1i x):=rfl;rw[j];generalize B0d t u=a at*;have d:∀M,A0c (WC gl) 213 [.agg x.row] M (λv M'=>v=I (A1i x)/\M'=M):=λM=>(g M).mono λv M' h=>⟨by obtain⟨⟨y,h1,h2⟩,_⟩:=h;rw[h1,h2],h.2⟩;have w1:IntKind.i64.wrap ((a.length:Int)+1)=(a.length:Int)+1:=by rw[A0R Q0 Q0]
 have w2:IntKind.i64.wrap ((a.length:Int)+1+A1i x)=(a.length:Int)+1+A1i x:=by rw[A0R Q0 Q0]
 rw[i]at b|-;rw[x.row_eq]at d|-;rw[u.row_eq]at b|-;refine A0t hB func129 ?_;simp -dsimp -implicitDefEqProofs;refine A0Z hB (A0E gl) (λ_=>0) (λ_=>0) (by rfl) Q2 ?_;simp -dsimp -implicitDefEqProofs;refine A2p func212 b ?_;simp -dsimp -implicitDefEqProofs[w1];refine A2p func213 d ?_;by_cases hc:8<a.length+1+A1i x
 .have f:(8:Int)<(a.length:Int)+1+A1i x:=Q0;simp -dsimp -implicitDefEqProofs[w2,hc,f]
 .have f:¬(8:Int)<(a.length:Int)+1+A1i x:=Q0;simp -dsimp -implicitDefEqProofs[w2,hc,f]
def B7w(u:A0a)(M:Mem)(hg:u.good)(hc:A0x u<=3000):A0c (WC gl) 131 [.agg u.row] M (λv M'=>v=.list 3 (A6Y (A0T u)) .no/\M'=M):=A0c.still (enc:=IdD.row) (λ_=>rfl) C5O (D2n gl u M hg hc)
set_option maxHeartbeats 2000000 in
def C5e(b7:gl 2=A1C)(u y:A0a)(d:EnD)(M:Mem)(hf:Fit u)(hn:(A0T u).Nodup)(hk:d.it.h.kind=0)(hv:A1O d.it.h.at_=true)(hw:0<=d.it.h.where_/\d.it.h.where_<=3)
 (bd:Fit d.it.h.unit)(b6:wcU d.it.h.unit<=1000000000)(hx:Fit (A2U d.act d.item d.it.h.unit 0 0)):
 A0c (WC gl) 88 [.agg u.row,.agg y.row,.agg d.row] M (λv M'=>v=.tuple [.agg (B1F u d).1.row,I (B1F u d).2]/\M'=M):=by
 refine A0c.dataX ?_
 obtain⟨b,hb⟩:=ex (M.length)
 obtain⟨M1,a4⟩:=ex (M++[z8])
 have h1:M1[b]?=some z8:=by rw[a4,hb];simp
 have az:Grow M M1:=by rw[a4];exact A0d.app none _ _
 have i:=C5R gl u d.it M1 hf hn hk hv hw
 have av:=λh=>B5c (u:=u) (p:=d.it.h.at_) (w:=d.it.h.where_) hn hv h
 have a6:=λM=>D2R gl d.it.h.unit d.act d.item M bd b6
 obtain⟨x,au⟩:=ex (A2U d.act d.item d.it.h.unit 0 0)
 rw[<-au]at hx a6
 have b0:B1F u d=(let r:=A5f u d.it.h.at_ d.it.h.where_;if r.2≠0 then(u,r.2)else
  if A3W (A5B r.1.1 u) x≠0 then(u,A3W (A5B r.1.1 u) x)
  else if(decide (64<=(A5B r.1.1 u).kids.length)||B1o u r.1.1 x||decide (1024<A0x u+A0x x))=true then(u,6)
  else if(A0T x).any (λy=>(A0T u).any λz=>decide (z=y))=true then(u,5)
  else(A1v r.1.1 (A8V r.1.2 x) u,0)):=by rw[au];rfl
 rw[b0]
 clear b0
 generalize A5f u d.it.h.at_ d.it.h.where_=r at*
 obtain⟨⟨t,n⟩,e⟩:=r
 simp only at i av|-
 have ap:t.row=[I t.act,I t.item,I t.n]:=rfl
 obtain⟨M2,a1⟩:=ex (M1++[A0l.cells 23 [I t.act,I t.item,I t.n],A0l.cells 3 [I n]])
 obtain⟨p,hp⟩:=ex (M1.length)
 have ac:M2[p]?=some (A0l.cells 23 [I t.act,I t.item,I t.n]):=by rw[a1,hp];simp
 have b4:M2[p+1]?=some (A0l.cells 3 [I n]):=by rw[a1,hp];simp[Z0Y]
 have ai:Grow M1 M2:=by rw[a1];exact A0d.app none _ _
 have h2:=ai.get h1 Q1
 have b2:b<M2.length:=(Z0a.1 h2).1
 have j:=A1I b u
 rw[u.row_eq]at j
 rw[ap]at i
 have hdr:d.row=I d.act::I d.item::I d.day::d.it.row:=rfl
 rw[hdr]
 rw[d.it.row_eq,A1Q.row]at i|-
 by_cases he:e=0
 case neg=>rw[Z0c he];rw[u.row_eq]at i|-;rw[y.row_eq];refine A0t hB func88 ?_;simp -dsimp -implicitDefEqProofs[A0j];rw[<-a4,<-hb];refine A0h func126 i ?_;simp -dsimp -implicitDefEqProofs[A0j,A9O,A9I a1,he,A0f h2,A0o,A0n,A0r b2,A0g];refine⟨A0u (az.trans ai) Q0,.tuple (.same ?_ (.same trivial .nil)) .nil⟩;simp only[bdd];exact j
 rw[Z0d (λh=>h he)]
 obtain⟨q,hq,b8⟩:=av he
 have b9:A5B t u=q:=by simp[A5B,hq]
 rw[b9]
 have ad:Fit q:=A7v u hf q (A2K hq).2
 have ar:=A8j ad
 have o:=B1J gl u t M2 hf
 rw[hq]at o
 obtain⟨s,hs⟩:=ex (M2.length)
 obtain⟨M3,ah⟩:=ex (M2++[A0l.cells 30 [I q.id.act,I q.id.item,I q.id.n,I q.kind,S q.label,.list 4 (A0i q.head) .no,.list 4 (A0i q.words) .no,.list 8 (A0q q.kids) .no]])
 have b5:M3[s]?=some (A0l.cells 30 [I q.id.act,I q.id.item,I q.id.n,I q.kind,S q.label,.list 4 (A0i q.head) .no,.list 4 (A0i q.words) .no,.list 8 (A0q q.kids) .no]):=by rw[ah,hs];simp
 have bb:Grow M2 M3:=by rw[ah];exact A0d.app none _ _
 obtain⟨r,hr⟩:=ex (M3.length)
 obtain⟨M4,aa⟩:=ex (M3++[A0l.cells 30 [I x.id.act,I x.id.item,I x.id.n,I x.kind,S x.label,.list 4 (A0i x.head) .no,.list 4 (A0i x.words) .no,.list 8 (A0q x.kids) .no]])
 have l:M4[r]?=some (A0l.cells 30 [I x.id.act,I x.id.item,I x.id.n,I x.kind,S x.label,.list 4 (A0i x.head) .no,.list 4 (A0i x.words) .no,.list 8 (A0q x.kids) .no]):=by rw[aa,hr];simp
 have aw:Grow M3 M4:=by rw[aa];exact A0d.app none _ _
 have f:=bb.trans aw
 have h4:=f.get h2 Q1
 have a5:b<M4.length:=(Z0a.1 h4).1
 have ab:=aw.get b5 Q1
 have aq:=f.get ac Q1
 have g:Grow M M4:=(az.trans ai).trans f
 have ae:=B7h gl b7 q x M4 ar
 have c:=λM=>C4v gl u x t M hf hx
 have a7:=λM=>B8T gl u M hf.1 hf.2.2
 have a9:=λM=>B8T gl x M hx.1 hx.2.2
 have bf:=hf.2.2
 have be:=hx.2.2
 obtain⟨z,hz⟩:=ex (M4.length)
 obtain⟨iu,an⟩:=ex (A0T u)
 obtain⟨ix,al⟩:=ex (A0T x)
 obtain⟨M5,aj⟩:=ex (M4++[A0l.cells 61 [.list 3 (A6Y iu) .no]])
 have bc:M5[z]?=some (A0l.cells 61 [.list 3 (A6Y iu) .no]):=by rw[aj,hz];simp
 have a2:Grow M4 M5:=by rw[aj];exact A0d.app none _ _
 have m:=B7w gl u M4 hf.1 hf.2.2
 have a0:=B7w gl x M5 hx.1 hx.2.2
 rw[<-an]at m|-
 rw[<-al]at a0|-
 have ao:iu.length<=3000:=by rw[an,A3C];exact hf.2.2
 have am:ix.length<=3000:=by rw[al,A3C];exact hx.2.2
 have b1:=D5n gl (λy=>iu.any λz=>decide (z=y)) 133 [.ptr z 0] ix .no M5 am (λy _=>A0m func133 rfl rfl (C5G gl iu y z M5 ao bc))
 have p1:=(f.trans a2).get ac Q1
 have p2:=(f.trans a2).get b4 Q1
 have r1:=a2.get l Q1
 have h5:=a2.get h4 Q1
 have ax:b<M5.length:=(Z0a.1 h5).1
 have a8:Grow M M5:=g.trans a2
 have a3:=A8p gl u t 136 [.ptr (p+1) 0,.ptr r 0] (A8V n x) M5 hf (λa ha=>by rw[hq]at ha;obtain rfl:=Z1t ha;exact D9C gl q x n b8 ar (p+1) r M5 p2 (by rw[x.row_eq];exact r1))
 generalize A1v t (A8V n x) u=R at*
 have ay:=A1I b R
 have w1:IntKind.i64.wrap ((A0x u:Int)+A0x x)=(A0x u:Int)+A0x x:=by rw[A0R Q0 Q0]
 have ba:=x.row_eq
 have b3:=d.it.h.unit.row_eq
 rw[ap]at o c a3
 rw[A4z,q.row_eq]at o
 rw[ba]at a6 ae c a9 a0
 rw[b3]at a6
 rw[q.row_eq]at ae
 rw[R.row_eq]at a3 ay
 rw[u.row_eq]at i o c a7 m a3|-
 rw[y.row_eq]
 have af:A0k (some 1) (M4++[A0l.cells 61 [A0B]]) (.ptr M4.length 0) (.list 3 (A6Y iu) .no)=some M5:=by
  have:(M4++[A0l.cells 61 [A0B]])[M4.length]?=some (A0l.cells 61 [A0B]):=by simp
  rw[A0f this];simp[A0e,aj,AV.storable,AV.cells]
 refine A0t hB func88 ?_
 simp -dsimp -implicitDefEqProofs[A0j]
 rw[<-a4,<-hb]
 refine A0h func126 i ?_
 simp -dsimp -implicitDefEqProofs[A0j,A9O,A9I a1,he]
 rw[<-hp]
 simp -dsimp -implicitDefEqProofs[A0b ac]
 refine A0h func63 o ?_
 simp -dsimp -implicitDefEqProofs[A0j,B3d ah]
 rw[<-hs]
 refine A0h func127 (a6 M3) ?_
 simp -dsimp -implicitDefEqProofs[A0j,B3d aa]
 rw[<-hr]
 simp -dsimp -implicitDefEqProofs[A0b ab,A0b l]
 refine A0h func128 ae ?_
 by_cases ht:A3W q x=0
 case neg=>rw[Z0c ht,u.row_eq];simp -dsimp -implicitDefEqProofs[ht,A0f h4,A0o,A0n,A0r a5,A0g];refine⟨A0u g Q0,.tuple (.same ?_ (.same trivial .nil)) .nil⟩;simp only[bdd];exact j
 rw[Z0d (λh=>h ht)]
 simp -dsimp -implicitDefEqProofs[ht]
 refine A0Z hB (A0E gl) (λk=>if k=1\/k=6\/k=7\/k=13 then 1 else 0) (λk=>if k=1 then s else if k=6 then p else r) (by rfl) Q2 ?_
 by_cases c1:64<=q.kids.length
 .have ag:(64:Int)<=q.kids.length:=Q0;rw[Z0c (by simp[c1]),u.row_eq];simp -dsimp -implicitDefEqProofs[A0b ab,A0b l,A0b aq,A1g,A5S,ag];simp -dsimp -implicitDefEqProofs[A0f h4,A0o,A0n,A0r a5,A0g];refine⟨A0u g Q0,.tuple (.same ?_ (.same trivial .nil)) .nil⟩;simp only[bdd];exact j
 have ag:¬(64:Int)<=q.kids.length:=Q0
 simp -dsimp -implicitDefEqProofs[A0b ab,A0b l,A0b aq,A1g,A5S,ag]
 refine A2p func129 c ?_
 cases c2:B1o u t x
 case true=>rw[Z0c Q1,u.row_eq];simp -dsimp -implicitDefEqProofs[A0f h4,A0o,A0n,A0r a5,A0g];refine⟨A0u g Q0,.tuple (.same ?_ (.same trivial .nil)) .nil⟩;simp only[bdd];exact j
 simp -dsimp -implicitDefEqProofs
 refine A2p func130 a7 ?_
 simp -dsimp -implicitDefEqProofs[A0b l,A1g,A5S]
 refine A2p func130 a9 ?_
 by_cases c3:1024<A0x u+A0x x
 .have ak:(1024:Int)<(A0x u:Int)+A0x x:=Q0;rw[Z0c (by simp[c3]),u.row_eq];simp -dsimp -implicitDefEqProofs[w1,ak];simp -dsimp -implicitDefEqProofs[A0f h4,A0o,A0n,A0r a5,A0g];refine⟨A0u g Q0,.tuple (.same ?_ (.same trivial .nil)) .nil⟩;simp only[bdd];exact j
 have ak:¬(1024:Int)<(A0x u:Int)+A0x x:=Q0
 rw[Z0d (by simp only[Z1V,Z0m,Z4r];exact⟨⟨c1,Q1⟩,c3⟩)]
 simp -dsimp -implicitDefEqProofs[w1,ak]
 refine A0h func131 m ?_
 simp -dsimp -implicitDefEqProofs[A0j,af]
 rw[<-hz]
 simp -dsimp -implicitDefEqProofs[A0b r1]
 refine A0h func131 a0 ?_
 simp -dsimp -implicitDefEqProofs
 refine A0h func132 b1 ?_
 cases c4:ix.any λy=>iu.any λz=>decide (z=y)
 case true=>rw[Z0c rfl,u.row_eq];simp -dsimp -implicitDefEqProofs[A0f h5,A0o,A0n,A0r ax,A0g];refine⟨A0u a8 Q0,.tuple (.same ?_ (.same trivial .nil)) .nil⟩;simp only[bdd];exact j
 rw[Z0d Q1,R.row_eq]
 simp -dsimp -implicitDefEqProofs[A0b p1]
 refine A0h func135 a3 ?_
 simp -dsimp -implicitDefEqProofs[A0f h5,A0o,A0n,A0r ax,A0g]
 refine⟨A0u a8 Q0,.tuple (.same ?_ (.same trivial .nil)) .nil⟩
 simp only[bdd];exact ay
end
def B1s{u v w:A0a}(hv:v∈A2a u)(hw:w∈A2a v):w∈A2a u:=C1D (λz=>z∈A2a u) (λz hz k hk=>A7c u z hz k hk) v hv w hw
def C7g{u v:A0a}(hv:v∈A2a u){a:IdD}(ha:a∈A0T v):a∈A0T u:=by rw[<-A5n]at ha;obtain⟨w,hw,rfl⟩:=Z0H.1 ha;exact A6Q (B1s hv hw)
def B1u{u v:A0a}(h:v∈A2a u):v=u\/∃j,∃hj:j<u.kids.length,v∈A2a (u.kids[j]'hj):=by
 obtain⟨a,b,c,d,e,ks⟩:=u;rw[A2a]at h;rcases Z0r.1 h with rfl|h
 .exact .inl rfl
 .obtain⟨k,hk,hq⟩:=B8Z h;obtain⟨j,hj,rfl⟩:=List.getElem_of_mem hk;exact .inr ⟨j,hj,hq⟩
def B3D{u k v:A0a}(hk:k∈u.kids)(h:v∈A2a k):v∈A2a u:=B1s (A7c u u (A4A u) k hk) h
def D0F{a:IdD}{u T:A0a}(h:A0O a u=some T):a∈A0T u:=by obtain⟨h1,h2⟩:=A2K h;rw[<-h1];exact A6Q h2
def B7R{t:IdD}:∀(u T X:A0a),(A0T u).Nodup->A0O t u=some T->X∈A2a u->t∈A0T X->X∈A1f t u:=by
 intro u T X hn h hX ht;rcases A2M (λu=>u) h with⟨e,rfl,_,r⟩|⟨j,s⟩
 .rw[r];rcases B1u hX with rfl|⟨m,hm,hq⟩
  .simp
  .exact absurd (by rw[e];exact C7g hq ht) (C0g hn hm)
 .have hj:=s.lt;have a:=A4S hj;rw[s.route];rcases B1u hX with rfl|⟨m,hm,hq⟩
  .simp
  .have:m=j:=B3c hn hm hj (C7g hq ht) (D0F s.find);subst this;exact Z1y _ (B7R _ T X (C0I hn (Z0u hj)) s.find hq ht)
termination_by u=>SizeOf.sizeOf u
def D7e{t:IdD}{u T X:A0a}(hn:(A0T u).Nodup)(h:A0O t u=some T)(hX:X∈A2a u)(ht:t∈A0T X)(b:t≠X.id):X.id∈B0d t u:=by
 have hr:=B7R u T X hn h hX ht;have hl:(A1f t u).getLast?=some T:=by rw[<-A3z];exact h
 have a:=B6x h;rw[List.getLast?_eq_some_getLast a]at hl;simp only[Z0b]at hl;rw[<-Z3O a,hl]at hr;unfold B0d;rcases Z0T.1 hr with hr|hr
 .exact Z0H.2 ⟨X,List.mem_reverse.2 hr,rfl⟩
 .have:X=T:=by simpa using hr
  subst this;exact absurd (A2K h).1.symm b
def C2v{x:IdD}(f:A0a->A0a):∀(u p:A0a),A0O x u=some p->(∀q∈A2a u,q∈A2a p\/∃q'∈A2a (A1v x f u),q'.id=q.id/\q'.kids.length=q.kids.length)/\∀q∈A2a (f p),q∈A2a (A1v x f u):=by
 intro u p h;rcases A2M f h with⟨_,rfl,e,_⟩|⟨i,s⟩
 .rw[e];exact⟨λq hq=>.inl hq,λq hq=>hq⟩
 .have hi:=s.lt;have c:=A4S hi;obtain⟨h1,h2⟩:=C2v f _ p s.find;rw[s.eq];obtain⟨e1,e2⟩:=A6B hi (A1v x f u.kids[i]);have a:A1v x f u.kids[i]∈(B1M u (u.kids.set i (A1v x f u.kids[i]))).kids:=by show _∈u.kids.set i _;rw[e2];simp
  constructor
  .intro q hq;rcases B1u hq with rfl|⟨m,hm,hq⟩
   .refine .inr ⟨_,A4A _,rfl,?_⟩;show(List.set _ _ _).length=_;rw[Z1N]
   .by_cases hmi:m=i
    .subst hmi;rcases h1 q hq with h1|⟨q',h1,h3⟩
     .exact .inl h1
     .exact .inr ⟨q',B3D a h1,h3⟩
    .refine .inr ⟨q,B3D ?_ hq,rfl,rfl⟩;show _∈u.kids.set i _;(have b:m<(u.kids.set i (A1v x f u.kids[i])).length:=by rw[Z1N];exact hm);have:=Z0u b;rw[List.getElem_set_ne (λe=>hmi e.symm)]at this;exact this
  .intro q hq;exact B3D a (h2 q hq)
termination_by u=>SizeOf.sizeOf u
def D6c{u p X:A0a}{x:IdD}{i:Nat}(hs:A2w u)(hp:A5q x u p i)(hX:A0O x u=some X){q:A0a}(hq:q∈A2a u)(g:q.id≠p.id)(j:q.id∉A0T X):∃q',A0O q.id (A1T x u)=some q'/\q'.kids.length=q.kids.length:=by
 have hw:A1T x u=A1v p.id (B0s i) u:=by unfold A1T;rw[hp.parI]
 have hn:=(A9y hs hp hX).1.ids
 have k:=hp.lt
 have e:=B3u hs.ids hp hX
 obtain⟨h1,h2⟩:=C2v (B0s i) u p hp.find
 rw[<-hw]at h1 h2
 suffices∃q'∈A2a (A1T x u),q'.id=q.id/\q'.kids.length=q.kids.length by obtain⟨q',a,b,c⟩:=this;exact⟨q',by rw[<-b];exact A8u hn a,c⟩
 rcases h1 q hq with h1|h1
 .rcases B1u h1 with rfl|⟨m,hm,d⟩
  .exact absurd rfl g
  ·(have f:m≠i:=by rintro rfl;rw[e]at d;exact j (A6Q d));refine⟨q,h2 q (B3D ?_ d),rfl,rfl⟩;show _∈p.kids.eraseIdx i;exact List.mem_eraseIdx_iff_getElem.2 ⟨m,hm,f,rfl⟩
 .exact h1
def D0E{u T X:A0a}{t:IdD}{w:Int}(hn:(A0T u).Nodup)(ht:A0O t u=some T)(hX:X∈A2a u)(c:t≠X.id)(ha:X.id∉B0d t u)(h:(A2k u t w).2=0):(A2k u t w).1.1∉A0T X:=by
 have key:t∉A0T X:=λe=>ha (D7e hn ht hX e c);have a:∀k,(A2y u t k).2=0->(A2y u t k).1.1∉A0T X:=by
  intro k h;unfold A2y at h|-;cases hp:A7s t u with
  |none=>rw[hp]at h;exact absurd (show(9:Int)=0 from h) (by decide)
  |some P=>show P.id∉A0T X;intro e;obtain⟨h1,y,h2,h3⟩:=B1B t u P hp;rw[<-A5n]at e;obtain⟨P',b,e⟩:=Z0H.1 e;have e1:=A8u hn h1;have e2:=A8u hn (B1s hX b);rw[e,e1]at e2;simp only[Z0b]at e2;subst e2;refine key ?_;rw[<-h3];exact A6Q (B1s b (A7c P P (A4A P) y h2))
 unfold A2k at h|-;split at h
 .rename_i e;rw[Z0c e];exact key
 .rename_i e;rw[Z0d e];split at h
  .rename_i e;rw[Z0c e];exact key
  .rename_i e;rw[Z0d e];split at h
   .rename_i e;rw[Z0c e];exact a 1 h
   .rename_i e;rw[Z0d e];exact a 0 h
def C9U{u p X T:A0a}{x t:IdD}{i:Nat}{w:Int}(hs:A2w u)(hp:A5q x u p i)(hX:A0O x u=some X)(ht:A0O t u=some T)(h:(A7V u x t w).2=0):∃q,A0O (A7V u x t w).1.1 (A1T x u)=some q/\(A7V u x t w).1.2<=q.kids.length:=by
 obtain⟨g,n⟩:=A2K hX
 have a:=(A9y hs hp hX).2.2
 have k:=hp.lt
 have f:(B0s i p).kids.length=p.kids.length-1:=by show(p.kids.eraseIdx i).length=_;rw[List.length_eraseIdx,Z0c k]
 unfold A7V at h|-
 rw[hp.parI]at h|-
 split at h
 .exact absurd h (by decide)
 .rename_i c1;rw[Z0d c1];simp only[Z4r,not_and]at c1;split at h
  .rename_i e;rw[Z0c e];exact⟨_,a,by rw[f];show i<=_;omega⟩
  .rename_i e;rw[Z0d e];have ha:x∉B0d t u:=c1.2.1 e;have b:(A2k u t w).2=0:=by
    simp only at h;split at h
    .rename_i c;exact c.1
    .exact h
   obtain⟨P,hP,o⟩:=B7O hs.ids ht b;have j:=D0E hs.ids ht n (by rw[g];exact e) (by rw[g];exact ha) b;obtain⟨d,l⟩:=A2K hP;simp only;by_cases hpe:(A2k u t w).1.1=p.id
   ·(have m:P=p:=by rw[hpe,hp.find]at hP;simpa using hP.symm);subst m;by_cases hlt2:i<(A2k u t w).1.2
    .rw[Z0c ⟨b,hpe,hlt2⟩];refine⟨_,by show A0O (A2k u t w).1.1 _=_;rw[hpe];exact a,?_⟩;rw[f];show(A2k u t w).1.2-1<=_;omega
    .rw[Z0d (λc=>hlt2 c.2.2)];exact⟨_,by rw[hpe];exact a,by rw[f];omega⟩
   .rw[Z0d (λc=>hpe c.2.1)];obtain⟨q',h1,h2⟩:=D6c hs hp hX l (by rw[d];exact hpe) (by rw[d];exact j);rw[d]at h1;exact⟨q',h1,Q0⟩
section
variable (gl:Nat->AV)
set_option maxHeartbeats 2000000 in
def D2Z(b0:gl 2=A1C)(u x pp:A0a)(i:Nat)(d:EnD)(M:Mem)(hf:Fit u)(hn:(A0T u).Nodup)(hk:d.it.h.kind=6)(hv:A1O d.it.h.at_=true)(aw:A1O d.it.h.to=true)(hw:0<=d.it.h.where_/\d.it.h.where_<=3)
 (a4:A5q x.id u pp i)(ap:Fit pp)(b3:Fit x)(a3:Fit (A1T x.id u))(an:(A8d u d.it.h).2=0->∃p,A0O (A8d u d.it.h).1.1 (A1T x.id u)=some p/\(A8d u d.it.h).1.2<=p.kids.length):
 A0c (WC gl) 94 [.agg u.row,.agg x.row,.agg d.row] M (λv M'=>v=.tuple [.agg (B7p u x d.it.h).1.row,I (B7p u x d.it.h).2]/\M'=M):=by
 refine A0c.dataX ?_
 obtain⟨b,hb⟩:=ex (M.length)
 obtain⟨M1,a1⟩:=ex (M++[z8])
 have h1:M1[b]?=some z8:=by rw[a1,hb];simp
 have aq:Grow M M1:=by rw[a1];exact A0d.app none _ _
 have j:=C5w gl u d.it M1 hf hn hk hv aw hw
 have ar:B7p u x d.it.h=(let r:=A8d u d.it.h;if r.2≠0 then(u,r.2)else
  if A3W (A5B r.1.1 (A1T x.id u)) x≠0 then(u,A3W (A5B r.1.1 (A1T x.id u)) x)
  else if((decide (r.1.1≠pp.id)&&decide (64<=(A5B r.1.1 (A1T x.id u)).kids.length))||B1o (A1T x.id u) r.1.1 x)=true then(u,6)
  else(A1v r.1.1 (A8V r.1.2 x) (A1T x.id u),0)):=by unfold B7p;rw[a4.parI]
 rw[ar]
 clear ar
 generalize A8d u d.it.h=r at*
 obtain⟨⟨t,n⟩,e⟩:=r
 simp only at j an|-
 have ah:t.row=[I t.act,I t.item,I t.n]:=rfl
 have al:x.id.row=[I x.id.act,I x.id.item,I x.id.n]:=rfl
 have am:pp.id.row=[I pp.id.act,I pp.id.item,I pp.id.n]:=rfl
 obtain⟨M2,a0⟩:=ex (M1++[A0l.cells 23 [I t.act,I t.item,I t.n],A0l.cells 3 [I n]])
 obtain⟨p,hp⟩:=ex (M1.length)
 have ak:M2[p]?=some (A0l.cells 23 [I t.act,I t.item,I t.n]):=by rw[a0,hp];simp
 have ay:M2[p+1]?=some (A0l.cells 3 [I n]):=by rw[a0,hp];simp[Z0Y]
 have ad:Grow M1 M2:=by rw[a0];exact A0d.app none _ _
 have h2:=ad.get h1 Q1
 have ax:b<M2.length:=(Z0a.1 h2).1
 have m:=A1I b u
 rw[u.row_eq]at m
 rw[ah]at j
 have hdr:d.row=I d.act::I d.item::I d.day::d.it.row:=rfl
 rw[hdr]
 rw[d.it.row_eq,A1Q.row]at j|-
 by_cases he:e=0
 case neg=>rw[Z0c he];rw[u.row_eq]at j|-;rw[x.row_eq];refine A0t hB func94 ?_;simp -dsimp -implicitDefEqProofs[A0j];rw[<-a1,<-hb];refine A0h func126 j ?_;simp -dsimp -implicitDefEqProofs[A0j,A9O,A9I a0,he,A0f h2,A0o,A0n,A0r ax,A0g];refine⟨A0u (aq.trans ad) Q0,.tuple (.same ?_ (.same trivial .nil)) .nil⟩;simp only[bdd];exact m
 rw[Z0d (λh=>h he)]
 obtain⟨q,hq,b1⟩:=an he
 have z:=A9w gl u x.id M2 hf
 rw[B3q a4.par,a4.idx,al,am]at z
 obtain⟨M3,aa⟩:=ex (M2++[A0l.cells 23 [I pp.id.act,I pp.id.item,I pp.id.n]])
 obtain⟨w,ai⟩:=ex (M2.length)
 have av:M3[w]?=some (A0l.cells 23 [I pp.id.act,I pp.id.item,I pp.id.n]):=by rw[aa,ai];simp
 have ao:Grow M2 M3:=by rw[aa];exact A0d.app none _ _
 have a2:=B8D gl u x.id pp i M3 hf a4 ap
 generalize A1T x.id u=R0 at*
 have b2:A5B t R0=q:=by simp[A5B,hq]
 rw[b2]
 have a7:Fit q:=A7v R0 a3 q (A2K hq).2
 have aj:=A8j a7
 obtain⟨M4,a6⟩:=ex (M3++[A0l.cells 30 [I R0.id.act,I R0.id.item,I R0.id.n,I R0.kind,S R0.label,.list 4 (A0i R0.head) .no,.list 4 (A0i R0.words) .no,.list 8 (A0q R0.kids) .no]])
 obtain⟨s,hs⟩:=ex (M3.length)
 have ag:M4[s]?=some (A0l.cells 30 [I R0.id.act,I R0.id.item,I R0.id.n,I R0.kind,S R0.label,.list 4 (A0i R0.head) .no,.list 4 (A0i R0.words) .no,.list 8 (A0q R0.kids) .no]):=by rw[a6,hs];simp
 have ab:Grow M3 M4:=by rw[a6];exact A0d.app none _ _
 have y:=B1J gl R0 t M4 a3
 rw[hq]at y
 obtain⟨M5,ae⟩:=ex (M4++[A0l.cells 30 [I q.id.act,I q.id.item,I q.id.n,I q.kind,S q.label,.list 4 (A0i q.head) .no,.list 4 (A0i q.words) .no,.list 8 (A0q q.kids) .no]])
 obtain⟨r,hr⟩:=ex (M4.length)
 have a5:M5[r]?=some (A0l.cells 30 [I q.id.act,I q.id.item,I q.id.n,I q.kind,S q.label,.list 4 (A0i q.head) .no,.list 4 (A0i q.words) .no,.list 8 (A0q q.kids) .no]):=by rw[ae,hr];simp
 have af:Grow M4 M5:=by rw[ae];exact A0d.app none _ _
 have k:=(ao.trans ab).trans af
 have p4:=(ao.trans ab).get ak Q1
 have p5:=k.get ak Q1
 have az:=k.get ay Q1
 have w5:=(ab.trans af).get av Q1
 have s5:=af.get ag Q1
 have h5:=k.get h2 Q1
 have o:b<M5.length:=(Z0a.1 h5).1
 have f:Grow M M5:=(aq.trans ad).trans k
 have a8:=B7h gl b0 q x M5 aj
 have c:=C4v gl R0 x t M5 a3 b3
 have l:=A8p gl R0 t 147 [.ptr (p+1) 0,.cptr x.row] (A8V n x) M5 a3 (λa ha=>by rw[hq]at ha;obtain rfl:=Z1t ha;exact D9J gl q x n b1 aj (p+1) M5 az)
 generalize A1v t (A8V n x) R0=R at*
 have ac:=A1I b R
 have g:=C7K t pp.id
 rw[ah]at y c l
 rw[al]at a2
 rw[A4z,q.row_eq]at y
 rw[R.row_eq]at l ac
 rw[x.row_eq]at a8 c l
 rw[q.row_eq]at a8
 rw[R0.row_eq]at a2 y c l
 rw[u.row_eq]at j z a2|-
 rw[x.row_eq]
 refine A0t hB func94 ?_
 simp -dsimp -implicitDefEqProofs[A0j]
 rw[<-a1,<-hb]
 refine A0h func126 j ?_
 simp -dsimp -implicitDefEqProofs[A0j,A9O,A9I a0,he]
 rw[<-hp]
 refine A0h func145 z ?_
 simp -dsimp -implicitDefEqProofs[A0j,A7y aa]
 rw[<-ai]
 refine A0h func138 a2 ?_
 simp -dsimp -implicitDefEqProofs[A0j,B3d a6]
 rw[<-hs]
 simp -dsimp -implicitDefEqProofs[A0b ag,A0b p4]
 refine A0h func63 y ?_
 simp -dsimp -implicitDefEqProofs[A0j,B3d ae]
 rw[<-hr]
 simp -dsimp -implicitDefEqProofs[A0b a5]
 refine A0h func128 a8 ?_
 by_cases ht:A3W q x=0
 case neg=>rw[Z0c ht,u.row_eq];simp -dsimp -implicitDefEqProofs[ht,A0f h5,A0o,A0n,A0r o,A0g];refine⟨A0u f Q0,.tuple (.same ?_ (.same trivial .nil)) .nil⟩;simp only[bdd];exact m
 rw[Z0d (λh=>h ht)]
 simp -dsimp -implicitDefEqProofs[ht,A0b p5,A0b w5]
 by_cases c0:t≠pp.id/\64<=q.kids.length
 .obtain⟨c0,c1⟩:=c0;have a9:(64:Int)<=q.kids.length:=Q0;rw[Z0I c0]at g;rw[Z0c (by simp[c0,c1]),u.row_eq];simp -dsimp -implicitDefEqProofs[g,A0b a5,a9,A0f h5,A0o,A0n,A0r o,A0g];refine⟨A0u f Q0,.tuple (.same ?_ (.same trivial .nil)) .nil⟩;simp only[bdd];exact m
 have au:(decide (t≠pp.id)&&decide (64<=q.kids.length))=false:=by rw[Z3q];intro h;rw[Z0h,Z0m,Z0m]at h;exact c0 h
 rw[au,Z2J]
 by_cases c2:t=pp.id
 .rw[Z0B c2]at g;simp -dsimp -implicitDefEqProofs[g,A0b s5,A0b p5];refine A0h func129 c ?_;cases c4:B1o R0 t x;case true=>rw[Z0c rfl,u.row_eq];simp -dsimp -implicitDefEqProofs[A0f h5,A0o,A0n,A0r o,A0g];refine⟨A0u f Q0,.tuple (.same ?_ (.same trivial .nil)) .nil⟩;simp only[bdd];exact m
  rw[Z0d Q1,R.row_eq];simp -dsimp -implicitDefEqProofs[A0b s5,A0b p5];refine A0h func135 l ?_;simp -dsimp -implicitDefEqProofs[A0f h5,A0o,A0n,A0r o,A0g];refine⟨A0u f Q0,.tuple (.same ?_ (.same trivial .nil)) .nil⟩;simp only[bdd];exact ac
 .rw[Z0I c2]at g;have a9:¬(64:Int)<=q.kids.length:=λh=>c0 ⟨c2,Q0⟩;simp -dsimp -implicitDefEqProofs[g,A0b a5,a9,A0b s5,A0b p5];refine A0h func129 c ?_;cases c4:B1o R0 t x;case true=>rw[Z0c rfl,u.row_eq];simp -dsimp -implicitDefEqProofs[A0f h5,A0o,A0n,A0r o,A0g];refine⟨A0u f Q0,.tuple (.same ?_ (.same trivial .nil)) .nil⟩;simp only[bdd];exact m
  rw[Z0d Q1,R.row_eq];simp -dsimp -implicitDefEqProofs[A0b s5,A0b p5];refine A0h func135 l ?_;simp -dsimp -implicitDefEqProofs[A0f h5,A0o,A0n,A0r o,A0g];refine⟨A0u f Q0,.tuple (.same ?_ (.same trivial .nil)) .nil⟩;simp only[bdd];exact ac
end
def doF(k:Int):FuncId:=(88+k).toNat
def D8d{k:Int}(h:A1d k=true):A4Y doL k=some (doF k):=by simp only[A1d,Z0h,Z0m]at h;have:k=0\/k=1\/k=2\/k=3\/k=4\/k=5\/k=6:=Q0;rcases this with rfl|rfl|rfl|rfl|rfl|rfl|rfl<;>rfl
def D2b{M:Mem}{b:Nat}(h:M[b]?=some (.map doE 7)){k:Int}(hk:A1d k=true):A1S prog 119 M (.mapr b) (I k) true=some (.tuple [fnV (doF k),B true]):=by rw[D5s h k,D8d hk,hk]
section
variable (gl:Nat->AV)
set_option maxHeartbeats 2000000 in
def D2N(az:gl 0=.cptr [fnV 336,fnV 337])(b1:gl 2=A1C)(b2:gl 8=A1U)(u:A0a)(d:EnD)(M:Mem)(hf:Fit u)(hn:(A0T u).Nodup)(hk:A1d d.kind=true)(hs:B0n d.it)
 (hD:A2A d.it=true->(A2c u d.it.h.at_).2=0->(A2c u d.it.h.at_).1≠u.id\/d.kind=0->∀x,A0O (A2c u d.it.h.at_).1 u=some x->∀M,A3E (WC gl) (doF d.kind) [.agg u.row,.agg x.row,.agg d.row] M (λv M'=>v=.tuple [.agg (B2f u x d).1.row,I (B2f u x d).2]/\M'=M)):
 A0c (WC gl) 37 [.agg u.row,.agg d.row] M (λv M'=>v=.tuple [.agg (A6w u d).1.row,I (A6w u d).2]/\M'=M):=by
 refine A0c.dataX ?_
 obtain⟨b,hb⟩:=ex (M.length)
 obtain⟨M1,a6⟩:=ex (M++[z8])
 have h1:M1[b]?=some z8:=by rw[a6,hb];simp
 have ap:Grow M M1:=by rw[a6];exact A0d.app none _ _
 obtain⟨m,hm⟩:=ex (M1.length)
 obtain⟨M2,aa⟩:=ex (M1++[A0l.map doE 7])
 have b0:M2[m]?=some (.map doE 7):=by rw[aa,hm];simp
 have l:Grow M1 M2:=by rw[aa];exact A0d.app none _ _
 have h2:=l.get h1 Q1
 have ae:b<M2.length:=(Z0a.1 h2).1
 have ad:=D3d gl M1
 rw[<-aa,<-hm]at ad
 have ag:=C5a gl az b1 b2 d.it M2 hk hs
 have al:=A1I b u
 have af:A6w u d=if A2A d.it=false then(u,1)else if(A2c u d.it.h.at_).2≠0 then(u,(A2c u d.it.h.at_).2)
  else if(A2c u d.it.h.at_).1≠u.id\/d.kind=0 then B2f u (A5B (A2c u d.it.h.at_).1 u) d
  else if d.kind=6/\(A2c u d.it.h.to).2≠0 then(u,(A2c u d.it.h.to).2)else(u,9):=rfl
 rw[af]
 clear af
 have hdr:d.row=I d.act::I d.item::I d.day::d.it.row:=rfl
 have ay:=D2b b0 hk
 have c:=λhv=>B1y gl u d.it.h.at_ M2 hf hn hv
 have g:=λhv M=>B1y gl u d.it.h.to M hf hn hv
 have au:A2A d.it=true->A1O d.it.h.at_=true:=λh=>by simp only[A2A,Z0h]at h;exact h.1.1.2.1.1
 have av:A2A d.it=true->d.kind=6->A1O d.it.h.to=true:=λh a9=>by have a9:d.it.h.kind=6:=a9;simp only[A2A,Z0h]at h;have h2:=h.2;simp only[A7p,a9]at h2;simp at h2;exact h2.2
 have ah:=λhv h=>A6M (u:=u) (p:=d.it.h.at_) hn hv h
 generalize A2c u d.it.h.at_=O at*
 obtain⟨x,e⟩:=O
 have am:x.row=[I x.act,I x.item,I x.n]:=rfl
 simp only at c hD ah|-
 rw[hdr]
 rw[hdr]at hD
 rw[d.it.row_eq,A1Q.row]at ag hD|-
 rw[u.row_eq]at al c g hD|-
 rw[am]at c
 have f:∀(Mx:Mem) (n:Int),Grow M Mx->b<Mx.length->Grow M (Mx.set b (.cells 30 [I u.id.act,I u.id.item,I u.id.n,I u.kind,S u.label,.list 4 (A0i u.head) .no,.list 4 (A0i u.words) .no,.list 8 (A0q u.kids) .no]))/\Still (Mx.set b (.cells 30 [I u.id.act,I u.id.item,I u.id.n,I u.kind,S u.label,.list 4 (A0i u.head) .no,.list 4 (A0i u.words) .no,.list 8 (A0q u.kids) .no])) b (bdd b) [.tuple [.agg [I u.id.act,I u.id.item,I u.id.n,I u.kind,S u.label,.list 4 (A0i u.head) .no,.list 4 (A0i u.words) .no,.list 8 (A0q u.kids) .no],I n]] [.tuple [.agg [I u.id.act,I u.id.item,I u.id.n,I u.kind,S u.label,.list 4 (A0i u.head) .no,.list 4 (A0i u.words) .no,.list 8 (A0q u.kids) .no],I n]]:=λMx n hg hl=>by refine⟨A0u hg Q0,.tuple (.same ?_ (.same trivial .nil)) .nil⟩;simp only[bdd];exact al
 refine A0t hB func37 ?_
 simp -dsimp -implicitDefEqProofs[A0j]
 rw[<-a6,<-hb]
 refine B1d hB (A0E gl) (λk=>if k=0 then 2 else if k=4 then 1 else 0) (λ_=>m) (λk=>k==4) [] (by intro i h1 h2;simp only[Z1P,ne_eq]at h1 h2;by_cases h0:i=0<;>simp[h0,h2]at h1) (by rfl) Q2 ?_
 simp -dsimp -implicitDefEqProofs
 refine A5x (A0m func61 rfl rfl ad) ?_
 simp -dsimp -implicitDefEqProofs[ay,A1g]
 refine A0h func62 ag ?_
 cases hvi:A2A d.it with
 |false=>
  rw[Z0c rfl,u.row_eq]
  simp -dsimp -implicitDefEqProofs[A0f h2,A0o,A0n,A0r ae,A0g]
  exact f M2 1 (ap.trans l) ae
 |true=>
 have a2:=au hvi
 rw[Z0d Q1]
 simp -dsimp -implicitDefEqProofs
 refine A0h func9 (c a2) ?_
 obtain⟨q,hq⟩:=ex (M2.length)
 obtain⟨M3,a7⟩:=ex (M2++[A0l.cells 23 [I x.act,I x.item,I x.n]])
 have ai:M3[q]?=some (A0l.cells 23 [I x.act,I x.item,I x.n]):=by rw[a7,hq];simp
 have an:Grow M2 M3:=by rw[a7];exact A0d.app none _ _
 have h3:=an.get h2 Q1
 have aq:b<M3.length:=(Z0a.1 h3).1
 have a1:Grow M M3:=(ap.trans l).trans an
 simp -dsimp -implicitDefEqProofs[A0j,A7y a7]
 rw[<-hq]
 by_cases he:e=0
 case neg=>rw[Z0c he,u.row_eq];simp -dsimp -implicitDefEqProofs[he,A0f h3,A0o,A0n,A0r aq,A0g];exact f M3 e a1 aq
 simp -dsimp -implicitDefEqProofs[he,A0b ai]
 rw[Z0d (λh=>h he)]
 obtain⟨y,hy,_,b3⟩:=ah a2 he
 have aw:A5B x u=y:=by simp[A5B,hy]
 rw[aw]
 have aj:=B1J gl u x M3 hf
 rw[hy,am,A4z,y.row_eq,u.row_eq]at aj
 obtain⟨r,hr⟩:=ex (M3.length)
 obtain⟨M4,a5⟩:=ex (M3++[A0l.cells 30 [I y.id.act,I y.id.item,I y.id.n,I y.kind,S y.label,.list 4 (A0i y.head) .no,.list 4 (A0i y.words) .no,.list 8 (A0q y.kids) .no]])
 have ak:M4[r]?=some (A0l.cells 30 [I y.id.act,I y.id.item,I y.id.n,I y.kind,S y.label,.list 4 (A0i y.head) .no,.list 4 (A0i y.words) .no,.list 8 (A0q y.kids) .no]):=by rw[a5,hr];simp
 have a8:Grow M3 M4:=by rw[a5];exact A0d.app none _ _
 have h4:=a8.get h3 Q1
 have s:=a8.get ai Q1
 have o:b<M4.length:=(Z0a.1 h4).1
 have j:Grow M M4:=a1.trans a8
 have a:=C7K x u.id
 refine A0h func63 aj ?_
 simp -dsimp -implicitDefEqProofs[A0j,B3d a5]
 rw[<-hr]
 by_cases hc:x≠u.id\/d.kind=0
 .rw[Z0c hc];have a4:=hD hvi he hc y hy M4;generalize B2f u y d=R at*;have ao:=A1I b R.1;rw[y.row_eq,R.1.row_eq]at a4;rw[R.1.row_eq]at ao|-;have a3:Grow M (M4.set b (.cells 30 [I R.1.id.act,I R.1.id.item,I R.1.id.n,I R.1.kind,S R.1.label,.list 4 (A0i R.1.head) .no,.list 4 (A0i R.1.words) .no,.list 8 (A0q R.1.kids) .no]))/\Still (M4.set b (.cells 30 [I R.1.id.act,I R.1.id.item,I R.1.id.n,I R.1.kind,S R.1.label,.list 4 (A0i R.1.head) .no,.list 4 (A0i R.1.words) .no,.list 8 (A0q R.1.kids) .no])) b (bdd b) [.tuple [.agg [I R.1.id.act,I R.1.id.item,I R.1.id.n,I R.1.kind,S R.1.label,.list 4 (A0i R.1.head) .no,.list 4 (A0i R.1.words) .no,.list 8 (A0q R.1.kids) .no],I R.2]] [.tuple [.agg [I R.1.id.act,I R.1.id.item,I R.1.id.n,I R.1.kind,S R.1.label,.list 4 (A0i R.1.head) .no,.list 4 (A0i R.1.words) .no,.list 8 (A0q R.1.kids) .no],I R.2]]:=by refine⟨A0u j Q0,.tuple (.same ?_ (.same trivial .nil)) .nil⟩;simp only[bdd];exact ao
  by_cases hx:x=u.id
  .have z:d.it.h.kind=0:=hc.elim (λh=>absurd hx h) (λh=>h);have ek:=Z2o z;rw[Z0B hx]at a;simp -dsimp -implicitDefEqProofs[A0b s,a,ek,A0b ak];refine A0v a4 ?_;rintro _ _ ⟨rfl,e⟩;rw[e];simp -dsimp -implicitDefEqProofs[A0f h4,A0o,A0n,A0r o,A0g];exact a3
  .rw[Z0I hx]at a;simp -dsimp -implicitDefEqProofs[A0b s,a,A0b ak];refine A0v a4 ?_;rintro _ _ ⟨rfl,e⟩;rw[e];simp -dsimp -implicitDefEqProofs[A0f h4,A0o,A0n,A0r o,A0g];exact a3
 rw[Z0d hc]
 have hx:x=u.id:=Z3e λh=>hc (.inl h)
 have z:¬d.it.h.kind=0:=λh=>hc (.inr h)
 rw[Z0B hx]at a
 by_cases h6:d.it.h.kind=6
 case neg=>have e0:=Z3B z;have e6:=Z3B h6;rw[Z0d (λh=>h6 h.1),u.row_eq];simp -dsimp -implicitDefEqProofs[A0b s,a,e0,e6,A0f h4,A0o,A0n,A0r o,A0g];exact f M4 9 j o
 have e0:=Z3B z
 have e6:=Z2o h6
 have ac:=g (av hvi h6) M4
 generalize A2c u d.it.h.to=O2 at*
 obtain⟨t,e2⟩:=O2
 have ax:t.row=[I t.act,I t.item,I t.n]:=rfl
 simp only at ac
 rw[ax]at ac
 obtain⟨M5,ab⟩:=ex (M4++[A0l.cells 23 [I t.act,I t.item,I t.n]])
 have ar:Grow M4 M5:=by rw[ab];exact A0d.app none _ _
 have h5:=ar.get h4 Q1
 have w:b<M5.length:=(Z0a.1 h5).1
 have a0:Grow M M5:=j.trans ar
 simp -dsimp -implicitDefEqProofs[A0b s,a,e0,e6]
 refine A0h func9 ac ?_
 by_cases he2:e2=0
 .rw[Z0d (λh=>h.2 he2),u.row_eq];simp -dsimp -implicitDefEqProofs[A0j,A7y ab,he2,A0f h5,A0o,A0n,A0r w,A0g];exact f M5 9 a0 w
 .rw[Z0c ⟨h6,he2⟩,u.row_eq];simp -dsimp -implicitDefEqProofs[A0j,A7y ab,he2,A0f h5,A0o,A0n,A0r w,A0g];exact f M5 e2 a0 w
end
end Go.Abs
