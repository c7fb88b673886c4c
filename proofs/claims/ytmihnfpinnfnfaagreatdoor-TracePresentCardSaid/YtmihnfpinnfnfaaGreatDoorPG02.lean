/- The texts AbsF, AbsF2, AbsG, AbsH, AbsI. -/
import Derived.Test.YtmihnfpinnfnfaaGreatDoorPG01
set_option linter.all false
namespace Go.Abs
abbrev B6O(G:A0p)(sz:Nat)(rows:List (List AV))(base:Option Addr)(cap:Nat):Prop:=match base with|none=>rows=[]/\cap=0|some a=>(rows≠[]->a.spot=none)/\A0C G sz rows a.block a.off
def A5m{G}{sz}{rows}{own}{base}{n cap}(hn:n=rows.length)(h1:rows.length<=cap)(h2:cap<=maxLen)(h3:B6O G sz rows base cap)(h4:A5G G own rows.length base cap):Rep G (.list sz rows own) (.slice base n cap):=by
 subst hn
 simp only[Rep]
 exact⟨base,cap,rfl,h1,h2,h3,h4⟩
def B6O.mono{G G'}(h:G.le G'){sz}{rows}{base}{cap}(k:B6O G sz rows base cap):B6O G' sz rows base cap:=by
 cases base with
 |none=>exact k
 |some a=>exact⟨k.1,A0C.mono h sz rows _ _ k.2⟩
def Inv.adopt{C}{G}{M}{w}(hi:Inv C G M w){n sz}{base}(hn:n<=maxLen):∃G',Inv C G' (M++[.fam n sz]) w/\G.le G'/\M.length<G'.n/\G'.top M.length=n/\G'.hdr M.length n=(base,n):=by
 have hm:=hi.more w.heap.size (λ_=>(base,n)) n
 have hk:(M++[A0l.gone])[M.length]?=some .gone:=by simp
 have e1:(G.more w.heap.size (λ_=>(base,n)) n).hdr M.length n=(base,n):=by simp[A0p.more,hi.n]
 have e2:(G.more w.heap.size (λ_=>(base,n)) n).top M.length=n:=by simp[A0p.more,hi.n]
 have hs:=hm.step (w':=w) (o':=.fam n sz) M.length w.heap.size hk (.inr (Z0j _)) (.refl _) rfl (λ_=>rfl) (λ_ _=>⟨rfl,rfl⟩) (λ_ _ _ h=>.inl h) (λ_=>rfl) (λ_ _ _=>rfl) (λi v h=>hi.st _ _ _ h) (λo h=>by have:=hi.keep_lt (b:=w.heap.size) (o:=o) h;omega) ⟨e2,by rw[e1];exact Z0j _,by rw[e1];exact hn,λh=>by rw[e1]at h;simp at h⟩ (λb h=>by simp[A2D,e1]at h)
 exact⟨_,by simpa using hs,G.le_more _ _ _,by simp[A0p.more,hi.n],e2,e1⟩
def A0C.grown{G G'}(b:G.le G'){sz nb o}{rows}{vs}(hr:A0s G rows.flatten vs)(h1:∀v∈vs,v.oneCell'=true)(c:∀r∈rows,r.length=sz) (a:∀(i:Nat) (v:Value),vs[i]?=some v->G'.st nb (o+i)=some v):A0C G' sz rows nb o:=A0C.mk c (A0Q.mk (A0s.mono b _ _ hr) h1 a)
def C1F{C}{G}{M}{w}(hi:Inv C G M w){s x}{sv xv}(hs:Rep G s sv)(hx:Rep G x xv){sz bytes}(bz:B2I sz s)(c5:B2I sz x)
 {hint}{r}{M'}(h:A9p hint sz s x M=some (r,M')){t u e:TypeId}(ty:TypeId)(ht:A1b C.P t=some e)(hu:A4l C.P u)(he:A3X C.P e sz bytes)
 (hb:(A6P s+A6P x)*bytes<=140737488355328):
 ∃v w' G',(Builtin.append_ #[t,u] ty #[sv,xv]).run C.P w=.ok v w'/\G.le G'/\Inv C G' M' w'/\Rep G' r v/\Ext w w':=by
 have ht:=A2i ht
 obtain⟨i,z,ah,hz,ag,bs,bu,bb⟩:=he
 have b4:A1j C.P e=some sz:=by simp[A1j,ah,ag]
 unfold A9p at h
 split at h
 case h_2=>simp at h
 rename_i r1 own r2 own2 e1 e2
 obtain⟨base,cap,rfl,b8,af,au,ae⟩:=B7S hi hs e1 bz
 obtain⟨a5,a9,rfl,c7,c8,c0,c9⟩:=B7S hi hx e2 c5
 obtain⟨a0,bt,ab,bc,bn,bp⟩:=B2W hi (cap:=cap) au
 obtain⟨c,br,a1,am,bo,be⟩:=B2W hi (cap:=a9) c0
 have c4:(r1.length+r2.length)*bytes<=140737488355328:=by simpa[A6P,e1,e2]using hb
 have bg:r1.length+r2.length<=maxLen:=by have:r1.length+r2.length<=(r1.length+r2.length)*bytes:=Z1Z _ bb;simp only[maxLen];omega
 have ap:A0s G (r1++r2).flatten (a0++c):=by rw[List.flatten_append];exact bt.append br
 have a4:∀v∈a0++c,v.oneCell'=true:=λv hv=>by
  rcases Z0T.1 hv with h|h
  .exact bc v h
  .exact am v h
 have ac:∀q∈r1++r2,q.length=sz:=λv hv=>by
  rcases Z0T.1 hv with h|h
  .exact bn v h
  .exact bo v h
 have ax:(a0++c).length=(r1.length+r2.length)*sz:=by rw[Z0k,ab,a1,Z0Q]
 by_cases hm:r2.length=0
 ·-- nothing is appended
  have bm:r2=[]:=Z0v hm;subst bm;have c3:(Builtin.firstCells sz 0 (.slice a5 ([]:List (List AV)).length a9)).run C.P w=.ok #[] w:=by have:=be w rfl;have hv:c=[]:=Z0v (by simpa using a1);subst hv;exact this
  have k:=A9A (P:=C.P) (ty:=ty) (s:=.bool true) (base:=base) (n:=r1.length) (cap:=cap) (x:=.slice a5 ([]:List (List AV)).length a9) ht b4 hu (λw=>A5Q _ _ _ _ _) c3 b8;simp only[Z1g,Z1n,Z0S]at h;cases own with
  |no=>simp at h
  |full=>
   simp only[A5G]at ae;subst ae;simp only at h;split at h
   .simp only[Z0b,Z0g]at h;obtain⟨rfl,rfl⟩:=h;obtain⟨G',p,l,y,q1,q2⟩:=hi.adopt (n:=r1.length) (sz:=sz) (base:=base) af;exact⟨_,w,G',k,l,p,A5m rfl (Z0j _) af (B6O.mono l au) ⟨y,Q0,q2⟩,.refl _⟩
   .simp only[Z0b,Z0g]at h;obtain⟨rfl,rfl⟩:=h;exact⟨_,w,G,k,.refl _,hi,A5m rfl b8 af au trivial,.refl _⟩
  |fam f=>
   simp only at h;split at h
   .rename_i m sz' hf;split at h
    .rename_i hcond;obtain⟨rfl,rfl⟩:=hcond;simp only[Z0b,Z0g]at h;obtain⟨rfl,rfl⟩:=h;(have hM:M.set f (.fam r1.length sz')=M:=by have y:=A0N hf;rw[Z0i y]at hf;have:=Z1t hf;rw[<-this];exact Z3C y);rw[hM];exact⟨_,w,G,k,.refl _,hi,A5m rfl b8 af au ae,.refl _⟩
    .simp at h
   .simp at h
 .by_cases hroom:r1.length+r2.length<=cap
  ·-- in place
   cases own with
   |no=>simp at h
   |full=>simp only[A5G]at ae;omega
   |fam f=>
    simp only at h;split at h;(case h_2=>simp at h);rename_i m sz' hf;split at h;(case isFalse=>simp at h);rename_i hcond;obtain⟨rfl,rfl⟩:=hcond;simp only[Z0b,Z0g]at h;obtain⟨rfl,rfl⟩:=h;obtain⟨aj,c6,bf⟩:=ae;obtain⟨aa,ad,bq,bi⟩:=hi.obj f _ hf;rw[bf]at ad bq bi;obtain⟨g,a3,ct,an,hg,b3,al,aq⟩:=bi (by show r1.length<cap;omega);simp only at an b3;subst an;(have b9:r1.length*sz'+c.length<=a3.size:=by rw[a1,<-Z0Q];exact Z0L (Z0U _ hroom) b3);have k:=C1U (P:=C.P) (ty:=ty) (g:=g) (n:=r1.length) (cap:=cap) (x:=.slice a5 r2.length a9) (m:=r2.length) ht b4 hu (λw=>A5Q _ _ _ _ _) (be w rfl) hroom hg b9 am;generalize ba:w.setRow g (a3.toList.take (r1.length*sz')++c++a3.toList.drop (r1.length*sz'+c.length)).toArray=w' at k;(have ak:w'.heap[g]?=some (.cells (a3.toList.take (r1.length*sz')++c++a3.toList.drop (r1.length*sz'+c.length)).toArray ct (0,0)):=by rw[<-ba];exact Z2E w g a3 _ ct _ hg);(have bv:(a3.toList.take (r1.length*sz')).length=r1.length*sz':=by rw[Z0s];simp;omega);(have ao:∀i:Nat,w'.cell? ⟨g,i,none⟩=(a3.toList.take (r1.length*sz')++c++a3.toList.drop (r1.length*sz'+c.length))[i]?:=by intro i;rw[Z2P _ _ _ _ _ _ ak];simp);(have bl:∀i:Nat,i<r1.length*sz'->w'.cell? ⟨g,i,none⟩=w.cell? ⟨g,i,none⟩:=by intro i p;rw[ao,Z2P _ _ _ _ _ _ hg,Z0F,Z0n Q0,Z0x,Z0c p];simp);(have bd:∀i v,r1.length*sz'<=i->c[i-r1.length*sz']?=some v->w'.cell? ⟨g,i,none⟩=some v:=by intro i v p hv;have y:=A0N hv;rw[ao,Z0F,Z1q Q0,bv,Z0n y];exact hv);have b2:∀i v,G.st g i=some v->i<r1.length*sz':=by
     intro i v hv;rcases Z4d i (r1.length*sz')with h|h
     .exact h
     .rw[al i h]at hv;simp at hv
    have l:G.le (G.grow f (r1.length+r2.length) (some ⟨g,0,none⟩,cap) g (r1.length*sz') c):=A0p.le_grow (.inl Q0) (λi v h1 h2 hv=>by have:=b2 i v hv;omega);(have d:(G.grow f (r1.length+r2.length) (some ⟨g,0,none⟩,cap) g (r1.length*sz') c).hdr f (r1.length+r2.length)=(some ⟨g,0,none⟩,cap):=by simp[A0p.grow]);(have bw:A2D G f (.fam r1.length sz') g:=by simp only[A2D,bf];exact⟨Q0,_,rfl,rfl⟩);have p:=hi.step (w':=w') (o':=.fam (r1.length+r2.length) sz') f g hf (.inl bw) l rfl (λ_=>rfl) (λj hj=>by simp[A0p.grow,hj])
     (λb i v hv=>by
      simp only[A0p.grow]at hv;split at hv
      .rename_i hc;obtain⟨rfl,c1,c2⟩:=hc;exact .inr ⟨rfl,bd i v c1 hv⟩
      .exact .inl hv)
     (λ_=>rfl) (λb _ hne=>by rw[<-ba];exact Z2f _ _ _ _ hne) (λi v hv=>by rw[bl i (b2 i v hv)];exact hi.st _ _ _ hv) (λo ho=>by rw[aq]at ho;simp at ho)
     ⟨by
      simp[A0p.grow],by rw[d];exact hroom,by rw[d];exact af,λy=>⟨g,_,ct,by rw[d],ak,by
      rw[d];simp only[Z1o,Z0k,Z0s,Z0G,Z0W];omega,λi p=>by simp only[A0p.grow];rw[Z0d (by rw[a1,<-Z0Q];omega)];exact al i (Z0L (Z0U _ (Nat.le_add_right _ _)) p),aq⟩⟩
     (λb hb=>.inl (by simp only[A2D,d,Z0b]at hb;obtain⟨_,a,rfl,rfl⟩:=hb;rfl))
    refine⟨_,w',_,k,l,p,?_,by rw[<-ba];exact Ext.setRow _ _ _⟩;refine A5m Q1 (by simpa using hroom) af ⟨λ_=>rfl,?_⟩ ⟨by exact aj,by simp[A0p.grow],by simpa using d⟩;refine A0C.grown l ap a4 ac (λi v hv=>?_);simp only[Z0P,A0p.grow];by_cases y:i<a0.length
    .rw[Z0n y]at hv;rw[Z0d Q0];obtain⟨_,ai⟩:=au;obtain⟨us,q1,q2,q3,q4⟩:=(A0C.flat ai).1.vals;(have bx:us=a0:=by have b7:=bp w rfl;have bj:=Z2c (P:=C.P) w sz' r1.length ⟨g,0,none⟩ r1.length cap us (by rw[q2,(A0C.flat ai).2]) (λj v hv=>by rw[Z1h];exact hi.st _ _ _ (q4 j v hv));rw[bj]at b7;simp at b7;exact b7);subst bx;simpa using q4 i v hv
    .rw[Z1q Q0]at hv;have:=A0N hv;rw[Z0c ⟨trivial,Q0,Q0⟩,<-ab];exact hv
  ·-- a new block
   have k:=A9L (P:=C.P) (ty:=ty) (base:=base) (n:=r1.length) (cap:=cap) (x:=.slice a5 r2.length a9) (m:=r2.length) (w:=w) (i:=i) (z:=z) (e:=e) (t:=t) (u:=u) (news:=c) (olds:=a0) ht ah hz hu (λw=>A5Q _ _ _ _ _) (by rw[ag];exact be w.drew rfl) (by rw[ag];exact bp w.drew rfl) Q0 (by rw[bs];exact c4) bg;have ay:=Z3s w (r1.length+r2.length) cap e;have b1:=Z2H w (r1.length+r2.length) cap e bg;generalize grownCap w (r1.length+r2.length) cap e=nc at k ay b1;generalize b6:a0.toArray++c.toArray++Builtin.zeroCells z.cells (nc-(r1.length+r2.length))=a6 at k;(have b0:a6.size=nc*sz:=by rw[<-b6];simp only[Z3p,Z1o,Z3L,bu,ab,a1,<-Z0Q];congr 1;omega);(have a8:∀(i:Nat) (v:Value),(a0++c)[i]?=some v->a6[i]?=some v:=by intro i v hv;have y:=A0N hv;rw[<-b6,Z3U (by simp at y|-;omega),<-hv];simp);have aw:Inv C G M w.drew:=hi.world rfl;have av:Ext w (w.drew.alloc (.cells a6 e)):=(Ext.drew w).trans (Ext.alloc _ _);have a2:=Z1U w.drew (.cells a6 e);have a7:∀(G1:A0p) (M1:Mem) (f:Nat) (o:A0l),Inv C G1 M1 w.drew->G.le G1->M1[f]?=some o->f<G1.n->(G1.top f<r1.length+r2.length\/(∀h,G1.top f=r1.length+r2.length/\G1.hdr f (r1.length+r2.length)=h->True)/\G1.top f<r1.length+r2.length)->
    ∃G',G.le G'/\Inv C G' (M1.set f (.fam (r1.length+r2.length) sz)) (w.drew.alloc (.cells a6 e))/\Rep G' (.list sz (r1++r2) (.fam f)) (.slice (some ⟨w.heap.size,0,none⟩) (r1.length+r2.length) nc):=by
    intro G1 M1 f o az ad hf aj aa
    have aa:G1.top f<r1.length+r2.length:=by rcases aa with h|h;exact h;exact h.2
    have l:G1.le (G1.grow f (r1.length+r2.length) (some ⟨w.heap.size,0,none⟩,nc) w.heap.size 0 (a0++c)):=A0p.le_grow (.inl aa) (λi v _ _ hv=>by have:=az.st_lt hv;simp at this)
    have d:(G1.grow f (r1.length+r2.length) (some ⟨w.heap.size,0,none⟩,nc) w.heap.size 0 (a0++c)).hdr f (r1.length+r2.length)=(some ⟨w.heap.size,0,none⟩,nc):=by simp[A0p.grow]
    have b5:∀i,G1.st w.heap.size i=none:=by
     intro i;cases h:G1.st w.heap.size i with
     |none=>rfl
     |some v=>have:=az.st_lt h;simp at this
    have bk:∀o,G1.keep w.heap.size≠some o:=by intro o h;have:=az.keep_lt h;simp at this
    have p:=az.step (w':=w.drew.alloc (.cells a6 e)) (o':=.fam (r1.length+r2.length) sz) f w.heap.size hf (.inr Q1) l rfl (λ_=>rfl) (λj hj=>by simp[A0p.grow,hj])
     (λb i v hv=>by
      simp only[A0p.grow]at hv;split at hv
      .rename_i hc;obtain⟨rfl,c1,c2⟩:=hc;refine .inr ⟨rfl,?_⟩;rw[Z2P _ _ _ _ _ _ (by simpa using a2)];exact a8 i v (by simpa using hv)
      .exact .inl hv)
     (λ_=>rfl) (λb y _=>A2E w.drew _ b (by simpa using y)) (λi v hv=>by rw[b5]at hv;simp at hv) bk
     ⟨by
      simp[A0p.grow],by rw[d];exact ay,by rw[d];exact b1,λy=>⟨w.heap.size,a6,e,by rw[d],by simpa using a2,by rw[d,b0];exact Z0j _,λi p=>by
      simp only[A0p.grow];rw[Z0d (by rw[ax];omega)];exact b5 i,by
      cases h:G1.keep w.heap.size with
      |none=>exact h
      |some o=>exact absurd h (bk o)⟩⟩
     (λb hb=>.inl (by simp only[A2D,d,Z0b]at hb;obtain⟨_,a,rfl,rfl⟩:=hb;rfl))
    refine⟨_,ad.trans l,p,?_⟩
    refine A5m Q1 (by simpa using ay) b1 ⟨λ_=>rfl,?_⟩ ⟨aj,by simp[A0p.grow],by simpa using d⟩
    refine A0C.grown (ad.trans l) ap a4 ac (λi v hv=>?_)
    have:=A0N hv
    simp only[Z0P,A0p.grow]
    rw[Z0c ⟨trivial,Q0,Q0⟩]
    simpa using hv
   cases own with
   |no=>simp at h
   |full=>
    simp only at h;split at h
    .simp only[Z0b,Z0g]at h;obtain⟨rfl,rfl⟩:=h;have bh:=aw.more 0 (λ_=>(none,0)) 0;obtain⟨G',l,p,ar⟩:=a7 _ (M++[.gone]) M.length .gone bh (G.le_more _ _ _) Q1 (by simp[A0p.more,hi.n]) (.inl (by simp[A0p.more,hi.n];omega));exact⟨_,_,G',k,l,by simpa using p,ar,av⟩
    .simp only[Z0b,Z0g]at h;obtain⟨rfl,rfl⟩:=h;have l:=A0p.le_fix aw (a0++c);refine⟨_,_,_,k,l,aw.fix a6 e (a0++c) a8,?_,av⟩;refine A5m Q1 (by simpa using ay) b1 ⟨λ_=>rfl,?_⟩ trivial;refine A0C.grown l ap a4 ac (λi v hv=>?_);simp only[Z0P,A0p.fix];rw[Z0c (show w.heap.size=w.drew.heap.size from rfl)];exact hv
   |fam f=>simp only at h;split at h;(case h_2=>simp at h);rename_i m sz' hf;split at h;(case isFalse=>simp at h);rename_i hcond;obtain⟨rfl,rfl⟩:=hcond;simp only[Z0b,Z0g]at h;obtain⟨rfl,rfl⟩:=h;obtain⟨aj,c6,bf⟩:=ae;obtain⟨aa,_⟩:=hi.obj f _ hf;obtain⟨G',l,p,ar⟩:=a7 G M f _ aw (.refl _) hf aj (.inl Q0);exact⟨_,_,G',k,l,p,ar,av⟩
def B9q{P}{t u e:TypeId}{ty:TypeId}{sz}{x}{g o n cap m}{w}(ht:P.underlying t=some (.slice e))(f:A1j P e=some sz)
 (hu:A4l P u)(hx:∀w,(Builtin.lenOf x).run P w=.ok m w)
 {news}(d:(Builtin.firstCells sz m x).run P w=.ok news.toArray w)(c:n+m<=cap){cur}{ct:TypeId}(hg:w.heap[g]?=some (.cells cur ct (0,0)))
 (b:o+n*sz+news.length<=cur.size)(h1:∀v∈news,v.oneCell'=true):
 (Builtin.append_ #[t,u] ty #[.slice (some ⟨g,o,none⟩) n cap,x]).run P w=.ok (.slice (some ⟨g,o,none⟩) (n+m) cap) (w.setRow g (cur.toList.take (o+n*sz)++news++cur.toList.drop (o+n*sz+news.length)).toArray):=by
 obtain⟨e2,hu⟩|hu:=hu
 all_goals
  have a:=Z2x P g (o+n*sz) ct news 0 cur w hg (by simpa using b) h1
  simp only[Z0S]at a
  simp[Builtin.append_,Z0p ht,Z0p hu,A1N f,hx,d,c,a,Z1h]
def A0D(M:Mem)(sz:Nat):AV->Option (List AV×Nat)
 |.val (.slice none 0 0)=>some ([],0)
 |.val (.string s)=>if sz=1 then some (s.data.toList.map λb=>.val (.int .u8 b.toNat),s.size)else none
 |.list s rows _=>if s=sz then some (rows.flatten,rows.length)else none
 |.vref f h s lo len=>match M[f]? with
  |some (.vec _ s' cs _ hist)=>match hist.lookup h with
   |some n=>if s=sz/\s'=sz/\lo+len<=n then some ((cs.drop (lo*sz)).take (len*sz),len)else none
   |none=>none
  |_=>none
 |_=>none
def B2P{P}(s:ByteArray)(w:World):(Builtin.firstCells 1 s.size (.string s)).run P w=.ok (s.data.map λb=>.int .u8 b.toNat) w:=by
 have e:s.extract 0 s.size=s:=by simp
 simp[Builtin.firstCells,e]
def A7o{C}{G}{M}{w}(hi:Inv C G M w){x}{xv}{sz m}{news}(hr:Rep G x xv)(h:A0D M sz x=some (news,m)):∃vs:List Value,A0s G news vs/\vs.length=m*sz/\(∀v∈vs,v.oneCell'=true)/\(∀w,(Builtin.lenOf xv).run C.P w=.ok m w)/\∀w',w'.heap=w.heap->(Builtin.firstCells sz m xv).run C.P w'=.ok vs.toArray w':=by
 unfold A0D at h
 split at h
 .simp only[Z0b,Z0g]at h;obtain⟨rfl,rfl⟩:=h;simp only[Rep]at hr;subst hr;exact⟨[],by simp[A0s],Q1,Q1,λw=>A5Q _ _ _ _ _,λw' _=>by simp[Builtin.firstCells]⟩
 .rename_i s;split at h
  .rename_i hs;subst hs;simp only[Z0b,Z0g]at h;obtain⟨rfl,rfl⟩:=h;simp only[Rep]at hr;subst hr;refine⟨s.data.toList.map λb=>.int .u8 b.toNat,?_,by simp only[Z0N,Z3t];rfl,?_,λw=>rfl,λw' _=>?_⟩
   .refine A0s.of_get Q1 ?_;intro i c y h1 h2;simp only[Z1i,Z0l]at h1 h2;obtain⟨a,ha,rfl⟩:=h1;obtain⟨b,hb,rfl⟩:=h2;rw[ha]at hb;simp only[Z0b]at hb;subst hb;simp[Rep]
   .intro v hv;simp only[Z0H]at hv;obtain⟨_,_,rfl⟩:=hv;rfl
   .rw[B2P];congr 1;apply Z1K;simp
  .simp at h
 .rename_i s rows own;split at h
  .rename_i hs;subst hs;simp only[Z0b,Z0g]at h;obtain⟨rfl,rfl⟩:=h;simp only[Rep]at hr;obtain⟨base,cap,rfl,_,_,hb,_⟩:=hr;obtain⟨vs,h1,h2,h3,_,h5⟩:=B2W hi (cap:=cap) hb;exact⟨vs,h1,h2,h3,λw=>A5Q _ _ _ _ _,h5⟩
  .simp at h
 .rename_i f h' s lo len;split at h
  .rename_i ty s' cs g hist hM;split at h
   .rename_i n hn;split at h
    .rename_i hc;obtain⟨rfl,rfl,e⟩:=hc;simp only[Z0b,Z0g]at h;obtain⟨rfl,rfl⟩:=h;simp only[Rep]at hr;obtain⟨hf,hg,a,a',cap,hd,u,r,rfl,p,_,q⟩:=hr;obtain⟨_,p2,_⟩:=hi.obj f _ hM;obtain⟨_,q0,b,o,t,vs,q1,q2,q3,q4,q5,q6,q7,q8,q9⟩:=p2 h' n (A2o hn);rw[hd]at q1;simp only[Z0g,Z0b]at q1;obtain⟨rfl,rfl⟩:=q1;(have e1:(((vs.toList.drop o).take (n*s')).drop (lo*s')).take (len*s')=(vs.toList.drop (o+lo*s')).take (len*s'):=by rw[Z2C,Z2l,Z1T,Z1C];(have:lo*s'+len*s'<=n*s':=by rw[<-Z0Q];exact Z0U _ e);omega);(have e2:((cs.take (n*s')).drop (lo*s')).take (len*s')=(cs.drop (lo*s')).take (len*s'):=by rw[Z2C,Z1T,Z1C];(have:lo*s'+len*s'<=n*s':=by rw[<-Z0Q];exact Z0U _ e);omega);have hR:=(q6.drop (lo*s')).take (len*s');rw[e1,e2]at hR;(have d:((vs.toList.drop (o+lo*s')).take (len*s')).length=len*s':=by simp only[Z0s,Z0G,Z0W];(have h1:lo*s'+len*s'<=cap*s':=by rw[<-Z0Q];exact Z0U _ p);omega);(have k:∀v∈(vs.toList.drop (o+lo*s')).take (len*s'),v.oneCell'=true:=by rw[<-e1];intro v hv;exact q7 v (Z1l (Z1m hv)));refine⟨_,hR,d,k,λw=>A5Q _ _ _ _ _,λw' hw=>?_⟩;by_cases hl0:len=0
     .subst hl0;refine Z2c (P:=C.P) w' s' 0 a' 0 (cap-lo) _ Q1 (λj v hv=>by simp at hv)
     .have ha:=q Q0;refine Z2c (P:=C.P) w' s' len a' len (cap-lo) _ (by rw[d]) (λj v hv=>?_);rw[ha,Z1h];rw[Z0x]at hv;split at hv
      .rw[Z0C]at hv;(have l:w'.heap[b]?=some (.cells vs ty (0,0)):=by rw[hw];exact q4);rw[Z2P _ _ _ _ _ _ l];simpa using hv
      .simp at hv
    .simp at h
   .simp at h
  .simp at h
 .simp at h
def A5Y(e:TypeId)(sz:Nat)(s x:AV)(M:Mem):Option (AV×Mem):=
 match A0D M sz x with
 |none=>none
 |some (news,m)=>match s with
  |.val (.slice none 0 0)=>if m=0 then some (s,M)else some (.vref M.length 0 sz 0 m,M++[.vec e sz news 0 [(0,m)]])
  |.list s' [] .full=>if s'=sz then(if m=0 then some (s,M)else some (.vref M.length 0 sz 0 m,M++[.vec e sz news 0 [(0,m)]]))else none
  |.vref f h s' lo len=>match M[f]? with
   |some (.vec e2 s2 cs g hist)=>match hist.lookup h with
    |some n=>if e2=e/\s'=sz/\s2=sz/\lo+len<=n then
     if m=0 then some (s,M)else
     some (.vref f (g+1) sz 0 (len+m),M.set f (.vec e sz ((cs.drop (lo*sz)).take (len*sz)++news) (g+1) ((g+1,len+m)::if lo=0 then hist.filter (λp=>decide (p.2<=len))else[])))
     else none
    |none=>none
   |_=>none
  |_=>none
def A0p.le_time{G:A0p}{f n:Nat}{h:Option Addr×Nat}(hn:G.top f<n):G.le (G.grow f n h 0 0 []):=A0p.le_grow (.inl hn) (λi v h1 h2 _=>by simp at h2)
def A0p.time_st(G:A0p)(f n:Nat)(h:Option Addr×Nat)(b i:Nat):(G.grow f n h 0 0 []).st b i=G.st b i:=by simp only[A0p.grow,Z1n,Z0S];rw[Z0d Q0]
def A0p.time_hdr(G:A0p)(f n:Nat)(h:Option Addr×Nat):(G.grow f n h 0 0 []).hdr f n=h:=by simp[A0p.grow]
def A0p.time_old(G:A0p)(f n m:Nat)(h:Option Addr×Nat)(hm:m≠n):(G.grow f n h 0 0 []).hdr f m=G.hdr f m:=by simp[A0p.grow,hm]
def B7u{C}{G}{M}{w}(hi:Inv C G M w){s v}{M'}{xv}{t u e ty:TypeId}{sz bytes m}{news}{vs2}(he:A3X C.P e sz bytes)
 (ht:C.P.underlying t=some (.slice e))(hu:A4l C.P u)(y:A0s G news vs2)(d:vs2.length=m*sz)(a0:∀v∈vs2,v.oneCell'=true)(a4:∀w,(Builtin.lenOf xv).run C.P w=.ok m w)
 (a7:∀w',w'.heap=w.heap->(Builtin.firstCells sz m xv).run C.P w'=.ok vs2.toArray w')(base:Option Addr)(hs:Rep G s (.slice base 0 0))(ad:∀w',(Builtin.firstCells sz 0 (.slice base 0 0)).run C.P w'=.ok ([]:List Value).toArray w')
 (af:(0+m)*bytes<=140737488355328)(h:(if m=0 then some (s,M)else some (AV.vref M.length 0 sz 0 m,M++[.vec e sz news 0 [(0,m)]]))=some (v,M')):
 ∃r w' G',(Builtin.append_ #[t,u] ty #[.slice base 0 0,xv]).run C.P w=.ok r w'/\G.le G'/\Inv C G' M' w'/\Rep G' v r/\Ext w w':=by
 obtain⟨i,z,j,hz,g,ab,ae,a1⟩:=he
 have a5:A1j C.P e=some sz:=by simp[A1j,j,g]
 split at h
 .rename_i hm0;simp only[Z0b,Z0g]at h;obtain⟨rfl,rfl⟩:=h;subst hm0;have hv:vs2=[]:=Z0v (by simpa using d);subst hv;exact⟨_,w,G,A9A (s:=.bool true) (base:=base) (n:=0) (cap:=0) ht a5 hu a4 (a7 w rfl) (Z0j _),.refl _,hi,hs,.refl _⟩
 .rename_i hm0;simp only[Z0b,Z0g]at h;obtain⟨rfl,rfl⟩:=h;have a6:0+m<=maxLen:=by have:0+m<=(0+m)*bytes:=Z1Z _ a1;simp only[maxLen];omega
  have k:=A9L (P:=C.P) (ty:=ty) (base:=base) (n:=0) (cap:=0) (x:=xv) (m:=m) (w:=w) (i:=i) (z:=z) (e:=e) (t:=t) (u:=u) (news:=vs2) (olds:=[]) ht j hz hu a4 (by rw[g];exact a7 w.drew rfl) (by rw[g];exact ad _) Q0 (by rw[ab];exact af) a6;have a8:=Z3s w (0+m) 0 e;have a3:=Z2H w (0+m) 0 e a6;generalize grownCap w (0+m) 0 e=nc at k a8 a3;have q:Ext w (w.drew.alloc (.cells (([]:List Value).toArray++vs2.toArray++Builtin.zeroCells z.cells (nc-(0+m))) e)):=(Ext.drew w).trans (Ext.alloc _ _);generalize p:([]:List Value).toArray++vs2.toArray++Builtin.zeroCells z.cells (nc-(0+m))=o at k q;have l:o.size=nc*sz:=by rw[<-p];simp only[Z3p,Z1o,Z3L,ae,d,Z1n,Z0P,<-Z0Q];congr 1;omega
  have f:(o.toList.drop 0).take (m*sz)=vs2:=by rw[<-p,<-d];simp
  have a9:Inv C G M w.drew:=hi.world rfl;obtain⟨G',aa,a2,ah,ac,ag,ai⟩:=a9.newObj (.cells o e) (.vec e sz news 0 [(0,m)]) (λ_=>(some ⟨w.heap.size,0,none⟩,nc)) 0
   (λG' a2 _ hh ht hst hk=>⟨ht,λh n hm=>by
    simp only[Z0R,Z0g]at hm;obtain⟨rfl,rfl⟩:=hm;refine⟨Q0,Z2g (by rw[<-d,y.length]),w.heap.size,0,nc,o,by rw[hh],Q0,a3,Z1U w.drew _,Z2g (by rw[l,Z0P]),?_,?_,hst,hk⟩
    .rw[f,Z0e (Z2g (by rw[<-y.length,d]))];exact A0s.mono a2 _ _ y
    .rw[f];exact a0,λh n h' n' a a' c c' m1 m2 e1 e2 _=>by
    rw[hh]at e1 e2;simp only[Z0g,Z0b]at e1 e2;rw[<-e1.1,<-e2.1]⟩)
   (λG' b _ hh hown=>by obtain⟨h,n,a,_,ha,rfl⟩:=hown;rw[hh]at ha;simp only[Z0b]at ha;rw[<-ha];rfl)
  refine⟨_,_,G',k,a2,aa,?_,q⟩;simp only[Rep];exact⟨ac,Q0,⟨w.heap.size,0,none⟩,⟨w.heap.size,0,none⟩,nc,by rw[ag],rfl,rfl,Q1,Q0,a3,λ_=>by simp⟩
def C6b{C:Ctx}{G:A0p}{M:Mem}{w:World}(hi:Inv C G M w){s x:AV}{sv xv:Value}(hs:Rep G s sv)(hx:Rep G x xv){t u e ty:TypeId}{sz bytes:Nat}(ht:C.P.underlying t=some (.slice e))(hu:A4l C.P u)
 (he:A3X C.P e sz bytes){v:AV}{M':Mem}(hb:∀cs k,A0D M sz s=some (cs,k)->∀news m,A0D M sz x=some (news,m)->(k+m)*bytes<=140737488355328)(h:A5Y e sz s x M=some (v,M')):
 ∃r w' G',(Builtin.append_ #[t,u] ty #[sv,xv]).run C.P w=.ok r w'/\G.le G'/\Inv C G' M' w'/\Rep G' v r/\Ext w w':=by
 obtain⟨i,z,a7,hz,aa,bb,ba,ad⟩:=he
 have az:A1j C.P e=some sz:=by simp[A1j,a7,aa]
 unfold A5Y at h
 split at h
 .simp at h
 rename_i news m hsrc
 obtain⟨y,b7,l,a8,al,ap⟩:=A7o hi hx hsrc
 split at h
 ·-- nil
  simp only[Rep]at hs;subst hs;exact B7u hi ⟨i,z,a7,hz,aa,bb,ba,ad⟩ ht hu b7 l a8 al ap none (by simp[Rep]) (by simp[Builtin.firstCells]) (hb [] 0 rfl news m hsrc) h
 .rename_i s';split at h;case isFalse=>simp at h
  rename_i hss;subst hss;have ar:=hs;simp only[Rep,A5G]at hs;obtain⟨base,cap,rfl,_,_,_,ax⟩:=hs;simp only[Z1n]at ax ar|-;subst ax;exact B7u hi ⟨i,z,a7,hz,aa,bb,ba,ad⟩ ht hu b7 l a8 al ap base ar (λw'=>by
   cases base with
   |none=>simp[Builtin.firstCells]
   |some a=>exact Z2c (P:=C.P) w' s' 0 a 0 0 [] Q1 (λj v hv=>by simp at hv)) (hb [] 0 (by simp[A0D]) news m hsrc) h
 ·-- a slice of an array
  rename_i f h' s' lo len;split at h;case h_2=>simp at h
  rename_i e2 s2 cs g hist hM;split at h;case h_2=>simp at h
  rename_i n hn;split at h;case isFalse=>simp at h
  rename_i hc;obtain⟨rfl,rfl,rfl,ak⟩:=hc;have ar:=hs;simp only[Rep]at hs;obtain⟨hf,hg,a,a',cap,hd,cc,c9,rfl,bp,cb,c7⟩:=hs;obtain⟨p0,p2,p3⟩:=hi.obj f _ hM;have ag:=A2o hn;obtain⟨_,q0,b,o,c,vs,q1,q2,q3,q4,q5,q6,q7,q8,q9⟩:=p2 h' n ag;have ca:=hd;rw[q1]at hd;simp only[Z0g,Z0b]at hd;obtain⟨rfl,rfl⟩:=hd;split at h
  .rename_i hm0;simp only[Z0b,Z0g]at h;obtain⟨rfl,rfl⟩:=h;subst hm0;have hv:y=[]:=Z0v (by simpa using l);subst hv;exact⟨_,w,G,A9A (s:=.bool true) (base:=some a') (n:=len) (cap:=c-lo) ht az hu al (ap w rfl) Q0,.refl _,hi,ar,.refl _⟩
  rename_i hm0;simp only[Z0b,Z0g]at h;obtain⟨rfl,rfl⟩:=h;have h0:lo*s2+len*s2<=n*s2:=by rw[<-Z0Q];exact Z0U _ ak
  have cd:lo*s2+len*s2<=c*s2:=by rw[<-Z0Q];exact Z0U _ bp
  obtain⟨a6,bx,aj,bc,-,bt⟩:=A7o hi (m:=len) (sz:=s2) (news:=(cs.drop (lo*s2)).take (len*s2)) ar (by simp[A0D,hM,hn,ak]);have b0:=bx.append b7;have av:∀v∈a6++y,v.oneCell'=true:=λv hv=>by
   rcases Z0T.1 hv with h|h
   .exact bc v h
   .exact a8 v h
  have ae:(a6++y).length=(len+m)*s2:=by rw[Z0k,aj,l,Z0Q]
  have ac:((cs.drop (lo*s2)).take (len*s2)++news).length=(len+m)*s2:=by rw[<-b0.length,ae]
  have a5:∀(w1:World) (gb o1 c1:Nat) (d:Array Value),(gb=b\/w.heap.size<=gb)->(∀b',b'<w.heap.size->b'≠gb->w1.heap[b']?=w.heap[b']?)->w1.heap[gb]?=some (.cells d e2 (0,0))->
   len+m<=c1->c1<=maxLen->o1+c1*s2<=d.size->(d.toList.drop o1).take ((len+m)*s2)=a6++y->(∀i,G.st gb i=none)->G.keep gb=none->
   (lo=0->gb=b->o1=o/\vs.size<=d.size/\∀i,i<o+len*s2->d.toList[i]?=vs.toList[i]?)->
   ∃G',G.le G'/\Inv C G' (M.set f (.vec e2 s2 ((cs.drop (lo*s2)).take (len*s2)++news) (g+1) ((g+1,len+m)::if lo=0 then hist.filter (λp=>decide (p.2<=len))else[]))) w1/\Rep G' (.vref f (g+1) s2 0 (len+m)) (.slice (some ⟨gb,o1,none⟩) (len+m) c1):=by
   intro w1 gb o1 c1 d bd hw a0 c8 b5 bw af bh ao bs
   have bv:G.top f<g+1:=Q0
   have a9:=A0p.le_time (h:=(some (⟨gb,o1,none⟩:Addr),c1)) bv
   have ah:∀h1 n1,(h1,n1)∈(if lo=0 then hist.filter (λp=>decide (p.2<=len))else[])->lo=0/\(h1,n1)∈hist/\n1<=len:=by
    intro h1 n1 hm;split at hm
    .rename_i e;have:=Z1u.1 hm;exact⟨e,this.1,by simpa using this.2⟩
    .simp at hm
   have q:∀h1 n1,(h1,n1)∈hist->h1≠g+1:=λh1 n1 hm=>by have:=(p2 h1 n1 hm).1;omega
   have ai:=hi.step (G':=G.grow f (g+1) (some ⟨gb,o1,none⟩,c1) 0 0 []) (w':=w1) (o':=.vec e2 s2 ((cs.drop (lo*s2)).take (len*s2)++news) (g+1) ((g+1,len+m)::if lo=0 then hist.filter (λp=>decide (p.2<=len))else[])) f gb hM
    (bd.imp (λe=>⟨h',n,_,ag,congrArg Prod.fst q1,e.symm⟩) id) a9 rfl (λ_=>rfl) (λj hj=>by simp[A0p.grow,hj]) (λb i v hv=>by rw[A0p.time_st]at hv;exact .inl hv) (λ_=>rfl) hw
    (λi v hv=>by rw[bh i]at hv;simp at hv) (λo ho=>by rw[ao]at ho;simp at ho)
    ⟨by simp[A0p.grow],λh1 n1 hm=>?_,λh1 n1 h2 n2 a1 a2 au c2' m1 m2 e1 e2 e3=>?_⟩
    (λb1 ⟨h1,n1,a1,hm,e1,e2⟩=>?_)
   .refine⟨_,a9,ai,?_⟩;simp only[Rep];exact⟨hf,by simp[A0p.grow],⟨gb,o1,none⟩,⟨gb,o1,none⟩,c1,A0p.time_hdr _ _ _ _,rfl,rfl,Q1,Q0,b5,λ_=>by simp⟩
   ·-- each slice that is kept reads as it did
    rcases Z0r.1 hm with hm|hm
    .simp only[Z0g]at hm;obtain⟨rfl,rfl⟩:=hm;refine⟨by simp[A0p.grow],Z2g ac.symm,gb,o1,c1,d,A0p.time_hdr _ _ _ _,c8,b5,a0,bw,?_,?_,λi=>by rw[A0p.time_st];exact bh i,ao⟩
     .rw[af,Z0e (Z2g ac)];exact A0s.mono a9 _ _ b0
     .rw[af];exact av
    .obtain⟨rfl,a3,bo⟩:=ah h1 n1 hm;obtain⟨r0,r1,b2,o2,b6,vs',s1,be,s3,s4,s5,s6,s7,s8,s9⟩:=p2 h1 n1 a3;have bn:n1*s2<=len*s2:=Z0U _ bo;(have c0:((cs.drop (0*s2)).take (len*s2)++news).take (n1*s2)=cs.take (n1*s2):=by rw[Z1I,Z1x,Z1A (by rw[Z0s];omega),Z1T,Z1C bn]);refine⟨by simp[A0p.grow];omega,by rw[ac,Z0Q];omega,b2,o2,b6,?_⟩;rw[A0p.time_old _ _ _ _ _ (q _ _ a3),c0];by_cases e:b2=gb
     .subst e;have eb:b2=b:=by
       rcases bd with h|h
       .exact h
       .have:=A4q s4;omega
      subst eb;obtain⟨rfl,c3,b9⟩:=bs rfl rfl;have eo:(⟨b2,o2,none⟩:Addr)=⟨b2,o1,none⟩:=p3 h1 n1 h' n _ _ _ _ a3 ag s1 q1 rfl;simp only[Z3w,Z2B,Z1z]at eo;subst eo;rw[q4]at s4;simp only[Z0b,Obj.cells.injEq,Z1z]at s4;subst s4;have am:(d.toList.drop o2).take (n1*s2)=(vs.toList.drop o2).take (n1*s2):=by
       apply Z1J;intro i;rw[Z0x,Z0x];split
       .rw[Z0C,Z0C];exact b9 _ Q0
       .rfl
      have bl:o2+b6*s2<=d.size:=Q0;exact⟨d,s1,be,s3,a0,bl,by rw[am];exact A0s.mono a9 _ _ s6,by rw[am];exact s7,λi=>by rw[A0p.time_st];exact s8 i,s9⟩
     .exact⟨vs',s1,be,s3,by rw[hw b2 (A4q s4) e];exact s4,s5,A0s.mono a9 _ _ s6,s7,λi=>by rw[A0p.time_st];exact s8 i,s9⟩
   ·-- slices in one block begin at one cell
    (have ab:∀h1 n1 a1 au,(h1,n1)∈(if lo=0 then hist.filter (λp=>decide (p.2<=len))else[])->(G.grow f (g+1) (some ⟨gb,o1,none⟩,c1) 0 0 []).hdr f h1=(some a1,au)->gb=a1.block->(⟨gb,o1,none⟩:Addr)=a1:=by intro h1 n1 a1 au hm e1 e2;obtain⟨rfl,a3,_⟩:=ah h1 n1 hm;rw[A0p.time_old _ _ _ _ _ (q _ _ a3)]at e1;have bg:=(A5j.owns_lt (hi.obj f _ hM) (b:=a1.block) ⟨h1,n1,a1,a3,by rw[e1],rfl⟩);(have eb:gb=b:=by rcases bd with h|h<;>omega);subst eb;obtain⟨rfl,_⟩:=bs rfl rfl;exact(p3 h1 n1 h' n _ _ _ _ a3 ag e1 q1 e2.symm).symm);rcases Z0r.1 m1 with m1|m1<;>rcases Z0r.1 m2 with m2|m2
    .simp only[Z0g]at m1 m2;obtain⟨rfl,rfl⟩:=m1;obtain⟨rfl,rfl⟩:=m2;rw[e1]at e2;simp only[Z0g,Z0b]at e2;exact e2.1
    .simp only[Z0g]at m1;obtain⟨rfl,rfl⟩:=m1;rw[A0p.time_hdr]at e1;simp only[Z0g,Z0b]at e1;obtain⟨rfl,_⟩:=e1;exact ab h2 n2 a2 c2' m2 e2 e3
    .simp only[Z0g]at m2;obtain⟨rfl,rfl⟩:=m2;rw[A0p.time_hdr]at e2;simp only[Z0g,Z0b]at e2;obtain⟨rfl,_⟩:=e2;exact(ab h1 n1 a1 au m1 e1 e3.symm).symm
    .obtain⟨_,bq,_⟩:=ah h1 n1 m1;obtain⟨_,bj,_⟩:=ah h2 n2 m2;rw[A0p.time_old _ _ _ _ _ (q _ _ bq)]at e1;rw[A0p.time_old _ _ _ _ _ (q _ _ bj)]at e2;exact p3 h1 n1 h2 n2 a1 a2 au c2' bq bj e1 e2 e3
   .rcases Z0r.1 hm with hm|hm
    .simp only[Z0g]at hm;obtain⟨rfl,rfl⟩:=hm;rw[A0p.time_hdr]at e1;simp only[Z0b]at e1;subst e1;exact .inl e2.symm
    .obtain⟨_,a3,_⟩:=ah h1 n1 hm;rw[A0p.time_old _ _ _ _ _ (q _ _ a3)]at e1;exact .inr ⟨h1,n1,a1,a3,e1,e2⟩
  by_cases hroom:len+m<=c-lo
  ·-- in place
   have ha:=c7 Q0;subst ha;simp only at*;have bz:(lo+(len+m))*s2<=c*s2:=Z0U _ Q0;rw[Z0Q,Z0Q]at bz;have a4:=B9q (P:=C.P) (ty:=ty) (g:=b) (o:=o+lo*s2) (n:=len) (cap:=c-lo) (x:=xv) (m:=m) ht az hu al (ap w rfl) hroom q4 (by rw[l];omega) a8;have a0:=Z2E w b vs (vs.toList.take (o+lo*s2+len*s2)++y++vs.toList.drop (o+lo*s2+len*s2+y.length)).toArray e2 (0,0) q4;generalize br:(vs.toList.take (o+lo*s2+len*s2)++y++vs.toList.drop (o+lo*s2+len*s2+y.length))=nl at a4 a0;have ay:∀i,nl[i]?=if o+lo*s2+len*s2<=i/\i<o+lo*s2+len*s2+y.length then y[i-(o+lo*s2+len*s2)]? else vs.toList[i]?:=by intro i;rw[<-br];exact A5o (by rw[l];simp;omega)
   (have c6:nl.length=vs.size:=by rw[<-br];simp only[Z0k,Z0s,Z0G,Z0W];omega);obtain⟨G',a9,ai,aq⟩:=a5 (w.setRow b nl.toArray) b (o+lo*s2) (c-lo) nl.toArray (.inl rfl) (λb' _ hne=>Z2f _ _ _ _ hne) a0 hroom Q0
    (by(have h1:lo*s2+(c-lo)*s2=c*s2:=by rw[<-Z0Q];congr 1;omega);simp only[Z1o];omega)
    (by
     apply Z1J;intro k;rw[Z0x];split
     .rename_i hk;rw[Z0Q]at hk;rw[Z0C,show(nl.toArray.toList:List Value)=nl from rfl,ay];by_cases hk2:k<a6.length
      .rw[Z0d Q0,Z0n hk2];have b8:=bt w rfl;by_cases hl0:len=0
       .subst hl0;omega
       .have bf:=Z2c (P:=C.P) w s2 len ⟨b,o+lo*s2,none⟩ len (c-lo) ((vs.toList.drop (o+lo*s2)).take (len*s2)) (by simp only[Z0s,Z0G,Z0W];omega) (λj v hv=>by
         rw[Z1h];rw[Z0x]at hv;split at hv
         .rw[Z0C]at hv;rw[Z2P _ _ _ _ _ _ q4];simpa using hv
         .simp at hv)
        rw[bf]at b8;simp only[Z4l,Z1z]at b8;(have bi:(vs.toList.drop (o+lo*s2)).take (len*s2)=a6:=by simpa using b8);rw[<-bi,Z0x,Z0c Q0,Z0C]
      .rw[Z0c Q0,Z1q Q0];congr 1;omega
     .rename_i hk;rw[Z1w Q0])
    q8 q9 (λh0 _=>⟨by subst h0;simp,by simp only[Z1o];omega,λi hi2=>by subst h0;rw[show(nl.toArray.toList:List Value)=nl from rfl,ay,Z0d Q0]⟩)
   exact⟨_,_,G',a4,a9,ai,aq,Ext.setRow _ _ _⟩
  ·-- in a new block
   have c2:=hb _ len (by simp[A0D,hM,hn,ak];rfl) news m hsrc;(have bm:len+m<=maxLen:=by have:len+m<=(len+m)*bytes:=Z1Z _ ad;simp only[maxLen];omega);have a4:=A9L (P:=C.P) (ty:=ty) (base:=some a') (n:=len) (cap:=c-lo) (x:=xv) (m:=m) (w:=w) (i:=i) (z:=z) (e:=e2) (t:=t) (u:=u) (news:=y) (olds:=a6) ht a7 hz hu al (by rw[aa];exact ap w.drew rfl) (by rw[aa];exact bt w.drew rfl) Q0 (by rw[bb];exact c2) bm;have c4:=Z3s w (len+m) (c-lo) e2;have bu:=Z2H w (len+m) (c-lo) e2 bm;generalize grownCap w (len+m) (c-lo) e2=nc at a4 c4 bu;have b4:Ext w (w.drew.alloc (.cells (a6.toArray++y.toArray++Builtin.zeroCells z.cells (nc-(len+m))) e2)):=(Ext.drew w).trans (Ext.alloc _ _);generalize b3:a6.toArray++y.toArray++Builtin.zeroCells z.cells (nc-(len+m))=d at a4 b4;(have aw:d.size=nc*s2:=by rw[<-b3];simp only[Z3p,Z1o,Z3L,ba,l,aj,<-Z0Q];congr 1;omega);have bk:∀i,G.st w.heap.size i=none:=by
    intro i;cases h:G.st w.heap.size i with
    |none=>rfl
    |some v=>have:=hi.st_lt h;simp at this
   have c5:G.keep w.heap.size=none:=by
    cases h:G.keep w.heap.size with
    |none=>rfl
    |some v=>have:=hi.keep_lt h;simp at this
   obtain⟨G',a9,ai,aq⟩:=a5 (w.drew.alloc (.cells d e2)) w.heap.size 0 nc d (.inr (Z0j _)) (λb' bg _=>A2E w.drew _ b' bg) (Z1U w.drew _) Q0 bu
    (Z2g (by rw[aw,Z0P]))
    (by(have e:d.toList=(a6++y)++(Builtin.zeroCells z.cells (nc-(len+m))).toList:=by rw[<-b3];simp);rw[e,<-ae,Z1x,Z4p])
    bk c5 (λ_ h=>by have:=A4q q4;omega)
   exact⟨_,_,G',a4,a9,ai,aq,b4⟩
 .simp at h
structure A2j where
 imm:Nat->Bool
 own:Nat->Bool
 vec:Nat->Bool:=λ_=>false
def A1X(f:Nat->Bool):Option Nat->Bool
 |some d=>f d
 |none=>false
def D5d(G:A0p)(nx:Next)(v:AV):Prop:=(∃x,nx=.value x/\Rep G v x)\/(nx=.skip/\v=.val undef)
def A3j(C:Ctx)(G:A0p)(w:World)(s:Sem Next)(v:AV)(M':Mem):Prop:=∃nx w' G',s.run C.P w=.ok nx w'/\D5d G' nx v/\G.le G'/\Inv C G' M' w'/\Ext w w'
def A3j.same{C}{G}{M}{w}{s}{v}{x}(hi:Inv C G M w)(hr:s.run C.P w=.ok (.value x) w)(hx:Rep G v x):A3j C G w s v M:=⟨_,w,G,hr,.inl ⟨x,rfl,hx⟩,.refl _,hi,.refl _⟩
def A9x(op:BinOp)(k:IntKind)(a b:Int):Option Value:=
 match op with
 |.add=>some (.int k (k.wrap (a+b)))
 |.sub=>some (.int k (k.wrap (a-b)))
 |.mul=>some (.int k (k.wrap (a*b)))
 |.eql=>some (.bool (a==b))
 |.neq=>some (.bool (a !=b))
 |.lss=>some (.bool (decide (a<b)))
 |.leq=>some (.bool (decide (a<=b)))
 |.gtr=>some (.bool (decide (a>b)))
 |.geq=>some (.bool (decide (a>=b)))
 |.quo=>if b=0 then none else some (.int k (k.wrap (a.tdiv b)))
 |.rem=>if b=0 then none else some (.int k (a.tmod b))
 |.and=>some (.int k (k.wrap ((BitVec.ofInt k.bits a &&& BitVec.ofInt k.bits b).toNat)))
 |.or=>some (.int k (k.wrap ((BitVec.ofInt k.bits a ||| BitVec.ofInt k.bits b).toNat)))
 |.xor=>some (.int k (k.wrap ((BitVec.ofInt k.bits a ^^^ BitVec.ofInt k.bits b).toNat)))
 |.andNot=>some (.int k (k.wrap ((BitVec.ofInt k.bits a &&& ~~~BitVec.ofInt k.bits b).toNat)))
 |.shl=>if b<0 then none else some (.int k (k.wrap (a*2^(min b.toNat k.bits))))
 |.shr=>if b<0 then none else some (.int k (a.fdiv (2^(min b.toNat k.bits))))
def B9a(op:BinOp)(a b:ByteArray):Option Value:=
 match op with
 |.eql=>some (.bool (a.toList==b.toList))
 |.neq=>some (.bool !(a.toList==b.toList))
 |.lss=>some (.bool (Op.bytesLess a.toList b.toList))
 |.leq=>some (.bool (Op.bytesLess a.toList b.toList||a.toList==b.toList))
 |.gtr=>some (.bool !(Op.bytesLess a.toList b.toList||a.toList==b.toList))
 |.geq=>some (.bool !(Op.bytesLess a.toList b.toList))
 |.add=>if((a.size+b.size:Nat):Int)>IntKind.i64.max then none else some (.string (a++b))
 |_=>none
def B3X:AV->Option Bool
 |.val (.pointer none)|.val (.slice none 0 0)|.val (.map none)|.val .nilFunc=>some true
 |.ptr _ _|.cptr _|.mapr _|.func _ _ _=>some false
 |.list _ (_::_) _=>some false
 |_=>none
def A3P(P:Program)(t:TypeId):AV->Bool
 |.val (.pointer none)=>match P.underlying t with|some (.pointer _)=>true|_=>false
 |.val (.slice none 0 0)=>match P.underlying t with|some (.slice _)=>true|_=>false
 |.val (.map none)=>match P.underlying t with|some (.map _ _)=>true|_=>false
 |.val .nilFunc=>match P.underlying t with|some (.func _ _ _)=>true|_=>false
 |_=>false
def A2P:AV->AV->Bool
 |.val (.pointer none),.val (.pointer none)|.val (.slice none 0 0),.val (.slice none 0 0)|.val (.map none),.val (.map none)|.val .nilFunc,.val .nilFunc=>true
 |.ptr _ _,.val (.pointer none)|.cptr _,.val (.pointer none)|.mapr _,.val (.map none)|.func _ _ _,.val .nilFunc|.list _ _ _,.val (.slice none 0 0)=>true
 |_,_=>false
def A3f(P:Program)(op:BinOp)(t:TypeId)(x y:AV):Option AV:=
 match x,y with
 |.val (.int k a),.val (.int k' b)=>if k=k' then(A9x op k a b).map .val else none
 |.val (.string a),.val (.string b)=>(B9a op a b).map .val
 |.val (.bool a),.val (.bool b)=>match P.underlying t,op with
  |some .bool,.eql=>some (.val (.bool (a==b)))
  |some .bool,.neq=>some (.val (.bool !(a==b)))
  |_,_=>none
 |x,y=>if A3P P t y&&A2P x y then match B3X x,op with
  |some b,.eql=>some (.val (.bool b))
  |some b,.neq=>some (.val (.bool !b))
  |_,_=>none
  else none
def C6l{P}{op}{k}{a b}{v}(h:A9x op k a b=some v)(t:TypeId)(w:World):(binOp op t (.int k a) (.int k b)).run P w=.ok v w:=by
 cases op;case quo=>
  simp only[A9x]at h;split at h
  .simp at h
  .rename_i hb;cases h;simp[binOp,Op.intDiv,hb]
 case rem=>
  simp only[A9x]at h;split at h
  .simp at h
  .rename_i hb;cases h;simp[binOp,Op.intDiv,hb]
 case shl=>
  simp only[A9x]at h;split at h
  .simp at h
  .rename_i hb;cases h;simp[binOp,Op.shift,hb]
 case shr=>
  simp only[A9x]at h;split at h
  .simp at h
  .rename_i hb;cases h;simp[binOp,Op.shift,hb]
 case and=>simp only[A9x,Z0b]at h;subst h;simp[binOp,Op.intBits]
 case or=>simp only[A9x,Z0b]at h;subst h;simp[binOp,Op.intBits]
 case xor=>simp only[A9x,Z0b]at h;subst h;simp[binOp,Op.intBits]
 case andNot=>simp only[A9x,Z0b]at h;subst h;simp[binOp,Op.intBits]
 all_goals first
  |(simp only[A9x]at h;done)
  |(simp only[A9x,Z0b]at h;subst h;simp[binOp,Op.intArith,Op.intCmp])
def C5H{P}{op}{a b}{v}(h:B9a op a b=some v)(t:TypeId)(w:World):(binOp op t (.string a) (.string b)).run P w=.ok v w:=by
 cases op<;>simp[B9a]at h;case add=>obtain⟨h1,h2⟩:=h;subst h2;simp[binOp,Op.stringOp];omega
 all_goals (subst h;simp[binOp,Op.stringOp])
def B3w{P}{t:TypeId}(h:P.underlying t=some .bool)(d:Nat)(a b:Bool)(w:World):(Op.equalIn (d+1) t (.bool a) (.bool b)).run P w=.ok (a==b) w:=by simp[Op.equalIn,Z0p h]
def B1c{P}{t e:TypeId}(h:P.underlying t=some (.pointer e))(d:Nat)(a:Option Addr)(w:World):(Op.equalIn (d+1) t (.pointer a) (.pointer none)).run P w=.ok a.isNone w:=by cases a<;>simp[Op.equalIn,Z0p h]
def A5l{P}{t e:TypeId}(h:P.underlying t=some (.slice e))(d:Nat)(a:Option Addr)(n c:Nat)(w:World):(Op.equalIn (d+1) t (.slice a n c) (.slice none 0 0)).run P w=.ok a.isNone w:=by cases a<;>simp[Op.equalIn,Z0p h]
def B5U{P}{t k e:TypeId}(h:P.underlying t=some (.map k e))(d:Nat)(a:Option Nat)(w:World):(Op.equalIn (d+1) t (.map a) (.map none)).run P w=.ok a.isNone w:=by cases a<;>simp[Op.equalIn,Z0p h]
def C0Y{P}{t:TypeId}{p r}{v}(h:P.underlying t=some (.func p r v))(d:Nat)(fn:Fn)(f c:Array Value)(w:World):(Op.equalIn (d+1) t (.func fn f c) .nilFunc).run P w=.ok false w:=by simp[Op.equalIn,Z0p h]
def B4i{P}{t:TypeId}{p r}{v}(h:P.underlying t=some (.func p r v))(d:Nat)(w:World):(Op.equalIn (d+1) t .nilFunc .nilFunc).run P w=.ok true w:=by simp[Op.equalIn,Z0p h]
def C0R{C:Ctx}{G:A0p}{x y:AV}{xv yv:Value}(hx:Rep G x xv)(hy:Rep G y yv){t:TypeId}(hk:A3P C.P t y=true)(hs:A2P x y=true){b:Bool}(hb:B3X x=some b)(d:Nat)(w:World):(Op.equalIn (d+1) t xv yv).run C.P w=.ok b w:=by
 unfold A2P at hs
 split at hs
 all_goals first|(exact Bool.noConfusion hs)|skip
 all_goals simp only[Rep]at hx hy
 all_goals simp only[A3P]at hk
 all_goals split at hk
 all_goals first|(exact Bool.noConfusion hk)|skip
 all_goals simp only[B3X]at hb
 .rename_i h;subst hx;subst hy;simp at hb;subst hb;rw[B1c h];rfl
 .rename_i h;subst hx;subst hy;simp at hb;subst hb;rw[A5l h];rfl
 .rename_i h;subst hx;subst hy;simp at hb;subst hb;rw[B5U h];rfl
 .rename_i h;subst hx;subst hy;simp at hb;subst hb;rw[B4i h]
 .rename_i h;obtain⟨_,rfl⟩:=hx;subst hy;simp at hb;subst hb;rw[B1c h];rfl
 .rename_i h;obtain⟨_,_,rfl,_⟩:=hx;subst hy;simp at hb;subst hb;rw[B1c h];rfl
 .rename_i h;obtain⟨_,rfl⟩:=hx;subst hy;simp at hb;subst hb;rw[B5U h];rfl
 .rename_i h;obtain⟨_,_,rfl,_⟩:=hx;subst hy;simp at hb;subst hb;rw[C0Y h]
 .rename_i h;subst hy;obtain⟨base,cap,rfl,h1,h2,h3,h4⟩:=hx;rw[A5l h];cases base with
  |none=>obtain⟨rfl,rfl⟩:=h3;simp at hb
  |some a=>split at hb;(all_goals first|(exact Option.noConfusion hb)|skip);all_goals simp_all
def A3o{P}{t:TypeId}{xv yv}{ox oy}{b}{w}(he:∀d,(Op.equalIn (d+1) t xv yv).run P w=.ok b w)
 (hx:(∃a,xv=.pointer a)\/(∃a n c,xv=.slice a n c)\/(∃a,xv=.map a)\/(∃f a c,xv=.func f a c)\/xv=.nilFunc\/∃a,xv=.bool a)
 (hy:(∃a,yv=.pointer a)\/(∃a n c,yv=.slice a n c)\/(∃a,yv=.map a)\/yv=.nilFunc\/∃a,yv=.bool a):
 (do eqGuard .eql t ox oy xv yv;binOp .eql t xv yv:Sem Value).run P w=.ok (.bool b) w/\(do eqGuard .neq t ox oy xv yv;binOp .neq t xv yv:Sem Value).run P w=.ok (.bool !b) w:=by
 have e:(Op.equal t xv yv).run P w=.ok b w:=he 9999
 have h1:(eqGuard .eql t ox oy xv yv).run P w=.ok () w/\(eqGuard .neq t ox oy xv yv).run P w=.ok () w:=by rcases hx with⟨a,rfl⟩|⟨a,n,c,rfl⟩|⟨a,rfl⟩|⟨f,a,c,rfl⟩|rfl|⟨a,rfl⟩<;>simp[eqGuard]
 have h2:binOp .eql t xv yv=(do pure (.bool (<-Op.equal t xv yv)))/\binOp .neq t xv yv=(do pure (.bool (!(<-Op.equal t xv yv)))):=by rcases hx with⟨a,rfl⟩|⟨a,n,c,rfl⟩|⟨a,rfl⟩|⟨f,a,c,rfl⟩|rfl|⟨a,rfl⟩<;>rcases hy with⟨a',rfl⟩|⟨a',n',c',rfl⟩|⟨a',rfl⟩|rfl|⟨a',rfl⟩<;>exact⟨rfl,rfl⟩
 constructor
 .simp only[Z0E,h1.1,Z0t,h2.1,e,Z0M]
 .simp only[Z0E,h1.2,Z0t,h2.2,e,Z0M]
def D0X{G}{x y}{xv yv}(hx:Rep G x xv)(hy:Rep G y yv)(hs:A2P x y=true):
 ((∃a,xv=.pointer a)\/(∃a n c,xv=.slice a n c)\/(∃a,xv=.map a)\/(∃f a c,xv=.func f a c)\/xv=.nilFunc\/∃a,xv=.bool a)/\
 ((∃a,yv=.pointer a)\/(∃a n c,yv=.slice a n c)\/(∃a,yv=.map a)\/yv=.nilFunc\/∃a,yv=.bool a):=by
 unfold A2P at hs
 split at hs
 all_goals first|(exact Bool.noConfusion hs)|skip
 all_goals simp only[Rep]at hx hy
 all_goals (subst hy)
 .subst hx;exact⟨.inl ⟨_,rfl⟩,.inl ⟨_,rfl⟩⟩
 .subst hx;exact⟨.inr (.inl ⟨_,_,_,rfl⟩),.inr (.inl ⟨_,_,_,rfl⟩)⟩
 .subst hx;exact⟨.inr (.inr (.inl ⟨_,rfl⟩)),.inr (.inr (.inl ⟨_,rfl⟩))⟩
 .subst hx;exact⟨.inr (.inr (.inr (.inr (.inl rfl)))),.inr (.inr (.inr (.inl rfl)))⟩
 .obtain⟨_,rfl⟩:=hx;exact⟨.inl ⟨_,rfl⟩,.inl ⟨_,rfl⟩⟩
 .obtain⟨_,_,rfl,_⟩:=hx;exact⟨.inl ⟨_,rfl⟩,.inl ⟨_,rfl⟩⟩
 .obtain⟨_,rfl⟩:=hx;exact⟨.inr (.inr (.inl ⟨_,rfl⟩)),.inr (.inr (.inl ⟨_,rfl⟩))⟩
 .obtain⟨_,_,rfl,_⟩:=hx;exact⟨.inr (.inr (.inr (.inl ⟨_,_,_,rfl⟩))),.inr (.inr (.inr (.inl rfl)))⟩
 .obtain⟨_,_,rfl,_⟩:=hx;exact⟨.inr (.inl ⟨_,_,_,rfl⟩),.inr (.inl ⟨_,_,_,rfl⟩)⟩
def C1n{C:Ctx}{G:A0p}{M:Mem}{w:World}(hi:Inv C G M w){x y:AV}{xv yv:Value}(hx:Rep G x xv)(hy:Rep G y yv){op:BinOp}{t:TypeId}{v:AV}(h:A3f C.P op t x y=some v)(ox oy:Operand):∃u,(do eqGuard op t ox oy xv yv;binOp op t xv yv:Sem Value).run C.P w=.ok u w/\Rep G v u:=by
 unfold A3f at h
 split at h
 .simp only[Rep]at hx hy;subst hx;subst hy;split at h
  .rename_i hk;subst hk;simp only[Z0l]at h;obtain⟨u,hu,rfl⟩:=h;refine⟨u,?_,by simp[Rep]⟩;have:=C6l (P:=C.P) hu t w;cases op<;>simp[A9x]at hu<;>simp[eqGuard,this]
  .simp at h
 .simp only[Rep]at hx hy;subst hx;subst hy;simp only[Z0l]at h;obtain⟨u,hu,rfl⟩:=h;refine⟨u,?_,by simp[Rep]⟩;have:=C5H (P:=C.P) hu t w;cases op<;>simp[B9a]at hu<;>simp[eqGuard,this]
 .simp only[Rep]at hx hy;subst hx;subst hy;split at h
  .rename_i hu;simp at h;subst h;exact⟨_,(A3o (λd=>B3w hu d _ _ w) Q1 Q1).1,by simp[Rep]⟩
  .rename_i hu;simp at h;subst h;exact⟨_,(A3o (λd=>B3w hu d _ _ w) Q1 Q1).2,by simp[Rep]⟩
  .simp at h
 .split at h;case isFalse=>simp at h
  rename_i hc;simp only[Z0h]at hc;obtain⟨k1,k2⟩:=D0X hx hy hc.2;split at h
  .rename_i b hb;simp at h;subst h;exact⟨_,(A3o (λd=>C0R hx hy hc.1 hc.2 hb d w) k1 k2).1,by simp[Rep]⟩
  .rename_i b hb;simp at h;subst h;exact⟨_,(A3o (λd=>C0R hx hy hc.1 hc.2 hb d w) k1 k2).2,by simp[Rep]⟩
  .simp at h
def A1s(len:Nat):Option AV->Option Nat
 |none=>some len
 |some (.val (.int _ i))=>if 0<=i/\i<=len then some i.toNat else none
 |_=>none
def A6k(len l h:Nat)(mx:Option Nat)(own:Own):Own:=
 match mx with
 |some m=>if m=h then .full else .no
 |none=>match own with
  |.full=>if h=len then .full else .no
  |.fam f=>if h=len/\l=0 then .fam f else .no
  |.no=>.no
def A3N(P:Program)(t:TypeId)(sz:Nat)(rows:List (List AV))(own:Own)(lo hi mx:Option AV):Option AV:=
 match(match mx with|none=>some none|some m=>(A1s rows.length (some m)).map some),A1b P t with
 |some m,some e=>if A1j P e=some sz then
  match A1s (m.getD rows.length) (match hi with|some h=>some h|none=>none),hi.isSome||mx.isNone with
  |some h,true=>match(match lo with|none=>some 0|some l=>A1s h (some l))with
   |some l=>some (.list sz ((rows.take h).drop l) (A6k rows.length l h m own))
   |none=>none
  |_,_=>none
  else none
 |_,_=>none
def A3G(P:Program)(t:TypeId)(x:AV)(lo hi mx:Option AV):Option AV:=
 match x with
 |.val (.string s)=>match mx,P.underlying t,A1s s.size hi with
  |none,some .string,some h=>match(match lo with|none=>some 0|some l=>A1s h (some l))with
   |some l=>some (.val (.string (s.extract l h)))
   |none=>none
  |_,_,_=>none
 |.list sz rows own=>A3N P t sz rows own lo hi mx
 |.val (.slice none 0 0)=>match A1b P t with
  |some e=>match A1j P e with
   |some sz=>(A3N P t sz [] .full lo hi mx).map λ_=>.val (.slice none 0 0)
   |none=>none
  |none=>none
 |_=>none
def A0U(P:Program)(t:TypeId)(f:Nat):Option (Nat×TypeId):=match P.underlying t with
 |some (.struct fs)=>(fs[f]?).map λx=>(x.offset,x.type)
 |_=>none
def putCells(zero:List AV)(off:Nat)(v:AV):Option (List AV):=if v.storable&&decide (off+v.cells.length<=zero.length)then some (zero.take off++v.cells++zero.drop (off+v.cells.length))else none
def A0F(P:Program)(t:TypeId):Option (List Value):=match P.info? t with
 |some i=>i.zero.map (·.cells.toList)
 |none=>none
def A2Z(P:Program)(t:TypeId):Bool:=match P.underlying t with
 |some (.struct fs)=>fs.toList.all λf=>(A1j P f.type).isSome
 |_=>false
def A1m(P:Program)(t:TypeId):List (Nat×AV)->List AV->Option (List AV)
 |[],cs=>some cs
 |(i,v)::rest,cs=>match A0U P t i with
  |some (off,ft)=>if A1j P ft=some v.cells.length then(putCells cs off v).bind (A1m P t rest)else none
  |none=>none
def A1e(sz:Nat):List (Nat×AV)->List (List AV)->Option (List (List AV))
 |[],rows=>some rows
 |(i,v)::rest,rows=>if v.storable&&decide (v.cells.length=sz)&&decide (i<rows.length)then A1e sz rest (rows.set i v.cells)else none
def A8s(len:Nat):Option AV->Option (Option Nat)
 |none=>some none
 |some m=>(A1s len (some m)).map some
def B0l(hh:Nat):Option AV->Option Nat
 |none=>some 0
 |some l=>A1s hh (some l)
def A4y(P:Program)(t:TypeId)(f g sz lo0 len:Nat)(lo hi mx:Option AV):Option AV:=
 match A8s len mx,A1b P t with
 |some m,some e=>if A1j P e=some sz then
  match A1s (m.getD len) hi,hi.isSome||mx.isNone with
  |some h,true=>match B0l h lo with
   |some l=>match m with
    |none=>some (.vref f g sz (lo0+l) (h-l))
    |some q=>if q=l then some (.list sz [] .full)else none
   |none=>none
  |_,_=>none
  else none
 |_,_=>none
def C6K(op:BinOp)(k:IntKind)(a b:Int):Option Value:=
 if b<0 then none else match op with
 |.shl=>some (.int k (k.wrap (a*2^(min b.toNat k.bits))))
 |.shr=>some (.int k (a.fdiv (2^(min b.toNat k.bits))))
 |_=>none
def A2H(P:Program)(eq:TypeId->AV->AV->Option Bool)(xs ys:List AV):List Field->Option Bool
 |[]=>some true
 |f::fs=>if f.name≠ "_" then
  if(A1j P f.type).any (λn=>decide (f.offset+n<=xs.length))&&(A1j P f.type).any (λn=>decide (f.offset+n<=ys.length))then
   match A0y P f.type (xs.drop f.offset),A0y P f.type (ys.drop f.offset)with
   |some a,some b=>match eq f.type a b with
    |some true=>A2H P eq xs ys fs
    |some false=>some false
    |none=>none
   |_,_=>none
  else none
  else A2H P eq xs ys fs
def A9N(P:Program):Nat->TypeId->AV->AV->Option Bool
 |0,_,_,_=>none
 |d+1,t,x,y=>match P.underlying t,x,y with
  |some .bool,.val (.bool a),.val (.bool b)=>some (a==b)
  |some (.int _),.val (.int k a),.val (.int k' b)=>if k=k' then some (a==b)else none
  |some .string,.val (.string a),.val (.string b)=>some (a.data.toList==b.data.toList)
  |some (.struct fs),.agg xs,.agg ys=>if P.stoodInHeld t then none else A2H P (A9N P d) xs ys fs.toList
  |_,_,_=>none
def A4t(P:Program)(op:BinOp)(t:TypeId)(x y:AV):Option AV:=
 match x,y with
 |.val (.int k a),.val (.int yk b)=>if k=yk then none else(C6K op k a b).map .val
 |.agg xs,.agg ys=>if P.eqGuardType P.depth t then none else match op,A9N P 30 t (.agg xs) (.agg ys)with
  |.eql,some b=>some (.val (.bool b))
  |.neq,some b=>some (.val (.bool !b))
  |_,_=>none
 |.vref _ _ _ _ _,.val (.slice none 0 0)=>match P.underlying t,op with
  |some (.slice _),.eql=>some (.val (.bool false))
  |some (.slice _),.neq=>some (.val (.bool true))
  |_,_=>none
 |_,_=>none
def A1A(P:Program)(op:BinOp)(t:TypeId)(x y:AV):Option AV:=match A3f P op t x y with
 |some v=>some v
 |none=>A4t P op t x y
def A5C(P:Program)(src dst:TypeId)(x:AV):Option AV:=match P.underlying src,P.underlying dst,x with
 |some (.int _),some (.int k),.val (.int _ n)=>some (.val (.int k (k.wrap n)))
 |some .string,some .string,.val (.string s)=>some (.val (.string s))
 |_,_,_=>none
def A2W(P:Program)(t:TypeId):AV->Option Nat
 |.val (.string s)=>match P.underlying t with|some .string=>some s.size|_=>none
 |.val (.slice none 0 0)=>match P.underlying t with|some (.slice _)=>some 0|_=>none
 |.val (.map none)=>match P.underlying t with|some (.map _ _)=>some 0|_=>none
 |.list _ rows _=>match P.underlying t with|some (.slice _)=>some rows.length|_=>none
 |.vref _ _ _ _ len=>match P.underlying t with|some (.slice _)=>some len|_=>none
 |_=>none
def A7n(mx:Bool):AV->AV->Option AV
 |.val (.int k a),.val (.int k' b)=>if k=k' then some (.val (.int k (if mx then(if b>a then b else a)else(if b<a then b else a))))else none
 |_,_=>none
def A8b(P:Program)(hint:Bool)(b:Builtin)(ts:Array TypeId)(args:List AV):Option AV:=
 match b,args with
 |.len,[x]=>match ts[0]? with
  |some t=>(A2W P t x).map λ(n:Nat)=>AV.val (goInt (n:Int))
  |none=>none
 |.max,[x,y]=>A7n true x y
 |.min,[x,y]=>A7n false x y
 |_,_=>none
def A1W(P:Program)(t:TypeId)(x:AV)(lo hi mx:Option AV):Option AV:=match x with
 |.vref f g sz lo0 len=>A4y P t f g sz lo0 len lo hi mx
 |x=>A3G P t x lo hi mx
def B5V(C:Ctx)(h:A2j)(t:TypeId)(d:Option Nat):Bool:=A1X h.vec d&&!C.data t
def A0I(C:Ctx)(h:A2j)(o:Oper)(ρ:Operand->AV):Option AV:=
 match o.op with
 |.move x=>some (ρ x)
 |.assign x=>some (ρ x)
 |.pick c a b=>match ρ c with
  |.val (.bool t)=>some (if t then ρ a else ρ b)
  |_=>none
 |.box e x=>if A1X h.imm o.dst&&(ρ x).storable then some (.cptr (ρ x).cells)else none
 |.nilCheck x=>match ρ x with
  |.ptr b off=>some (.ptr b off)
  |.cptr cs=>some (.cptr cs)
  |.func (.func f) a c=>some (.func (.func f) a c)
  |.vptr f g off=>some (.vptr f g off)
  |_=>none
 |.binOp op t x y _=>A1A C.P op t (ρ x) (ρ y)
 |.unOp .not _ x=>match ρ x with
  |.val (.bool b)=>some (.val (.bool !b))
  |_=>none
 |.unOp .neg _ x=>match ρ x with
  |.val (.int k n)=>some (.val (.int k (k.wrap (0-n))))
  |_=>none
 |.fieldAddr t x f=>match A1D C.P t f,ρ x with
  |some k,.ptr b off=>some (.ptr b (off+k))
  |some k,.cptr cs=>some (.cptr (cs.drop k))
  |some k,.vptr f g off=>some (.vptr f g (off+k))
  |_,_=>none
 |.field t x f=>match A0U C.P t f,ρ x with
  |some (k,ft),.agg cs=>if(A1j C.P ft).any (λn=>decide (k+n<=cs.length))then A0y C.P ft (cs.drop k)else none
  |_,_=>none
 |.indexAddr t x ix=>match A1b C.P t,ρ x,ρ ix with
  |some e,.list sz rows _,.val (.int _ i)=>if A1j C.P e=some sz/\0<=i/\i<rows.length then some (.cptr (rows.getD i.toNat []))else none
  |some e,.vref f g sz lo len,.val (.int _ i)=>if A1j C.P e=some sz/\0<=i/\i<len then some (.vptr f g ((lo+i.toNat)*sz))else none
  |_,_,_=>none
 |.index t x ix=>match C.P.underlying t,ρ x,ρ ix with
  |some .string,.val (.string s),.val (.int _ i)=>if 0<=i/\i<s.size then some (.val (.int .u8 (s.data.getD i.toNat 0).toNat))else none
  |_,_,_=>none
 |.load t x=>match ρ x with
  |.cptr cs=>A0y C.P t cs
  |_=>none
 |.extract x i=>match ρ x with
  |.tuple vs=>vs[i]?
  |_=>none
 |.makeFunc fn f c=>some (.func fn (f.toList.map ρ) (c.toList.map ρ))
 |.slice t x lo hi mx=>A1W C.P t (ρ x) (lo.map ρ) (hi.map ρ) (mx.map ρ)
 |.convert src dst x=>A5C C.P src dst (ρ x)
 |.build t parts=>match A0F C.P t,C.P.underlying t with
  |some z,some (.struct _)=>if !A2Z C.P t||!z.all (·.oneCell')then none else(A1m C.P t (parts.toList.map λp=>(p.1,ρ p.2)) (z.map .val)).map .agg
  |_,_=>none
 |.buildSlice t n parts=>if B5V C h t o.dst then none else match A1b C.P t with
  |some e=>match A1j C.P e,A0F C.P e with
   |some sz,some z=>if n*sz<=2^24/\z.length=sz/\z.all (·.oneCell')/\0<sz then
    (A1e sz (parts.toList.map λp=>(p.1,ρ p.2)) (List.replicate n (z.map .val))).map λrows=>.list sz rows .full
    else none
   |_,_=>none
  |none=>none
 |.call {callee:=.builtin b,args,argTypes}=>A8b C.P (A1X h.own o.dst) b argTypes (args.toList.map ρ)
 |_=>none
def A3w{P}{s}{w w'}{v}(h:s.run P w=.ok v w'):(do pure (.value (<-s)):Sem Next).run P w=.ok (.value v) w':=by simp only[Z0E,h,Z0t,Z0M]
def C8U{P}{t:TypeId}{n}(h:A1j P t=some n):∃i,P.info? t=some i/\i.size=n:=by
 unfold A1j at h;cases hi:P.info? t with
 |none=>simp[hi]at h
 |some i=>simp[hi]at h;exact⟨i,rfl,h⟩
def B4p{P}{t:TypeId}{f k}(h:A1D P t f=some k)(a:Addr)(w:World):(Instr.fieldAt t (.pointer (some a)) f).run P w=.ok (.pointer (some (a.add k))) w:=by
 unfold A1D at h;split at h;case h_2=>simp at h
 rename_i fs hu;split at h;case h_2=>simp at h
 rename_i x hf;cases hs:A1j P x.type with
 |none=>simp[hs]at h
 |some n=>
  cases n with
  |zero=>simp[hs]at h
  |succ n=>simp[hs]at h;subst h;simp[Instr.fieldAt,Z0p hu,hf,Instr.sureAddr,fieldPlace,A1N hs]
def A6j{P}{G}{len n}{v}{x}(hr:Rep G v x)(h:A1s len (some v)=some n)(a:BoundsCode)(w:World):(Instr.sliceBound x len a).run P w=.ok n w/\n<=len:=by
 unfold A1s at h;split at h
 .rename_i h';simp at h'
 .rename_i k i h';simp at h';subst h';simp only[Rep]at hr;subst hr;split at h
  .rename_i hc;simp at h;subst h;exact⟨by simp[Instr.sliceBound,asIntOf,hc],Q0⟩
  .simp at h
 .simp at h
def B2g{P}{G}{len n y}{v}{x}(hr:Rep G v x)(h:A1s len (some v)=some n)(hy:len<=y)(a:BoundsCode)(w:World):(Instr.sliceBound x y a).run P w=.ok n w/\n<=len:=by
 unfold A1s at h;split at h
 .rename_i h';simp at h'
 .rename_i k i h';simp at h';subst h';simp only[Rep]at hr;subst hr;split at h
  .rename_i hc;simp at h;subst h;have b:0<=i/\i<=(y:Int):=⟨hc.1,Q0⟩;exact⟨by simp[Instr.sliceBound,asIntOf,b],Q0⟩
  .simp at h
 .simp at h
section
variable {C:Ctx} {G:A0p} {M:Mem} {w:World}
def B2B{len cap}(i:len<=cap){lo hi mx}{xlo xhi xmx}{m}{hh l}
 (g:∀a,lo=some a->∃x,xlo=some x/\Rep G a x)(p:lo=none->xlo=none)
 (o:∀a,hi=some a->∃x,xhi=some x/\Rep G a x)(n:hi=none->xhi=none)
 (s:∀a,mx=some a->∃x,xmx=some x/\Rep G a x)(j:mx=none->xmx=none)
 (hm:A8s len mx=some m)
 (d:A1s (m.getD len) hi=some hh)(hb:(hi.isSome||mx.isNone)=true)
 (hl:B0l hh lo=some l):
 ∃m',(Instr.sliceBounds true len cap xlo xhi xmx).run C.P w=.ok (l,hh,m') w/\l<=hh/\hh<=len/\hh<=m'/\m'<=cap/\(∀q,m=some q->m'=q)/\(m=none->m'=cap):=by
 unfold Instr.sliceBounds
 have e:∀(f:BoundsCode),l<=hh/\(lo=none->l=0)/\∀x,xlo=some x->(Instr.sliceBound x hh f).run C.P w=.ok l w:=by
  intro f;cases lo with
  |none=>simp only[B0l,Z0b]at hl;subst hl;exact⟨Z3u _,λ_=>rfl,λx hx=>by rw[p rfl]at hx;simp at hx⟩
  |some a=>obtain⟨x,hx,hr⟩:=g a rfl;have:=A6j (P:=C.P) hr hl f w;exact⟨this.2,λh=>by simp at h,λx' hx'=>by rw[hx]at hx';simp at hx';subst hx';exact this.1⟩
 cases mx with
 |none=>
  simp only[A8s,Z0b]at hm
  subst hm
  rw[j rfl]
  simp only[Option.getD_none]at d
  cases hi with
  |none=>
   rw[n rfl]
   simp[A1s]at d
   subst d
   obtain⟨h1,h2,h3⟩:=e .sliceB
   refine⟨cap,?_,h1,Z0j _,i,Z0j _,Q1,Q1⟩
   cases xlo with
   |none=>
    have:lo=none:=by
     cases lo with
     |none=>rfl
     |some a=>obtain⟨x,hx,_⟩:=g a rfl;simp at hx
    simp[h2 this]
   |some x=>simp[h3 x rfl]
  |some b=>
   obtain⟨y,rfl,hy⟩:=o b rfl
   have c:=B2g (P:=C.P) hy d i .sliceAcap w
   obtain⟨h1,h2,h3⟩:=e .sliceB
   refine⟨cap,?_,h1,c.2,Q0,Z0j _,Q1,Q1⟩
   cases xlo with
   |none=>
    have:lo=none:=by
     cases lo with
     |none=>rfl
     |some a=>obtain⟨x,hx,_⟩:=g a rfl;simp at hx
    simp[h2 this,c.1]
   |some x=>simp[h3 x rfl,c.1]
 |some q=>
  obtain⟨z,rfl,hz⟩:=s q rfl
  simp only[A8s,Z0l]at hm
  obtain⟨mm,r,rfl⟩:=hm
  have k:=B2g (P:=C.P) hz r i .slice3Acap w
  simp only[Z1E]at d
  cases hi with
  |none=>simp at hb
  |some b=>
   obtain⟨y,rfl,hy⟩:=o b rfl
   have c:=A6j (P:=C.P) hy d .slice3B w
   obtain⟨h1,h2,h3⟩:=e .slice3C
   refine⟨mm,?_,h1,Q0,c.2,Q0,Q1,Q1⟩
   cases xlo with
   |none=>
    have:lo=none:=by
     cases lo with
     |none=>rfl
     |some a=>obtain⟨x,hx,_⟩:=g a rfl;simp at hx
    simp[h2 this,c.1,k.1]
   |some x=>simp[h3 x rfl,c.1,k.1]
def A9v{sz}{rows}{own}{xv}(hx:Rep G (.list sz rows own) xv){t:TypeId}{lo hi mx}{xlo xhi xmx}{v}
 (y:∀a,lo=some a->∃x,xlo=some x/\Rep G a x)(p:lo=none->xlo=none)
 (r:∀a,hi=some a->∃x,xhi=some x/\Rep G a x)(j:hi=none->xhi=none)
 (q:∀a,mx=some a->∃x,xmx=some x/\Rep G a x)(i:mx=none->xmx=none)(h:A3N C.P t sz rows own lo hi mx=some v):
 ∃u,(Instr.sliceAt t xv xlo xhi xmx).run C.P w=.ok u w/\Rep G v u/\(xv=.slice none 0 0->u=.slice none 0 0):=by
 simp only[A3N]at h
 split at h
 case h_2=>simp at h
 rename_i m e hm he
 split at h
 case isFalse=>simp at h
 rename_i hsz
 split at h
 case h_2=>simp at h
 rename_i hh hhe hb
 split at h
 case h_2=>simp at h
 rename_i l hl
 simp at h
 subst h
 simp only[Rep]at hx
 obtain⟨base,cap,rfl,s,z,c,b⟩:=hx
 have d:=B2B (C:=C) (w:=w) (G:=G) s y p r j q i (by cases mx<;>exact hm) (by cases hi<;>exact hhe) hb (by cases lo<;>exact hl)
 obtain⟨m',n,q1,q2,q3,q4,q5,q6⟩:=d
 refine⟨.slice (if m'=l then base else base.map (·.add (l*sz))) (hh-l) (m'-l),?_,?_,λe=>?_⟩
 .simp[Instr.sliceAt,Instr.slice,Z0p (A2i he),n,A1N hsz]
 .refine A5m (by simp;omega) (by simp;omega) Q0 ?_ ?_
  .cases base with
   |none=>obtain⟨rfl,rfl⟩:=c;(have e0:(if m'=l then(none:Option Addr)else Option.map (λx:Addr=>x.add (l*sz)) none)=none:=by split<;>rfl);rw[e0];exact⟨Q1,Q0⟩
   |some a=>
    obtain⟨o,g⟩:=c;by_cases e1:m'=l
    .rw[Z0c e1];(have:(rows.take hh).drop l=[]:=by apply Z0v;simp;omega);rw[this];exact⟨λh=>absurd rfl h,by simp[A0C]⟩
    .rw[Z0d e1];by_cases e2:rows=[]
     .subst e2;simp only[Z1R,List.take_nil,List.drop_nil];exact⟨λh=>absurd rfl h,by simp[A0C]⟩
     have o:=o e2;(have ea:a.add (l*sz)=⟨a.block,a.off+l*sz,none⟩:=by(have ea:a=⟨a.block,a.off,none⟩:=by cases a;simp_all);rw[ea,Z1h]);simp only[Z1R,ea];exact⟨λ_=>rfl,(g.take hh).drop l⟩
  ·(have k:((rows.take hh).drop l).length=hh-l:=by simp;omega);rw[k]
   unfold A6k;cases m with
   |some mm=>
    have:=q5 mm rfl;simp only;split
    .simp only[A5G];omega
    .trivial
   |none=>
    have:=q6 rfl;subst this;simp only;cases own with
    |no=>trivial
    |full=>
     simp only[A5G]at b;simp only;split
     .simp only[A5G];omega
     .trivial
    |fam f=>
     simp only;split
     .rename_i hc;obtain⟨rfl,rfl⟩:=hc;simp only[A5G,Z4C]at b|-;have e2:(if m'=0 then base else Option.map (λx=>x.add (0*sz)) base)=base:=by
       split
       .rfl
       .cases base with
        |none=>rfl
        |some a=>simp[Addr.add]
      rw[e2];exact b
     .trivial
 .simp only[Value.slice.injEq]at e;obtain⟨rfl,e1,rfl⟩:=e;have e2:(if m'=l then(none:Option Addr)else Option.map (λx:Addr=>x.add (l*sz)) none)=none:=by split<;>rfl
  rw[e2];have:hh-l=0:=Q0;have:m'-l=0:=Q0
  simp_all
def B2V{s}{t:TypeId}{lo hi}{xlo xhi}{v}(d:∀a,lo=some a->∃x,xlo=some x/\Rep G a x)(c:lo=none->xlo=none)
 (g:∀a,hi=some a->∃x,xhi=some x/\Rep G a x)(e:hi=none->xhi=none)(h:A3G C.P t (.val (.string s)) lo hi none=some v):
 ∃u,(Instr.sliceAt t (.string s) xlo xhi none).run C.P w=.ok u w/\Rep G v u:=by
 simp only[A3G]at h
 split at h
 case h_2=>simp at h
 rename_i h' _ hu hh
 split at h
 case h_2=>simp at h
 rename_i l hl
 simp at h
 subst h
 refine⟨.string (s.extract l h'),?_,by simp[Rep]⟩
 have e1:(Instr.sliceBounds false s.size s.size xlo xhi none).run C.P w=.ok (l,h',s.size) w:=by
  unfold Instr.sliceBounds;cases hi with
  |none=>
   rw[e rfl];simp[A1s]at hh;subst hh;cases lo with
   |none=>rw[c rfl];simp at hl;subst hl;simp
   |some a=>obtain⟨x,rfl,hx⟩:=d a rfl;have:=(A6j (P:=C.P) hx hl .sliceB w).1;simp[this]
  |some b=>
   obtain⟨y,rfl,hy⟩:=g b rfl;have f:=(A6j (P:=C.P) hy hh .sliceAlen w).1;cases lo with
   |none=>rw[c rfl];simp at hl;subst hl;simp[f]
   |some a=>obtain⟨x,rfl,hx⟩:=d a rfl;have:=(A6j (P:=C.P) hx hl .sliceB w).1;simp[f,this]
 simp[Instr.sliceAt,Instr.slice,Z0p hu,e1]
end
end Go.Abs
