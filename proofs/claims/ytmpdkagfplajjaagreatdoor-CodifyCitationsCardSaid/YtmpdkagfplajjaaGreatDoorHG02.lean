/- The texts AbsE, AbsF, AbsF2, AbsG, AbsH, AbsI. -/
import Derived.Test.YtmpdkagfplajjaaGreatDoorHG01
set_option linter.all false
namespace Go.Abs
def A3V(P:Program)(u:TypeId):Prop:=(∃e2,P.underlying u=some (.slice e2))\/P.underlying u=some .string
section
variable {P:Program}
def B0w{t u e:TypeId}{ty:TypeId}{sz:Nat}{s x:Value}{base:Option Addr}{n cap:Nat}{w:World}(ht:P.underlying t=some (.slice e))(c:A1u P e=some sz)
 (hu:A3V P u)(hx:∀w,(Builtin.lenOf x).run P w=.ok 0 w)
 (b:(Builtin.firstCells sz 0 x).run P w=.ok #[] w)(a:n<=cap):(Builtin.append_ #[t,u] ty #[.slice base n cap,x]).run P w=.ok (.slice base n cap) w:=by
 obtain⟨e2,hu⟩|hu:=hu
 all_goals cases base<;>simp[Builtin.append_,Z0q ht,Z0q hu,A2k c,hx,b,a,storeCells]
def C4s{t u e:TypeId}{ty:TypeId}{sz}{x}{g n cap m}{w}(ht:P.underlying t=some (.slice e))(f:A1u P e=some sz)
 (hu:A3V P u)(hx:∀w,(Builtin.lenOf x).run P w=.ok m w)
 {news}(d:(Builtin.firstCells sz m x).run P w=.ok news.toArray w)(c:n+m<=cap){cur}{ct:TypeId}(hg:w.heap[g]?=some (.cells cur ct (0,0)))
 (b:n*sz+news.length<=cur.size)(h1:∀v∈news,v.oneCell'=true):
 (Builtin.append_ #[t,u] ty #[.slice (some ⟨g,0,none⟩) n cap,x]).run P w=.ok (.slice (some ⟨g,0,none⟩) (n+m) cap) (w.setRow g (cur.toList.take (n*sz)++news++cur.toList.drop (n*sz+news.length)).toArray):=by
 obtain⟨e2,hu⟩|hu:=hu
 all_goals
  have a:=Z3v P g (n*sz) ct news 0 cur w hg (by simpa using b) h1
  simp only[Z0Z]at a
  simp[Builtin.append_,Z0q ht,Z0q hu,A2k f,hx,d,c,a,Z1t]
def B0M{t u e:TypeId}{ty:TypeId}{i:TypeInfo}{z x:Value}{base:Option Addr}{n cap m:Nat}{w:World}(ht:P.underlying t=some (.slice e))(hi:P.info? e=some i)(hz:i.zero=some z)
 (hu:A3V P u)(hx:∀w,(Builtin.lenOf x).run P w=.ok m w)
 {news olds:List Value}(c:(Builtin.firstCells i.size m x).run P w.drew=.ok news.toArray w.drew)(f:(Builtin.firstCells i.size n (.slice base n cap)).run P w.drew=.ok olds.toArray w.drew)
 (d:cap<n+m)(hb:(n+m)*i.bytes<=140737488355328)(g:n+m<=maxLen):
 (Builtin.append_ #[t,u] ty #[.slice base n cap,x]).run P w=.ok (.slice (some ⟨w.heap.size,0,none⟩) (n+m) (grownCap w (n+m) cap e)) (w.drew.alloc (.cells (olds.toArray++news.toArray++Builtin.zeroCells z.cells (grownCap w (n+m) cap e-(n+m))) e)):=by
 have hn:¬(n+m<=cap):=by omega
 have b:¬(9223372036854775807<((n:Int)+(m:Int))):=by simp only[maxLen]at g;omega
 have h:=growslice_fits d hb
 have a:¬(281474976710656<Builtin.nextslicecap (n+m) cap*i.bytes):=by omega
 obtain⟨e2,hu⟩|hu:=hu
 all_goals simp[Builtin.append_,Z0q ht,Z0q hu,sizeOf,typeInfo,zeroValue,hi,hz,hx,hn,b,a,Question.forced,c,f,newRow,grownCap]
 all_goals (congr 2;apply Z1E;simp)
end
def A3s(P:Program)(e:TypeId)(sz bytes:Nat):Prop:=∃i z,P.info? e=some i/\i.zero=some z/\i.size=sz/\i.bytes=bytes/\z.cells.size=sz/\0<bytes
def A7z(hint:Bool)(sz:Nat)(s x:AV)(M:Mem):Option (AV×Mem):=
 match B1t s,B1t x with
 |some (r1,own),some (r2,_)=>
  match own with
  |.fam f=>match M[f]? with
   |some (.fam m sz')=>if m=r1.length/\sz'=sz then some (.list sz (r1++r2) (.fam f),M.set f (.fam (r1.length+r2.length) sz))else none
   |_=>none
  |.full=>if hint then some (.list sz (r1++r2) (.fam M.length),M++[.fam (r1.length+r2.length) sz])else some (.list sz (r1++r2) .no,M)
  |.no=>none
 |_,_=>none
def A9b(s:AV):Nat:=match B1t s with|some (r,_)=>r.length|none=>0
def A6s(P:Program)(base:Option Addr)(n c:Nat)(w:World):(Builtin.lenOf (.slice base n c)).run P w=.ok n w:=rfl
def A0o.grow(G:A0o)(f n:Nat)(h:Option Addr×Nat)(nb o:Nat)(vs:List Value):A0o:={G with st:=λb i=>if b=nb/\o<=i/\i<o+vs.length then vs[i-o]? else G.st b i,hdr:=λj=>if j=f thenλk=>if k=n then h else G.hdr f k else G.hdr j,top:=λj=>if j=f then n else G.top j}
def A0o.le_grow{G:A0o}{f n:Nat}{h:Option Addr×Nat}{nb o:Nat}{vs:List Value}(hn:G.top f<n\/(G.top f=n/\G.hdr f n=h))(a:∀i v,o<=i->i<o+vs.length->G.st nb i=some v->vs[i-o]?=some v):G.le (G.grow f n h nb o vs):=by
 refine⟨Z0n _,λ_ _=>rfl,λb i v hv=>?_,λ_ _ h=>h,λj _=>?_,λj _ k hk=>?_⟩
 .simp only[A0o.grow];split
  .rename_i e;obtain⟨rfl,h1,h2⟩:=e;exact a i v h1 h2 hv
  .exact hv
 .simp only[A0o.grow];by_cases e:j=f
  .subst e;rw[Z0e rfl];omega
  .rw[Z0d e];exact Z0n _
 .simp only[A0o.grow];by_cases e:j=f
  .subst e;rw[Z0e rfl];by_cases e2:k=n
   .subst e2;rw[Z0e rfl];rcases hn with h1|⟨_,h1⟩
    .omega
    .exact h1.symm
   .rw[Z0d e2]
  .rw[Z0d e]
abbrev B8s(G:A0o)(sz:Nat)(rows:List (List AV))(base:Option Addr)(cap:Nat):Prop:=match base with|none=>rows=[]/\cap=0|some a=>(rows≠[]->a.spot=none)/\A0C G sz rows a.block a.off
def A5Q{G}{sz}{rows}{own}{base}{n cap}(hn:n=rows.length)(h1:rows.length<=cap)(h2:cap<=maxLen)(h3:B8s G sz rows base cap)(h4:A5I G own rows.length base cap):Rep G (.list sz rows own) (.slice base n cap):=by
 subst hn
 simp only[Rep]
 exact⟨base,cap,rfl,h1,h2,h3,h4⟩
def B8s.mono{G G'}(h:G.le G'){sz}{rows}{base}{cap}(k:B8s G sz rows base cap):B8s G' sz rows base cap:=by
 cases base with
 |none=>exact k
 |some a=>exact⟨k.1,A0C.mono h sz rows _ _ k.2⟩
def Inv.adopt{C}{G}{M}{w}(hi:Inv C G M w){n sz}{base}(hn:n<=maxLen):∃G',Inv C G' (M++[.fam n sz]) w/\G.le G'/\M.length<G'.n/\G'.top M.length=n/\G'.hdr M.length n=(base,n):=by
 have hm:=hi.more w.heap.size (λ_=>(base,n)) n
 have hk:(M++[A0m.gone])[M.length]?=some .gone:=by simp
 have e1:(G.more w.heap.size (λ_=>(base,n)) n).hdr M.length n=(base,n):=by simp[A0o.more,hi.n]
 have e2:(G.more w.heap.size (λ_=>(base,n)) n).top M.length=n:=by simp[A0o.more,hi.n]
 have hs:=hm.step (w':=w) (o':=.fam n sz) M.length w.heap.size hk (.inr (Z0n _)) (.refl _) rfl (λ_=>rfl) (λ_ _=>⟨rfl,rfl⟩) (λ_ _ _ h=>.inl h) (λ_=>rfl) (λ_ _ _=>rfl) (λi v h=>hi.st _ _ _ h) (λo h=>by have:=hi.keep_lt (b:=w.heap.size) (o:=o) h;omega) ⟨e2,by rw[e1];exact Z0n _,by rw[e1];exact hn,λh=>by rw[e1]at h;simp at h⟩ (λb h=>by simp[A2N,e1]at h)
 exact⟨_,by simpa using hs,G.le_more _ _ _,by simp[A0o.more,hi.n],e2,e1⟩
def A0C.grown{G G'}(b:G.le G'){sz nb o}{rows}{vs}(hr:A0t G rows.flatten vs)(h1:∀v∈vs,v.oneCell'=true)(c:∀r∈rows,r.length=sz) (a:∀(i:Nat) (v:Value),vs[i]?=some v->G'.st nb (o+i)=some v):A0C G' sz rows nb o:=A0C.mk c (A0N.mk (A0t.mono b _ _ hr) h1 a)
def C3W{C}{G}{M}{w}(hi:Inv C G M w){s x}{sv xv}(hs:Rep G s sv)(hx:Rep G x xv){sz bytes}(c0:B0X sz s)(c6:B0X sz x)
 {hint}{r}{M'}(h:A7z hint sz s x M=some (r,M')){t u e:TypeId}(ty:TypeId)(ht:A1f C.P t=some e)(hu:A3V C.P u)(he:A3s C.P e sz bytes)
 (hb:(A9b s+A9b x)*bytes<=140737488355328):
 ∃v w' G',(Builtin.append_ #[t,u] ty #[sv,xv]).run C.P w=.ok v w'/\G.le G'/\Inv C G' M' w'/\Rep G' r v/\Ext w w':=by
 have ht:=A2C ht
 obtain⟨i,z,ah,hz,ag,bt,bv,bb⟩:=he
 have b4:A1u C.P e=some sz:=by simp[A1u,ah,ag]
 unfold A7z at h
 split at h
 case h_2=>simp at h
 rename_i r1 own r2 own2 e1 e2
 obtain⟨base,cap,rfl,b8,af,au,ae⟩:=B9A hi hs e1 c0
 obtain⟨a5,a9,rfl,c8,c9,c3,ca⟩:=B9A hi hx e2 c6
 obtain⟨a0,bu,ab,bc,bo,bq⟩:=B4k hi (cap:=cap) au
 obtain⟨c,bs,a1,am,bp,be⟩:=B4k hi (cap:=a9) c3
 have c5:(r1.length+r2.length)*bytes<=140737488355328:=by simpa[A9b,e1,e2]using hb
 have bg:r1.length+r2.length<=maxLen:=by have:r1.length+r2.length<=(r1.length+r2.length)*bytes:=Z2k _ bb;simp only[maxLen];omega
 have ap:A0t G (r1++r2).flatten (a0++c):=by rw[List.flatten_append];exact bu.append bs
 have a4:∀v∈a0++c,v.oneCell'=true:=λv hv=>by
  rcases Z0S.1 hv with h|h
  .exact bc v h
  .exact am v h
 have ac:∀q∈r1++r2,q.length=sz:=λv hv=>by
  rcases Z0S.1 hv with h|h
  .exact bo v h
  .exact bp v h
 have ax:(a0++c).length=(r1.length+r2.length)*sz:=by rw[Z0t,ab,a1,Z0M]
 by_cases hm:r2.length=0
 ·-- nothing is appended
  have bn:r2=[]:=Z0y hm;subst bn;have c4:(Builtin.firstCells sz 0 (.slice a5 ([]:List (List AV)).length a9)).run C.P w=.ok #[] w:=by have:=be w rfl;have hv:c=[]:=Z0y (by simpa using a1);subst hv;exact this
  have k:=B0w (P:=C.P) (ty:=ty) (s:=.bool true) (base:=base) (n:=r1.length) (cap:=cap) (x:=.slice a5 ([]:List (List AV)).length a9) ht b4 hu (λw=>A6s _ _ _ _ _) c4 b8;simp only[Z1d,Z1B,Z0Z]at h;cases own with
  |no=>simp at h
  |full=>
   simp only[A5I]at ae;subst ae;simp only at h;split at h
   .simp only[Z0b,Z0h]at h;obtain⟨rfl,rfl⟩:=h;obtain⟨G',p,l,y,q1,q2⟩:=hi.adopt (n:=r1.length) (sz:=sz) (base:=base) af;exact⟨_,w,G',k,l,p,A5Q rfl (Z0n _) af (B8s.mono l au) ⟨y,by omega,q2⟩,.refl _⟩
   .simp only[Z0b,Z0h]at h;obtain⟨rfl,rfl⟩:=h;exact⟨_,w,G,k,.refl _,hi,A5Q rfl b8 af au trivial,.refl _⟩
  |fam f=>
   simp only at h;split at h
   .rename_i m sz' hf;split at h
    .rename_i hcond;obtain⟨rfl,rfl⟩:=hcond;simp only[Z0b,Z0h]at h;obtain⟨rfl,rfl⟩:=h;(have hM:M.set f (.fam r1.length sz')=M:=by have y:=A0S hf;rw[Z0l y]at hf;have:=Z1H hf;rw[<-this];exact List.set_getElem_self y);rw[hM];exact⟨_,w,G,k,.refl _,hi,A5Q rfl b8 af au ae,.refl _⟩
    .simp at h
   .simp at h
 .by_cases hroom:r1.length+r2.length<=cap
  ·-- in place
   cases own with
   |no=>simp at h
   |full=>simp only[A5I]at ae;omega
   |fam f=>
    simp only at h;split at h;(case h_2=>simp at h);rename_i m sz' hf;split at h;(case isFalse=>simp at h);rename_i hcond;obtain⟨rfl,rfl⟩:=hcond;simp only[Z0b,Z0h]at h;obtain⟨rfl,rfl⟩:=h;obtain⟨aj,c7,bf⟩:=ae;obtain⟨aa,ad,br,bi⟩:=hi.obj f _ hf;rw[bf]at ad br bi;obtain⟨g,a3,ct,an,hg,b3,al,aq⟩:=bi (by show r1.length<cap;omega);simp only at an b3;subst an;(have b9:r1.length*sz'+c.length<=a3.size:=by rw[a1,<-Z0M];exact Z0R (Z1f _ hroom) b3);have k:=C4s (P:=C.P) (ty:=ty) (g:=g) (n:=r1.length) (cap:=cap) (x:=.slice a5 r2.length a9) (m:=r2.length) ht b4 hu (λw=>A6s _ _ _ _ _) (be w rfl) hroom hg b9 am;generalize ba:w.setRow g (a3.toList.take (r1.length*sz')++c++a3.toList.drop (r1.length*sz'+c.length)).toArray=w' at k;(have ak:w'.heap[g]?=some (.cells (a3.toList.take (r1.length*sz')++c++a3.toList.drop (r1.length*sz'+c.length)).toArray ct (0,0)):=by rw[<-ba];exact Z4l w g a3 _ ct _ hg);(have bw:(a3.toList.take (r1.length*sz')).length=r1.length*sz':=by rw[Z0D];simp;omega);(have ao:∀i:Nat,w'.cell? ⟨g,i,none⟩=(a3.toList.take (r1.length*sz')++c++a3.toList.drop (r1.length*sz'+c.length))[i]?:=by intro i;rw[Z2Q _ _ _ _ _ _ ak];simp);(have bm:∀i:Nat,i<r1.length*sz'->w'.cell? ⟨g,i,none⟩=w.cell? ⟨g,i,none⟩:=by intro i p;rw[ao,Z2Q _ _ _ _ _ _ hg,Z0F,Z0i (by omega),Z0P,Z0e p];simp);(have bd:∀i v,r1.length*sz'<=i->c[i-r1.length*sz']?=some v->w'.cell? ⟨g,i,none⟩=some v:=by intro i v p hv;have y:=A0S hv;rw[ao,Z0F,Z1y (by omega),bw,Z0i y];exact hv);have b2:∀i v,G.st g i=some v->i<r1.length*sz':=by
     intro i v hv;rcases Z3G i (r1.length*sz')with h|h
     .exact h
     .rw[al i h]at hv;simp at hv
    have l:G.le (G.grow f (r1.length+r2.length) (some ⟨g,0,none⟩,cap) g (r1.length*sz') c):=A0o.le_grow (.inl (by omega)) (λi v h1 h2 hv=>by have:=b2 i v hv;omega);(have d:(G.grow f (r1.length+r2.length) (some ⟨g,0,none⟩,cap) g (r1.length*sz') c).hdr f (r1.length+r2.length)=(some ⟨g,0,none⟩,cap):=by simp[A0o.grow]);(have bx:A2N G f (.fam r1.length sz') g:=by simp only[A2N,bf];exact⟨by omega,_,rfl,rfl⟩);have p:=hi.step (w':=w') (o':=.fam (r1.length+r2.length) sz') f g hf (.inl bx) l rfl (λ_=>rfl) (λj hj=>by simp[A0o.grow,hj])
     (λb i v hv=>by
      simp only[A0o.grow]at hv;split at hv
      .rename_i hc;obtain⟨rfl,c1,c2⟩:=hc;exact .inr ⟨rfl,bd i v c1 hv⟩
      .exact .inl hv)
     (λ_=>rfl) (λb _ hne=>by rw[<-ba];exact Z3H _ _ _ _ hne) (λi v hv=>by rw[bm i (b2 i v hv)];exact hi.st _ _ _ hv) (λo ho=>by rw[aq]at ho;simp at ho)
     ⟨by
      simp[A0o.grow],by rw[d];exact hroom,by rw[d];exact af,λy=>⟨g,_,ct,by rw[d],ak,by
      rw[d];simp only[Z2D,Z0t,Z0D,Z1c,Z1z];omega,λi p=>by simp only[A0o.grow];rw[Z0d (by rw[a1,<-Z0M];omega)];exact al i (Z0R (Z1f _ (Nat.le_add_right _ _)) p),aq⟩⟩
     (λb hb=>.inl (by simp only[A2N,d,Z0b]at hb;obtain⟨_,a,rfl,rfl⟩:=hb;rfl))
    refine⟨_,w',_,k,l,p,?_,by rw[<-ba];exact Ext.setRow _ _ _⟩;refine A5Q (by simp) (by simpa using hroom) af ⟨λ_=>rfl,?_⟩ ⟨by exact aj,by simp[A0o.grow],by simpa using d⟩;refine A0C.grown l ap a4 ac (λi v hv=>?_);simp only[Z0N,A0o.grow];by_cases y:i<a0.length
    .rw[Z0i y]at hv;rw[Z0d (by omega)];obtain⟨_,ai⟩:=au;obtain⟨us,q1,q2,q3,q4⟩:=(A0C.flat ai).1.vals;(have bz:us=a0:=by have b7:=bq w rfl;have bj:=Z2F (P:=C.P) w sz' r1.length ⟨g,0,none⟩ r1.length cap us (by rw[q2,(A0C.flat ai).2]) (λj v hv=>by rw[Z1t];exact hi.st _ _ _ (q4 j v hv));rw[bj]at b7;simp at b7;exact b7);subst bz;simpa using q4 i v hv
    .rw[Z1y (by omega)]at hv;have:=A0S hv;rw[Z0e ⟨trivial,by omega,by omega⟩,<-ab];exact hv
  ·-- a new block
   have k:=B0M (P:=C.P) (ty:=ty) (base:=base) (n:=r1.length) (cap:=cap) (x:=.slice a5 r2.length a9) (m:=r2.length) (w:=w) (i:=i) (z:=z) (e:=e) (t:=t) (u:=u) (news:=c) (olds:=a0) ht ah hz hu (λw=>A6s _ _ _ _ _) (by rw[ag];exact be w.drew rfl) (by rw[ag];exact bq w.drew rfl) (by omega) (by rw[bt];exact c5) bg;have ay:=Z4m w (r1.length+r2.length) cap e;have b1:=Z3r w (r1.length+r2.length) cap e bg;generalize grownCap w (r1.length+r2.length) cap e=nc at k ay b1;generalize b6:a0.toArray++c.toArray++Builtin.zeroCells z.cells (nc-(r1.length+r2.length))=a6 at k;(have b0:a6.size=nc*sz:=by rw[<-b6];simp only[Z3X,Z2D,Z4s,bv,ab,a1,<-Z0M];congr 1;omega);(have a8:∀(i:Nat) (v:Value),(a0++c)[i]?=some v->a6[i]?=some v:=by intro i v hv;have y:=A0S hv;rw[<-b6,Z3T (by simp at y|-;omega),<-hv];simp);have aw:Inv C G M w.drew:=hi.world rfl;have av:Ext w (w.drew.alloc (.cells a6 e)):=(Ext.drew w).trans (Ext.alloc _ _);have a2:=Z2h w.drew (.cells a6 e);have a7:∀(G1:A0o) (M1:Mem) (f:Nat) (o:A0m),Inv C G1 M1 w.drew->G.le G1->M1[f]?=some o->f<G1.n->(G1.top f<r1.length+r2.length\/(∀h,G1.top f=r1.length+r2.length/\G1.hdr f (r1.length+r2.length)=h->True)/\G1.top f<r1.length+r2.length)->
    ∃G',G.le G'/\Inv C G' (M1.set f (.fam (r1.length+r2.length) sz)) (w.drew.alloc (.cells a6 e))/\Rep G' (.list sz (r1++r2) (.fam f)) (.slice (some ⟨w.heap.size,0,none⟩) (r1.length+r2.length) nc):=by
    intro G1 M1 f o az ad hf aj aa
    have aa:G1.top f<r1.length+r2.length:=by rcases aa with h|h;exact h;exact h.2
    have l:G1.le (G1.grow f (r1.length+r2.length) (some ⟨w.heap.size,0,none⟩,nc) w.heap.size 0 (a0++c)):=A0o.le_grow (.inl aa) (λi v _ _ hv=>by have:=az.st_lt hv;simp at this)
    have d:(G1.grow f (r1.length+r2.length) (some ⟨w.heap.size,0,none⟩,nc) w.heap.size 0 (a0++c)).hdr f (r1.length+r2.length)=(some ⟨w.heap.size,0,none⟩,nc):=by simp[A0o.grow]
    have b5:∀i,G1.st w.heap.size i=none:=by
     intro i;cases h:G1.st w.heap.size i with
     |none=>rfl
     |some v=>have:=az.st_lt h;simp at this
    have bk:∀o,G1.keep w.heap.size≠some o:=by intro o h;have:=az.keep_lt h;simp at this
    have p:=az.step (w':=w.drew.alloc (.cells a6 e)) (o':=.fam (r1.length+r2.length) sz) f w.heap.size hf (.inr (by simp)) l rfl (λ_=>rfl) (λj hj=>by simp[A0o.grow,hj])
     (λb i v hv=>by
      simp only[A0o.grow]at hv;split at hv
      .rename_i hc;obtain⟨rfl,c1,c2⟩:=hc;refine .inr ⟨rfl,?_⟩;rw[Z2Q _ _ _ _ _ _ (by simpa using a2)];exact a8 i v (by simpa using hv)
      .exact .inl hv)
     (λ_=>rfl) (λb y _=>A3X w.drew _ b (by simpa using y)) (λi v hv=>by rw[b5]at hv;simp at hv) bk
     ⟨by
      simp[A0o.grow],by rw[d];exact ay,by rw[d];exact b1,λy=>⟨w.heap.size,a6,e,by rw[d],by simpa using a2,by rw[d,b0];exact Z0n _,λi p=>by
      simp only[A0o.grow];rw[Z0d (by rw[ax];omega)];exact b5 i,by
      cases h:G1.keep w.heap.size with
      |none=>exact h
      |some o=>exact absurd h (bk o)⟩⟩
     (λb hb=>.inl (by simp only[A2N,d,Z0b]at hb;obtain⟨_,a,rfl,rfl⟩:=hb;rfl))
    refine⟨_,ad.trans l,p,?_⟩
    refine A5Q (by simp) (by simpa using ay) b1 ⟨λ_=>rfl,?_⟩ ⟨aj,by simp[A0o.grow],by simpa using d⟩
    refine A0C.grown (ad.trans l) ap a4 ac (λi v hv=>?_)
    have:=A0S hv
    simp only[Z0N,A0o.grow]
    rw[Z0e ⟨trivial,by omega,by omega⟩]
    simpa using hv
   cases own with
   |no=>simp at h
   |full=>
    simp only at h;split at h
    .simp only[Z0b,Z0h]at h;obtain⟨rfl,rfl⟩:=h;have bh:=aw.more 0 (λ_=>(none,0)) 0;obtain⟨G',l,p,ar⟩:=a7 _ (M++[.gone]) M.length .gone bh (G.le_more _ _ _) (by simp) (by simp[A0o.more,hi.n]) (.inl (by simp[A0o.more,hi.n];omega));exact⟨_,_,G',k,l,by simpa using p,ar,av⟩
    .simp only[Z0b,Z0h]at h;obtain⟨rfl,rfl⟩:=h;have l:=A0o.le_fix aw (a0++c);refine⟨_,_,_,k,l,aw.fix a6 e (a0++c) a8,?_,av⟩;refine A5Q (by simp) (by simpa using ay) b1 ⟨λ_=>rfl,?_⟩ trivial;refine A0C.grown l ap a4 ac (λi v hv=>?_);simp only[Z0N,A0o.fix];rw[Z0e (show w.heap.size=w.drew.heap.size from rfl)];exact hv
   |fam f=>simp only at h;split at h;(case h_2=>simp at h);rename_i m sz' hf;split at h;(case isFalse=>simp at h);rename_i hcond;obtain⟨rfl,rfl⟩:=hcond;simp only[Z0b,Z0h]at h;obtain⟨rfl,rfl⟩:=h;obtain⟨aj,c7,bf⟩:=ae;obtain⟨aa,_⟩:=hi.obj f _ hf;obtain⟨G',l,p,ar⟩:=a7 G M f _ aw (.refl _) hf aj (.inl (by omega));exact⟨_,_,G',k,l,p,ar,av⟩
def C0M{P}{t u e:TypeId}{ty:TypeId}{sz}{x}{g o n cap m}{w}(ht:P.underlying t=some (.slice e))(f:A1u P e=some sz)
 (hu:A3V P u)(hx:∀w,(Builtin.lenOf x).run P w=.ok m w)
 {news}(d:(Builtin.firstCells sz m x).run P w=.ok news.toArray w)(c:n+m<=cap){cur}{ct:TypeId}(hg:w.heap[g]?=some (.cells cur ct (0,0)))
 (b:o+n*sz+news.length<=cur.size)(h1:∀v∈news,v.oneCell'=true):
 (Builtin.append_ #[t,u] ty #[.slice (some ⟨g,o,none⟩) n cap,x]).run P w=.ok (.slice (some ⟨g,o,none⟩) (n+m) cap) (w.setRow g (cur.toList.take (o+n*sz)++news++cur.toList.drop (o+n*sz+news.length)).toArray):=by
 obtain⟨e2,hu⟩|hu:=hu
 all_goals
  have a:=Z3v P g (o+n*sz) ct news 0 cur w hg (by simpa using b) h1
  simp only[Z0Z]at a
  simp[Builtin.append_,Z0q ht,Z0q hu,A2k f,hx,d,c,a,Z1t]
def A0D(M:Mem)(sz:Nat):AV->Option (List AV×Nat)
 |.val (.slice none 0 0)=>some ([],0)
 |.val (.string s)=>if sz=1 then some (s.data.toList.map λb=>.val (.int .u8 b.toNat),s.size)else none
 |.list s rows _=>if s=sz then some (rows.flatten,rows.length)else none
 |.vref f h s lo len=>match M[f]? with
  |some (.vec _ s' cs _ hist)=>match hist.lookup h with
   |some n=>if s=sz/\s'=sz/\lo+len<=n then some ((cs.drop (lo*sz)).take (len*sz),len)else none
   |none=>none
  |_=>none
 |_=>none
def B4d{P}(s:ByteArray)(w:World):(Builtin.firstCells 1 s.size (.string s)).run P w=.ok (s.data.map λb=>.int .u8 b.toNat) w:=by
 have e:s.extract 0 s.size=s:=by simp
 simp[Builtin.firstCells,e]
def A7O{C}{G}{M}{w}(hi:Inv C G M w){x}{xv}{sz m}{news}(hr:Rep G x xv)(h:A0D M sz x=some (news,m)):∃vs:List Value,A0t G news vs/\vs.length=m*sz/\(∀v∈vs,v.oneCell'=true)/\(∀w,(Builtin.lenOf xv).run C.P w=.ok m w)/\∀w',w'.heap=w.heap->(Builtin.firstCells sz m xv).run C.P w'=.ok vs.toArray w':=by
 unfold A0D at h
 split at h
 .simp only[Z0b,Z0h]at h;obtain⟨rfl,rfl⟩:=h;simp only[Rep]at hr;subst hr;exact⟨[],by simp[A0t],by simp,by simp,λw=>A6s _ _ _ _ _,λw' _=>by simp[Builtin.firstCells]⟩
 .rename_i s;split at h
  .rename_i hs;subst hs;simp only[Z0b,Z0h]at h;obtain⟨rfl,rfl⟩:=h;simp only[Rep]at hr;subst hr;refine⟨s.data.toList.map λb=>.int .u8 b.toNat,?_,by simp only[Z0G,Nat.mul_one];rfl,?_,λw=>rfl,λw' _=>?_⟩
   .refine A0t.of_get (by simp) ?_;intro i c y h1 h2;simp only[Z1g,Z0m]at h1 h2;obtain⟨a,ha,rfl⟩:=h1;obtain⟨b,hb,rfl⟩:=h2;rw[ha]at hb;simp only[Z0b]at hb;subst hb;simp[Rep]
   .intro v hv;simp only[Z0C]at hv;obtain⟨_,_,rfl⟩:=hv;rfl
   .rw[B4d];congr 1;apply Z1E;simp
  .simp at h
 .rename_i s rows own;split at h
  .rename_i hs;subst hs;simp only[Z0b,Z0h]at h;obtain⟨rfl,rfl⟩:=h;simp only[Rep]at hr;obtain⟨base,cap,rfl,_,_,hb,_⟩:=hr;obtain⟨vs,h1,h2,h3,_,h5⟩:=B4k hi (cap:=cap) hb;exact⟨vs,h1,h2,h3,λw=>A6s _ _ _ _ _,h5⟩
  .simp at h
 .rename_i f h' s lo len;split at h
  .rename_i ty s' cs g hist hM;split at h
   .rename_i n hn;split at h
    .rename_i hc;obtain⟨rfl,rfl,e⟩:=hc;simp only[Z0b,Z0h]at h;obtain⟨rfl,rfl⟩:=h;simp only[Rep]at hr;obtain⟨hf,hg,a,a',cap,hd,u,r,rfl,p,_,q⟩:=hr;obtain⟨_,p2,_⟩:=hi.obj f _ hM;obtain⟨_,q0,b,o,t,vs,q1,q2,q3,q4,q5,q6,q7,q8,q9⟩:=p2 h' n (A3v hn);rw[hd]at q1;simp only[Z0h,Z0b]at q1;obtain⟨rfl,rfl⟩:=q1;(have e1:(((vs.toList.drop o).take (n*s')).drop (lo*s')).take (len*s')=(vs.toList.drop (o+lo*s')).take (len*s'):=by rw[Z2T,Z2c,Z2v,Z1A];(have:lo*s'+len*s'<=n*s':=by rw[<-Z0M];exact Z1f _ e);omega);(have e2:((cs.take (n*s')).drop (lo*s')).take (len*s')=(cs.drop (lo*s')).take (len*s'):=by rw[Z2T,Z2v,Z1A];(have:lo*s'+len*s'<=n*s':=by rw[<-Z0M];exact Z1f _ e);omega);have hR:=(q6.drop (lo*s')).take (len*s');rw[e1,e2]at hR;(have d:((vs.toList.drop (o+lo*s')).take (len*s')).length=len*s':=by simp only[Z0D,Z1c,Z1z];(have h1:lo*s'+len*s'<=cap*s':=by rw[<-Z0M];exact Z1f _ p);omega);(have k:∀v∈(vs.toList.drop (o+lo*s')).take (len*s'),v.oneCell'=true:=by rw[<-e1];intro v hv;exact q7 v (Z1m (Z1k hv)));refine⟨_,hR,d,k,λw=>A6s _ _ _ _ _,λw' hw=>?_⟩;by_cases hl0:len=0
     .subst hl0;refine Z2F (P:=C.P) w' s' 0 a' 0 (cap-lo) _ (by simp) (λj v hv=>by simp at hv)
     .have ha:=q (by omega);refine Z2F (P:=C.P) w' s' len a' len (cap-lo) _ (by rw[d]) (λj v hv=>?_);rw[ha,Z1t];rw[Z0P]at hv;split at hv
      .rw[Z1e]at hv;(have l:w'.heap[b]?=some (.cells vs ty (0,0)):=by rw[hw];exact q4);rw[Z2Q _ _ _ _ _ _ l];simpa using hv
      .simp at hv
    .simp at h
   .simp at h
  .simp at h
 .simp at h
def A6w(e:TypeId)(sz:Nat)(s x:AV)(M:Mem):Option (AV×Mem):=
 match A0D M sz x with
 |none=>none
 |some (news,m)=>match s with
  |.val (.slice none 0 0)=>if m=0 then some (s,M)else some (.vref M.length 0 sz 0 m,M++[.vec e sz news 0 [(0,m)]])
  |.list s' [] .full=>if s'=sz then(if m=0 then some (s,M)else some (.vref M.length 0 sz 0 m,M++[.vec e sz news 0 [(0,m)]]))else none
  |.vref f h s' lo len=>match M[f]? with
   |some (.vec e2 s2 cs g hist)=>match hist.lookup h with
    |some n=>if e2=e/\s'=sz/\s2=sz/\lo+len<=n then
     if m=0 then some (s,M)else
     some (.vref f (g+1) sz 0 (len+m),M.set f (.vec e sz ((cs.drop (lo*sz)).take (len*sz)++news) (g+1) ((g+1,len+m)::if lo=0 then hist.filter (λp=>decide (p.2<=len))else[])))
     else none
    |none=>none
   |_=>none
  |_=>none
def A0o.le_time{G:A0o}{f n:Nat}{h:Option Addr×Nat}(hn:G.top f<n):G.le (G.grow f n h 0 0 []):=A0o.le_grow (.inl hn) (λi v h1 h2 _=>by simp at h2)
def A0o.time_st(G:A0o)(f n:Nat)(h:Option Addr×Nat)(b i:Nat):(G.grow f n h 0 0 []).st b i=G.st b i:=by simp only[A0o.grow,Z1B,Z0Z];rw[Z0d (by omega)]
def A0o.time_hdr(G:A0o)(f n:Nat)(h:Option Addr×Nat):(G.grow f n h 0 0 []).hdr f n=h:=by simp[A0o.grow]
def A0o.time_old(G:A0o)(f n m:Nat)(h:Option Addr×Nat)(hm:m≠n):(G.grow f n h 0 0 []).hdr f m=G.hdr f m:=by simp[A0o.grow,hm]
def B9b{C}{G}{M}{w}(hi:Inv C G M w){s v}{M'}{xv}{t u e ty:TypeId}{sz bytes m}{news}{vs2}(he:A3s C.P e sz bytes)
 (ht:C.P.underlying t=some (.slice e))(hu:A3V C.P u)(y:A0t G news vs2)(d:vs2.length=m*sz)(a0:∀v∈vs2,v.oneCell'=true)(a4:∀w,(Builtin.lenOf xv).run C.P w=.ok m w)
 (a7:∀w',w'.heap=w.heap->(Builtin.firstCells sz m xv).run C.P w'=.ok vs2.toArray w')(base:Option Addr)(hs:Rep G s (.slice base 0 0))(ad:∀w',(Builtin.firstCells sz 0 (.slice base 0 0)).run C.P w'=.ok ([]:List Value).toArray w')
 (af:(0+m)*bytes<=140737488355328)(h:(if m=0 then some (s,M)else some (AV.vref M.length 0 sz 0 m,M++[.vec e sz news 0 [(0,m)]]))=some (v,M')):
 ∃r w' G',(Builtin.append_ #[t,u] ty #[.slice base 0 0,xv]).run C.P w=.ok r w'/\G.le G'/\Inv C G' M' w'/\Rep G' v r/\Ext w w':=by
 obtain⟨i,z,j,hz,g,ab,ae,a1⟩:=he
 have a5:A1u C.P e=some sz:=by simp[A1u,j,g]
 split at h
 .rename_i hm0;simp only[Z0b,Z0h]at h;obtain⟨rfl,rfl⟩:=h;subst hm0;have hv:vs2=[]:=Z0y (by simpa using d);subst hv;exact⟨_,w,G,B0w (s:=.bool true) (base:=base) (n:=0) (cap:=0) ht a5 hu a4 (a7 w rfl) (Z0n _),.refl _,hi,hs,.refl _⟩
 .rename_i hm0;simp only[Z0b,Z0h]at h;obtain⟨rfl,rfl⟩:=h;have a6:0+m<=maxLen:=by have:0+m<=(0+m)*bytes:=Z2k _ a1;simp only[maxLen];omega
  have k:=B0M (P:=C.P) (ty:=ty) (base:=base) (n:=0) (cap:=0) (x:=xv) (m:=m) (w:=w) (i:=i) (z:=z) (e:=e) (t:=t) (u:=u) (news:=vs2) (olds:=[]) ht j hz hu a4 (by rw[g];exact a7 w.drew rfl) (by rw[g];exact ad _) (by omega) (by rw[ab];exact af) a6;have a8:=Z4m w (0+m) 0 e;have a3:=Z3r w (0+m) 0 e a6;generalize grownCap w (0+m) 0 e=nc at k a8 a3;have q:Ext w (w.drew.alloc (.cells (([]:List Value).toArray++vs2.toArray++Builtin.zeroCells z.cells (nc-(0+m))) e)):=(Ext.drew w).trans (Ext.alloc _ _);generalize p:([]:List Value).toArray++vs2.toArray++Builtin.zeroCells z.cells (nc-(0+m))=o at k q;have l:o.size=nc*sz:=by rw[<-p];simp only[Z3X,Z2D,Z4s,ae,d,Z1B,Z0N,<-Z0M];congr 1;omega
  have f:(o.toList.drop 0).take (m*sz)=vs2:=by rw[<-p,<-d];simp
  have a9:Inv C G M w.drew:=hi.world rfl;obtain⟨G',aa,a2,ah,ac,ag,ai⟩:=a9.newObj (.cells o e) (.vec e sz news 0 [(0,m)]) (λ_=>(some ⟨w.heap.size,0,none⟩,nc)) 0
   (λG' a2 _ hh ht hst hk=>⟨ht,λh n hm=>by
    simp only[Z0I,Z0h]at hm;obtain⟨rfl,rfl⟩:=hm;refine⟨by omega,Z2I (by rw[<-d,y.length]),w.heap.size,0,nc,o,by rw[hh],by omega,a3,Z2h w.drew _,Z2I (by rw[l,Z0N]),?_,?_,hst,hk⟩
    .rw[f,Z0g (Z2I (by rw[<-y.length,d]))];exact A0t.mono a2 _ _ y
    .rw[f];exact a0,λh n h' n' a a' c c' m1 m2 e1 e2 _=>by
    rw[hh]at e1 e2;simp only[Z0h,Z0b]at e1 e2;rw[<-e1.1,<-e2.1]⟩)
   (λG' b _ hh hown=>by obtain⟨h,n,a,_,ha,rfl⟩:=hown;rw[hh]at ha;simp only[Z0b]at ha;rw[<-ha];rfl)
  refine⟨_,_,G',k,a2,aa,?_,q⟩;simp only[Rep];exact⟨ac,by omega,⟨w.heap.size,0,none⟩,⟨w.heap.size,0,none⟩,nc,by rw[ag],rfl,rfl,by simp,by omega,a3,λ_=>by simp⟩
def C9x{C:Ctx}{G:A0o}{M:Mem}{w:World}(hi:Inv C G M w){s x:AV}{sv xv:Value}(hs:Rep G s sv)(hx:Rep G x xv){t u e ty:TypeId}{sz bytes:Nat}(ht:C.P.underlying t=some (.slice e))(hu:A3V C.P u)
 (he:A3s C.P e sz bytes){v:AV}{M':Mem}(hb:∀cs k,A0D M sz s=some (cs,k)->∀news m,A0D M sz x=some (news,m)->(k+m)*bytes<=140737488355328)(h:A6w e sz s x M=some (v,M')):
 ∃r w' G',(Builtin.append_ #[t,u] ty #[sv,xv]).run C.P w=.ok r w'/\G.le G'/\Inv C G' M' w'/\Rep G' v r/\Ext w w':=by
 obtain⟨i,z,a7,hz,aa,ba,b9,ad⟩:=he
 have ay:A1u C.P e=some sz:=by simp[A1u,a7,aa]
 unfold A6w at h
 split at h
 .simp at h
 rename_i news m hsrc
 obtain⟨y,b6,l,a8,ak,ao⟩:=A7O hi hx hsrc
 split at h
 ·-- nil
  simp only[Rep]at hs;subst hs;exact B9b hi ⟨i,z,a7,hz,aa,ba,b9,ad⟩ ht hu b6 l a8 ak ao none (by simp[Rep]) (by simp[Builtin.firstCells]) (hb [] 0 rfl news m hsrc) h
 .rename_i s';split at h;case isFalse=>simp at h
  rename_i hss;subst hss;have aq:=hs;simp only[Rep,A5I]at hs;obtain⟨base,cap,rfl,_,_,_,aw⟩:=hs;simp only[Z1B]at aw aq|-;subst aw;exact B9b hi ⟨i,z,a7,hz,aa,ba,b9,ad⟩ ht hu b6 l a8 ak ao base aq (λw'=>by
   cases base with
   |none=>simp[Builtin.firstCells]
   |some a=>exact Z2F (P:=C.P) w' s' 0 a 0 0 [] (by simp) (λj v hv=>by simp at hv)) (hb [] 0 (by simp[A0D]) news m hsrc) h
 ·-- a slice of an array
  rename_i f h' s' lo len;split at h;case h_2=>simp at h
  rename_i e2 s2 cs g hist hM;split at h;case h_2=>simp at h
  rename_i n hn;split at h;case isFalse=>simp at h
  rename_i hc;obtain⟨rfl,rfl,rfl,aj⟩:=hc;have aq:=hs;simp only[Rep]at hs;obtain⟨hf,hg,a,a',cap,hd,cc,c9,rfl,bp,cb,c7⟩:=hs;obtain⟨p0,p2,p3⟩:=hi.obj f _ hM;have ag:=A3v hn;obtain⟨_,q0,b,o,c,vs,q1,q2,q3,q4,q5,q6,q7,q8,q9⟩:=p2 h' n ag;have ca:=hd;rw[q1]at hd;simp only[Z0h,Z0b]at hd;obtain⟨rfl,rfl⟩:=hd;split at h
  .rename_i hm0;simp only[Z0b,Z0h]at h;obtain⟨rfl,rfl⟩:=h;subst hm0;have hv:y=[]:=Z0y (by simpa using l);subst hv;exact⟨_,w,G,B0w (s:=.bool true) (base:=some a') (n:=len) (cap:=c-lo) ht ay hu ak (ao w rfl) (by omega),.refl _,hi,aq,.refl _⟩
  rename_i hm0;simp only[Z0b,Z0h]at h;obtain⟨rfl,rfl⟩:=h;have h0:lo*s2+len*s2<=n*s2:=by rw[<-Z0M];exact Z1f _ aj
  have cd:lo*s2+len*s2<=c*s2:=by rw[<-Z0M];exact Z1f _ bp
  obtain⟨a6,bx,ai,bb,-,bt⟩:=A7O hi (m:=len) (sz:=s2) (news:=(cs.drop (lo*s2)).take (len*s2)) aq (by simp[A0D,hM,hn,aj]);have az:=bx.append b6;have au:∀v∈a6++y,v.oneCell'=true:=λv hv=>by
   rcases Z0S.1 hv with h|h
   .exact bb v h
   .exact a8 v h
  have ae:(a6++y).length=(len+m)*s2:=by rw[Z0t,ai,l,Z0M]
  have ac:((cs.drop (lo*s2)).take (len*s2)++news).length=(len+m)*s2:=by rw[<-az.length,ae]
  have a5:∀(w1:World) (gb o1 c1:Nat) (d:Array Value),(gb=b\/w.heap.size<=gb)->(∀b',b'<w.heap.size->b'≠gb->w1.heap[b']?=w.heap[b']?)->w1.heap[gb]?=some (.cells d e2 (0,0))->
   len+m<=c1->c1<=maxLen->o1+c1*s2<=d.size->(d.toList.drop o1).take ((len+m)*s2)=a6++y->(∀i,G.st gb i=none)->G.keep gb=none->
   (lo=0->gb=b->o1=o/\vs.size<=d.size/\∀i,i<o+len*s2->d.toList[i]?=vs.toList[i]?)->
   ∃G',G.le G'/\Inv C G' (M.set f (.vec e2 s2 ((cs.drop (lo*s2)).take (len*s2)++news) (g+1) ((g+1,len+m)::if lo=0 then hist.filter (λp=>decide (p.2<=len))else[]))) w1/\Rep G' (.vref f (g+1) s2 0 (len+m)) (.slice (some ⟨gb,o1,none⟩) (len+m) c1):=by
   intro w1 gb o1 c1 d bc hw a0 c8 b4 bw af bg am bs
   have bv:G.top f<g+1:=by omega
   have a9:=A0o.le_time (h:=(some (⟨gb,o1,none⟩:Addr),c1)) bv
   have old:∀h1 n1,(h1,n1)∈(if lo=0 then hist.filter (λp=>decide (p.2<=len))else[])->lo=0/\(h1,n1)∈hist/\n1<=len:=by
    intro h1 n1 hm;split at hm
    .rename_i e;have:=Z1p.1 hm;exact⟨e,this.1,by simpa using this.2⟩
    .simp at hm
   have q:∀h1 n1,(h1,n1)∈hist->h1≠g+1:=λh1 n1 hm=>by have:=(p2 h1 n1 hm).1;omega
   have ah:=hi.step (G':=G.grow f (g+1) (some ⟨gb,o1,none⟩,c1) 0 0 []) (w':=w1) (o':=.vec e2 s2 ((cs.drop (lo*s2)).take (len*s2)++news) (g+1) ((g+1,len+m)::if lo=0 then hist.filter (λp=>decide (p.2<=len))else[])) f gb hM
    (bc.imp (λe=>⟨h',n,_,ag,congrArg Prod.fst q1,e.symm⟩) id) a9 rfl (λ_=>rfl) (λj hj=>by simp[A0o.grow,hj]) (λb i v hv=>by rw[A0o.time_st]at hv;exact .inl hv) (λ_=>rfl) hw
    (λi v hv=>by rw[bg i]at hv;simp at hv) (λo ho=>by rw[am]at ho;simp at ho)
    ⟨by simp[A0o.grow],λh1 n1 hm=>?_,λh1 n1 h2 n2 a1 a2 ar c2' m1 m2 e1 e2 e3=>?_⟩
    (λb1 ⟨h1,n1,a1,hm,e1,e2⟩=>?_)
   .refine⟨_,a9,ah,?_⟩;simp only[Rep];exact⟨hf,by simp[A0o.grow],⟨gb,o1,none⟩,⟨gb,o1,none⟩,c1,A0o.time_hdr _ _ _ _,rfl,rfl,by simp,by omega,b4,λ_=>by simp⟩
   ·-- each slice that is kept reads as it did
    rcases Z0s.1 hm with hm|hm
    .simp only[Z0h]at hm;obtain⟨rfl,rfl⟩:=hm;refine⟨by simp[A0o.grow],Z2I ac.symm,gb,o1,c1,d,A0o.time_hdr _ _ _ _,c8,b4,a0,bw,?_,?_,λi=>by rw[A0o.time_st];exact bg i,am⟩
     .rw[af,Z0g (Z2I ac)];exact A0t.mono a9 _ _ az
     .rw[af];exact au
    .obtain⟨rfl,a3,bo⟩:=old h1 n1 hm;obtain⟨r0,r1,b2,o2,b5,vs',s1,bd,s3,s4,s5,s6,s7,s8,s9⟩:=p2 h1 n1 a3;have bn:n1*s2<=len*s2:=Z1f _ bo;(have c0:((cs.drop (0*s2)).take (len*s2)++news).take (n1*s2)=cs.take (n1*s2):=by rw[Z2g,Z1h,Z1T (by rw[Z0D];omega),Z2v,Z1A bn]);refine⟨by simp[A0o.grow];omega,by rw[ac,Z0M];omega,b2,o2,b5,?_⟩;rw[A0o.time_old _ _ _ _ _ (q _ _ a3),c0];by_cases e:b2=gb
     .subst e;have eb:b2=b:=by
       rcases bc with h|h
       .exact h
       .have:=A3z s4;omega
      subst eb;obtain⟨rfl,c3,b8⟩:=bs rfl rfl;have eo:(⟨b2,o2,none⟩:Addr)=⟨b2,o1,none⟩:=p3 h1 n1 h' n _ _ _ _ a3 ag s1 q1 rfl;simp only[Z3y,Z2u,Z1D]at eo;subst eo;rw[q4]at s4;simp only[Z0b,Obj.cells.injEq,Z1D]at s4;subst s4;have al:(d.toList.drop o2).take (n1*s2)=(vs.toList.drop o2).take (n1*s2):=by
       apply Z1G;intro i;rw[Z0P,Z0P];split
       .rw[Z1e,Z1e];exact b8 _ (by omega)
       .rfl
      (have bk:o2+b5*s2<=d.size:=by omega);exact⟨d,s1,bd,s3,a0,bk,by rw[al];exact A0t.mono a9 _ _ s6,by rw[al];exact s7,λi=>by rw[A0o.time_st];exact s8 i,s9⟩
     .exact⟨vs',s1,bd,s3,by rw[hw b2 (A3z s4) e];exact s4,s5,A0t.mono a9 _ _ s6,s7,λi=>by rw[A0o.time_st];exact s8 i,s9⟩
   ·-- slices in one block begin at one cell
    (have ab:∀h1 n1 a1 ar,(h1,n1)∈(if lo=0 then hist.filter (λp=>decide (p.2<=len))else[])->(G.grow f (g+1) (some ⟨gb,o1,none⟩,c1) 0 0 []).hdr f h1=(some a1,ar)->gb=a1.block->(⟨gb,o1,none⟩:Addr)=a1:=by intro h1 n1 a1 ar hm e1 e2;obtain⟨rfl,a3,_⟩:=old h1 n1 hm;rw[A0o.time_old _ _ _ _ _ (q _ _ a3)]at e1;have bf:=(A4y.owns_lt (hi.obj f _ hM) (b:=a1.block) ⟨h1,n1,a1,a3,by rw[e1],rfl⟩);(have eb:gb=b:=by rcases bc with h|h<;>omega);subst eb;obtain⟨rfl,_⟩:=bs rfl rfl;exact(p3 h1 n1 h' n _ _ _ _ a3 ag e1 q1 e2.symm).symm);rcases Z0s.1 m1 with m1|m1<;>rcases Z0s.1 m2 with m2|m2
    .simp only[Z0h]at m1 m2;obtain⟨rfl,rfl⟩:=m1;obtain⟨rfl,rfl⟩:=m2;rw[e1]at e2;simp only[Z0h,Z0b]at e2;exact e2.1
    .simp only[Z0h]at m1;obtain⟨rfl,rfl⟩:=m1;rw[A0o.time_hdr]at e1;simp only[Z0h,Z0b]at e1;obtain⟨rfl,_⟩:=e1;exact ab h2 n2 a2 c2' m2 e2 e3
    .simp only[Z0h]at m2;obtain⟨rfl,rfl⟩:=m2;rw[A0o.time_hdr]at e2;simp only[Z0h,Z0b]at e2;obtain⟨rfl,_⟩:=e2;exact(ab h1 n1 a1 ar m1 e1 e3.symm).symm
    .obtain⟨_,bq,_⟩:=old h1 n1 m1;obtain⟨_,bi,_⟩:=old h2 n2 m2;rw[A0o.time_old _ _ _ _ _ (q _ _ bq)]at e1;rw[A0o.time_old _ _ _ _ _ (q _ _ bi)]at e2;exact p3 h1 n1 h2 n2 a1 a2 ar c2' bq bi e1 e2 e3
   .rcases Z0s.1 hm with hm|hm
    .simp only[Z0h]at hm;obtain⟨rfl,rfl⟩:=hm;rw[A0o.time_hdr]at e1;simp only[Z0b]at e1;subst e1;exact .inl e2.symm
    .obtain⟨_,a3,_⟩:=old h1 n1 hm;rw[A0o.time_old _ _ _ _ _ (q _ _ a3)]at e1;exact .inr ⟨h1,n1,a1,a3,e1,e2⟩
  by_cases hroom:len+m<=c-lo
  ·-- in place
   have ha:=c7 (by omega);subst ha;simp only at*;have bz:(lo+(len+m))*s2<=c*s2:=Z1f _ (by omega);rw[Z0M,Z0M]at bz;have a4:=C0M (P:=C.P) (ty:=ty) (g:=b) (o:=o+lo*s2) (n:=len) (cap:=c-lo) (x:=xv) (m:=m) ht ay hu ak (ao w rfl) hroom q4 (by rw[l];omega) a8;have a0:=Z4l w b vs (vs.toList.take (o+lo*s2+len*s2)++y++vs.toList.drop (o+lo*s2+len*s2+y.length)).toArray e2 (0,0) q4;generalize br:(vs.toList.take (o+lo*s2+len*s2)++y++vs.toList.drop (o+lo*s2+len*s2+y.length))=nl at a4 a0;have ax:∀i,nl[i]?=if o+lo*s2+len*s2<=i/\i<o+lo*s2+len*s2+y.length then y[i-(o+lo*s2+len*s2)]? else vs.toList[i]?:=by intro i;rw[<-br];exact A9z (by rw[l];simp;omega)
   (have c6:nl.length=vs.size:=by rw[<-br];simp only[Z0t,Z0D,Z1c,Z1z];omega);obtain⟨G',a9,ah,ap⟩:=a5 (w.setRow b nl.toArray) b (o+lo*s2) (c-lo) nl.toArray (.inl rfl) (λb' _ hne=>Z3H _ _ _ _ hne) a0 hroom (by omega)
    (by(have h1:lo*s2+(c-lo)*s2=c*s2:=by rw[<-Z0M];congr 1;omega);simp only[Z2D];omega)
    (by
     apply Z1G;intro k;rw[Z0P];split
     .rename_i hk;rw[Z0M]at hk;rw[Z1e,show(nl.toArray.toList:List Value)=nl from rfl,ax];by_cases hk2:k<a6.length
      .rw[Z0d (by omega),Z0i hk2];have b7:=bt w rfl;by_cases hl0:len=0
       .subst hl0;omega
       .have be:=Z2F (P:=C.P) w s2 len ⟨b,o+lo*s2,none⟩ len (c-lo) ((vs.toList.drop (o+lo*s2)).take (len*s2)) (by simp only[Z0D,Z1c,Z1z];omega) (λj v hv=>by
         rw[Z1t];rw[Z0P]at hv;split at hv
         .rw[Z1e]at hv;rw[Z2Q _ _ _ _ _ _ q4];simpa using hv
         .simp at hv)
        rw[be]at b7;simp only[Result.ok.injEq,Z1D]at b7;(have bh:(vs.toList.drop (o+lo*s2)).take (len*s2)=a6:=by simpa using b7);rw[<-bh,Z0P,Z0e (by omega),Z1e]
      .rw[Z0e (by omega),Z1y (by omega)];congr 1;omega
     .rename_i hk;rw[Z1s (by omega)])
    q8 q9 (λh0 _=>⟨by subst h0;simp,by simp only[Z2D];omega,λi hi2=>by subst h0;rw[show(nl.toArray.toList:List Value)=nl from rfl,ax,Z0d (by omega)]⟩)
   exact⟨_,_,G',a4,a9,ah,ap,Ext.setRow _ _ _⟩
  ·-- in a new block
   have c2:=hb _ len (by simp[A0D,hM,hn,aj];rfl) news m hsrc;(have bm:len+m<=maxLen:=by have:len+m<=(len+m)*bytes:=Z2k _ ad;simp only[maxLen];omega);have a4:=B0M (P:=C.P) (ty:=ty) (base:=some a') (n:=len) (cap:=c-lo) (x:=xv) (m:=m) (w:=w) (i:=i) (z:=z) (e:=e2) (t:=t) (u:=u) (news:=y) (olds:=a6) ht a7 hz hu ak (by rw[aa];exact ao w.drew rfl) (by rw[aa];exact bt w.drew rfl) (by omega) (by rw[ba];exact c2) bm;have c4:=Z4m w (len+m) (c-lo) e2;have bu:=Z3r w (len+m) (c-lo) e2 bm;generalize grownCap w (len+m) (c-lo) e2=nc at a4 c4 bu;have b3:Ext w (w.drew.alloc (.cells (a6.toArray++y.toArray++Builtin.zeroCells z.cells (nc-(len+m))) e2)):=(Ext.drew w).trans (Ext.alloc _ _);generalize b0:a6.toArray++y.toArray++Builtin.zeroCells z.cells (nc-(len+m))=d at a4 b3;(have av:d.size=nc*s2:=by rw[<-b0];simp only[Z3X,Z2D,Z4s,b9,l,ai,<-Z0M];congr 1;omega);have bj:∀i,G.st w.heap.size i=none:=by
    intro i;cases h:G.st w.heap.size i with
    |none=>rfl
    |some v=>have:=hi.st_lt h;simp at this
   have c5:G.keep w.heap.size=none:=by
    cases h:G.keep w.heap.size with
    |none=>rfl
    |some v=>have:=hi.keep_lt h;simp at this
   obtain⟨G',a9,ah,ap⟩:=a5 (w.drew.alloc (.cells d e2)) w.heap.size 0 nc d (.inr (Z0n _)) (λb' bf _=>A3X w.drew _ b' bf) (Z2h w.drew _) (by omega) bu
    (Z2I (by rw[av,Z0N]))
    (by(have e:d.toList=(a6++y)++(Builtin.zeroCells z.cells (nc-(len+m))).toList:=by rw[<-b0];simp);rw[e,<-ae,Z1h,Z4p])
    bj c5 (λ_ h=>by have:=A3z q4;omega)
   exact⟨_,_,G',a4,a9,ah,ap,b3⟩
 .simp at h
structure A2u where
 imm:Nat->Bool
 own:Nat->Bool
 vec:Nat->Bool:=λ_=>false
def A2t(f:Nat->Bool):Option Nat->Bool
 |some d=>f d
 |none=>false
def D8j(G:A0o)(nx:Next)(v:AV):Prop:=(∃x,nx=.value x/\Rep G v x)\/(nx=.skip/\v=.val undef)
def A3L(C:Ctx)(G:A0o)(w:World)(s:Sem Next)(v:AV)(M':Mem):Prop:=∃nx w' G',s.run C.P w=.ok nx w'/\D8j G' nx v/\G.le G'/\Inv C G' M' w'/\Ext w w'
def A3L.same{C}{G}{M}{w}{s}{v}{x}(hi:Inv C G M w)(hr:s.run C.P w=.ok (.value x) w)(hx:Rep G v x):A3L C G w s v M:=⟨_,w,G,hr,.inl ⟨x,rfl,hx⟩,.refl _,hi,.refl _⟩
def B0s(op:BinOp)(k:IntKind)(a b:Int):Option Value:=
 match op with
 |.add=>some (.int k (k.wrap (a+b)))
 |.sub=>some (.int k (k.wrap (a-b)))
 |.mul=>some (.int k (k.wrap (a*b)))
 |.eql=>some (.bool (a==b))
 |.neq=>some (.bool (a !=b))
 |.lss=>some (.bool (decide (a<b)))
 |.leq=>some (.bool (decide (a<=b)))
 |.gtr=>some (.bool (decide (a>b)))
 |.geq=>some (.bool (decide (a>=b)))
 |.quo=>if b=0 then none else some (.int k (k.wrap (a.tdiv b)))
 |.rem=>if b=0 then none else some (.int k (a.tmod b))
 |.and=>some (.int k (k.wrap ((BitVec.ofInt k.bits a &&& BitVec.ofInt k.bits b).toNat)))
 |.or=>some (.int k (k.wrap ((BitVec.ofInt k.bits a ||| BitVec.ofInt k.bits b).toNat)))
 |.xor=>some (.int k (k.wrap ((BitVec.ofInt k.bits a ^^^ BitVec.ofInt k.bits b).toNat)))
 |.andNot=>some (.int k (k.wrap ((BitVec.ofInt k.bits a &&& ~~~BitVec.ofInt k.bits b).toNat)))
 |.shl=>if b<0 then none else some (.int k (k.wrap (a*2^(min b.toNat k.bits))))
 |.shr=>if b<0 then none else some (.int k (a.fdiv (2^(min b.toNat k.bits))))
def B5A(op:BinOp)(a b:ByteArray):Option Value:=
 match op with
 |.eql=>some (.bool (a.toList==b.toList))
 |.neq=>some (.bool !(a.toList==b.toList))
 |.lss=>some (.bool (Op.bytesLess a.toList b.toList))
 |.leq=>some (.bool (Op.bytesLess a.toList b.toList||a.toList==b.toList))
 |.gtr=>some (.bool !(Op.bytesLess a.toList b.toList||a.toList==b.toList))
 |.geq=>some (.bool !(Op.bytesLess a.toList b.toList))
 |.add=>if((a.size+b.size:Nat):Int)>IntKind.i64.max then none else some (.string (a++b))
 |_=>none
def B5B:AV->Option Bool
 |.val (.pointer none)|.val (.slice none 0 0)|.val (.map none)|.val .nilFunc=>some true
 |.ptr _ _|.cptr _|.mapr _|.func _ _ _=>some false
 |.list _ (_::_) _=>some false
 |_=>none
def A4p(P:Program)(t:TypeId):AV->Bool
 |.val (.pointer none)=>match P.underlying t with|some (.pointer _)=>true|_=>false
 |.val (.slice none 0 0)=>match P.underlying t with|some (.slice _)=>true|_=>false
 |.val (.map none)=>match P.underlying t with|some (.map _ _)=>true|_=>false
 |.val .nilFunc=>match P.underlying t with|some (.func _ _ _)=>true|_=>false
 |_=>false
def A3Q:AV->AV->Bool
 |.val (.pointer none),.val (.pointer none)|.val (.slice none 0 0),.val (.slice none 0 0)|.val (.map none),.val (.map none)|.val .nilFunc,.val .nilFunc=>true
 |.ptr _ _,.val (.pointer none)|.cptr _,.val (.pointer none)|.mapr _,.val (.map none)|.func _ _ _,.val .nilFunc|.list _ _ _,.val (.slice none 0 0)=>true
 |_,_=>false
def A3q(P:Program)(op:BinOp)(t:TypeId)(x y:AV):Option AV:=
 match x,y with
 |.val (.int k a),.val (.int k' b)=>if k=k' then(B0s op k a b).map .val else none
 |.val (.string a),.val (.string b)=>(B5A op a b).map .val
 |.val (.bool a),.val (.bool b)=>match P.underlying t,op with
  |some .bool,.eql=>some (.val (.bool (a==b)))
  |some .bool,.neq=>some (.val (.bool !(a==b)))
  |_,_=>none
 |x,y=>if A4p P t y&&A3Q x y then match B5B x,op with
  |some b,.eql=>some (.val (.bool b))
  |some b,.neq=>some (.val (.bool !b))
  |_,_=>none
  else none
def C9H{P}{op}{k}{a b}{v}(h:B0s op k a b=some v)(t:TypeId)(w:World):(binOp op t (.int k a) (.int k b)).run P w=.ok v w:=by
 cases op;case quo=>
  simp only[B0s]at h;split at h
  .simp at h
  .rename_i hb;cases h;simp[binOp,Op.intDiv,hb]
 case rem=>
  simp only[B0s]at h;split at h
  .simp at h
  .rename_i hb;cases h;simp[binOp,Op.intDiv,hb]
 case shl=>
  simp only[B0s]at h;split at h
  .simp at h
  .rename_i hb;cases h;simp[binOp,Op.shift,hb]
 case shr=>
  simp only[B0s]at h;split at h
  .simp at h
  .rename_i hb;cases h;simp[binOp,Op.shift,hb]
 case and=>simp only[B0s,Z0b]at h;subst h;simp[binOp,Op.intBits]
 case or=>simp only[B0s,Z0b]at h;subst h;simp[binOp,Op.intBits]
 case xor=>simp only[B0s,Z0b]at h;subst h;simp[binOp,Op.intBits]
 case andNot=>simp only[B0s,Z0b]at h;subst h;simp[binOp,Op.intBits]
 all_goals first
  |(simp only[B0s]at h;done)
  |(simp only[B0s,Z0b]at h;subst h;simp[binOp,Op.intArith,Op.intCmp])
def C8Y{P}{op}{a b}{v}(h:B5A op a b=some v)(t:TypeId)(w:World):(binOp op t (.string a) (.string b)).run P w=.ok v w:=by
 cases op<;>simp[B5A]at h;case add=>obtain⟨h1,h2⟩:=h;subst h2;simp[binOp,Op.stringOp];omega
 all_goals (subst h;simp[binOp,Op.stringOp])
def B4M{P}{t:TypeId}(h:P.underlying t=some .bool)(d:Nat)(a b:Bool)(w:World):(Op.equalIn (d+1) t (.bool a) (.bool b)).run P w=.ok (a==b) w:=by simp[Op.equalIn,Z0q h]
def B2u{P}{t e:TypeId}(h:P.underlying t=some (.pointer e))(d:Nat)(a:Option Addr)(w:World):(Op.equalIn (d+1) t (.pointer a) (.pointer none)).run P w=.ok a.isNone w:=by cases a<;>simp[Op.equalIn,Z0q h]
def A5M{P}{t e:TypeId}(h:P.underlying t=some (.slice e))(d:Nat)(a:Option Addr)(n c:Nat)(w:World):(Op.equalIn (d+1) t (.slice a n c) (.slice none 0 0)).run P w=.ok a.isNone w:=by cases a<;>simp[Op.equalIn,Z0q h]
def B7r{P}{t k e:TypeId}(h:P.underlying t=some (.map k e))(d:Nat)(a:Option Nat)(w:World):(Op.equalIn (d+1) t (.map a) (.map none)).run P w=.ok a.isNone w:=by cases a<;>simp[Op.equalIn,Z0q h]
def C3n{P}{t:TypeId}{p r}{v}(h:P.underlying t=some (.func p r v))(d:Nat)(fn:Fn)(f c:Array Value)(w:World):(Op.equalIn (d+1) t (.func fn f c) .nilFunc).run P w=.ok false w:=by simp[Op.equalIn,Z0q h]
def B5O{P}{t:TypeId}{p r}{v}(h:P.underlying t=some (.func p r v))(d:Nat)(w:World):(Op.equalIn (d+1) t .nilFunc .nilFunc).run P w=.ok true w:=by simp[Op.equalIn,Z0q h]
def C2Y{C:Ctx}{G:A0o}{x y:AV}{xv yv:Value}(hx:Rep G x xv)(hy:Rep G y yv){t:TypeId}(hk:A4p C.P t y=true)(hs:A3Q x y=true){b:Bool}(hb:B5B x=some b)(d:Nat)(w:World):(Op.equalIn (d+1) t xv yv).run C.P w=.ok b w:=by
 unfold A3Q at hs
 split at hs
 all_goals first|(exact Bool.noConfusion hs)|skip
 all_goals simp only[Rep]at hx hy
 all_goals simp only[A4p]at hk
 all_goals split at hk
 all_goals first|(exact Bool.noConfusion hk)|skip
 all_goals simp only[B5B]at hb
 .rename_i h;subst hx;subst hy;simp at hb;subst hb;rw[B2u h];rfl
 .rename_i h;subst hx;subst hy;simp at hb;subst hb;rw[A5M h];rfl
 .rename_i h;subst hx;subst hy;simp at hb;subst hb;rw[B7r h];rfl
 .rename_i h;subst hx;subst hy;simp at hb;subst hb;rw[B5O h]
 .rename_i h;obtain⟨_,rfl⟩:=hx;subst hy;simp at hb;subst hb;rw[B2u h];rfl
 .rename_i h;obtain⟨_,_,rfl,_⟩:=hx;subst hy;simp at hb;subst hb;rw[B2u h];rfl
 .rename_i h;obtain⟨_,rfl⟩:=hx;subst hy;simp at hb;subst hb;rw[B7r h];rfl
 .rename_i h;obtain⟨_,_,rfl,_⟩:=hx;subst hy;simp at hb;subst hb;rw[C3n h]
 .rename_i h;subst hy;obtain⟨base,cap,rfl,h1,h2,h3,h4⟩:=hx;rw[A5M h];cases base with
  |none=>obtain⟨rfl,rfl⟩:=h3;simp at hb
  |some a=>split at hb;(all_goals first|(exact Option.noConfusion hb)|skip);all_goals simp_all
def A3S{P}{t:TypeId}{xv yv}{ox oy}{b}{w}(he:∀d,(Op.equalIn (d+1) t xv yv).run P w=.ok b w)
 (hx:(∃a,xv=.pointer a)\/(∃a n c,xv=.slice a n c)\/(∃a,xv=.map a)\/(∃f a c,xv=.func f a c)\/xv=.nilFunc\/∃a,xv=.bool a)
 (hy:(∃a,yv=.pointer a)\/(∃a n c,yv=.slice a n c)\/(∃a,yv=.map a)\/yv=.nilFunc\/∃a,yv=.bool a):
 (do eqGuard .eql t ox oy xv yv;binOp .eql t xv yv:Sem Value).run P w=.ok (.bool b) w/\(do eqGuard .neq t ox oy xv yv;binOp .neq t xv yv:Sem Value).run P w=.ok (.bool !b) w:=by
 have e:(Op.equal t xv yv).run P w=.ok b w:=he 9999
 have h1:(eqGuard .eql t ox oy xv yv).run P w=.ok () w/\(eqGuard .neq t ox oy xv yv).run P w=.ok () w:=by rcases hx with⟨a,rfl⟩|⟨a,n,c,rfl⟩|⟨a,rfl⟩|⟨f,a,c,rfl⟩|rfl|⟨a,rfl⟩<;>simp[eqGuard]
 have h2:binOp .eql t xv yv=(do pure (.bool (<-Op.equal t xv yv)))/\binOp .neq t xv yv=(do pure (.bool (!(<-Op.equal t xv yv)))):=by rcases hx with⟨a,rfl⟩|⟨a,n,c,rfl⟩|⟨a,rfl⟩|⟨f,a,c,rfl⟩|rfl|⟨a,rfl⟩<;>rcases hy with⟨a',rfl⟩|⟨a',n',c',rfl⟩|⟨a',rfl⟩|rfl|⟨a',rfl⟩<;>exact⟨rfl,rfl⟩
 constructor
 .simp only[Z0E,h1.1,Z0u,h2.1,e,Z0K]
 .simp only[Z0E,h1.2,Z0u,h2.2,e,Z0K]
def D4j{G}{x y}{xv yv}(hx:Rep G x xv)(hy:Rep G y yv)(hs:A3Q x y=true):
 ((∃a,xv=.pointer a)\/(∃a n c,xv=.slice a n c)\/(∃a,xv=.map a)\/(∃f a c,xv=.func f a c)\/xv=.nilFunc\/∃a,xv=.bool a)/\
 ((∃a,yv=.pointer a)\/(∃a n c,yv=.slice a n c)\/(∃a,yv=.map a)\/yv=.nilFunc\/∃a,yv=.bool a):=by
 unfold A3Q at hs
 split at hs
 all_goals first|(exact Bool.noConfusion hs)|skip
 all_goals simp only[Rep]at hx hy
 all_goals (subst hy)
 .subst hx;exact⟨.inl ⟨_,rfl⟩,.inl ⟨_,rfl⟩⟩
 .subst hx;exact⟨.inr (.inl ⟨_,_,_,rfl⟩),.inr (.inl ⟨_,_,_,rfl⟩)⟩
 .subst hx;exact⟨.inr (.inr (.inl ⟨_,rfl⟩)),.inr (.inr (.inl ⟨_,rfl⟩))⟩
 .subst hx;exact⟨.inr (.inr (.inr (.inr (.inl rfl)))),.inr (.inr (.inr (.inl rfl)))⟩
 .obtain⟨_,rfl⟩:=hx;exact⟨.inl ⟨_,rfl⟩,.inl ⟨_,rfl⟩⟩
 .obtain⟨_,_,rfl,_⟩:=hx;exact⟨.inl ⟨_,rfl⟩,.inl ⟨_,rfl⟩⟩
 .obtain⟨_,rfl⟩:=hx;exact⟨.inr (.inr (.inl ⟨_,rfl⟩)),.inr (.inr (.inl ⟨_,rfl⟩))⟩
 .obtain⟨_,_,rfl,_⟩:=hx;exact⟨.inr (.inr (.inr (.inl ⟨_,_,_,rfl⟩))),.inr (.inr (.inr (.inl rfl)))⟩
 .obtain⟨_,_,rfl,_⟩:=hx;exact⟨.inr (.inl ⟨_,_,_,rfl⟩),.inr (.inl ⟨_,_,_,rfl⟩)⟩
def C3A{C:Ctx}{G:A0o}{M:Mem}{w:World}(hi:Inv C G M w){x y:AV}{xv yv:Value}(hx:Rep G x xv)(hy:Rep G y yv){op:BinOp}{t:TypeId}{v:AV}(h:A3q C.P op t x y=some v)(ox oy:Operand):∃u,(do eqGuard op t ox oy xv yv;binOp op t xv yv:Sem Value).run C.P w=.ok u w/\Rep G v u:=by
 unfold A3q at h
 split at h
 .simp only[Rep]at hx hy;subst hx;subst hy;split at h
  .rename_i hk;subst hk;simp only[Z0m]at h;obtain⟨u,hu,rfl⟩:=h;refine⟨u,?_,by simp[Rep]⟩;have:=C9H (P:=C.P) hu t w;cases op<;>simp[B0s]at hu<;>simp[eqGuard,this]
  .simp at h
 .simp only[Rep]at hx hy;subst hx;subst hy;simp only[Z0m]at h;obtain⟨u,hu,rfl⟩:=h;refine⟨u,?_,by simp[Rep]⟩;have:=C8Y (P:=C.P) hu t w;cases op<;>simp[B5A]at hu<;>simp[eqGuard,this]
 .simp only[Rep]at hx hy;subst hx;subst hy;split at h
  .rename_i hu;simp at h;subst h;exact⟨_,(A3S (λd=>B4M hu d _ _ w) (by simp) (by simp)).1,by simp[Rep]⟩
  .rename_i hu;simp at h;subst h;exact⟨_,(A3S (λd=>B4M hu d _ _ w) (by simp) (by simp)).2,by simp[Rep]⟩
  .simp at h
 .split at h;case isFalse=>simp at h
  rename_i hc;simp only[Z0f]at hc;obtain⟨k1,k2⟩:=D4j hx hy hc.2;split at h
  .rename_i b hb;simp at h;subst h;exact⟨_,(A3S (λd=>C2Y hx hy hc.1 hc.2 hb d w) k1 k2).1,by simp[Rep]⟩
  .rename_i b hb;simp at h;subst h;exact⟨_,(A3S (λd=>C2Y hx hy hc.1 hc.2 hb d w) k1 k2).2,by simp[Rep]⟩
  .simp at h
def A1F(len:Nat):Option AV->Option Nat
 |none=>some len
 |some (.val (.int _ i))=>if 0<=i/\i<=len then some i.toNat else none
 |_=>none
def A7A(len l h:Nat)(mx:Option Nat)(own:Own):Own:=
 match mx with
 |some m=>if m=h then .full else .no
 |none=>match own with
  |.full=>if h=len then .full else .no
  |.fam f=>if h=len/\l=0 then .fam f else .no
  |.no=>.no
def A4m(P:Program)(t:TypeId)(sz:Nat)(rows:List (List AV))(own:Own)(lo hi mx:Option AV):Option AV:=
 match(match mx with|none=>some none|some m=>(A1F rows.length (some m)).map some),A1f P t with
 |some m,some e=>if A1u P e=some sz then
  match A1F (m.getD rows.length) (match hi with|some h=>some h|none=>none),hi.isSome||mx.isNone with
  |some h,true=>match(match lo with|none=>some 0|some l=>A1F h (some l))with
   |some l=>some (.list sz ((rows.take h).drop l) (A7A rows.length l h m own))
   |none=>none
  |_,_=>none
  else none
 |_,_=>none
def A4h(P:Program)(t:TypeId)(x:AV)(lo hi mx:Option AV):Option AV:=
 match x with
 |.val (.string s)=>match mx,P.underlying t,A1F s.size hi with
  |none,some .string,some h=>match(match lo with|none=>some 0|some l=>A1F h (some l))with
   |some l=>some (.val (.string (s.extract l h)))
   |none=>none
  |_,_,_=>none
 |.list sz rows own=>A4m P t sz rows own lo hi mx
 |.val (.slice none 0 0)=>match A1f P t with
  |some e=>match A1u P e with
   |some sz=>(A4m P t sz [] .full lo hi mx).map λ_=>.val (.slice none 0 0)
   |none=>none
  |none=>none
 |_=>none
def A0K(P:Program)(t:TypeId)(f:Nat):Option (Nat×TypeId):=match P.underlying t with
 |some (.struct fs)=>(fs[f]?).map λx=>(x.offset,x.type)
 |_=>none
def A1o(zero:List AV)(off:Nat)(v:AV):Option (List AV):=if v.storable&&decide (off+v.cells.length<=zero.length)then some (zero.take off++v.cells++zero.drop (off+v.cells.length))else none
def A0H(P:Program)(t:TypeId):Option (List Value):=match P.info? t with
 |some i=>i.zero.map (·.cells.toList)
 |none=>none
def A2G(P:Program)(t:TypeId):Bool:=match P.underlying t with
 |some (.struct fs)=>fs.toList.all λf=>(A1u P f.type).isSome
 |_=>false
def A1b(P:Program)(t:TypeId):List (Nat×AV)->List AV->Option (List AV)
 |[],cs=>some cs
 |(i,v)::rest,cs=>match A0K P t i with
  |some (off,ft)=>if A1u P ft=some v.cells.length then(A1o cs off v).bind (A1b P t rest)else none
  |none=>none
def A0M(sz:Nat):List (Nat×AV)->List (List AV)->Option (List (List AV))
 |[],rows=>some rows
 |(i,v)::rest,rows=>if v.storable&&decide (v.cells.length=sz)&&decide (i<rows.length)then A0M sz rest (rows.set i v.cells)else none
def A9Z(len:Nat):Option AV->Option (Option Nat)
 |none=>some none
 |some m=>(A1F len (some m)).map some
def B1J(hh:Nat):Option AV->Option Nat
 |none=>some 0
 |some l=>A1F hh (some l)
def A5w(P:Program)(t:TypeId)(f g sz lo0 len:Nat)(lo hi mx:Option AV):Option AV:=
 match A9Z len mx,A1f P t with
 |some m,some e=>if A1u P e=some sz then
  match A1F (m.getD len) hi,hi.isSome||mx.isNone with
  |some h,true=>match B1J h lo with
   |some l=>match m with
    |none=>some (.vref f g sz (lo0+l) (h-l))
    |some q=>if q=l then some (.list sz [] .full)else none
   |none=>none
  |_,_=>none
  else none
 |_,_=>none
def D0m(op:BinOp)(k:IntKind)(a b:Int):Option Value:=
 if b<0 then none else match op with
 |.shl=>some (.int k (k.wrap (a*2^(min b.toNat k.bits))))
 |.shr=>some (.int k (a.fdiv (2^(min b.toNat k.bits))))
 |_=>none
def A3p(P:Program)(eq:TypeId->AV->AV->Option Bool)(xs ys:List AV):List Field->Option Bool
 |[]=>some true
 |f::fs=>if f.name≠ "_" then
  if(A1u P f.type).any (λn=>decide (f.offset+n<=xs.length))&&(A1u P f.type).any (λn=>decide (f.offset+n<=ys.length))then
   match A1n P f.type (xs.drop f.offset),A1n P f.type (ys.drop f.offset)with
   |some a,some b=>match eq f.type a b with
    |some true=>A3p P eq xs ys fs
    |some false=>some false
    |none=>none
   |_,_=>none
  else none
  else A3p P eq xs ys fs
def A9V(P:Program):Nat->TypeId->AV->AV->Option Bool
 |0,_,_,_=>none
 |d+1,t,x,y=>match P.underlying t,x,y with
  |some .bool,.val (.bool a),.val (.bool b)=>some (a==b)
  |some (.int _),.val (.int k a),.val (.int k' b)=>if k=k' then some (a==b)else none
  |some .string,.val (.string a),.val (.string b)=>some (a.data.toList==b.data.toList)
  |some (.struct fs),.agg xs,.agg ys=>if P.stoodInHeld t then none else A3p P (A9V P d) xs ys fs.toList
  |_,_,_=>none
def A4T(P:Program)(op:BinOp)(t:TypeId)(x y:AV):Option AV:=
 match x,y with
 |.val (.int k a),.val (.int yk b)=>if k=yk then none else(D0m op k a b).map .val
 |.agg xs,.agg ys=>if P.eqGuardType P.depth t then none else match op,A9V P 30 t (.agg xs) (.agg ys)with
  |.eql,some b=>some (.val (.bool b))
  |.neq,some b=>some (.val (.bool !b))
  |_,_=>none
 |.vref _ _ _ _ _,.val (.slice none 0 0)=>match P.underlying t,op with
  |some (.slice _),.eql=>some (.val (.bool false))
  |some (.slice _),.neq=>some (.val (.bool true))
  |_,_=>none
 |_,_=>none
def A1B(P:Program)(op:BinOp)(t:TypeId)(x y:AV):Option AV:=match A3q P op t x y with
 |some v=>some v
 |none=>A4T P op t x y
def A6d(P:Program)(src dst:TypeId)(x:AV):Option AV:=match P.underlying src,P.underlying dst,x with
 |some (.int _),some (.int k),.val (.int _ n)=>some (.val (.int k (k.wrap n)))
 |some .string,some .string,.val (.string s)=>some (.val (.string s))
 |_,_,_=>none
def A2y(P:Program)(t:TypeId):AV->Option Nat
 |.val (.string s)=>match P.underlying t with|some .string=>some s.size|_=>none
 |.val (.slice none 0 0)=>match P.underlying t with|some (.slice _)=>some 0|_=>none
 |.val (.map none)=>match P.underlying t with|some (.map _ _)=>some 0|_=>none
 |.list _ rows _=>match P.underlying t with|some (.slice _)=>some rows.length|_=>none
 |.vref _ _ _ _ len=>match P.underlying t with|some (.slice _)=>some len|_=>none
 |_=>none
def A8W(mx:Bool):AV->AV->Option AV
 |.val (.int k a),.val (.int k' b)=>if k=k' then some (.val (.int k (if mx then(if b>a then b else a)else(if b<a then b else a))))else none
 |_,_=>none
def A8z(P:Program)(hint:Bool)(b:Builtin)(ts:Array TypeId)(args:List AV):Option AV:=
 match b,args with
 |.len,[x]=>match ts[0]? with
  |some t=>(A2y P t x).map λ(n:Nat)=>AV.val (goInt (n:Int))
  |none=>none
 |.max,[x,y]=>A8W true x y
 |.min,[x,y]=>A8W false x y
 |_,_=>none
def A2E(P:Program)(t:TypeId)(x:AV)(lo hi mx:Option AV):Option AV:=match x with
 |.vref f g sz lo0 len=>A5w P t f g sz lo0 len lo hi mx
 |x=>A4h P t x lo hi mx
def B7s(C:Ctx)(h:A2u)(t:TypeId)(d:Option Nat):Bool:=A2t h.vec d&&!C.data t
def A0I(C:Ctx)(h:A2u)(o:Oper)(ρ:Operand->AV):Option AV:=
 match o.op with
 |.move x=>some (ρ x)
 |.assign x=>some (ρ x)
 |.pick c a b=>match ρ c with
  |.val (.bool t)=>some (if t then ρ a else ρ b)
  |_=>none
 |.box e x=>if A2t h.imm o.dst&&(ρ x).storable then some (.cptr (ρ x).cells)else none
 |.nilCheck x=>match ρ x with
  |.ptr b off=>some (.ptr b off)
  |.cptr cs=>some (.cptr cs)
  |.func (.func f) a c=>some (.func (.func f) a c)
  |.vptr f g off=>some (.vptr f g off)
  |_=>none
 |.binOp op t x y _=>A1B C.P op t (ρ x) (ρ y)
 |.unOp .not _ x=>match ρ x with
  |.val (.bool b)=>some (.val (.bool !b))
  |_=>none
 |.unOp .neg _ x=>match ρ x with
  |.val (.int k n)=>some (.val (.int k (k.wrap (0-n))))
  |_=>none
 |.fieldAddr t x f=>match A1t C.P t f,ρ x with
  |some k,.ptr b off=>some (.ptr b (off+k))
  |some k,.cptr cs=>some (.cptr (cs.drop k))
  |some k,.vptr f g off=>some (.vptr f g (off+k))
  |_,_=>none
 |.field t x f=>match A0K C.P t f,ρ x with
  |some (k,ft),.agg cs=>if(A1u C.P ft).any (λn=>decide (k+n<=cs.length))then A1n C.P ft (cs.drop k)else none
  |_,_=>none
 |.indexAddr t x ix=>match A1f C.P t,ρ x,ρ ix with
  |some e,.list sz rows _,.val (.int _ i)=>if A1u C.P e=some sz/\0<=i/\i<rows.length then some (.cptr (rows.getD i.toNat []))else none
  |some e,.vref f g sz lo len,.val (.int _ i)=>if A1u C.P e=some sz/\0<=i/\i<len then some (.vptr f g ((lo+i.toNat)*sz))else none
  |_,_,_=>none
 |.index t x ix=>match C.P.underlying t,ρ x,ρ ix with
  |some .string,.val (.string s),.val (.int _ i)=>if 0<=i/\i<s.size then some (.val (.int .u8 (s.data.getD i.toNat 0).toNat))else none
  |_,_,_=>none
 |.load t x=>match ρ x with
  |.cptr cs=>A1n C.P t cs
  |_=>none
 |.extract x i=>match ρ x with
  |.tuple vs=>vs[i]?
  |_=>none
 |.makeFunc fn f c=>some (.func fn (f.toList.map ρ) (c.toList.map ρ))
 |.slice t x lo hi mx=>A2E C.P t (ρ x) (lo.map ρ) (hi.map ρ) (mx.map ρ)
 |.convert src dst x=>A6d C.P src dst (ρ x)
 |.build t parts=>match A0H C.P t,C.P.underlying t with
  |some z,some (.struct _)=>if !A2G C.P t||!z.all (·.oneCell')then none else(A1b C.P t (parts.toList.map λp=>(p.1,ρ p.2)) (z.map .val)).map .agg
  |_,_=>none
 |.buildSlice t n parts=>if B7s C h t o.dst then none else match A1f C.P t with
  |some e=>match A1u C.P e,A0H C.P e with
   |some sz,some z=>if n*sz<=2^24/\z.length=sz/\z.all (·.oneCell')/\0<sz then
    (A0M sz (parts.toList.map λp=>(p.1,ρ p.2)) (List.replicate n (z.map .val))).map λrows=>.list sz rows .full
    else none
   |_,_=>none
  |none=>none
 |.call {callee:=.builtin b,args,argTypes}=>A8z C.P (A2t h.own o.dst) b argTypes (args.toList.map ρ)
 |_=>none
def A3W{P}{s}{w w'}{v}(h:s.run P w=.ok v w'):(do pure (.value (<-s)):Sem Next).run P w=.ok (.value v) w':=by simp only[Z0E,h,Z0u,Z0K]
def D2o{P}{t:TypeId}{n}(h:A1u P t=some n):∃i,P.info? t=some i/\i.size=n:=by
 unfold A1u at h;cases hi:P.info? t with
 |none=>simp[hi]at h
 |some i=>simp[hi]at h;exact⟨i,rfl,h⟩
def B5X{P}{t:TypeId}{f k}(h:A1t P t f=some k)(a:Addr)(w:World):(Instr.fieldAt t (.pointer (some a)) f).run P w=.ok (.pointer (some (a.add k))) w:=by
 unfold A1t at h;split at h;case h_2=>simp at h
 rename_i fs hu;split at h;case h_2=>simp at h
 rename_i x hf;cases hs:A1u P x.type with
 |none=>simp[hs]at h
 |some n=>
  cases n with
  |zero=>simp[hs]at h
  |succ n=>simp[hs]at h;subst h;simp[Instr.fieldAt,Z0q hu,hf,Instr.sureAddr,fieldPlace,A2k hs]
def A6I{P}{G}{len n}{v}{x}(hr:Rep G v x)(h:A1F len (some v)=some n)(a:BoundsCode)(w:World):(Instr.sliceBound x len a).run P w=.ok n w/\n<=len:=by
 unfold A1F at h;split at h
 .rename_i h';simp at h'
 .rename_i k i h';simp at h';subst h';simp only[Rep]at hr;subst hr;split at h
  .rename_i hc;simp at h;subst h;exact⟨by simp[Instr.sliceBound,asIntOf,hc],by omega⟩
  .simp at h
 .simp at h
def B3p{P}{G}{len n y}{v}{x}(hr:Rep G v x)(h:A1F len (some v)=some n)(hy:len<=y)(a:BoundsCode)(w:World):(Instr.sliceBound x y a).run P w=.ok n w/\n<=len:=by
 unfold A1F at h;split at h
 .rename_i h';simp at h'
 .rename_i k i h';simp at h';subst h';simp only[Rep]at hr;subst hr;split at h
  .rename_i hc;simp at h;subst h;have b:0<=i/\i<=(y:Int):=⟨hc.1,by omega⟩;exact⟨by simp[Instr.sliceBound,asIntOf,b],by omega⟩
  .simp at h
 .simp at h
section
variable {C:Ctx} {G:A0o} {M:Mem} {w:World}
def B3H{len cap}(i:len<=cap){lo hi mx}{xlo xhi xmx}{m}{hh l}
 (g:∀a,lo=some a->∃x,xlo=some x/\Rep G a x)(p:lo=none->xlo=none)
 (o:∀a,hi=some a->∃x,xhi=some x/\Rep G a x)(n:hi=none->xhi=none)
 (s:∀a,mx=some a->∃x,xmx=some x/\Rep G a x)(j:mx=none->xmx=none)
 (hm:A9Z len mx=some m)
 (d:A1F (m.getD len) hi=some hh)(hb:(hi.isSome||mx.isNone)=true)
 (hl:B1J hh lo=some l):
 ∃m',(Instr.sliceBounds true len cap xlo xhi xmx).run C.P w=.ok (l,hh,m') w/\l<=hh/\hh<=len/\hh<=m'/\m'<=cap/\(∀q,m=some q->m'=q)/\(m=none->m'=cap):=by
 unfold Instr.sliceBounds
 have e:∀(f:BoundsCode),l<=hh/\(lo=none->l=0)/\∀x,xlo=some x->(Instr.sliceBound x hh f).run C.P w=.ok l w:=by
  intro f;cases lo with
  |none=>simp only[B1J,Z0b]at hl;subst hl;exact⟨Z3a _,λ_=>rfl,λx hx=>by rw[p rfl]at hx;simp at hx⟩
  |some a=>obtain⟨x,hx,hr⟩:=g a rfl;have:=A6I (P:=C.P) hr hl f w;exact⟨this.2,λh=>by simp at h,λx' hx'=>by rw[hx]at hx';simp at hx';subst hx';exact this.1⟩
 cases mx with
 |none=>
  simp only[A9Z,Z0b]at hm
  subst hm
  rw[j rfl]
  simp only[Z3A]at d
  cases hi with
  |none=>
   rw[n rfl]
   simp[A1F]at d
   subst d
   obtain⟨h1,h2,h3⟩:=e .sliceB
   refine⟨cap,?_,h1,Z0n _,i,Z0n _,by simp,by simp⟩
   cases xlo with
   |none=>
    have:lo=none:=by
     cases lo with
     |none=>rfl
     |some a=>obtain⟨x,hx,_⟩:=g a rfl;simp at hx
    simp[h2 this]
   |some x=>simp[h3 x rfl]
  |some b=>
   obtain⟨y,rfl,hy⟩:=o b rfl
   have c:=B3p (P:=C.P) hy d i .sliceAcap w
   obtain⟨h1,h2,h3⟩:=e .sliceB
   refine⟨cap,?_,h1,c.2,by omega,Z0n _,by simp,by simp⟩
   cases xlo with
   |none=>
    have:lo=none:=by
     cases lo with
     |none=>rfl
     |some a=>obtain⟨x,hx,_⟩:=g a rfl;simp at hx
    simp[h2 this,c.1]
   |some x=>simp[h3 x rfl,c.1]
 |some q=>
  obtain⟨z,rfl,hz⟩:=s q rfl
  simp only[A9Z,Z0m]at hm
  obtain⟨mm,r,rfl⟩:=hm
  have k:=B3p (P:=C.P) hz r i .slice3Acap w
  simp only[Z1w]at d
  cases hi with
  |none=>simp at hb
  |some b=>
   obtain⟨y,rfl,hy⟩:=o b rfl
   have c:=A6I (P:=C.P) hy d .slice3B w
   obtain⟨h1,h2,h3⟩:=e .slice3C
   refine⟨mm,?_,h1,by omega,c.2,by omega,by simp,by simp⟩
   cases xlo with
   |none=>
    have:lo=none:=by
     cases lo with
     |none=>rfl
     |some a=>obtain⟨x,hx,_⟩:=g a rfl;simp at hx
    simp[h2 this,c.1,k.1]
   |some x=>simp[h3 x rfl,c.1,k.1]
def B0r{sz}{rows}{own}{xv}(hx:Rep G (.list sz rows own) xv){t:TypeId}{lo hi mx}{xlo xhi xmx}{v}
 (y:∀a,lo=some a->∃x,xlo=some x/\Rep G a x)(p:lo=none->xlo=none)
 (r:∀a,hi=some a->∃x,xhi=some x/\Rep G a x)(j:hi=none->xhi=none)
 (q:∀a,mx=some a->∃x,xmx=some x/\Rep G a x)(i:mx=none->xmx=none)(h:A4m C.P t sz rows own lo hi mx=some v):
 ∃u,(Instr.sliceAt t xv xlo xhi xmx).run C.P w=.ok u w/\Rep G v u/\(xv=.slice none 0 0->u=.slice none 0 0):=by
 simp only[A4m]at h
 split at h
 case h_2=>simp at h
 rename_i m e hm he
 split at h
 case isFalse=>simp at h
 rename_i hsz
 split at h
 case h_2=>simp at h
 rename_i hh hhe hb
 split at h
 case h_2=>simp at h
 rename_i l hl
 simp at h
 subst h
 simp only[Rep]at hx
 obtain⟨base,cap,rfl,s,z,c,b⟩:=hx
 have d:=B3H (C:=C) (w:=w) (G:=G) s y p r j q i (by cases mx<;>exact hm) (by cases hi<;>exact hhe) hb (by cases lo<;>exact hl)
 obtain⟨m',n,q1,q2,q3,q4,q5,q6⟩:=d
 refine⟨.slice (if m'=l then base else base.map (·.add (l*sz))) (hh-l) (m'-l),?_,?_,λe=>?_⟩
 .simp[Instr.sliceAt,Instr.slice,Z0q (A2C he),n,A2k hsz]
 .refine A5Q (by simp;omega) (by simp;omega) (by omega) ?_ ?_
  .cases base with
   |none=>obtain⟨rfl,rfl⟩:=c;(have e0:(if m'=l then(none:Option Addr)else Option.map (λx:Addr=>x.add (l*sz)) none)=none:=by split<;>rfl);rw[e0];exact⟨by simp,by omega⟩
   |some a=>
    obtain⟨o,g⟩:=c;by_cases e1:m'=l
    .rw[Z0e e1];(have:(rows.take hh).drop l=[]:=by apply Z0y;simp;omega);rw[this];exact⟨λh=>absurd rfl h,by simp[A0C]⟩
    .rw[Z0d e1];by_cases e2:rows=[]
     .subst e2;simp only[Z1C,List.take_nil,Z4z];exact⟨λh=>absurd rfl h,by simp[A0C]⟩
     have o:=o e2;(have ea:a.add (l*sz)=⟨a.block,a.off+l*sz,none⟩:=by(have ea:a=⟨a.block,a.off,none⟩:=by cases a;simp_all);rw[ea,Z1t]);simp only[Z1C,ea];exact⟨λ_=>rfl,(g.take hh).drop l⟩
  ·(have k:((rows.take hh).drop l).length=hh-l:=by simp;omega);rw[k]
   unfold A7A;cases m with
   |some mm=>
    have:=q5 mm rfl;simp only;split
    .simp only[A5I];omega
    .trivial
   |none=>
    have:=q6 rfl;subst this;simp only;cases own with
    |no=>trivial
    |full=>
     simp only[A5I]at b;simp only;split
     .simp only[A5I];omega
     .trivial
    |fam f=>
     simp only;split
     .rename_i hc;obtain⟨rfl,rfl⟩:=hc;simp only[A5I,Nat.sub_zero]at b|-;have e2:(if m'=0 then base else Option.map (λx=>x.add (0*sz)) base)=base:=by
       split
       .rfl
       .cases base with
        |none=>rfl
        |some a=>simp[Addr.add]
      rw[e2];exact b
     .trivial
 .simp only[Value.slice.injEq]at e;obtain⟨rfl,e1,rfl⟩:=e;have e2:(if m'=l then(none:Option Addr)else Option.map (λx:Addr=>x.add (l*sz)) none)=none:=by split<;>rfl
  rw[e2];have:hh-l=0:=by omega
  have:m'-l=0:=by omega
  simp_all
def B4j{s}{t:TypeId}{lo hi}{xlo xhi}{v}(d:∀a,lo=some a->∃x,xlo=some x/\Rep G a x)(c:lo=none->xlo=none)
 (g:∀a,hi=some a->∃x,xhi=some x/\Rep G a x)(e:hi=none->xhi=none)(h:A4h C.P t (.val (.string s)) lo hi none=some v):
 ∃u,(Instr.sliceAt t (.string s) xlo xhi none).run C.P w=.ok u w/\Rep G v u:=by
 simp only[A4h]at h
 split at h
 case h_2=>simp at h
 rename_i h' _ hu hh
 split at h
 case h_2=>simp at h
 rename_i l hl
 simp at h
 subst h
 refine⟨.string (s.extract l h'),?_,by simp[Rep]⟩
 have e1:(Instr.sliceBounds false s.size s.size xlo xhi none).run C.P w=.ok (l,h',s.size) w:=by
  unfold Instr.sliceBounds;cases hi with
  |none=>
   rw[e rfl];simp[A1F]at hh;subst hh;cases lo with
   |none=>rw[c rfl];simp at hl;subst hl;simp
   |some a=>obtain⟨x,rfl,hx⟩:=d a rfl;have:=(A6I (P:=C.P) hx hl .sliceB w).1;simp[this]
  |some b=>
   obtain⟨y,rfl,hy⟩:=g b rfl;have f:=(A6I (P:=C.P) hy hh .sliceAlen w).1;cases lo with
   |none=>rw[c rfl];simp at hl;subst hl;simp[f]
   |some a=>obtain⟨x,rfl,hx⟩:=d a rfl;have:=(A6I (P:=C.P) hx hl .sliceB w).1;simp[f,this]
 simp[Instr.sliceAt,Instr.slice,Z0q hu,e1]
end
end Go.Abs
