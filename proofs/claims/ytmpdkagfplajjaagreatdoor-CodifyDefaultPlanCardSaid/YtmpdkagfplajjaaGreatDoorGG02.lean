/- The texts AbsE, AbsF, AbsF2, AbsG, AbsH. -/
import Derived.Test.YtmpdkagfplajjaaGreatDoorGG01
set_option linter.all false
namespace Go.Abs
def A4f(P:Program)(u:TypeId):Prop:=(∃e2,P.underlying u=some (.slice e2))\/P.underlying u=some .string
section
variable {P:Program}
def B0y{t u e:TypeId}{ty:TypeId}{sz:Nat}{s x:Value}{base:Option Addr}{n cap:Nat}{w:World}(ht:P.underlying t=some (.slice e))(c:A1t P e=some sz)
 (hu:A4f P u)(hx:∀w,(Builtin.lenOf x).run P w=.ok 0 w)
 (b:(Builtin.firstCells sz 0 x).run P w=.ok #[] w)(a:n<=cap):(Builtin.append_ #[t,u] ty #[.slice base n cap,x]).run P w=.ok (.slice base n cap) w:=by
 obtain⟨e2,hu⟩|hu:=hu
 all_goals cases base<;>simp[Builtin.append_,Z0p ht,Z0p hu,A2f c,hx,b,a,storeCells]
def C4N{t u e:TypeId}{ty:TypeId}{sz}{x}{g n cap m}{w}(ht:P.underlying t=some (.slice e))(f:A1t P e=some sz)
 (hu:A4f P u)(hx:∀w,(Builtin.lenOf x).run P w=.ok m w)
 {news}(d:(Builtin.firstCells sz m x).run P w=.ok news.toArray w)(c:n+m<=cap){cur}{ct:TypeId}(hg:w.heap[g]?=some (.cells cur ct (0,0)))
 (b:n*sz+news.length<=cur.size)(h1:∀v∈news,v.oneCell'=true):
 (Builtin.append_ #[t,u] ty #[.slice (some ⟨g,0,none⟩) n cap,x]).run P w=.ok (.slice (some ⟨g,0,none⟩) (n+m) cap) (w.setRow g (cur.toList.take (n*sz)++news++cur.toList.drop (n*sz+news.length)).toArray):=by
 obtain⟨e2,hu⟩|hu:=hu
 all_goals
  have a:=Z3w P g (n*sz) ct news 0 cur w hg (by simpa using b) h1
  simp only[Z0U]at a
  simp[Builtin.append_,Z0p ht,Z0p hu,A2f f,hx,d,c,a,Z1C]
def B0H{t u e:TypeId}{ty:TypeId}{i:TypeInfo}{z x:Value}{base:Option Addr}{n cap m:Nat}{w:World}(ht:P.underlying t=some (.slice e))(hi:P.info? e=some i)(hz:i.zero=some z)
 (hu:A4f P u)(hx:∀w,(Builtin.lenOf x).run P w=.ok m w)
 {news olds:List Value}(c:(Builtin.firstCells i.size m x).run P w.drew=.ok news.toArray w.drew)(f:(Builtin.firstCells i.size n (.slice base n cap)).run P w.drew=.ok olds.toArray w.drew)
 (d:cap<n+m)(hb:(n+m)*i.bytes<=140737488355328)(g:n+m<=maxLen):
 (Builtin.append_ #[t,u] ty #[.slice base n cap,x]).run P w=.ok (.slice (some ⟨w.heap.size,0,none⟩) (n+m) (grownCap w (n+m) cap e)) (w.drew.alloc (.cells (olds.toArray++news.toArray++Builtin.zeroCells z.cells (grownCap w (n+m) cap e-(n+m))) e)):=by
 have hn:¬(n+m<=cap):=by omega
 have b:¬(9223372036854775807<((n:Int)+(m:Int))):=by simp only[maxLen]at g;omega
 have h:=growslice_fits d hb
 have a:¬(281474976710656<Builtin.nextslicecap (n+m) cap*i.bytes):=by omega
 obtain⟨e2,hu⟩|hu:=hu
 all_goals simp[Builtin.append_,Z0p ht,Z0p hu,sizeOf,typeInfo,zeroValue,hi,hz,hx,hn,b,a,Question.forced,c,f,newRow,grownCap]
 all_goals (congr 2;apply Z1N;simp)
end
def A3y(P:Program)(e:TypeId)(sz bytes:Nat):Prop:=∃i z,P.info? e=some i/\i.zero=some z/\i.size=sz/\i.bytes=bytes/\z.cells.size=sz/\0<bytes
def A7G(hint:Bool)(sz:Nat)(s x:AV)(M:Mem):Option (AV×Mem):=
 match B1r s,B1r x with
 |some (r1,own),some (r2,_)=>
  match own with
  |.fam f=>match M[f]? with
   |some (.fam m sz')=>if m=r1.length/\sz'=sz then some (.list sz (r1++r2) (.fam f),M.set f (.fam (r1.length+r2.length) sz))else none
   |_=>none
  |.full=>if hint then some (.list sz (r1++r2) (.fam M.length),M++[.fam (r1.length+r2.length) sz])else some (.list sz (r1++r2) .no,M)
  |.no=>none
 |_,_=>none
def A9i(s:AV):Nat:=match B1r s with|some (r,_)=>r.length|none=>0
def A6u(P:Program)(base:Option Addr)(n c:Nat)(w:World):(Builtin.lenOf (.slice base n c)).run P w=.ok n w:=rfl
def A0r.grow(G:A0r)(f n:Nat)(h:Option Addr×Nat)(nb o:Nat)(vs:List Value):A0r:={G with st:=λb i=>if b=nb/\o<=i/\i<o+vs.length then vs[i-o]? else G.st b i,hdr:=λj=>if j=f thenλk=>if k=n then h else G.hdr f k else G.hdr j,top:=λj=>if j=f then n else G.top j}
def A0r.le_grow{G:A0r}{f n:Nat}{h:Option Addr×Nat}{nb o:Nat}{vs:List Value}(hn:G.top f<n\/(G.top f=n/\G.hdr f n=h))(a:∀i v,o<=i->i<o+vs.length->G.st nb i=some v->vs[i-o]?=some v):G.le (G.grow f n h nb o vs):=by
 refine⟨Z0n _,λ_ _=>rfl,λb i v hv=>?_,λ_ _ h=>h,λj _=>?_,λj _ k hk=>?_⟩
 .simp only[A0r.grow];split
  .rename_i e;obtain⟨rfl,h1,h2⟩:=e;exact a i v h1 h2 hv
  .exact hv
 .simp only[A0r.grow];by_cases e:j=f
  .subst e;rw[Z0d rfl];omega
  .rw[Z0c e];exact Z0n _
 .simp only[A0r.grow];by_cases e:j=f
  .subst e;rw[Z0d rfl];by_cases e2:k=n
   .subst e2;rw[Z0d rfl];rcases hn with h1|⟨_,h1⟩
    .omega
    .exact h1.symm
   .rw[Z0c e2]
  .rw[Z0c e]
abbrev B8C(G:A0r)(sz:Nat)(rows:List (List AV))(base:Option Addr)(cap:Nat):Prop:=match base with|none=>rows=[]/\cap=0|some a=>(rows≠[]->a.spot=none)/\A0D G sz rows a.block a.off
def A5P{G}{sz}{rows}{own}{base}{n cap}(hn:n=rows.length)(h1:rows.length<=cap)(h2:cap<=maxLen)(h3:B8C G sz rows base cap)(h4:A5G G own rows.length base cap):Rep G (.list sz rows own) (.slice base n cap):=by
 subst hn
 simp only[Rep]
 exact⟨base,cap,rfl,h1,h2,h3,h4⟩
def B8C.mono{G G'}(h:G.le G'){sz}{rows}{base}{cap}(k:B8C G sz rows base cap):B8C G' sz rows base cap:=by
 cases base with
 |none=>exact k
 |some a=>exact⟨k.1,A0D.mono h sz rows _ _ k.2⟩
def Inv.adopt{C}{G}{M}{w}(hi:Inv C G M w){n sz}{base}(hn:n<=maxLen):∃G',Inv C G' (M++[.fam n sz]) w/\G.le G'/\M.length<G'.n/\G'.top M.length=n/\G'.hdr M.length n=(base,n):=by
 have hm:=hi.more w.heap.size (λ_=>(base,n)) n
 have hk:(M++[A0p.gone])[M.length]?=some .gone:=by simp
 have e1:(G.more w.heap.size (λ_=>(base,n)) n).hdr M.length n=(base,n):=by simp[A0r.more,hi.n]
 have e2:(G.more w.heap.size (λ_=>(base,n)) n).top M.length=n:=by simp[A0r.more,hi.n]
 have hs:=hm.step (w':=w) (o':=.fam n sz) M.length w.heap.size hk (.inr (Z0n _)) (.refl _) rfl (λ_=>rfl) (λ_ _=>⟨rfl,rfl⟩) (λ_ _ _ h=>.inl h) (λ_=>rfl) (λ_ _ _=>rfl) (λi v h=>hi.st _ _ _ h) (λo h=>by have:=hi.keep_lt (b:=w.heap.size) (o:=o) h;omega) ⟨e2,by rw[e1];exact Z0n _,by rw[e1];exact hn,λh=>by rw[e1]at h;simp at h⟩ (λb h=>by simp[A3s,e1]at h)
 exact⟨_,by simpa using hs,G.le_more _ _ _,by simp[A0r.more,hi.n],e2,e1⟩
def A0D.grown{G G'}(b:G.le G'){sz nb o}{rows}{vs}(hr:A0u G rows.flatten vs)(h1:∀v∈vs,v.oneCell'=true)(c:∀r∈rows,r.length=sz) (a:∀(i:Nat) (v:Value),vs[i]?=some v->G'.st nb (o+i)=some v):A0D G' sz rows nb o:=A0D.mk c (A0S.mk (A0u.mono b _ _ hr) h1 a)
def C4p{C}{G}{M}{w}(hi:Inv C G M w){s x}{sv xv}(hs:Rep G s sv)(hx:Rep G x xv){sz bytes}(c0:B0Q sz s)(c6:B0Q sz x)
 {hint}{r}{M'}(h:A7G hint sz s x M=some (r,M')){t u e:TypeId}(ty:TypeId)(ht:A1h C.P t=some e)(hu:A4f C.P u)(he:A3y C.P e sz bytes)
 (hb:(A9i s+A9i x)*bytes<=140737488355328):
 ∃v w' G',(Builtin.append_ #[t,u] ty #[sv,xv]).run C.P w=.ok v w'/\G.le G'/\Inv C G' M' w'/\Rep G' r v/\Ext w w':=by
 have ht:=A2w ht
 obtain⟨i,z,ah,hz,ag,bt,bv,bb⟩:=he
 have b4:A1t C.P e=some sz:=by simp[A1t,ah,ag]
 unfold A7G at h
 split at h
 case h_2=>simp at h
 rename_i r1 own r2 own2 e1 e2
 obtain⟨base,cap,rfl,b8,af,au,ae⟩:=B9W hi hs e1 c0
 obtain⟨a5,a9,rfl,c8,c9,c3,ca⟩:=B9W hi hx e2 c6
 obtain⟨a0,bu,ab,bc,bo,bq⟩:=B4h hi (cap:=cap) au
 obtain⟨c,bs,a1,am,bp,be⟩:=B4h hi (cap:=a9) c3
 have c5:(r1.length+r2.length)*bytes<=140737488355328:=by simpa[A9i,e1,e2]using hb
 have bg:r1.length+r2.length<=maxLen:=by have:r1.length+r2.length<=(r1.length+r2.length)*bytes:=Z2m _ bb;simp only[maxLen];omega
 have ap:A0u G (r1++r2).flatten (a0++c):=by rw[List.flatten_append];exact bu.append bs
 have a4:∀v∈a0++c,v.oneCell'=true:=λv hv=>by
  rcases Z0P.1 hv with h|h
  .exact bc v h
  .exact am v h
 have ac:∀q∈r1++r2,q.length=sz:=λv hv=>by
  rcases Z0P.1 hv with h|h
  .exact bo v h
  .exact bp v h
 have ax:(a0++c).length=(r1.length+r2.length)*sz:=by rw[Z0r,ab,a1,Z0L]
 by_cases hm:r2.length=0
 ·-- nothing is appended
  have bn:r2=[]:=Z0z hm;subst bn;have c4:(Builtin.firstCells sz 0 (.slice a5 ([]:List (List AV)).length a9)).run C.P w=.ok #[] w:=by have:=be w rfl;have hv:c=[]:=Z0z (by simpa using a1);subst hv;exact this
  have k:=B0y (P:=C.P) (ty:=ty) (s:=.bool true) (base:=base) (n:=r1.length) (cap:=cap) (x:=.slice a5 ([]:List (List AV)).length a9) ht b4 hu (λw=>A6u _ _ _ _ _) c4 b8;simp only[Z1b,Z1I,Z0U]at h;cases own with
  |no=>simp at h
  |full=>
   simp only[A5G]at ae;subst ae;simp only at h;split at h
   .simp only[Z0b,Z0f]at h;obtain⟨rfl,rfl⟩:=h;obtain⟨G',p,l,y,q1,q2⟩:=hi.adopt (n:=r1.length) (sz:=sz) (base:=base) af;exact⟨_,w,G',k,l,p,A5P rfl (Z0n _) af (B8C.mono l au) ⟨y,by omega,q2⟩,.refl _⟩
   .simp only[Z0b,Z0f]at h;obtain⟨rfl,rfl⟩:=h;exact⟨_,w,G,k,.refl _,hi,A5P rfl b8 af au trivial,.refl _⟩
  |fam f=>
   simp only at h;split at h
   .rename_i m sz' hf;split at h
    .rename_i hcond;obtain⟨rfl,rfl⟩:=hcond;simp only[Z0b,Z0f]at h;obtain⟨rfl,rfl⟩:=h;(have hM:M.set f (.fam r1.length sz')=M:=by have y:=A0O hf;rw[Z0m y]at hf;have:=Z1Q hf;rw[<-this];exact Z4x y);rw[hM];exact⟨_,w,G,k,.refl _,hi,A5P rfl b8 af au ae,.refl _⟩
    .simp at h
   .simp at h
 .by_cases hroom:r1.length+r2.length<=cap
  ·-- in place
   cases own with
   |no=>simp at h
   |full=>simp only[A5G]at ae;omega
   |fam f=>
    simp only at h;split at h;(case h_2=>simp at h);rename_i m sz' hf;split at h;(case isFalse=>simp at h);rename_i hcond;obtain⟨rfl,rfl⟩:=hcond;simp only[Z0b,Z0f]at h;obtain⟨rfl,rfl⟩:=h;obtain⟨aj,c7,bf⟩:=ae;obtain⟨aa,ad,br,bi⟩:=hi.obj f _ hf;rw[bf]at ad br bi;obtain⟨g,a3,ct,an,hg,b3,al,aq⟩:=bi (by show r1.length<cap;omega);simp only at an b3;subst an;(have b9:r1.length*sz'+c.length<=a3.size:=by rw[a1,<-Z0L];exact Z0X (Z0Y _ hroom) b3);have k:=C4N (P:=C.P) (ty:=ty) (g:=g) (n:=r1.length) (cap:=cap) (x:=.slice a5 r2.length a9) (m:=r2.length) ht b4 hu (λw=>A6u _ _ _ _ _) (be w rfl) hroom hg b9 am;generalize ba:w.setRow g (a3.toList.take (r1.length*sz')++c++a3.toList.drop (r1.length*sz'+c.length)).toArray=w' at k;(have ak:w'.heap[g]?=some (.cells (a3.toList.take (r1.length*sz')++c++a3.toList.drop (r1.length*sz'+c.length)).toArray ct (0,0)):=by rw[<-ba];exact Z4s w g a3 _ ct _ hg);(have bw:(a3.toList.take (r1.length*sz')).length=r1.length*sz':=by rw[Z0E];simp;omega);(have ao:∀i:Nat,w'.cell? ⟨g,i,none⟩=(a3.toList.take (r1.length*sz')++c++a3.toList.drop (r1.length*sz'+c.length))[i]?:=by intro i;rw[Z2R _ _ _ _ _ _ ak];simp);(have bm:∀i:Nat,i<r1.length*sz'->w'.cell? ⟨g,i,none⟩=w.cell? ⟨g,i,none⟩:=by intro i p;rw[ao,Z2R _ _ _ _ _ _ hg,Z0T,Z0h (by omega),Z0N,Z0d p];simp);(have bd:∀i v,r1.length*sz'<=i->c[i-r1.length*sz']?=some v->w'.cell? ⟨g,i,none⟩=some v:=by intro i v p hv;have y:=A0O hv;rw[ao,Z0T,Z1t (by omega),bw,Z0h y];exact hv);have b2:∀i v,G.st g i=some v->i<r1.length*sz':=by
     intro i v hv;rcases Z3G i (r1.length*sz')with h|h
     .exact h
     .rw[al i h]at hv;simp at hv
    have l:G.le (G.grow f (r1.length+r2.length) (some ⟨g,0,none⟩,cap) g (r1.length*sz') c):=A0r.le_grow (.inl (by omega)) (λi v h1 h2 hv=>by have:=b2 i v hv;omega);(have d:(G.grow f (r1.length+r2.length) (some ⟨g,0,none⟩,cap) g (r1.length*sz') c).hdr f (r1.length+r2.length)=(some ⟨g,0,none⟩,cap):=by simp[A0r.grow]);(have bx:A3s G f (.fam r1.length sz') g:=by simp only[A3s,bf];exact⟨by omega,_,rfl,rfl⟩);have p:=hi.step (w':=w') (o':=.fam (r1.length+r2.length) sz') f g hf (.inl bx) l rfl (λ_=>rfl) (λj hj=>by simp[A0r.grow,hj])
     (λb i v hv=>by
      simp only[A0r.grow]at hv;split at hv
      .rename_i hc;obtain⟨rfl,c1,c2⟩:=hc;exact .inr ⟨rfl,bd i v c1 hv⟩
      .exact .inl hv)
     (λ_=>rfl) (λb _ hne=>by rw[<-ba];exact Z3H _ _ _ _ hne) (λi v hv=>by rw[bm i (b2 i v hv)];exact hi.st _ _ _ hv) (λo ho=>by rw[aq]at ho;simp at ho)
     ⟨by
      simp[A0r.grow],by rw[d];exact hroom,by rw[d];exact af,λy=>⟨g,_,ct,by rw[d],ak,by
      rw[d];simp only[Z2B,Z0r,Z0E,Z1x,Z1F];omega,λi p=>by simp only[A0r.grow];rw[Z0c (by rw[a1,<-Z0L];omega)];exact al i (Z0X (Z0Y _ (Nat.le_add_right _ _)) p),aq⟩⟩
     (λb hb=>.inl (by simp only[A3s,d,Z0b]at hb;obtain⟨_,a,rfl,rfl⟩:=hb;rfl))
    refine⟨_,w',_,k,l,p,?_,by rw[<-ba];exact Ext.setRow _ _ _⟩;refine A5P (by simp) (by simpa using hroom) af ⟨λ_=>rfl,?_⟩ ⟨by exact aj,by simp[A0r.grow],by simpa using d⟩;refine A0D.grown l ap a4 ac (λi v hv=>?_);simp only[Z0I,A0r.grow];by_cases y:i<a0.length
    .rw[Z0h y]at hv;rw[Z0c (by omega)];obtain⟨_,ai⟩:=au;obtain⟨us,q1,q2,q3,q4⟩:=(A0D.flat ai).1.vals;(have bz:us=a0:=by have b7:=bq w rfl;have bj:=Z2F (P:=C.P) w sz' r1.length ⟨g,0,none⟩ r1.length cap us (by rw[q2,(A0D.flat ai).2]) (λj v hv=>by rw[Z1C];exact hi.st _ _ _ (q4 j v hv));rw[bj]at b7;simp at b7;exact b7);subst bz;simpa using q4 i v hv
    .rw[Z1t (by omega)]at hv;have:=A0O hv;rw[Z0d ⟨trivial,by omega,by omega⟩,<-ab];exact hv
  ·-- a new block
   have k:=B0H (P:=C.P) (ty:=ty) (base:=base) (n:=r1.length) (cap:=cap) (x:=.slice a5 r2.length a9) (m:=r2.length) (w:=w) (i:=i) (z:=z) (e:=e) (t:=t) (u:=u) (news:=c) (olds:=a0) ht ah hz hu (λw=>A6u _ _ _ _ _) (by rw[ag];exact be w.drew rfl) (by rw[ag];exact bq w.drew rfl) (by omega) (by rw[bt];exact c5) bg;have ay:=Z4t w (r1.length+r2.length) cap e;have b1:=Z3o w (r1.length+r2.length) cap e bg;generalize grownCap w (r1.length+r2.length) cap e=nc at k ay b1;generalize b6:a0.toArray++c.toArray++Builtin.zeroCells z.cells (nc-(r1.length+r2.length))=a6 at k;(have b0:a6.size=nc*sz:=by rw[<-b6];simp only[Z3W,Z2B,Z4y,bv,ab,a1,<-Z0L];congr 1;omega);(have a8:∀(i:Nat) (v:Value),(a0++c)[i]?=some v->a6[i]?=some v:=by intro i v hv;have y:=A0O hv;rw[<-b6,Z3T (by simp at y|-;omega),<-hv];simp);have aw:Inv C G M w.drew:=hi.world rfl;have av:Ext w (w.drew.alloc (.cells a6 e)):=(Ext.drew w).trans (Ext.alloc _ _);have a2:=Z2k w.drew (.cells a6 e);have a7:∀(G1:A0r) (M1:Mem) (f:Nat) (o:A0p),Inv C G1 M1 w.drew->G.le G1->M1[f]?=some o->f<G1.n->(G1.top f<r1.length+r2.length\/(∀h,G1.top f=r1.length+r2.length/\G1.hdr f (r1.length+r2.length)=h->True)/\G1.top f<r1.length+r2.length)->
    ∃G',G.le G'/\Inv C G' (M1.set f (.fam (r1.length+r2.length) sz)) (w.drew.alloc (.cells a6 e))/\Rep G' (.list sz (r1++r2) (.fam f)) (.slice (some ⟨w.heap.size,0,none⟩) (r1.length+r2.length) nc):=by
    intro G1 M1 f o az ad hf aj aa
    have aa:G1.top f<r1.length+r2.length:=by rcases aa with h|h;exact h;exact h.2
    have l:G1.le (G1.grow f (r1.length+r2.length) (some ⟨w.heap.size,0,none⟩,nc) w.heap.size 0 (a0++c)):=A0r.le_grow (.inl aa) (λi v _ _ hv=>by have:=az.st_lt hv;simp at this)
    have d:(G1.grow f (r1.length+r2.length) (some ⟨w.heap.size,0,none⟩,nc) w.heap.size 0 (a0++c)).hdr f (r1.length+r2.length)=(some ⟨w.heap.size,0,none⟩,nc):=by simp[A0r.grow]
    have b5:∀i,G1.st w.heap.size i=none:=by
     intro i;cases h:G1.st w.heap.size i with
     |none=>rfl
     |some v=>have:=az.st_lt h;simp at this
    have bk:∀o,G1.keep w.heap.size≠some o:=by intro o h;have:=az.keep_lt h;simp at this
    have p:=az.step (w':=w.drew.alloc (.cells a6 e)) (o':=.fam (r1.length+r2.length) sz) f w.heap.size hf (.inr (by simp)) l rfl (λ_=>rfl) (λj hj=>by simp[A0r.grow,hj])
     (λb i v hv=>by
      simp only[A0r.grow]at hv;split at hv
      .rename_i hc;obtain⟨rfl,c1,c2⟩:=hc;refine .inr ⟨rfl,?_⟩;rw[Z2R _ _ _ _ _ _ (by simpa using a2)];exact a8 i v (by simpa using hv)
      .exact .inl hv)
     (λ_=>rfl) (λb y _=>A3R w.drew _ b (by simpa using y)) (λi v hv=>by rw[b5]at hv;simp at hv) bk
     ⟨by
      simp[A0r.grow],by rw[d];exact ay,by rw[d];exact b1,λy=>⟨w.heap.size,a6,e,by rw[d],by simpa using a2,by rw[d,b0];exact Z0n _,λi p=>by
      simp only[A0r.grow];rw[Z0c (by rw[ax];omega)];exact b5 i,by
      cases h:G1.keep w.heap.size with
      |none=>exact h
      |some o=>exact absurd h (bk o)⟩⟩
     (λb hb=>.inl (by simp only[A3s,d,Z0b]at hb;obtain⟨_,a,rfl,rfl⟩:=hb;rfl))
    refine⟨_,ad.trans l,p,?_⟩
    refine A5P (by simp) (by simpa using ay) b1 ⟨λ_=>rfl,?_⟩ ⟨aj,by simp[A0r.grow],by simpa using d⟩
    refine A0D.grown (ad.trans l) ap a4 ac (λi v hv=>?_)
    have:=A0O hv
    simp only[Z0I,A0r.grow]
    rw[Z0d ⟨trivial,by omega,by omega⟩]
    simpa using hv
   cases own with
   |no=>simp at h
   |full=>
    simp only at h;split at h
    .simp only[Z0b,Z0f]at h;obtain⟨rfl,rfl⟩:=h;have bh:=aw.more 0 (λ_=>(none,0)) 0;obtain⟨G',l,p,ar⟩:=a7 _ (M++[.gone]) M.length .gone bh (G.le_more _ _ _) (by simp) (by simp[A0r.more,hi.n]) (.inl (by simp[A0r.more,hi.n];omega));exact⟨_,_,G',k,l,by simpa using p,ar,av⟩
    .simp only[Z0b,Z0f]at h;obtain⟨rfl,rfl⟩:=h;have l:=A0r.le_fix aw (a0++c);refine⟨_,_,_,k,l,aw.fix a6 e (a0++c) a8,?_,av⟩;refine A5P (by simp) (by simpa using ay) b1 ⟨λ_=>rfl,?_⟩ trivial;refine A0D.grown l ap a4 ac (λi v hv=>?_);simp only[Z0I,A0r.fix];rw[Z0d (show w.heap.size=w.drew.heap.size from rfl)];exact hv
   |fam f=>simp only at h;split at h;(case h_2=>simp at h);rename_i m sz' hf;split at h;(case isFalse=>simp at h);rename_i hcond;obtain⟨rfl,rfl⟩:=hcond;simp only[Z0b,Z0f]at h;obtain⟨rfl,rfl⟩:=h;obtain⟨aj,c7,bf⟩:=ae;obtain⟨aa,_⟩:=hi.obj f _ hf;obtain⟨G',l,p,ar⟩:=a7 G M f _ aw (.refl _) hf aj (.inl (by omega));exact⟨_,_,G',k,l,p,ar,av⟩
def C1n{P}{t u e:TypeId}{ty:TypeId}{sz}{x}{g o n cap m}{w}(ht:P.underlying t=some (.slice e))(f:A1t P e=some sz)
 (hu:A4f P u)(hx:∀w,(Builtin.lenOf x).run P w=.ok m w)
 {news}(d:(Builtin.firstCells sz m x).run P w=.ok news.toArray w)(c:n+m<=cap){cur}{ct:TypeId}(hg:w.heap[g]?=some (.cells cur ct (0,0)))
 (b:o+n*sz+news.length<=cur.size)(h1:∀v∈news,v.oneCell'=true):
 (Builtin.append_ #[t,u] ty #[.slice (some ⟨g,o,none⟩) n cap,x]).run P w=.ok (.slice (some ⟨g,o,none⟩) (n+m) cap) (w.setRow g (cur.toList.take (o+n*sz)++news++cur.toList.drop (o+n*sz+news.length)).toArray):=by
 obtain⟨e2,hu⟩|hu:=hu
 all_goals
  have a:=Z3w P g (o+n*sz) ct news 0 cur w hg (by simpa using b) h1
  simp only[Z0U]at a
  simp[Builtin.append_,Z0p ht,Z0p hu,A2f f,hx,d,c,a,Z1C]
def A0A(M:Mem)(sz:Nat):AV->Option (List AV×Nat)
 |.val (.slice none 0 0)=>some ([],0)
 |.val (.string s)=>if sz=1 then some (s.data.toList.map λb=>.val (.int .u8 b.toNat),s.size)else none
 |.list s rows _=>if s=sz then some (rows.flatten,rows.length)else none
 |.vref f h s lo len=>match M[f]? with
  |some (.vec _ s' cs _ hist)=>match hist.lookup h with
   |some n=>if s=sz/\s'=sz/\lo+len<=n then some ((cs.drop (lo*sz)).take (len*sz),len)else none
   |none=>none
  |_=>none
 |_=>none
def B4b{P}(s:ByteArray)(w:World):(Builtin.firstCells 1 s.size (.string s)).run P w=.ok (s.data.map λb=>.int .u8 b.toNat) w:=by
 have e:s.extract 0 s.size=s:=by simp
 simp[Builtin.firstCells,e]
def A7W{C}{G}{M}{w}(hi:Inv C G M w){x}{xv}{sz m}{news}(hr:Rep G x xv)(h:A0A M sz x=some (news,m)):∃vs:List Value,A0u G news vs/\vs.length=m*sz/\(∀v∈vs,v.oneCell'=true)/\(∀w,(Builtin.lenOf xv).run C.P w=.ok m w)/\∀w',w'.heap=w.heap->(Builtin.firstCells sz m xv).run C.P w'=.ok vs.toArray w':=by
 unfold A0A at h
 split at h
 .simp only[Z0b,Z0f]at h;obtain⟨rfl,rfl⟩:=h;simp only[Rep]at hr;subst hr;exact⟨[],by simp[A0u],by simp,by simp,λw=>A6u _ _ _ _ _,λw' _=>by simp[Builtin.firstCells]⟩
 .rename_i s;split at h
  .rename_i hs;subst hs;simp only[Z0b,Z0f]at h;obtain⟨rfl,rfl⟩:=h;simp only[Rep]at hr;subst hr;refine⟨s.data.toList.map λb=>.int .u8 b.toNat,?_,by simp only[Z0K,Nat.mul_one];rfl,?_,λw=>rfl,λw' _=>?_⟩
   .refine A0u.of_get (by simp) ?_;intro i c y h1 h2;simp only[Z1l,Z0j]at h1 h2;obtain⟨a,ha,rfl⟩:=h1;obtain⟨b,hb,rfl⟩:=h2;rw[ha]at hb;simp only[Z0b]at hb;subst hb;simp[Rep]
   .intro v hv;simp only[Z0G]at hv;obtain⟨_,_,rfl⟩:=hv;rfl
   .rw[B4b];congr 1;apply Z1N;simp
  .simp at h
 .rename_i s rows own;split at h
  .rename_i hs;subst hs;simp only[Z0b,Z0f]at h;obtain⟨rfl,rfl⟩:=h;simp only[Rep]at hr;obtain⟨base,cap,rfl,_,_,hb,_⟩:=hr;obtain⟨vs,h1,h2,h3,_,h5⟩:=B4h hi (cap:=cap) hb;exact⟨vs,h1,h2,h3,λw=>A6u _ _ _ _ _,h5⟩
  .simp at h
 .rename_i f h' s lo len;split at h
  .rename_i ty s' cs g hist hM;split at h
   .rename_i n hn;split at h
    .rename_i hc;obtain⟨rfl,rfl,e⟩:=hc;simp only[Z0b,Z0f]at h;obtain⟨rfl,rfl⟩:=h;simp only[Rep]at hr;obtain⟨hf,hg,a,a',cap,hd,u,r,rfl,p,_,q⟩:=hr;obtain⟨_,p2,_⟩:=hi.obj f _ hM;obtain⟨_,q0,b,o,t,vs,q1,q2,q3,q4,q5,q6,q7,q8,q9⟩:=p2 h' n (A3h hn);rw[hd]at q1;simp only[Z0f,Z0b]at q1;obtain⟨rfl,rfl⟩:=q1;(have e1:(((vs.toList.drop o).take (n*s')).drop (lo*s')).take (len*s')=(vs.toList.drop (o+lo*s')).take (len*s'):=by rw[Z3u,Z1V,Z2t,Z1H];(have:lo*s'+len*s'<=n*s':=by rw[<-Z0L];exact Z0Y _ e);omega);(have e2:((cs.take (n*s')).drop (lo*s')).take (len*s')=(cs.drop (lo*s')).take (len*s'):=by rw[Z3u,Z2t,Z1H];(have:lo*s'+len*s'<=n*s':=by rw[<-Z0L];exact Z0Y _ e);omega);have hR:=(q6.drop (lo*s')).take (len*s');rw[e1,e2]at hR;(have d:((vs.toList.drop (o+lo*s')).take (len*s')).length=len*s':=by simp only[Z0E,Z1x,Z1F];(have h1:lo*s'+len*s'<=cap*s':=by rw[<-Z0L];exact Z0Y _ p);omega);(have k:∀v∈(vs.toList.drop (o+lo*s')).take (len*s'),v.oneCell'=true:=by rw[<-e1];intro v hv;exact q7 v (Z1u (Z1n hv)));refine⟨_,hR,d,k,λw=>A6u _ _ _ _ _,λw' hw=>?_⟩;by_cases hl0:len=0
     .subst hl0;refine Z2F (P:=C.P) w' s' 0 a' 0 (cap-lo) _ (by simp) (λj v hv=>by simp at hv)
     .have ha:=q (by omega);refine Z2F (P:=C.P) w' s' len a' len (cap-lo) _ (by rw[d]) (λj v hv=>?_);rw[ha,Z1C];rw[Z0N]at hv;split at hv
      .rw[Z1d]at hv;(have l:w'.heap[b]?=some (.cells vs ty (0,0)):=by rw[hw];exact q4);rw[Z2R _ _ _ _ _ _ l];simpa using hv
      .simp at hv
    .simp at h
   .simp at h
  .simp at h
 .simp at h
def A7N(e:TypeId)(sz:Nat)(s x:AV)(M:Mem):Option (AV×Mem):=
 match A0A M sz x with
 |none=>none
 |some (news,m)=>match s with
  |.val (.slice none 0 0)=>if m=0 then some (s,M)else some (.vref M.length 0 sz 0 m,M++[.vec e sz news 0 [(0,m)]])
  |.list s' [] .full=>if s'=sz then(if m=0 then some (s,M)else some (.vref M.length 0 sz 0 m,M++[.vec e sz news 0 [(0,m)]]))else none
  |.vref f h s' lo len=>match M[f]? with
   |some (.vec e2 s2 cs g hist)=>match hist.lookup h with
    |some n=>if e2=e/\s'=sz/\s2=sz/\lo+len<=n then
     if m=0 then some (s,M)else
     some (.vref f (g+1) sz 0 (len+m),M.set f (.vec e sz ((cs.drop (lo*sz)).take (len*sz)++news) (g+1) ((g+1,len+m)::if lo=0 then hist.filter (λp=>decide (p.2<=len))else[])))
     else none
    |none=>none
   |_=>none
  |_=>none
def A0r.le_time{G:A0r}{f n:Nat}{h:Option Addr×Nat}(hn:G.top f<n):G.le (G.grow f n h 0 0 []):=A0r.le_grow (.inl hn) (λi v h1 h2 _=>by simp at h2)
def A0r.time_st(G:A0r)(f n:Nat)(h:Option Addr×Nat)(b i:Nat):(G.grow f n h 0 0 []).st b i=G.st b i:=by simp only[A0r.grow,Z1I,Z0U];rw[Z0c (by omega)]
def A0r.time_hdr(G:A0r)(f n:Nat)(h:Option Addr×Nat):(G.grow f n h 0 0 []).hdr f n=h:=by simp[A0r.grow]
def A0r.time_old(G:A0r)(f n m:Nat)(h:Option Addr×Nat)(hm:m≠n):(G.grow f n h 0 0 []).hdr f m=G.hdr f m:=by simp[A0r.grow,hm]
def B9v{C}{G}{M}{w}(hi:Inv C G M w){s v}{M'}{xv}{t u e ty:TypeId}{sz bytes m}{news}{vs2}(he:A3y C.P e sz bytes)
 (ht:C.P.underlying t=some (.slice e))(hu:A4f C.P u)(y:A0u G news vs2)(d:vs2.length=m*sz)(a0:∀v∈vs2,v.oneCell'=true)(a4:∀w,(Builtin.lenOf xv).run C.P w=.ok m w)
 (a7:∀w',w'.heap=w.heap->(Builtin.firstCells sz m xv).run C.P w'=.ok vs2.toArray w')(base:Option Addr)(hs:Rep G s (.slice base 0 0))(ad:∀w',(Builtin.firstCells sz 0 (.slice base 0 0)).run C.P w'=.ok ([]:List Value).toArray w')
 (af:(0+m)*bytes<=140737488355328)(h:(if m=0 then some (s,M)else some (AV.vref M.length 0 sz 0 m,M++[.vec e sz news 0 [(0,m)]]))=some (v,M')):
 ∃r w' G',(Builtin.append_ #[t,u] ty #[.slice base 0 0,xv]).run C.P w=.ok r w'/\G.le G'/\Inv C G' M' w'/\Rep G' v r/\Ext w w':=by
 obtain⟨i,z,j,hz,g,ab,ae,a1⟩:=he
 have a5:A1t C.P e=some sz:=by simp[A1t,j,g]
 split at h
 .rename_i hm0;simp only[Z0b,Z0f]at h;obtain⟨rfl,rfl⟩:=h;subst hm0;have hv:vs2=[]:=Z0z (by simpa using d);subst hv;exact⟨_,w,G,B0y (s:=.bool true) (base:=base) (n:=0) (cap:=0) ht a5 hu a4 (a7 w rfl) (Z0n _),.refl _,hi,hs,.refl _⟩
 .rename_i hm0;simp only[Z0b,Z0f]at h;obtain⟨rfl,rfl⟩:=h;have a6:0+m<=maxLen:=by have:0+m<=(0+m)*bytes:=Z2m _ a1;simp only[maxLen];omega
  have k:=B0H (P:=C.P) (ty:=ty) (base:=base) (n:=0) (cap:=0) (x:=xv) (m:=m) (w:=w) (i:=i) (z:=z) (e:=e) (t:=t) (u:=u) (news:=vs2) (olds:=[]) ht j hz hu a4 (by rw[g];exact a7 w.drew rfl) (by rw[g];exact ad _) (by omega) (by rw[ab];exact af) a6;have a8:=Z4t w (0+m) 0 e;have a3:=Z3o w (0+m) 0 e a6;generalize grownCap w (0+m) 0 e=nc at k a8 a3;have q:Ext w (w.drew.alloc (.cells (([]:List Value).toArray++vs2.toArray++Builtin.zeroCells z.cells (nc-(0+m))) e)):=(Ext.drew w).trans (Ext.alloc _ _);generalize p:([]:List Value).toArray++vs2.toArray++Builtin.zeroCells z.cells (nc-(0+m))=o at k q;have l:o.size=nc*sz:=by rw[<-p];simp only[Z3W,Z2B,Z4y,ae,d,Z1I,Z0I,<-Z0L];congr 1;omega
  have f:(o.toList.drop 0).take (m*sz)=vs2:=by rw[<-p,<-d];simp
  have a9:Inv C G M w.drew:=hi.world rfl;obtain⟨G',aa,a2,ah,ac,ag,ai⟩:=a9.newObj (.cells o e) (.vec e sz news 0 [(0,m)]) (λ_=>(some ⟨w.heap.size,0,none⟩,nc)) 0
   (λG' a2 _ hh ht hst hk=>⟨ht,λh n hm=>by
    simp only[Z1m,Z0f]at hm;obtain⟨rfl,rfl⟩:=hm;refine⟨by omega,Z2J (by rw[<-d,y.length]),w.heap.size,0,nc,o,by rw[hh],by omega,a3,Z2k w.drew _,Z2J (by rw[l,Z0I]),?_,?_,hst,hk⟩
    .rw[f,Z0k (Z2J (by rw[<-y.length,d]))];exact A0u.mono a2 _ _ y
    .rw[f];exact a0,λh n h' n' a a' c c' m1 m2 e1 e2 _=>by
    rw[hh]at e1 e2;simp only[Z0f,Z0b]at e1 e2;rw[<-e1.1,<-e2.1]⟩)
   (λG' b _ hh hown=>by obtain⟨h,n,a,_,ha,rfl⟩:=hown;rw[hh]at ha;simp only[Z0b]at ha;rw[<-ha];rfl)
  refine⟨_,_,G',k,a2,aa,?_,q⟩;simp only[Rep];exact⟨ac,by omega,⟨w.heap.size,0,none⟩,⟨w.heap.size,0,none⟩,nc,by rw[ag],rfl,rfl,by simp,by omega,a3,λ_=>by simp⟩
def C9s{C:Ctx}{G:A0r}{M:Mem}{w:World}(hi:Inv C G M w){s x:AV}{sv xv:Value}(hs:Rep G s sv)(hx:Rep G x xv){t u e ty:TypeId}{sz bytes:Nat}(ht:C.P.underlying t=some (.slice e))(hu:A4f C.P u)
 (he:A3y C.P e sz bytes){v:AV}{M':Mem}(hb:∀cs k,A0A M sz s=some (cs,k)->∀news m,A0A M sz x=some (news,m)->(k+m)*bytes<=140737488355328)(h:A7N e sz s x M=some (v,M')):
 ∃r w' G',(Builtin.append_ #[t,u] ty #[sv,xv]).run C.P w=.ok r w'/\G.le G'/\Inv C G' M' w'/\Rep G' v r/\Ext w w':=by
 obtain⟨i,z,a7,hz,aa,ba,b9,ad⟩:=he
 have ay:A1t C.P e=some sz:=by simp[A1t,a7,aa]
 unfold A7N at h
 split at h
 .simp at h
 rename_i news m hsrc
 obtain⟨y,b6,l,a8,ak,ao⟩:=A7W hi hx hsrc
 split at h
 ·-- nil
  simp only[Rep]at hs;subst hs;exact B9v hi ⟨i,z,a7,hz,aa,ba,b9,ad⟩ ht hu b6 l a8 ak ao none (by simp[Rep]) (by simp[Builtin.firstCells]) (hb [] 0 rfl news m hsrc) h
 .rename_i s';split at h;case isFalse=>simp at h
  rename_i hss;subst hss;have aq:=hs;simp only[Rep,A5G]at hs;obtain⟨base,cap,rfl,_,_,_,aw⟩:=hs;simp only[Z1I]at aw aq|-;subst aw;exact B9v hi ⟨i,z,a7,hz,aa,ba,b9,ad⟩ ht hu b6 l a8 ak ao base aq (λw'=>by
   cases base with
   |none=>simp[Builtin.firstCells]
   |some a=>exact Z2F (P:=C.P) w' s' 0 a 0 0 [] (by simp) (λj v hv=>by simp at hv)) (hb [] 0 (by simp[A0A]) news m hsrc) h
 ·-- a slice of an array
  rename_i f h' s' lo len;split at h;case h_2=>simp at h
  rename_i e2 s2 cs g hist hM;split at h;case h_2=>simp at h
  rename_i n hn;split at h;case isFalse=>simp at h
  rename_i hc;obtain⟨rfl,rfl,rfl,aj⟩:=hc;have aq:=hs;simp only[Rep]at hs;obtain⟨hf,hg,a,a',cap,hd,cc,c9,rfl,bp,cb,c7⟩:=hs;obtain⟨p0,p2,p3⟩:=hi.obj f _ hM;have ag:=A3h hn;obtain⟨_,q0,b,o,c,vs,q1,q2,q3,q4,q5,q6,q7,q8,q9⟩:=p2 h' n ag;have ca:=hd;rw[q1]at hd;simp only[Z0f,Z0b]at hd;obtain⟨rfl,rfl⟩:=hd;split at h
  .rename_i hm0;simp only[Z0b,Z0f]at h;obtain⟨rfl,rfl⟩:=h;subst hm0;have hv:y=[]:=Z0z (by simpa using l);subst hv;exact⟨_,w,G,B0y (s:=.bool true) (base:=some a') (n:=len) (cap:=c-lo) ht ay hu ak (ao w rfl) (by omega),.refl _,hi,aq,.refl _⟩
  rename_i hm0;simp only[Z0b,Z0f]at h;obtain⟨rfl,rfl⟩:=h;have h0:lo*s2+len*s2<=n*s2:=by rw[<-Z0L];exact Z0Y _ aj
  have cd:lo*s2+len*s2<=c*s2:=by rw[<-Z0L];exact Z0Y _ bp
  obtain⟨a6,bx,ai,bb,-,bt⟩:=A7W hi (m:=len) (sz:=s2) (news:=(cs.drop (lo*s2)).take (len*s2)) aq (by simp[A0A,hM,hn,aj]);have az:=bx.append b6;have au:∀v∈a6++y,v.oneCell'=true:=λv hv=>by
   rcases Z0P.1 hv with h|h
   .exact bb v h
   .exact a8 v h
  have ae:(a6++y).length=(len+m)*s2:=by rw[Z0r,ai,l,Z0L]
  have ac:((cs.drop (lo*s2)).take (len*s2)++news).length=(len+m)*s2:=by rw[<-az.length,ae]
  have a5:∀(w1:World) (gb o1 c1:Nat) (d:Array Value),(gb=b\/w.heap.size<=gb)->(∀b',b'<w.heap.size->b'≠gb->w1.heap[b']?=w.heap[b']?)->w1.heap[gb]?=some (.cells d e2 (0,0))->
   len+m<=c1->c1<=maxLen->o1+c1*s2<=d.size->(d.toList.drop o1).take ((len+m)*s2)=a6++y->(∀i,G.st gb i=none)->G.keep gb=none->
   (lo=0->gb=b->o1=o/\vs.size<=d.size/\∀i,i<o+len*s2->d.toList[i]?=vs.toList[i]?)->
   ∃G',G.le G'/\Inv C G' (M.set f (.vec e2 s2 ((cs.drop (lo*s2)).take (len*s2)++news) (g+1) ((g+1,len+m)::if lo=0 then hist.filter (λp=>decide (p.2<=len))else[]))) w1/\Rep G' (.vref f (g+1) s2 0 (len+m)) (.slice (some ⟨gb,o1,none⟩) (len+m) c1):=by
   intro w1 gb o1 c1 d bc hw a0 c8 b4 bw af bg am bs
   have bv:G.top f<g+1:=by omega
   have a9:=A0r.le_time (h:=(some (⟨gb,o1,none⟩:Addr),c1)) bv
   have old:∀h1 n1,(h1,n1)∈(if lo=0 then hist.filter (λp=>decide (p.2<=len))else[])->lo=0/\(h1,n1)∈hist/\n1<=len:=by
    intro h1 n1 hm;split at hm
    .rename_i e;have:=Z1G.1 hm;exact⟨e,this.1,by simpa using this.2⟩
    .simp at hm
   have q:∀h1 n1,(h1,n1)∈hist->h1≠g+1:=λh1 n1 hm=>by have:=(p2 h1 n1 hm).1;omega
   have ah:=hi.step (G':=G.grow f (g+1) (some ⟨gb,o1,none⟩,c1) 0 0 []) (w':=w1) (o':=.vec e2 s2 ((cs.drop (lo*s2)).take (len*s2)++news) (g+1) ((g+1,len+m)::if lo=0 then hist.filter (λp=>decide (p.2<=len))else[])) f gb hM
    (bc.imp (λe=>⟨h',n,_,ag,congrArg Prod.fst q1,e.symm⟩) id) a9 rfl (λ_=>rfl) (λj hj=>by simp[A0r.grow,hj]) (λb i v hv=>by rw[A0r.time_st]at hv;exact .inl hv) (λ_=>rfl) hw
    (λi v hv=>by rw[bg i]at hv;simp at hv) (λo ho=>by rw[am]at ho;simp at ho)
    ⟨by simp[A0r.grow],λh1 n1 hm=>?_,λh1 n1 h2 n2 a1 a2 ar c2' m1 m2 e1 e2 e3=>?_⟩
    (λb1 ⟨h1,n1,a1,hm,e1,e2⟩=>?_)
   .refine⟨_,a9,ah,?_⟩;simp only[Rep];exact⟨hf,by simp[A0r.grow],⟨gb,o1,none⟩,⟨gb,o1,none⟩,c1,A0r.time_hdr _ _ _ _,rfl,rfl,by simp,by omega,b4,λ_=>by simp⟩
   ·-- each slice that is kept reads as it did
    rcases Z0t.1 hm with hm|hm
    .simp only[Z0f]at hm;obtain⟨rfl,rfl⟩:=hm;refine⟨by simp[A0r.grow],Z2J ac.symm,gb,o1,c1,d,A0r.time_hdr _ _ _ _,c8,b4,a0,bw,?_,?_,λi=>by rw[A0r.time_st];exact bg i,am⟩
     .rw[af,Z0k (Z2J ac)];exact A0u.mono a9 _ _ az
     .rw[af];exact au
    .obtain⟨rfl,a3,bo⟩:=old h1 n1 hm;obtain⟨r0,r1,b2,o2,b5,vs',s1,bd,s3,s4,s5,s6,s7,s8,s9⟩:=p2 h1 n1 a3;have bn:n1*s2<=len*s2:=Z0Y _ bo;(have c0:((cs.drop (0*s2)).take (len*s2)++news).take (n1*s2)=cs.take (n1*s2):=by rw[Z2q,Z1k,Z2h (by rw[Z0E];omega),Z2t,Z1H bn]);refine⟨by simp[A0r.grow];omega,by rw[ac,Z0L];omega,b2,o2,b5,?_⟩;rw[A0r.time_old _ _ _ _ _ (q _ _ a3),c0];by_cases e:b2=gb
     .subst e;have eb:b2=b:=by
       rcases bc with h|h
       .exact h
       .have:=A5z s4;omega
      subst eb;obtain⟨rfl,c3,b8⟩:=bs rfl rfl;have eo:(⟨b2,o2,none⟩:Addr)=⟨b2,o1,none⟩:=p3 h1 n1 h' n _ _ _ _ a3 ag s1 q1 rfl;simp only[Z3A,Z2y,Z1M]at eo;subst eo;rw[q4]at s4;simp only[Z0b,Obj.cells.injEq,Z1M]at s4;subst s4;have al:(d.toList.drop o2).take (n1*s2)=(vs.toList.drop o2).take (n1*s2):=by
       apply Z1L;intro i;rw[Z0N,Z0N];split
       .rw[Z1d,Z1d];exact b8 _ (by omega)
       .rfl
      (have bk:o2+b5*s2<=d.size:=by omega);exact⟨d,s1,bd,s3,a0,bk,by rw[al];exact A0u.mono a9 _ _ s6,by rw[al];exact s7,λi=>by rw[A0r.time_st];exact s8 i,s9⟩
     .exact⟨vs',s1,bd,s3,by rw[hw b2 (A5z s4) e];exact s4,s5,A0u.mono a9 _ _ s6,s7,λi=>by rw[A0r.time_st];exact s8 i,s9⟩
   ·-- slices in one block begin at one cell
    (have ab:∀h1 n1 a1 ar,(h1,n1)∈(if lo=0 then hist.filter (λp=>decide (p.2<=len))else[])->(G.grow f (g+1) (some ⟨gb,o1,none⟩,c1) 0 0 []).hdr f h1=(some a1,ar)->gb=a1.block->(⟨gb,o1,none⟩:Addr)=a1:=by intro h1 n1 a1 ar hm e1 e2;obtain⟨rfl,a3,_⟩:=old h1 n1 hm;rw[A0r.time_old _ _ _ _ _ (q _ _ a3)]at e1;have bf:=(A5J.owns_lt (hi.obj f _ hM) (b:=a1.block) ⟨h1,n1,a1,a3,by rw[e1],rfl⟩);(have eb:gb=b:=by rcases bc with h|h<;>omega);subst eb;obtain⟨rfl,_⟩:=bs rfl rfl;exact(p3 h1 n1 h' n _ _ _ _ a3 ag e1 q1 e2.symm).symm);rcases Z0t.1 m1 with m1|m1<;>rcases Z0t.1 m2 with m2|m2
    .simp only[Z0f]at m1 m2;obtain⟨rfl,rfl⟩:=m1;obtain⟨rfl,rfl⟩:=m2;rw[e1]at e2;simp only[Z0f,Z0b]at e2;exact e2.1
    .simp only[Z0f]at m1;obtain⟨rfl,rfl⟩:=m1;rw[A0r.time_hdr]at e1;simp only[Z0f,Z0b]at e1;obtain⟨rfl,_⟩:=e1;exact ab h2 n2 a2 c2' m2 e2 e3
    .simp only[Z0f]at m2;obtain⟨rfl,rfl⟩:=m2;rw[A0r.time_hdr]at e2;simp only[Z0f,Z0b]at e2;obtain⟨rfl,_⟩:=e2;exact(ab h1 n1 a1 ar m1 e1 e3.symm).symm
    .obtain⟨_,bq,_⟩:=old h1 n1 m1;obtain⟨_,bi,_⟩:=old h2 n2 m2;rw[A0r.time_old _ _ _ _ _ (q _ _ bq)]at e1;rw[A0r.time_old _ _ _ _ _ (q _ _ bi)]at e2;exact p3 h1 n1 h2 n2 a1 a2 ar c2' bq bi e1 e2 e3
   .rcases Z0t.1 hm with hm|hm
    .simp only[Z0f]at hm;obtain⟨rfl,rfl⟩:=hm;rw[A0r.time_hdr]at e1;simp only[Z0b]at e1;subst e1;exact .inl e2.symm
    .obtain⟨_,a3,_⟩:=old h1 n1 hm;rw[A0r.time_old _ _ _ _ _ (q _ _ a3)]at e1;exact .inr ⟨h1,n1,a1,a3,e1,e2⟩
  by_cases hroom:len+m<=c-lo
  ·-- in place
   have ha:=c7 (by omega);subst ha;simp only at*;have bz:(lo+(len+m))*s2<=c*s2:=Z0Y _ (by omega);rw[Z0L,Z0L]at bz;have a4:=C1n (P:=C.P) (ty:=ty) (g:=b) (o:=o+lo*s2) (n:=len) (cap:=c-lo) (x:=xv) (m:=m) ht ay hu ak (ao w rfl) hroom q4 (by rw[l];omega) a8;have a0:=Z4s w b vs (vs.toList.take (o+lo*s2+len*s2)++y++vs.toList.drop (o+lo*s2+len*s2+y.length)).toArray e2 (0,0) q4;generalize br:(vs.toList.take (o+lo*s2+len*s2)++y++vs.toList.drop (o+lo*s2+len*s2+y.length))=nl at a4 a0;have ax:∀i,nl[i]?=if o+lo*s2+len*s2<=i/\i<o+lo*s2+len*s2+y.length then y[i-(o+lo*s2+len*s2)]? else vs.toList[i]?:=by intro i;rw[<-br];exact A9E (by rw[l];simp;omega)
   (have c6:nl.length=vs.size:=by rw[<-br];simp only[Z0r,Z0E,Z1x,Z1F];omega);obtain⟨G',a9,ah,ap⟩:=a5 (w.setRow b nl.toArray) b (o+lo*s2) (c-lo) nl.toArray (.inl rfl) (λb' _ hne=>Z3H _ _ _ _ hne) a0 hroom (by omega)
    (by(have h1:lo*s2+(c-lo)*s2=c*s2:=by rw[<-Z0L];congr 1;omega);simp only[Z2B];omega)
    (by
     apply Z1L;intro k;rw[Z0N];split
     .rename_i hk;rw[Z0L]at hk;rw[Z1d,show(nl.toArray.toList:List Value)=nl from rfl,ax];by_cases hk2:k<a6.length
      .rw[Z0c (by omega),Z0h hk2];have b7:=bt w rfl;by_cases hl0:len=0
       .subst hl0;omega
       .have be:=Z2F (P:=C.P) w s2 len ⟨b,o+lo*s2,none⟩ len (c-lo) ((vs.toList.drop (o+lo*s2)).take (len*s2)) (by simp only[Z0E,Z1x,Z1F];omega) (λj v hv=>by
         rw[Z1C];rw[Z0N]at hv;split at hv
         .rw[Z1d]at hv;rw[Z2R _ _ _ _ _ _ q4];simpa using hv
         .simp at hv)
        rw[be]at b7;simp only[Result.ok.injEq,Z1M]at b7;(have bh:(vs.toList.drop (o+lo*s2)).take (len*s2)=a6:=by simpa using b7);rw[<-bh,Z0N,Z0d (by omega),Z1d]
      .rw[Z0d (by omega),Z1t (by omega)];congr 1;omega
     .rename_i hk;rw[Z1B (by omega)])
    q8 q9 (λh0 _=>⟨by subst h0;simp,by simp only[Z2B];omega,λi hi2=>by subst h0;rw[show(nl.toArray.toList:List Value)=nl from rfl,ax,Z0c (by omega)]⟩)
   exact⟨_,_,G',a4,a9,ah,ap,Ext.setRow _ _ _⟩
  ·-- in a new block
   have c2:=hb _ len (by simp[A0A,hM,hn,aj];rfl) news m hsrc;(have bm:len+m<=maxLen:=by have:len+m<=(len+m)*bytes:=Z2m _ ad;simp only[maxLen];omega);have a4:=B0H (P:=C.P) (ty:=ty) (base:=some a') (n:=len) (cap:=c-lo) (x:=xv) (m:=m) (w:=w) (i:=i) (z:=z) (e:=e2) (t:=t) (u:=u) (news:=y) (olds:=a6) ht a7 hz hu ak (by rw[aa];exact ao w.drew rfl) (by rw[aa];exact bt w.drew rfl) (by omega) (by rw[ba];exact c2) bm;have c4:=Z4t w (len+m) (c-lo) e2;have bu:=Z3o w (len+m) (c-lo) e2 bm;generalize grownCap w (len+m) (c-lo) e2=nc at a4 c4 bu;have b3:Ext w (w.drew.alloc (.cells (a6.toArray++y.toArray++Builtin.zeroCells z.cells (nc-(len+m))) e2)):=(Ext.drew w).trans (Ext.alloc _ _);generalize b0:a6.toArray++y.toArray++Builtin.zeroCells z.cells (nc-(len+m))=d at a4 b3;(have av:d.size=nc*s2:=by rw[<-b0];simp only[Z3W,Z2B,Z4y,b9,l,ai,<-Z0L];congr 1;omega);have bj:∀i,G.st w.heap.size i=none:=by
    intro i;cases h:G.st w.heap.size i with
    |none=>rfl
    |some v=>have:=hi.st_lt h;simp at this
   have c5:G.keep w.heap.size=none:=by
    cases h:G.keep w.heap.size with
    |none=>rfl
    |some v=>have:=hi.keep_lt h;simp at this
   obtain⟨G',a9,ah,ap⟩:=a5 (w.drew.alloc (.cells d e2)) w.heap.size 0 nc d (.inr (Z0n _)) (λb' bf _=>A3R w.drew _ b' bf) (Z2k w.drew _) (by omega) bu
    (Z2J (by rw[av,Z0I]))
    (by(have e:d.toList=(a6++y)++(Builtin.zeroCells z.cells (nc-(len+m))).toList:=by rw[<-b0];simp);rw[e,<-ae,Z1k,Z4v])
    bj c5 (λ_ h=>by have:=A5z q4;omega)
   exact⟨_,_,G',a4,a9,ah,ap,b3⟩
 .simp at h
structure A2r where
 imm:Nat->Bool
 own:Nat->Bool
 vec:Nat->Bool:=λ_=>false
def A2y(f:Nat->Bool):Option Nat->Bool
 |some d=>f d
 |none=>false
def D8j(G:A0r)(nx:Next)(v:AV):Prop:=(∃x,nx=.value x/\Rep G v x)\/(nx=.skip/\v=.val undef)
def A3C(C:Ctx)(G:A0r)(w:World)(s:Sem Next)(v:AV)(M':Mem):Prop:=∃nx w' G',s.run C.P w=.ok nx w'/\D8j G' nx v/\G.le G'/\Inv C G' M' w'/\Ext w w'
def A3C.same{C}{G}{M}{w}{s}{v}{x}(hi:Inv C G M w)(hr:s.run C.P w=.ok (.value x) w)(hx:Rep G v x):A3C C G w s v M:=⟨_,w,G,hr,.inl ⟨x,rfl,hx⟩,.refl _,hi,.refl _⟩
def B0t(op:BinOp)(k:IntKind)(a b:Int):Option Value:=
 match op with
 |.add=>some (.int k (k.wrap (a+b)))
 |.sub=>some (.int k (k.wrap (a-b)))
 |.mul=>some (.int k (k.wrap (a*b)))
 |.eql=>some (.bool (a==b))
 |.neq=>some (.bool (a !=b))
 |.lss=>some (.bool (decide (a<b)))
 |.leq=>some (.bool (decide (a<=b)))
 |.gtr=>some (.bool (decide (a>b)))
 |.geq=>some (.bool (decide (a>=b)))
 |.quo=>if b=0 then none else some (.int k (k.wrap (a.tdiv b)))
 |.rem=>if b=0 then none else some (.int k (a.tmod b))
 |.and=>some (.int k (k.wrap ((BitVec.ofInt k.bits a &&& BitVec.ofInt k.bits b).toNat)))
 |.or=>some (.int k (k.wrap ((BitVec.ofInt k.bits a ||| BitVec.ofInt k.bits b).toNat)))
 |.xor=>some (.int k (k.wrap ((BitVec.ofInt k.bits a ^^^ BitVec.ofInt k.bits b).toNat)))
 |.andNot=>some (.int k (k.wrap ((BitVec.ofInt k.bits a &&& ~~~BitVec.ofInt k.bits b).toNat)))
 |.shl=>if b<0 then none else some (.int k (k.wrap (a*2^(min b.toNat k.bits))))
 |.shr=>if b<0 then none else some (.int k (a.fdiv (2^(min b.toNat k.bits))))
def B5m(op:BinOp)(a b:ByteArray):Option Value:=
 match op with
 |.eql=>some (.bool (a.toList==b.toList))
 |.neq=>some (.bool !(a.toList==b.toList))
 |.lss=>some (.bool (Op.bytesLess a.toList b.toList))
 |.leq=>some (.bool (Op.bytesLess a.toList b.toList||a.toList==b.toList))
 |.gtr=>some (.bool !(Op.bytesLess a.toList b.toList||a.toList==b.toList))
 |.geq=>some (.bool !(Op.bytesLess a.toList b.toList))
 |.add=>if((a.size+b.size:Nat):Int)>IntKind.i64.max then none else some (.string (a++b))
 |_=>none
def B5n:AV->Option Bool
 |.val (.pointer none)|.val (.slice none 0 0)|.val (.map none)|.val .nilFunc=>some true
 |.ptr _ _|.cptr _|.mapr _|.func _ _ _=>some false
 |.list _ (_::_) _=>some false
 |_=>none
def A3I(P:Program)(t:TypeId):AV->Bool
 |.val (.pointer none)=>match P.underlying t with|some (.pointer _)=>true|_=>false
 |.val (.slice none 0 0)=>match P.underlying t with|some (.slice _)=>true|_=>false
 |.val (.map none)=>match P.underlying t with|some (.map _ _)=>true|_=>false
 |.val .nilFunc=>match P.underlying t with|some (.func _ _ _)=>true|_=>false
 |_=>false
def A3F:AV->AV->Bool
 |.val (.pointer none),.val (.pointer none)|.val (.slice none 0 0),.val (.slice none 0 0)|.val (.map none),.val (.map none)|.val .nilFunc,.val .nilFunc=>true
 |.ptr _ _,.val (.pointer none)|.cptr _,.val (.pointer none)|.mapr _,.val (.map none)|.func _ _ _,.val .nilFunc|.list _ _ _,.val (.slice none 0 0)=>true
 |_,_=>false
def A2O(P:Program)(op:BinOp)(t:TypeId)(x y:AV):Option AV:=
 match x,y with
 |.val (.int k a),.val (.int k' b)=>if k=k' then(B0t op k a b).map .val else none
 |.val (.string a),.val (.string b)=>(B5m op a b).map .val
 |.val (.bool a),.val (.bool b)=>match P.underlying t,op with
  |some .bool,.eql=>some (.val (.bool (a==b)))
  |some .bool,.neq=>some (.val (.bool !(a==b)))
  |_,_=>none
 |x,y=>if A3I P t y&&A3F x y then match B5n x,op with
  |some b,.eql=>some (.val (.bool b))
  |some b,.neq=>some (.val (.bool !b))
  |_,_=>none
  else none
def C9B{P}{op}{k}{a b}{v}(h:B0t op k a b=some v)(t:TypeId)(w:World):(binOp op t (.int k a) (.int k b)).run P w=.ok v w:=by
 cases op;case quo=>
  simp only[B0t]at h;split at h
  .simp at h
  .rename_i hb;cases h;simp[binOp,Op.intDiv,hb]
 case rem=>
  simp only[B0t]at h;split at h
  .simp at h
  .rename_i hb;cases h;simp[binOp,Op.intDiv,hb]
 case shl=>
  simp only[B0t]at h;split at h
  .simp at h
  .rename_i hb;cases h;simp[binOp,Op.shift,hb]
 case shr=>
  simp only[B0t]at h;split at h
  .simp at h
  .rename_i hb;cases h;simp[binOp,Op.shift,hb]
 case and=>simp only[B0t,Z0b]at h;subst h;simp[binOp,Op.intBits]
 case or=>simp only[B0t,Z0b]at h;subst h;simp[binOp,Op.intBits]
 case xor=>simp only[B0t,Z0b]at h;subst h;simp[binOp,Op.intBits]
 case andNot=>simp only[B0t,Z0b]at h;subst h;simp[binOp,Op.intBits]
 all_goals first
  |(simp only[B0t]at h;done)
  |(simp only[B0t,Z0b]at h;subst h;simp[binOp,Op.intArith,Op.intCmp])
def C8Y{P}{op}{a b}{v}(h:B5m op a b=some v)(t:TypeId)(w:World):(binOp op t (.string a) (.string b)).run P w=.ok v w:=by
 cases op<;>simp[B5m]at h;case add=>obtain⟨h1,h2⟩:=h;subst h2;simp[binOp,Op.stringOp];omega
 all_goals (subst h;simp[binOp,Op.stringOp])
def B4C{P}{t:TypeId}(h:P.underlying t=some .bool)(d:Nat)(a b:Bool)(w:World):(Op.equalIn (d+1) t (.bool a) (.bool b)).run P w=.ok (a==b) w:=by simp[Op.equalIn,Z0p h]
def B2v{P}{t e:TypeId}(h:P.underlying t=some (.pointer e))(d:Nat)(a:Option Addr)(w:World):(Op.equalIn (d+1) t (.pointer a) (.pointer none)).run P w=.ok a.isNone w:=by cases a<;>simp[Op.equalIn,Z0p h]
def A5L{P}{t e:TypeId}(h:P.underlying t=some (.slice e))(d:Nat)(a:Option Addr)(n c:Nat)(w:World):(Op.equalIn (d+1) t (.slice a n c) (.slice none 0 0)).run P w=.ok a.isNone w:=by cases a<;>simp[Op.equalIn,Z0p h]
def B7w{P}{t k e:TypeId}(h:P.underlying t=some (.map k e))(d:Nat)(a:Option Nat)(w:World):(Op.equalIn (d+1) t (.map a) (.map none)).run P w=.ok a.isNone w:=by cases a<;>simp[Op.equalIn,Z0p h]
def C3J{P}{t:TypeId}{p r}{v}(h:P.underlying t=some (.func p r v))(d:Nat)(fn:Fn)(f c:Array Value)(w:World):(Op.equalIn (d+1) t (.func fn f c) .nilFunc).run P w=.ok false w:=by simp[Op.equalIn,Z0p h]
def B5B{P}{t:TypeId}{p r}{v}(h:P.underlying t=some (.func p r v))(d:Nat)(w:World):(Op.equalIn (d+1) t .nilFunc .nilFunc).run P w=.ok true w:=by simp[Op.equalIn,Z0p h]
def C3t{C:Ctx}{G:A0r}{x y:AV}{xv yv:Value}(hx:Rep G x xv)(hy:Rep G y yv){t:TypeId}(hk:A3I C.P t y=true)(hs:A3F x y=true){b:Bool}(hb:B5n x=some b)(d:Nat)(w:World):(Op.equalIn (d+1) t xv yv).run C.P w=.ok b w:=by
 unfold A3F at hs
 split at hs
 all_goals first|(exact Bool.noConfusion hs)|skip
 all_goals simp only[Rep]at hx hy
 all_goals simp only[A3I]at hk
 all_goals split at hk
 all_goals first|(exact Bool.noConfusion hk)|skip
 all_goals simp only[B5n]at hb
 .rename_i h;subst hx;subst hy;simp at hb;subst hb;rw[B2v h];rfl
 .rename_i h;subst hx;subst hy;simp at hb;subst hb;rw[A5L h];rfl
 .rename_i h;subst hx;subst hy;simp at hb;subst hb;rw[B7w h];rfl
 .rename_i h;subst hx;subst hy;simp at hb;subst hb;rw[B5B h]
 .rename_i h;obtain⟨_,rfl⟩:=hx;subst hy;simp at hb;subst hb;rw[B2v h];rfl
 .rename_i h;obtain⟨_,_,rfl,_⟩:=hx;subst hy;simp at hb;subst hb;rw[B2v h];rfl
 .rename_i h;obtain⟨_,rfl⟩:=hx;subst hy;simp at hb;subst hb;rw[B7w h];rfl
 .rename_i h;obtain⟨_,_,rfl,_⟩:=hx;subst hy;simp at hb;subst hb;rw[C3J h]
 .rename_i h;subst hy;obtain⟨base,cap,rfl,h1,h2,h3,h4⟩:=hx;rw[A5L h];cases base with
  |none=>obtain⟨rfl,rfl⟩:=h3;simp at hb
  |some a=>split at hb;(all_goals first|(exact Option.noConfusion hb)|skip);all_goals simp_all
def A3H{P}{t:TypeId}{xv yv}{ox oy}{b}{w}(he:∀d,(Op.equalIn (d+1) t xv yv).run P w=.ok b w)
 (hx:(∃a,xv=.pointer a)\/(∃a n c,xv=.slice a n c)\/(∃a,xv=.map a)\/(∃f a c,xv=.func f a c)\/xv=.nilFunc\/∃a,xv=.bool a)
 (hy:(∃a,yv=.pointer a)\/(∃a n c,yv=.slice a n c)\/(∃a,yv=.map a)\/yv=.nilFunc\/∃a,yv=.bool a):
 (do eqGuard .eql t ox oy xv yv;binOp .eql t xv yv:Sem Value).run P w=.ok (.bool b) w/\(do eqGuard .neq t ox oy xv yv;binOp .neq t xv yv:Sem Value).run P w=.ok (.bool !b) w:=by
 have e:(Op.equal t xv yv).run P w=.ok b w:=he 9999
 have h1:(eqGuard .eql t ox oy xv yv).run P w=.ok () w/\(eqGuard .neq t ox oy xv yv).run P w=.ok () w:=by rcases hx with⟨a,rfl⟩|⟨a,n,c,rfl⟩|⟨a,rfl⟩|⟨f,a,c,rfl⟩|rfl|⟨a,rfl⟩<;>simp[eqGuard]
 have h2:binOp .eql t xv yv=(do pure (.bool (<-Op.equal t xv yv)))/\binOp .neq t xv yv=(do pure (.bool (!(<-Op.equal t xv yv)))):=by rcases hx with⟨a,rfl⟩|⟨a,n,c,rfl⟩|⟨a,rfl⟩|⟨f,a,c,rfl⟩|rfl|⟨a,rfl⟩<;>rcases hy with⟨a',rfl⟩|⟨a',n',c',rfl⟩|⟨a',rfl⟩|rfl|⟨a',rfl⟩<;>exact⟨rfl,rfl⟩
 constructor
 .simp only[Z0F,h1.1,Z0w,h2.1,e,Z0O]
 .simp only[Z0F,h1.2,Z0w,h2.2,e,Z0O]
def D4n{G}{x y}{xv yv}(hx:Rep G x xv)(hy:Rep G y yv)(hs:A3F x y=true):
 ((∃a,xv=.pointer a)\/(∃a n c,xv=.slice a n c)\/(∃a,xv=.map a)\/(∃f a c,xv=.func f a c)\/xv=.nilFunc\/∃a,xv=.bool a)/\
 ((∃a,yv=.pointer a)\/(∃a n c,yv=.slice a n c)\/(∃a,yv=.map a)\/yv=.nilFunc\/∃a,yv=.bool a):=by
 unfold A3F at hs
 split at hs
 all_goals first|(exact Bool.noConfusion hs)|skip
 all_goals simp only[Rep]at hx hy
 all_goals (subst hy)
 .subst hx;exact⟨.inl ⟨_,rfl⟩,.inl ⟨_,rfl⟩⟩
 .subst hx;exact⟨.inr (.inl ⟨_,_,_,rfl⟩),.inr (.inl ⟨_,_,_,rfl⟩)⟩
 .subst hx;exact⟨.inr (.inr (.inl ⟨_,rfl⟩)),.inr (.inr (.inl ⟨_,rfl⟩))⟩
 .subst hx;exact⟨.inr (.inr (.inr (.inr (.inl rfl)))),.inr (.inr (.inr (.inl rfl)))⟩
 .obtain⟨_,rfl⟩:=hx;exact⟨.inl ⟨_,rfl⟩,.inl ⟨_,rfl⟩⟩
 .obtain⟨_,_,rfl,_⟩:=hx;exact⟨.inl ⟨_,rfl⟩,.inl ⟨_,rfl⟩⟩
 .obtain⟨_,rfl⟩:=hx;exact⟨.inr (.inr (.inl ⟨_,rfl⟩)),.inr (.inr (.inl ⟨_,rfl⟩))⟩
 .obtain⟨_,_,rfl,_⟩:=hx;exact⟨.inr (.inr (.inr (.inl ⟨_,_,_,rfl⟩))),.inr (.inr (.inr (.inl rfl)))⟩
 .obtain⟨_,_,rfl,_⟩:=hx;exact⟨.inr (.inl ⟨_,_,_,rfl⟩),.inr (.inl ⟨_,_,_,rfl⟩)⟩
def C3V{C:Ctx}{G:A0r}{M:Mem}{w:World}(hi:Inv C G M w){x y:AV}{xv yv:Value}(hx:Rep G x xv)(hy:Rep G y yv){op:BinOp}{t:TypeId}{v:AV}(h:A2O C.P op t x y=some v)(ox oy:Operand):∃u,(do eqGuard op t ox oy xv yv;binOp op t xv yv:Sem Value).run C.P w=.ok u w/\Rep G v u:=by
 unfold A2O at h
 split at h
 .simp only[Rep]at hx hy;subst hx;subst hy;split at h
  .rename_i hk;subst hk;simp only[Z0j]at h;obtain⟨u,hu,rfl⟩:=h;refine⟨u,?_,by simp[Rep]⟩;have:=C9B (P:=C.P) hu t w;cases op<;>simp[B0t]at hu<;>simp[eqGuard,this]
  .simp at h
 .simp only[Rep]at hx hy;subst hx;subst hy;simp only[Z0j]at h;obtain⟨u,hu,rfl⟩:=h;refine⟨u,?_,by simp[Rep]⟩;have:=C8Y (P:=C.P) hu t w;cases op<;>simp[B5m]at hu<;>simp[eqGuard,this]
 .simp only[Rep]at hx hy;subst hx;subst hy;split at h
  .rename_i hu;simp at h;subst h;exact⟨_,(A3H (λd=>B4C hu d _ _ w) (by simp) (by simp)).1,by simp[Rep]⟩
  .rename_i hu;simp at h;subst h;exact⟨_,(A3H (λd=>B4C hu d _ _ w) (by simp) (by simp)).2,by simp[Rep]⟩
  .simp at h
 .split at h;case isFalse=>simp at h
  rename_i hc;simp only[Z0g]at hc;obtain⟨k1,k2⟩:=D4n hx hy hc.2;split at h
  .rename_i b hb;simp at h;subst h;exact⟨_,(A3H (λd=>C3t hx hy hc.1 hc.2 hb d w) k1 k2).1,by simp[Rep]⟩
  .rename_i b hb;simp at h;subst h;exact⟨_,(A3H (λd=>C3t hx hy hc.1 hc.2 hb d w) k1 k2).2,by simp[Rep]⟩
  .simp at h
def A1K(len:Nat):Option AV->Option Nat
 |none=>some len
 |some (.val (.int _ i))=>if 0<=i/\i<=len then some i.toNat else none
 |_=>none
def B0o(len l h:Nat)(mx:Option Nat)(own:Own):Own:=
 match mx with
 |some m=>if m=h then .full else .no
 |none=>match own with
  |.full=>if h=len then .full else .no
  |.fam f=>if h=len/\l=0 then .fam f else .no
  |.no=>.no
def A4l(P:Program)(t:TypeId)(sz:Nat)(rows:List (List AV))(own:Own)(lo hi mx:Option AV):Option AV:=
 match(match mx with|none=>some none|some m=>(A1K rows.length (some m)).map some),A1h P t with
 |some m,some e=>if A1t P e=some sz then
  match A1K (m.getD rows.length) (match hi with|some h=>some h|none=>none),hi.isSome||mx.isNone with
  |some h,true=>match(match lo with|none=>some 0|some l=>A1K h (some l))with
   |some l=>some (.list sz ((rows.take h).drop l) (B0o rows.length l h m own))
   |none=>none
  |_,_=>none
  else none
 |_,_=>none
def A4d(P:Program)(t:TypeId)(x:AV)(lo hi mx:Option AV):Option AV:=
 match x with
 |.val (.string s)=>match mx,P.underlying t,A1K s.size hi with
  |none,some .string,some h=>match(match lo with|none=>some 0|some l=>A1K h (some l))with
   |some l=>some (.val (.string (s.extract l h)))
   |none=>none
  |_,_,_=>none
 |.list sz rows own=>A4l P t sz rows own lo hi mx
 |.val (.slice none 0 0)=>match A1h P t with
  |some e=>match A1t P e with
   |some sz=>(A4l P t sz [] .full lo hi mx).map λ_=>.val (.slice none 0 0)
   |none=>none
  |none=>none
 |_=>none
def A0P(P:Program)(t:TypeId)(f:Nat):Option (Nat×TypeId):=match P.underlying t with
 |some (.struct fs)=>(fs[f]?).map λx=>(x.offset,x.type)
 |_=>none
def A1r(zero:List AV)(off:Nat)(v:AV):Option (List AV):=if v.storable&&decide (off+v.cells.length<=zero.length)then some (zero.take off++v.cells++zero.drop (off+v.cells.length))else none
def A0F(P:Program)(t:TypeId):Option (List Value):=match P.info? t with
 |some i=>i.zero.map (·.cells.toList)
 |none=>none
def A2K(P:Program)(t:TypeId):Bool:=match P.underlying t with
 |some (.struct fs)=>fs.toList.all λf=>(A1t P f.type).isSome
 |_=>false
def A1e(P:Program)(t:TypeId):List (Nat×AV)->List AV->Option (List AV)
 |[],cs=>some cs
 |(i,v)::rest,cs=>match A0P P t i with
  |some (off,ft)=>if A1t P ft=some v.cells.length then(A1r cs off v).bind (A1e P t rest)else none
  |none=>none
def A0W(sz:Nat):List (Nat×AV)->List (List AV)->Option (List (List AV))
 |[],rows=>some rows
 |(i,v)::rest,rows=>if v.storable&&decide (v.cells.length=sz)&&decide (i<rows.length)then A0W sz rest (rows.set i v.cells)else none
def A9Z(len:Nat):Option AV->Option (Option Nat)
 |none=>some none
 |some m=>(A1K len (some m)).map some
def B1D(hh:Nat):Option AV->Option Nat
 |none=>some 0
 |some l=>A1K hh (some l)
def A5t(P:Program)(t:TypeId)(f g sz lo0 len:Nat)(lo hi mx:Option AV):Option AV:=
 match A9Z len mx,A1h P t with
 |some m,some e=>if A1t P e=some sz then
  match A1K (m.getD len) hi,hi.isSome||mx.isNone with
  |some h,true=>match B1D h lo with
   |some l=>match m with
    |none=>some (.vref f g sz (lo0+l) (h-l))
    |some q=>if q=l then some (.list sz [] .full)else none
   |none=>none
  |_,_=>none
  else none
 |_,_=>none
def D0k(op:BinOp)(k:IntKind)(a b:Int):Option Value:=
 if b<0 then none else match op with
 |.shl=>some (.int k (k.wrap (a*2^(min b.toNat k.bits))))
 |.shr=>some (.int k (a.fdiv (2^(min b.toNat k.bits))))
 |_=>none
def A2N(P:Program)(eq:TypeId->AV->AV->Option Bool)(xs ys:List AV):List Field->Option Bool
 |[]=>some true
 |f::fs=>if f.name≠ "_" then
  if(A1t P f.type).any (λn=>decide (f.offset+n<=xs.length))&&(A1t P f.type).any (λn=>decide (f.offset+n<=ys.length))then
   match A1x P f.type (xs.drop f.offset),A1x P f.type (ys.drop f.offset)with
   |some a,some b=>match eq f.type a b with
    |some true=>A2N P eq xs ys fs
    |some false=>some false
    |none=>none
   |_,_=>none
  else none
  else A2N P eq xs ys fs
def A8a(P:Program):Nat->TypeId->AV->AV->Option Bool
 |0,_,_,_=>none
 |d+1,t,x,y=>match P.underlying t,x,y with
  |some .bool,.val (.bool a),.val (.bool b)=>some (a==b)
  |some (.int _),.val (.int k a),.val (.int k' b)=>if k=k' then some (a==b)else none
  |some .string,.val (.string a),.val (.string b)=>some (a.data.toList==b.data.toList)
  |some (.struct fs),.agg xs,.agg ys=>if P.stoodInHeld t then none else A2N P (A8a P d) xs ys fs.toList
  |_,_,_=>none
def A4s(P:Program)(op:BinOp)(t:TypeId)(x y:AV):Option AV:=
 match x,y with
 |.val (.int k a),.val (.int yk b)=>if k=yk then none else(D0k op k a b).map .val
 |.agg xs,.agg ys=>if P.eqGuardType P.depth t then none else match op,A8a P 30 t (.agg xs) (.agg ys)with
  |.eql,some b=>some (.val (.bool b))
  |.neq,some b=>some (.val (.bool !b))
  |_,_=>none
 |.vref _ _ _ _ _,.val (.slice none 0 0)=>match P.underlying t,op with
  |some (.slice _),.eql=>some (.val (.bool false))
  |some (.slice _),.neq=>some (.val (.bool true))
  |_,_=>none
 |_,_=>none
def A1z(P:Program)(op:BinOp)(t:TypeId)(x y:AV):Option AV:=match A2O P op t x y with
 |some v=>some v
 |none=>A4s P op t x y
def A4v(P:Program)(src dst:TypeId)(x:AV):Option AV:=match P.underlying src,P.underlying dst,x with
 |some (.int _),some (.int k),.val (.int _ n)=>some (.val (.int k (k.wrap n)))
 |some .string,some .string,.val (.string s)=>some (.val (.string s))
 |_,_,_=>none
def A2v(P:Program)(t:TypeId):AV->Option Nat
 |.val (.string s)=>match P.underlying t with|some .string=>some s.size|_=>none
 |.val (.slice none 0 0)=>match P.underlying t with|some (.slice _)=>some 0|_=>none
 |.val (.map none)=>match P.underlying t with|some (.map _ _)=>some 0|_=>none
 |.list _ rows _=>match P.underlying t with|some (.slice _)=>some rows.length|_=>none
 |.vref _ _ _ _ len=>match P.underlying t with|some (.slice _)=>some len|_=>none
 |_=>none
def A7U(mx:Bool):AV->AV->Option AV
 |.val (.int k a),.val (.int k' b)=>if k=k' then some (.val (.int k (if mx then(if b>a then b else a)else(if b<a then b else a))))else none
 |_,_=>none
def A8K(P:Program)(hint:Bool)(b:Builtin)(ts:Array TypeId)(args:List AV):Option AV:=
 match b,args with
 |.len,[x]=>match ts[0]? with
  |some t=>(A2v P t x).map λ(n:Nat)=>AV.val (goInt (n:Int))
  |none=>none
 |.max,[x,y]=>A7U true x y
 |.min,[x,y]=>A7U false x y
 |_,_=>none
def A2z(P:Program)(t:TypeId)(x:AV)(lo hi mx:Option AV):Option AV:=match x with
 |.vref f g sz lo0 len=>A5t P t f g sz lo0 len lo hi mx
 |x=>A4d P t x lo hi mx
def B7x(C:Ctx)(h:A2r)(t:TypeId)(d:Option Nat):Bool:=A2y h.vec d&&!C.data t
def A0E(C:Ctx)(h:A2r)(o:Oper)(ρ:Operand->AV):Option AV:=
 match o.op with
 |.move x=>some (ρ x)
 |.assign x=>some (ρ x)
 |.pick c a b=>match ρ c with
  |.val (.bool t)=>some (if t then ρ a else ρ b)
  |_=>none
 |.box e x=>if A2y h.imm o.dst&&(ρ x).storable then some (.cptr (ρ x).cells)else none
 |.nilCheck x=>match ρ x with
  |.ptr b off=>some (.ptr b off)
  |.cptr cs=>some (.cptr cs)
  |.func (.func f) a c=>some (.func (.func f) a c)
  |.vptr f g off=>some (.vptr f g off)
  |_=>none
 |.binOp op t x y _=>A1z C.P op t (ρ x) (ρ y)
 |.unOp .not _ x=>match ρ x with
  |.val (.bool b)=>some (.val (.bool !b))
  |_=>none
 |.unOp .neg _ x=>match ρ x with
  |.val (.int k n)=>some (.val (.int k (k.wrap (0-n))))
  |_=>none
 |.fieldAddr t x f=>match A1y C.P t f,ρ x with
  |some k,.ptr b off=>some (.ptr b (off+k))
  |some k,.cptr cs=>some (.cptr (cs.drop k))
  |some k,.vptr f g off=>some (.vptr f g (off+k))
  |_,_=>none
 |.field t x f=>match A0P C.P t f,ρ x with
  |some (k,ft),.agg cs=>if(A1t C.P ft).any (λn=>decide (k+n<=cs.length))then A1x C.P ft (cs.drop k)else none
  |_,_=>none
 |.indexAddr t x ix=>match A1h C.P t,ρ x,ρ ix with
  |some e,.list sz rows _,.val (.int _ i)=>if A1t C.P e=some sz/\0<=i/\i<rows.length then some (.cptr (rows.getD i.toNat []))else none
  |some e,.vref f g sz lo len,.val (.int _ i)=>if A1t C.P e=some sz/\0<=i/\i<len then some (.vptr f g ((lo+i.toNat)*sz))else none
  |_,_,_=>none
 |.index t x ix=>match C.P.underlying t,ρ x,ρ ix with
  |some .string,.val (.string s),.val (.int _ i)=>if 0<=i/\i<s.size then some (.val (.int .u8 (s.data.getD i.toNat 0).toNat))else none
  |_,_,_=>none
 |.load t x=>match ρ x with
  |.cptr cs=>A1x C.P t cs
  |_=>none
 |.extract x i=>match ρ x with
  |.tuple vs=>vs[i]?
  |_=>none
 |.makeFunc fn f c=>some (.func fn (f.toList.map ρ) (c.toList.map ρ))
 |.slice t x lo hi mx=>A2z C.P t (ρ x) (lo.map ρ) (hi.map ρ) (mx.map ρ)
 |.convert src dst x=>A4v C.P src dst (ρ x)
 |.build t parts=>match A0F C.P t,C.P.underlying t with
  |some z,some (.struct _)=>if !A2K C.P t||!z.all (·.oneCell')then none else(A1e C.P t (parts.toList.map λp=>(p.1,ρ p.2)) (z.map .val)).map .agg
  |_,_=>none
 |.buildSlice t n parts=>if B7x C h t o.dst then none else match A1h C.P t with
  |some e=>match A1t C.P e,A0F C.P e with
   |some sz,some z=>if n*sz<=2^24/\z.length=sz/\z.all (·.oneCell')/\0<sz then
    (A0W sz (parts.toList.map λp=>(p.1,ρ p.2)) (List.replicate n (z.map .val))).map λrows=>.list sz rows .full
    else none
   |_,_=>none
  |none=>none
 |.call {callee:=.builtin b,args,argTypes}=>A8K C.P (A2y h.own o.dst) b argTypes (args.toList.map ρ)
 |_=>none
end Go.Abs
