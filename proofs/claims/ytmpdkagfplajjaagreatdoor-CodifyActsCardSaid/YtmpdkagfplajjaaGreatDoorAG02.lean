/- The texts AbsF2, AbsG, AbsH, AbsI, AbsJ, AbsX1, SoA. -/
import Derived.Test.YtmpdkagfplajjaaGreatDoorAG01
set_option linter.all false
namespace Go.Abs
def B9J{P}{t u e:TypeId}{ty:TypeId}{sz}{x}{g o n cap m}{w}(ht:P.underlying t=some (.slice e))(c:A1e P e=some sz)
 (hu:A4v P u)(hx:∀w,(Builtin.lenOf x).run P w=.ok m w)
 {news}(d:(Builtin.firstCells sz m x).run P w=.ok news.toArray w)(f:n+m<=cap){cur}{ct:TypeId}(hg:w.heap[g]?=some (.cells cur ct (0,0)))
 (a:o+n*sz+news.length<=cur.size)(h1:∀v∈news,v.oneCell'=true):
 (Builtin.append_ #[t,u] ty #[.slice (some ⟨g,o,none⟩) n cap,x]).run P w=.ok (.slice (some ⟨g,o,none⟩) (n+m) cap) (w.setRow g (cur.toList.take (o+n*sz)++news++cur.toList.drop (o+n*sz+news.length)).toArray):=by
 obtain⟨e2,hu⟩|hu:=hu
 all_goals
  have b:=Z3o P g (o+n*sz) ct news 0 cur w hg (by simpa using a) h1
  simp only[Z0V]at b
  simp[Builtin.append_,Z0t ht,Z0t hu,A1P c,hx,d,f,b,Z1x]
def A0B(M:Mem)(sz:Nat):AV->Option (List AV×Nat)
 |.val (.slice none 0 0)=>some ([],0)
 |.val (.string s)=>if sz=1 then some (s.data.toList.map λb=>.val (.int .u8 b.toNat),s.size)else none
 |.list s rows _=>if s=sz then some (rows.flatten,rows.length)else none
 |.vref f h s lo len=>match M[f]? with
  |some (.vec _ s' cs _ hist)=>match hist.lookup h with
   |some n=>if s=sz/\s'=sz/\lo+len<=n then some ((cs.drop (lo*sz)).take (len*sz),len)else none
   |none=>none
  |_=>none
 |_=>none
def B3H{P}(s:ByteArray)(w:World):(Builtin.firstCells 1 s.size (.string s)).run P w=.ok (s.data.map λb=>.int .u8 b.toNat) w:=by
 have e:s.extract 0 s.size=s:=by simp
 simp[Builtin.firstCells,e]
def A7W{C}{G}{M}{w}(hi:Inv C G M w){x}{xv}{sz m}{news}(hr:Rep G x xv)(h:A0B M sz x=some (news,m)):∃vs:List Value,A0q G news vs/\vs.length=m*sz/\(∀v∈vs,v.oneCell'=true)/\(∀w,(Builtin.lenOf xv).run C.P w=.ok m w)/\∀w',w'.heap=w.heap->(Builtin.firstCells sz m xv).run C.P w'=.ok vs.toArray w':=by
 unfold A0B at h
 split at h
 .simp only[Z0a,Z0b]at h;obtain⟨rfl,rfl⟩:=h;simp only[Rep]at hr;subst hr;exact⟨[],by simp[A0q],by simp,by simp,λw=>A6p _ _ _ _ _,λw' _=>by simp[Builtin.firstCells]⟩
 .rename_i s;split at h
  .rename_i hs;subst hs;simp only[Z0a,Z0b]at h;obtain⟨rfl,rfl⟩:=h;simp only[Rep]at hr;subst hr;refine⟨s.data.toList.map λb=>.int .u8 b.toNat,?_,by simp only[Z0L,Nat.mul_one];rfl,?_,λw=>rfl,λw' _=>?_⟩
   .refine A0q.of_get (by simp) ?_;intro i c y h1 h2;simp only[Z1u,Z0i]at h1 h2;obtain⟨a,ha,rfl⟩:=h1;obtain⟨b,hb,rfl⟩:=h2;rw[ha]at hb;simp only[Z0a]at hb;subst hb;simp[Rep]
   .intro v hv;simp only[Z0W]at hv;obtain⟨_,_,rfl⟩:=hv;rfl
   .rw[B3H];congr 1;apply Z1A;simp
  .simp at h
 .rename_i s rows own;split at h
  .rename_i hs;subst hs;simp only[Z0a,Z0b]at h;obtain⟨rfl,rfl⟩:=h;simp only[Rep]at hr;obtain⟨base,cap,rfl,_,_,hb,_⟩:=hr;obtain⟨vs,h1,h2,h3,_,h5⟩:=B3A hi (cap:=cap) hb;exact⟨vs,h1,h2,h3,λw=>A6p _ _ _ _ _,h5⟩
  .simp at h
 .rename_i f h' s lo len;split at h
  .rename_i ty s' cs g hist hM;split at h
   .rename_i n hn;split at h
    .rename_i hc;obtain⟨rfl,rfl,e⟩:=hc;simp only[Z0a,Z0b]at h;obtain⟨rfl,rfl⟩:=h;simp only[Rep]at hr;obtain⟨hf,hg,a,a',cap,hd,u,t,rfl,p,_,q⟩:=hr;obtain⟨_,p2,_⟩:=hi.obj f _ hM;obtain⟨_,q0,b,o,r,vs,q1,q2,q3,q4,q5,q6,q7,q8,q9⟩:=p2 h' n (A3a hn);rw[hd]at q1;simp only[Z0b,Z0a]at q1;obtain⟨rfl,rfl⟩:=q1;(have e1:(((vs.toList.drop o).take (n*s')).drop (lo*s')).take (len*s')=(vs.toList.drop (o+lo*s')).take (len*s'):=by rw[Z2W,Z1X,Z2V,Z2g];(have:lo*s'+len*s'<=n*s':=by rw[<-Z0N];exact Z1h _ e);omega);(have e2:((cs.take (n*s')).drop (lo*s')).take (len*s')=(cs.drop (lo*s')).take (len*s'):=by rw[Z2W,Z2V,Z2g];(have:lo*s'+len*s'<=n*s':=by rw[<-Z0N];exact Z1h _ e);omega);have hR:=(q6.drop (lo*s')).take (len*s');rw[e1,e2]at hR;(have d:((vs.toList.drop (o+lo*s')).take (len*s')).length=len*s':=by simp only[Z0I,Z1e,Z1E];(have h1:lo*s'+len*s'<=cap*s':=by rw[<-Z0N];exact Z1h _ p);omega);(have k:∀v∈(vs.toList.drop (o+lo*s')).take (len*s'),v.oneCell'=true:=by rw[<-e1];intro v hv;exact q7 v (Z1z (Z1r hv)));refine⟨_,hR,d,k,λw=>A6p _ _ _ _ _,λw' hw=>?_⟩;by_cases hl0:len=0
     .subst hl0;refine Z2r (P:=C.P) w' s' 0 a' 0 (cap-lo) _ (by simp) (λj v hv=>by simp at hv)
     .have ha:=q (by omega);refine Z2r (P:=C.P) w' s' len a' len (cap-lo) _ (by rw[d]) (λj v hv=>?_);rw[ha,Z1x];rw[Z0R]at hv;split at hv
      .rw[Z1a]at hv;(have l:w'.heap[b]?=some (.cells vs ty (0,0)):=by rw[hw];exact q4);rw[Z2G _ _ _ _ _ _ l];simpa using hv
      .simp at hv
    .simp at h
   .simp at h
  .simp at h
 .simp at h
def A3e(e:TypeId)(sz:Nat)(s x:AV)(M:Mem):Option (AV×Mem):=
 match A0B M sz x with
 |none=>none
 |some (news,m)=>match s with
  |.val (.slice none 0 0)=>if m=0 then some (s,M)else some (.vref M.length 0 sz 0 m,M++[.vec e sz news 0 [(0,m)]])
  |.list s' [] .full=>if s'=sz then(if m=0 then some (s,M)else some (.vref M.length 0 sz 0 m,M++[.vec e sz news 0 [(0,m)]]))else none
  |.vref f h s' lo len=>match M[f]? with
   |some (.vec e2 s2 cs g hist)=>match hist.lookup h with
    |some n=>if e2=e/\s'=sz/\s2=sz/\lo+len<=n then
     if m=0 then some (s,M)else
     some (.vref f (g+1) sz 0 (len+m),M.set f (.vec e sz ((cs.drop (lo*sz)).take (len*sz)++news) (g+1) ((g+1,len+m)::if lo=0 then hist.filter (λp=>decide (p.2<=len))else[])))
     else none
    |none=>none
   |_=>none
  |_=>none
def A0m.le_time{G:A0m}{f n:Nat}{h:Option Addr×Nat}(hn:G.top f<n):G.le (G.grow f n h 0 0 []):=A0m.le_grow (.inl hn) (λi v h1 h2 _=>by simp at h2)
def A0m.time_st(G:A0m)(f n:Nat)(h:Option Addr×Nat)(b i:Nat):(G.grow f n h 0 0 []).st b i=G.st b i:=by simp only[A0m.grow,Z1t,Z0V];rw[Z0e (by omega)]
def A0m.time_hdr(G:A0m)(f n:Nat)(h:Option Addr×Nat):(G.grow f n h 0 0 []).hdr f n=h:=by simp[A0m.grow]
def A0m.time_old(G:A0m)(f n m:Nat)(h:Option Addr×Nat)(hm:m≠n):(G.grow f n h 0 0 []).hdr f m=G.hdr f m:=by simp[A0m.grow,hm]
def B7i{C}{G}{M}{w}(hi:Inv C G M w){s v}{M'}{xv}{t u e ty:TypeId}{sz bytes m}{news}{vs2}(he:A3O C.P e sz bytes)
 (ht:C.P.underlying t=some (.slice e))(hu:A4v C.P u)(a2:A0q G news vs2)(d:vs2.length=m*sz)(a1:∀v∈vs2,v.oneCell'=true)(a4:∀w,(Builtin.lenOf xv).run C.P w=.ok m w)
 (a5:∀w',w'.heap=w.heap->(Builtin.firstCells sz m xv).run C.P w'=.ok vs2.toArray w')(base:Option Addr)(hs:Rep G s (.slice base 0 0))(ac:∀w',(Builtin.firstCells sz 0 (.slice base 0 0)).run C.P w'=.ok ([]:List Value).toArray w')
 (ad:(0+m)*bytes<=140737488355328)(h:(if m=0 then some (s,M)else some (AV.vref M.length 0 sz 0 m,M++[.vec e sz news 0 [(0,m)]]))=some (v,M')):
 ∃r w' G',(Builtin.append_ #[t,u] ty #[.slice base 0 0,xv]).run C.P w=.ok r w'/\G.le G'/\Inv C G' M' w'/\Rep G' v r/\Ext w w':=by
 obtain⟨i,z,g,hz,j,aa,ag,y⟩:=he
 have a6:A1e C.P e=some sz:=by simp[A1e,g,j]
 split at h
 .rename_i hm0;simp only[Z0a,Z0b]at h;obtain⟨rfl,rfl⟩:=h;subst hm0;have hv:vs2=[]:=Z0w (by simpa using d);subst hv;exact⟨_,w,G,B0g (s:=.bool true) (base:=base) (n:=0) (cap:=0) ht a6 hu a4 (a5 w rfl) (Z0u _),.refl _,hi,hs,.refl _⟩
 .rename_i hm0;simp only[Z0a,Z0b]at h;obtain⟨rfl,rfl⟩:=h;have a7:0+m<=maxLen:=by have:0+m<=(0+m)*bytes:=Z2c _ y;simp only[maxLen];omega
  have k:=B0e (P:=C.P) (ty:=ty) (base:=base) (n:=0) (cap:=0) (x:=xv) (m:=m) (w:=w) (i:=i) (z:=z) (e:=e) (t:=t) (u:=u) (news:=vs2) (olds:=[]) ht g hz hu a4 (by rw[j];exact a5 w.drew rfl) (by rw[j];exact ac _) (by omega) (by rw[aa];exact ad) a7;have ab:=Z4j w (0+m) 0 e;have a3:=Z3h w (0+m) 0 e a7;generalize grownCap w (0+m) 0 e=nc at k ab a3;have q:Ext w (w.drew.alloc (.cells (([]:List Value).toArray++vs2.toArray++Builtin.zeroCells z.cells (nc-(0+m))) e)):=(Ext.drew w).trans (Ext.alloc _ _);generalize p:([]:List Value).toArray++vs2.toArray++Builtin.zeroCells z.cells (nc-(0+m))=o at k q;have l:o.size=nc*sz:=by rw[<-p];simp only[Z3W,Z2m,Z4p,ag,d,Z1t,Z0K,<-Z0N];congr 1;omega
  have f:(o.toList.drop 0).take (m*sz)=vs2:=by rw[<-p,<-d];simp
  have a8:Inv C G M w.drew:=hi.world rfl;obtain⟨G',ae,a0,ah,a9,af,ai⟩:=a8.newObj (.cells o e) (.vec e sz news 0 [(0,m)]) (λ_=>(some ⟨w.heap.size,0,none⟩,nc)) 0
   (λG' a0 _ hh ht hst hk=>⟨ht,λh n hm=>by
    simp only[Z0P,Z0b]at hm;obtain⟨rfl,rfl⟩:=hm;refine⟨by omega,Z2x (by rw[<-d,a2.length]),w.heap.size,0,nc,o,by rw[hh],by omega,a3,Z2a w.drew _,Z2x (by rw[l,Z0K]),?_,?_,hst,hk⟩
    .rw[f,Z0l (Z2x (by rw[<-a2.length,d]))];exact A0q.mono a0 _ _ a2
    .rw[f];exact a1,λh n h' n' a a' c c' m1 m2 e1 e2 _=>by
    rw[hh]at e1 e2;simp only[Z0b,Z0a]at e1 e2;rw[<-e1.1,<-e2.1]⟩)
   (λG' b _ hh hown=>by obtain⟨h,n,a,_,ha,rfl⟩:=hown;rw[hh]at ha;simp only[Z0a]at ha;rw[<-ha];rfl)
  refine⟨_,_,G',k,a0,ae,?_,q⟩;simp only[Rep];exact⟨a9,by omega,⟨w.heap.size,0,none⟩,⟨w.heap.size,0,none⟩,nc,by rw[af],rfl,rfl,by simp,by omega,a3,λ_=>by simp⟩
def C7h{C:Ctx}{G:A0m}{M:Mem}{w:World}(hi:Inv C G M w){s x:AV}{sv xv:Value}(hs:Rep G s sv)(hx:Rep G x xv){t u e ty:TypeId}{sz ac:Nat}(ht:C.P.underlying t=some (.slice e))(hu:A4v C.P u)
 (he:A3O C.P e sz ac){v:AV}{M':Mem}(hb:∀cs k,A0B M sz s=some (cs,k)->∀news m,A0B M sz x=some (news,m)->(k+m)*ac<=140737488355328)(h:A3e e sz s x M=some (v,M')):
 ∃r w' G',(Builtin.append_ #[t,u] ty #[sv,xv]).run C.P w=.ok r w'/\G.le G'/\Inv C G' M' w'/\Rep G' v r/\Ext w w':=by
 obtain⟨i,z,a7,hz,ab,bd,ba,ae⟩:=he
 have ax:A1e C.P e=some sz:=by simp[A1e,a7,ab]
 unfold A3e at h
 split at h
 .simp at h
 rename_i news m hsrc
 obtain⟨y,bb,l,a6,au,ai⟩:=A7W hi hx hsrc
 split at h
 ·-- nil
  simp only[Rep]at hs;subst hs;exact B7i hi ⟨i,z,a7,hz,ab,bd,ba,ae⟩ ht hu bb l a6 au ai none (by simp[Rep]) (by simp[Builtin.firstCells]) (hb [] 0 rfl news m hsrc) h
 .rename_i s';split at h;case isFalse=>simp at h
  rename_i hss;subst hss;have al:=hs;simp only[Rep,A6j]at hs;obtain⟨base,cap,rfl,_,_,_,b4⟩:=hs;simp only[Z1t]at b4 al|-;subst b4;exact B7i hi ⟨i,z,a7,hz,ab,bd,ba,ae⟩ ht hu bb l a6 au ai base al (λw'=>by
   cases base with
   |none=>simp[Builtin.firstCells]
   |some a=>exact Z2r (P:=C.P) w' s' 0 a 0 0 [] (by simp) (λj v hv=>by simp at hv)) (hb [] 0 (by simp[A0B]) news m hsrc) h
 ·-- a slice of an array
  rename_i f h' s' lo len;split at h;case h_2=>simp at h
  rename_i e2 s2 cs g hist hM;split at h;case h_2=>simp at h
  rename_i n hn;split at h;case isFalse=>simp at h
  rename_i hc;obtain⟨rfl,rfl,rfl,ar⟩:=hc;have al:=hs;simp only[Rep]at hs;obtain⟨hf,hg,a,a',cap,hd,cb,c9,rfl,bg,cd,c2⟩:=hs;obtain⟨p0,p2,p3⟩:=hi.obj f _ hM;have ah:=A3a hn;obtain⟨_,q0,b,o,c,vs,q1,q2,q3,q4,q5,q6,q7,q8,q9⟩:=p2 h' n ah;have cc:=hd;rw[q1]at hd;simp only[Z0b,Z0a]at hd;obtain⟨rfl,rfl⟩:=hd;split at h
  .rename_i hm0;simp only[Z0a,Z0b]at h;obtain⟨rfl,rfl⟩:=h;subst hm0;have hv:y=[]:=Z0w (by simpa using l);subst hv;exact⟨_,w,G,B0g (s:=.bool true) (base:=some a') (n:=len) (cap:=c-lo) ht ax hu au (ai w rfl) (by omega),.refl _,hi,al,.refl _⟩
  rename_i hm0;simp only[Z0a,Z0b]at h;obtain⟨rfl,rfl⟩:=h;have h0:lo*s2+len*s2<=n*s2:=by rw[<-Z0N];exact Z1h _ ar
  have ca:lo*s2+len*s2<=c*s2:=by rw[<-Z0N];exact Z1h _ bg
  obtain⟨a8,c5,am,bc,-,be⟩:=A7W hi (m:=len) (sz:=s2) (news:=(cs.drop (lo*s2)).take (len*s2)) al (by simp[A0B,hM,hn,ar]);have b0:=c5.append bb;have aw:∀v∈a8++y,v.oneCell'=true:=λv hv=>by
   rcases Z1b.1 hv with h|h
   .exact bc v h
   .exact a6 v h
  have af:(a8++y).length=(len+m)*s2:=by rw[Z0z,am,l,Z0N]
  have ad:((cs.drop (lo*s2)).take (len*s2)++news).length=(len+m)*s2:=by rw[<-b0.length,af]
  have a5:∀(w1:World) (gb o1 c1:Nat) (d:Array Value),(gb=b\/w.heap.size<=gb)->(∀b',b'<w.heap.size->b'≠gb->w1.heap[b']?=w.heap[b']?)->w1.heap[gb]?=some (.cells d e2 (0,0))->
   len+m<=c1->c1<=maxLen->o1+c1*s2<=d.size->(d.toList.drop o1).take ((len+m)*s2)=a8++y->(∀i,G.st gb i=none)->G.keep gb=none->
   (lo=0->gb=b->o1=o/\vs.size<=d.size/\∀i,i<o+len*s2->d.toList[i]?=vs.toList[i]?)->
   ∃G',G.le G'/\Inv C G' (M.set f (.vec e2 s2 ((cs.drop (lo*s2)).take (len*s2)++news) (g+1) ((g+1,len+m)::if lo=0 then hist.filter (λp=>decide (p.2<=len))else[]))) w1/\Rep G' (.vref f (g+1) s2 0 (len+m)) (.slice (some ⟨gb,o1,none⟩) (len+m) c1):=by
   intro w1 gb o1 c1 d b9 hw a0 c0 ay c4 ag br aj bt
   have bo:G.top f<g+1:=by omega
   have a9:=A0m.le_time (h:=(some (⟨gb,o1,none⟩:Addr),c1)) bo
   have old:∀h1 n1,(h1,n1)∈(if lo=0 then hist.filter (λp=>decide (p.2<=len))else[])->lo=0/\(h1,n1)∈hist/\n1<=len:=by
    intro h1 n1 hm;split at hm
    .rename_i e;have:=Z1G.1 hm;exact⟨e,this.1,by simpa using this.2⟩
    .simp at hm
   have q:∀h1 n1,(h1,n1)∈hist->h1≠g+1:=λh1 n1 hm=>by have:=(p2 h1 n1 hm).1;omega
   have aq:=hi.step (G':=G.grow f (g+1) (some ⟨gb,o1,none⟩,c1) 0 0 []) (w':=w1) (o':=.vec e2 s2 ((cs.drop (lo*s2)).take (len*s2)++news) (g+1) ((g+1,len+m)::if lo=0 then hist.filter (λp=>decide (p.2<=len))else[])) f gb hM
    (b9.imp (λe=>⟨h',n,_,ah,congrArg Prod.fst q1,e.symm⟩) id) a9 rfl (λ_=>rfl) (λj hj=>by simp[A0m.grow,hj]) (λb i v hv=>by rw[A0m.time_st]at hv;exact .inl hv) (λ_=>rfl) hw
    (λi v hv=>by rw[br i]at hv;simp at hv) (λo ho=>by rw[aj]at ho;simp at ho)
    ⟨by simp[A0m.grow],λh1 n1 hm=>?_,λh1 n1 h2 n2 a1 a2 ap c2' m1 m2 e1 e2 e3=>?_⟩
    (λb1 ⟨h1,n1,a1,hm,e1,e2⟩=>?_)
   .refine⟨_,a9,aq,?_⟩;simp only[Rep];exact⟨hf,by simp[A0m.grow],⟨gb,o1,none⟩,⟨gb,o1,none⟩,c1,A0m.time_hdr _ _ _ _,rfl,rfl,by simp,by omega,ay,λ_=>by simp⟩
   ·-- each slice that is kept reads as it did
    rcases Z0F.1 hm with hm|hm
    .simp only[Z0b]at hm;obtain⟨rfl,rfl⟩:=hm;refine⟨by simp[A0m.grow],Z2x ad.symm,gb,o1,c1,d,A0m.time_hdr _ _ _ _,c0,ay,a0,c4,?_,?_,λi=>by rw[A0m.time_st];exact br i,aj⟩
     .rw[ag,Z0l (Z2x ad)];exact A0q.mono a9 _ _ b0
     .rw[ag];exact aw
    .obtain⟨rfl,a3,bq⟩:=old h1 n1 hm;obtain⟨r0,r1,b2,o2,az,vs',s1,bn,s3,s4,s5,s6,s7,s8,s9⟩:=p2 h1 n1 a3;have bs:n1*s2<=len*s2:=Z1h _ bq;(have c3:((cs.drop (0*s2)).take (len*s2)++news).take (n1*s2)=cs.take (n1*s2):=by rw[Z2X,Z1q,Z2T (by rw[Z0I];omega),Z2V,Z2g bs]);refine⟨by simp[A0m.grow];omega,by rw[ad,Z0N];omega,b2,o2,az,?_⟩;rw[A0m.time_old _ _ _ _ _ (q _ _ a3),c3];by_cases e:b2=gb
     .subst e;have eb:b2=b:=by
       rcases b9 with h|h
       .exact h
       .have:=A5E s4;omega
      subst eb;obtain⟨rfl,bz,b7⟩:=bt rfl rfl;have eo:(⟨b2,o2,none⟩:Addr)=⟨b2,o1,none⟩:=p3 h1 n1 h' n _ _ _ _ a3 ah s1 q1 rfl;simp only[Z3q,Z2u,Z2e]at eo;subst eo;rw[q4]at s4;simp only[Z0a,Obj.cells.injEq,Z2e]at s4;subst s4;have ak:(d.toList.drop o2).take (n1*s2)=(vs.toList.drop o2).take (n1*s2):=by
       apply Z1J;intro i;rw[Z0R,Z0R];split
       .rw[Z1a,Z1a];exact b7 _ (by omega)
       .rfl
      (have bk:o2+az*s2<=d.size:=by omega);exact⟨d,s1,bn,s3,a0,bk,by rw[ak];exact A0q.mono a9 _ _ s6,by rw[ak];exact s7,λi=>by rw[A0m.time_st];exact s8 i,s9⟩
     .exact⟨vs',s1,bn,s3,by rw[hw b2 (A5E s4) e];exact s4,s5,A0q.mono a9 _ _ s6,s7,λi=>by rw[A0m.time_st];exact s8 i,s9⟩
   ·-- slices in one block begin at one cell
    (have aa:∀h1 n1 a1 ap,(h1,n1)∈(if lo=0 then hist.filter (λp=>decide (p.2<=len))else[])->(G.grow f (g+1) (some ⟨gb,o1,none⟩,c1) 0 0 []).hdr f h1=(some a1,ap)->gb=a1.block->(⟨gb,o1,none⟩:Addr)=a1:=by intro h1 n1 a1 ap hm e1 e2;obtain⟨rfl,a3,_⟩:=old h1 n1 hm;rw[A0m.time_old _ _ _ _ _ (q _ _ a3)]at e1;have bf:=(A5J.owns_lt (hi.obj f _ hM) (b:=a1.block) ⟨h1,n1,a1,a3,by rw[e1],rfl⟩);(have eb:gb=b:=by rcases b9 with h|h<;>omega);subst eb;obtain⟨rfl,_⟩:=bt rfl rfl;exact(p3 h1 n1 h' n _ _ _ _ a3 ah e1 q1 e2.symm).symm);rcases Z0F.1 m1 with m1|m1<;>rcases Z0F.1 m2 with m2|m2
    .simp only[Z0b]at m1 m2;obtain⟨rfl,rfl⟩:=m1;obtain⟨rfl,rfl⟩:=m2;rw[e1]at e2;simp only[Z0b,Z0a]at e2;exact e2.1
    .simp only[Z0b]at m1;obtain⟨rfl,rfl⟩:=m1;rw[A0m.time_hdr]at e1;simp only[Z0b,Z0a]at e1;obtain⟨rfl,_⟩:=e1;exact aa h2 n2 a2 c2' m2 e2 e3
    .simp only[Z0b]at m2;obtain⟨rfl,rfl⟩:=m2;rw[A0m.time_hdr]at e2;simp only[Z0b,Z0a]at e2;obtain⟨rfl,_⟩:=e2;exact(aa h1 n1 a1 ap m1 e1 e3.symm).symm
    .obtain⟨_,bp,_⟩:=old h1 n1 m1;obtain⟨_,bv,_⟩:=old h2 n2 m2;rw[A0m.time_old _ _ _ _ _ (q _ _ bp)]at e1;rw[A0m.time_old _ _ _ _ _ (q _ _ bv)]at e2;exact p3 h1 n1 h2 n2 a1 a2 ap c2' bp bv e1 e2 e3
   .rcases Z0F.1 hm with hm|hm
    .simp only[Z0b]at hm;obtain⟨rfl,rfl⟩:=hm;rw[A0m.time_hdr]at e1;simp only[Z0a]at e1;subst e1;exact .inl e2.symm
    .obtain⟨_,a3,_⟩:=old h1 n1 hm;rw[A0m.time_old _ _ _ _ _ (q _ _ a3)]at e1;exact .inr ⟨h1,n1,a1,a3,e1,e2⟩
  by_cases hroom:len+m<=c-lo
  ·-- in place
   have ha:=c2 (by omega);subst ha;simp only at*;have bw:(lo+(len+m))*s2<=c*s2:=Z1h _ (by omega);rw[Z0N,Z0N]at bw;have a4:=B9J (P:=C.P) (ty:=ty) (g:=b) (o:=o+lo*s2) (n:=len) (cap:=c-lo) (x:=xv) (m:=m) ht ax hu au (ai w rfl) hroom q4 (by rw[l];omega) a6;have a0:=Z4i w b vs (vs.toList.take (o+lo*s2+len*s2)++y++vs.toList.drop (o+lo*s2+len*s2+y.length)).toArray e2 (0,0) q4;generalize bl:(vs.toList.take (o+lo*s2+len*s2)++y++vs.toList.drop (o+lo*s2+len*s2+y.length))=nl at a4 a0;have b5:∀i,nl[i]?=if o+lo*s2+len*s2<=i/\i<o+lo*s2+len*s2+y.length then y[i-(o+lo*s2+len*s2)]? else vs.toList[i]?:=by intro i;rw[<-bl];exact A9l (by rw[l];simp;omega)
   (have c7:nl.length=vs.size:=by rw[<-bl];simp only[Z0z,Z0I,Z1e,Z1E];omega);obtain⟨G',a9,aq,ao⟩:=a5 (w.setRow b nl.toArray) b (o+lo*s2) (c-lo) nl.toArray (.inl rfl) (λb' _ hne=>Z3z _ _ _ _ hne) a0 hroom (by omega)
    (by(have h1:lo*s2+(c-lo)*s2=c*s2:=by rw[<-Z0N];congr 1;omega);simp only[Z2m];omega)
    (by
     apply Z1J;intro k;rw[Z0R];split
     .rename_i hk;rw[Z0N]at hk;rw[Z1a,show(nl.toArray.toList:List Value)=nl from rfl,b5];by_cases hk2:k<a8.length
      .rw[Z0e (by omega),Z0j hk2];have b8:=be w rfl;by_cases hl0:len=0
       .subst hl0;omega
       .have bj:=Z2r (P:=C.P) w s2 len ⟨b,o+lo*s2,none⟩ len (c-lo) ((vs.toList.drop (o+lo*s2)).take (len*s2)) (by simp only[Z0I,Z1e,Z1E];omega) (λj v hv=>by
         rw[Z1x];rw[Z0R]at hv;split at hv
         .rw[Z1a]at hv;rw[Z2G _ _ _ _ _ _ q4];simpa using hv
         .simp at hv)
        rw[bj]at b8;simp only[Result.ok.injEq,Z2e]at b8;(have bi:(vs.toList.drop (o+lo*s2)).take (len*s2)=a8:=by simpa using b8);rw[<-bi,Z0R,Z0d (by omega),Z1a]
      .rw[Z0d (by omega),Z1m (by omega)];congr 1;omega
     .rename_i hk;rw[Z1i (by omega)])
    q8 q9 (λh0 _=>⟨by subst h0;simp,by simp only[Z2m];omega,λi hi2=>by subst h0;rw[show(nl.toArray.toList:List Value)=nl from rfl,b5,Z0e (by omega)]⟩)
   exact⟨_,_,G',a4,a9,aq,ao,Ext.setRow _ _ _⟩
  ·-- in a new block
   have c8:=hb _ len (by simp[A0B,hM,hn,ar];rfl) news m hsrc;(have bu:len+m<=maxLen:=by have:len+m<=(len+m)*ac:=Z2c _ ae;simp only[maxLen];omega);have a4:=B0e (P:=C.P) (ty:=ty) (base:=some a') (n:=len) (cap:=c-lo) (x:=xv) (m:=m) (w:=w) (i:=i) (z:=z) (e:=e2) (t:=t) (u:=u) (news:=y) (olds:=a8) ht a7 hz hu au (by rw[ab];exact ai w.drew rfl) (by rw[ab];exact be w.drew rfl) (by omega) (by rw[bd];exact c8) bu;have c6:=Z4j w (len+m) (c-lo) e2;have bm:=Z3h w (len+m) (c-lo) e2 bu;generalize grownCap w (len+m) (c-lo) e2=nc at a4 c6 bm;have b6:Ext w (w.drew.alloc (.cells (a8.toArray++y.toArray++Builtin.zeroCells z.cells (nc-(len+m))) e2)):=(Ext.drew w).trans (Ext.alloc _ _);generalize b3:a8.toArray++y.toArray++Builtin.zeroCells z.cells (nc-(len+m))=d at a4 b6;(have av:d.size=nc*s2:=by rw[<-b3];simp only[Z3W,Z2m,Z4p,ba,l,am,<-Z0N];congr 1;omega);have bh:∀i,G.st w.heap.size i=none:=by
    intro i;cases h:G.st w.heap.size i with
    |none=>rfl
    |some v=>have:=hi.st_lt h;simp at this
   have bx:G.keep w.heap.size=none:=by
    cases h:G.keep w.heap.size with
    |none=>rfl
    |some v=>have:=hi.keep_lt h;simp at this
   obtain⟨G',a9,aq,ao⟩:=a5 (w.drew.alloc (.cells d e2)) w.heap.size 0 nc d (.inr (Z0u _)) (λb' bf _=>A3I w.drew _ b' bf) (Z2a w.drew _) (by omega) bm
    (Z2x (by rw[av,Z0K]))
    (by(have e:d.toList=(a8++y)++(Builtin.zeroCells z.cells (nc-(len+m))).toList:=by rw[<-b3];simp);rw[e,<-af,Z1q,Z4n])
    bh bx (λ_ h=>by have:=A5E q4;omega)
   exact⟨_,_,G',a4,a9,aq,ao,b6⟩
 .simp at h
structure A2I where
 imm:Nat->Bool
 own:Nat->Bool
 vec:Nat->Bool:=λ_=>false
def A1R(f:Nat->Bool):Option Nat->Bool
 |some d=>f d
 |none=>false
def D3I(G:A0m)(nx:Next)(v:AV):Prop:=(∃x,nx=.value x/\Rep G v x)\/(nx=.skip/\v=.val undef)
def A3u(C:Ctx)(G:A0m)(w:World)(s:Sem Next)(v:AV)(M':Mem):Prop:=∃nx w' G',s.run C.P w=.ok nx w'/\D3I G' nx v/\G.le G'/\Inv C G' M' w'/\Ext w w'
def A3u.same{C}{G}{M}{w}{s}{v}{x}(hi:Inv C G M w)(hr:s.run C.P w=.ok (.value x) w)(hx:Rep G v x):A3u C G w s v M:=⟨_,w,G,hr,.inl ⟨x,rfl,hx⟩,.refl _,hi,.refl _⟩
def A9d(op:BinOp)(k:IntKind)(a b:Int):Option Value:=
 match op with
 |.add=>some (.int k (k.wrap (a+b)))
 |.sub=>some (.int k (k.wrap (a-b)))
 |.mul=>some (.int k (k.wrap (a*b)))
 |.eql=>some (.bool (a==b))
 |.neq=>some (.bool (a !=b))
 |.lss=>some (.bool (decide (a<b)))
 |.leq=>some (.bool (decide (a<=b)))
 |.gtr=>some (.bool (decide (a>b)))
 |.geq=>some (.bool (decide (a>=b)))
 |.quo=>if b=0 then none else some (.int k (k.wrap (a.tdiv b)))
 |.rem=>if b=0 then none else some (.int k (a.tmod b))
 |.and=>some (.int k (k.wrap ((BitVec.ofInt k.bits a &&& BitVec.ofInt k.bits b).toNat)))
 |.or=>some (.int k (k.wrap ((BitVec.ofInt k.bits a ||| BitVec.ofInt k.bits b).toNat)))
 |.xor=>some (.int k (k.wrap ((BitVec.ofInt k.bits a ^^^ BitVec.ofInt k.bits b).toNat)))
 |.andNot=>some (.int k (k.wrap ((BitVec.ofInt k.bits a &&& ~~~BitVec.ofInt k.bits b).toNat)))
 |.shl=>if b<0 then none else some (.int k (k.wrap (a*2^(min b.toNat k.bits))))
 |.shr=>if b<0 then none else some (.int k (a.fdiv (2^(min b.toNat k.bits))))
def B9j(op:BinOp)(a b:ByteArray):Option Value:=
 match op with
 |.eql=>some (.bool (a.toList==b.toList))
 |.neq=>some (.bool !(a.toList==b.toList))
 |.lss=>some (.bool (Op.bytesLess a.toList b.toList))
 |.leq=>some (.bool (Op.bytesLess a.toList b.toList||a.toList==b.toList))
 |.gtr=>some (.bool !(Op.bytesLess a.toList b.toList||a.toList==b.toList))
 |.geq=>some (.bool !(Op.bytesLess a.toList b.toList))
 |.add=>if((a.size+b.size:Nat):Int)>IntKind.i64.max then none else some (.string (a++b))
 |_=>none
def B8s:AV->Option Bool
 |.val (.pointer none)|.val (.slice none 0 0)|.val (.map none)|.val .nilFunc=>some true
 |.ptr _ _|.cptr _|.mapr _|.func _ _ _=>some false
 |.list _ (_::_) _=>some false
 |_=>none
def A5k(P:Program)(t:TypeId):AV->Bool
 |.val (.pointer none)=>match P.underlying t with|some (.pointer _)=>true|_=>false
 |.val (.slice none 0 0)=>match P.underlying t with|some (.slice _)=>true|_=>false
 |.val (.map none)=>match P.underlying t with|some (.map _ _)=>true|_=>false
 |.val .nilFunc=>match P.underlying t with|some (.func _ _ _)=>true|_=>false
 |_=>false
def A5a:AV->AV->Bool
 |.val (.pointer none),.val (.pointer none)|.val (.slice none 0 0),.val (.slice none 0 0)|.val (.map none),.val (.map none)|.val .nilFunc,.val .nilFunc=>true
 |.ptr _ _,.val (.pointer none)|.cptr _,.val (.pointer none)|.mapr _,.val (.map none)|.func _ _ _,.val .nilFunc|.list _ _ _,.val (.slice none 0 0)=>true
 |_,_=>false
def A3o(P:Program)(op:BinOp)(t:TypeId)(x y:AV):Option AV:=
 match x,y with
 |.val (.int k a),.val (.int k' b)=>if k=k' then(A9d op k a b).map .val else none
 |.val (.string a),.val (.string b)=>(B9j op a b).map .val
 |.val (.bool a),.val (.bool b)=>match P.underlying t,op with
  |some .bool,.eql=>some (.val (.bool (a==b)))
  |some .bool,.neq=>some (.val (.bool !(a==b)))
  |_,_=>none
 |x,y=>if A5k P t y&&A5a x y then match B8s x,op with
  |some b,.eql=>some (.val (.bool b))
  |some b,.neq=>some (.val (.bool !b))
  |_,_=>none
  else none
def C6E{P}{op}{k}{a b}{v}(h:A9d op k a b=some v)(t:TypeId)(w:World):(binOp op t (.int k a) (.int k b)).run P w=.ok v w:=by
 cases op;case quo=>
  simp only[A9d]at h;split at h
  .simp at h
  .rename_i hb;cases h;simp[binOp,Op.intDiv,hb]
 case rem=>
  simp only[A9d]at h;split at h
  .simp at h
  .rename_i hb;cases h;simp[binOp,Op.intDiv,hb]
 case shl=>
  simp only[A9d]at h;split at h
  .simp at h
  .rename_i hb;cases h;simp[binOp,Op.shift,hb]
 case shr=>
  simp only[A9d]at h;split at h
  .simp at h
  .rename_i hb;cases h;simp[binOp,Op.shift,hb]
 case and=>simp only[A9d,Z0a]at h;subst h;simp[binOp,Op.intBits]
 case or=>simp only[A9d,Z0a]at h;subst h;simp[binOp,Op.intBits]
 case xor=>simp only[A9d,Z0a]at h;subst h;simp[binOp,Op.intBits]
 case andNot=>simp only[A9d,Z0a]at h;subst h;simp[binOp,Op.intBits]
 all_goals first
  |(simp only[A9d]at h;done)
  |(simp only[A9d,Z0a]at h;subst h;simp[binOp,Op.intArith,Op.intCmp])
def C7D{P}{op}{a b}{v}(h:B9j op a b=some v)(t:TypeId)(w:World):(binOp op t (.string a) (.string b)).run P w=.ok v w:=by
 cases op<;>simp[B9j]at h;case add=>obtain⟨h1,h2⟩:=h;subst h2;simp[binOp,Op.stringOp];omega
 all_goals (subst h;simp[binOp,Op.stringOp])
def B4x{P}{t:TypeId}(h:P.underlying t=some .bool)(d:Nat)(a b:Bool)(w:World):(Op.equalIn (d+1) t (.bool a) (.bool b)).run P w=.ok (a==b) w:=by simp[Op.equalIn,Z0t h]
def B1d{P}{t e:TypeId}(h:P.underlying t=some (.pointer e))(d:Nat)(a:Option Addr)(w:World):(Op.equalIn (d+1) t (.pointer a) (.pointer none)).run P w=.ok a.isNone w:=by cases a<;>simp[Op.equalIn,Z0t h]
def A5W{P}{t e:TypeId}(h:P.underlying t=some (.slice e))(d:Nat)(a:Option Addr)(n c:Nat)(w:World):(Op.equalIn (d+1) t (.slice a n c) (.slice none 0 0)).run P w=.ok a.isNone w:=by cases a<;>simp[Op.equalIn,Z0t h]
def B6d{P}{t k e:TypeId}(h:P.underlying t=some (.map k e))(d:Nat)(a:Option Nat)(w:World):(Op.equalIn (d+1) t (.map a) (.map none)).run P w=.ok a.isNone w:=by cases a<;>simp[Op.equalIn,Z0t h]
def C2W{P}{t:TypeId}{p r}{v}(h:P.underlying t=some (.func p r v))(d:Nat)(fn:Fn)(f c:Array Value)(w:World):(Op.equalIn (d+1) t (.func fn f c) .nilFunc).run P w=.ok false w:=by simp[Op.equalIn,Z0t h]
def B5u{P}{t:TypeId}{p r}{v}(h:P.underlying t=some (.func p r v))(d:Nat)(w:World):(Op.equalIn (d+1) t .nilFunc .nilFunc).run P w=.ok true w:=by simp[Op.equalIn,Z0t h]
def C0G{C:Ctx}{G:A0m}{x y:AV}{xv yv:Value}(hx:Rep G x xv)(hy:Rep G y yv){t:TypeId}(hk:A5k C.P t y=true)(hs:A5a x y=true){b:Bool}(hb:B8s x=some b)(d:Nat)(w:World):(Op.equalIn (d+1) t xv yv).run C.P w=.ok b w:=by
 unfold A5a at hs
 split at hs
 all_goals first|(exact Bool.noConfusion hs)|skip
 all_goals simp only[Rep]at hx hy
 all_goals simp only[A5k]at hk
 all_goals split at hk
 all_goals first|(exact Bool.noConfusion hk)|skip
 all_goals simp only[B8s]at hb
 .rename_i h;subst hx;subst hy;simp at hb;subst hb;rw[B1d h];rfl
 .rename_i h;subst hx;subst hy;simp at hb;subst hb;rw[A5W h];rfl
 .rename_i h;subst hx;subst hy;simp at hb;subst hb;rw[B6d h];rfl
 .rename_i h;subst hx;subst hy;simp at hb;subst hb;rw[B5u h]
 .rename_i h;obtain⟨_,rfl⟩:=hx;subst hy;simp at hb;subst hb;rw[B1d h];rfl
 .rename_i h;obtain⟨_,_,rfl,_⟩:=hx;subst hy;simp at hb;subst hb;rw[B1d h];rfl
 .rename_i h;obtain⟨_,rfl⟩:=hx;subst hy;simp at hb;subst hb;rw[B6d h];rfl
 .rename_i h;obtain⟨_,_,rfl,_⟩:=hx;subst hy;simp at hb;subst hb;rw[C2W h]
 .rename_i h;subst hy;obtain⟨base,cap,rfl,h1,h2,h3,h4⟩:=hx;rw[A5W h];cases base with
  |none=>obtain⟨rfl,rfl⟩:=h3;simp at hb
  |some a=>split at hb;(all_goals first|(exact Option.noConfusion hb)|skip);all_goals simp_all
def A3z{P}{t:TypeId}{xv yv}{ox oy}{b}{w}(he:∀d,(Op.equalIn (d+1) t xv yv).run P w=.ok b w)
 (hx:(∃a,xv=.pointer a)\/(∃a n c,xv=.slice a n c)\/(∃a,xv=.map a)\/(∃f a c,xv=.func f a c)\/xv=.nilFunc\/∃a,xv=.bool a)
 (hy:(∃a,yv=.pointer a)\/(∃a n c,yv=.slice a n c)\/(∃a,yv=.map a)\/yv=.nilFunc\/∃a,yv=.bool a):
 (do eqGuard .eql t ox oy xv yv;binOp .eql t xv yv:Sem Value).run P w=.ok (.bool b) w/\(do eqGuard .neq t ox oy xv yv;binOp .neq t xv yv:Sem Value).run P w=.ok (.bool !b) w:=by
 have e:(Op.equal t xv yv).run P w=.ok b w:=he 9999
 have h1:(eqGuard .eql t ox oy xv yv).run P w=.ok () w/\(eqGuard .neq t ox oy xv yv).run P w=.ok () w:=by rcases hx with⟨a,rfl⟩|⟨a,n,c,rfl⟩|⟨a,rfl⟩|⟨f,a,c,rfl⟩|rfl|⟨a,rfl⟩<;>simp[eqGuard]
 have h2:binOp .eql t xv yv=(do pure (.bool (<-Op.equal t xv yv)))/\binOp .neq t xv yv=(do pure (.bool (!(<-Op.equal t xv yv)))):=by rcases hx with⟨a,rfl⟩|⟨a,n,c,rfl⟩|⟨a,rfl⟩|⟨f,a,c,rfl⟩|rfl|⟨a,rfl⟩<;>rcases hy with⟨a',rfl⟩|⟨a',n',c',rfl⟩|⟨a',rfl⟩|rfl|⟨a',rfl⟩<;>exact⟨rfl,rfl⟩
 constructor
 .simp only[Z0H,h1.1,Z0y,h2.1,e,Z0S]
 .simp only[Z0H,h1.2,Z0y,h2.2,e,Z0S]
def D1V{G}{x y}{xv yv}(hx:Rep G x xv)(hy:Rep G y yv)(hs:A5a x y=true):
 ((∃a,xv=.pointer a)\/(∃a n c,xv=.slice a n c)\/(∃a,xv=.map a)\/(∃f a c,xv=.func f a c)\/xv=.nilFunc\/∃a,xv=.bool a)/\
 ((∃a,yv=.pointer a)\/(∃a n c,yv=.slice a n c)\/(∃a,yv=.map a)\/yv=.nilFunc\/∃a,yv=.bool a):=by
 unfold A5a at hs
 split at hs
 all_goals first|(exact Bool.noConfusion hs)|skip
 all_goals simp only[Rep]at hx hy
 all_goals (subst hy)
 .subst hx;exact⟨.inl ⟨_,rfl⟩,.inl ⟨_,rfl⟩⟩
 .subst hx;exact⟨.inr (.inl ⟨_,_,_,rfl⟩),.inr (.inl ⟨_,_,_,rfl⟩)⟩
 .subst hx;exact⟨.inr (.inr (.inl ⟨_,rfl⟩)),.inr (.inr (.inl ⟨_,rfl⟩))⟩
 .subst hx;exact⟨.inr (.inr (.inr (.inr (.inl rfl)))),.inr (.inr (.inr (.inl rfl)))⟩
 .obtain⟨_,rfl⟩:=hx;exact⟨.inl ⟨_,rfl⟩,.inl ⟨_,rfl⟩⟩
 .obtain⟨_,_,rfl,_⟩:=hx;exact⟨.inl ⟨_,rfl⟩,.inl ⟨_,rfl⟩⟩
 .obtain⟨_,rfl⟩:=hx;exact⟨.inr (.inr (.inl ⟨_,rfl⟩)),.inr (.inr (.inl ⟨_,rfl⟩))⟩
 .obtain⟨_,_,rfl,_⟩:=hx;exact⟨.inr (.inr (.inr (.inl ⟨_,_,_,rfl⟩))),.inr (.inr (.inr (.inl rfl)))⟩
 .obtain⟨_,_,rfl,_⟩:=hx;exact⟨.inr (.inl ⟨_,_,_,rfl⟩),.inr (.inl ⟨_,_,_,rfl⟩)⟩
def C2v{C:Ctx}{G:A0m}{M:Mem}{w:World}(hi:Inv C G M w){x y:AV}{xv yv:Value}(hx:Rep G x xv)(hy:Rep G y yv){op:BinOp}{t:TypeId}{v:AV}(h:A3o C.P op t x y=some v)(ox oy:Operand):∃u,(do eqGuard op t ox oy xv yv;binOp op t xv yv:Sem Value).run C.P w=.ok u w/\Rep G v u:=by
 unfold A3o at h
 split at h
 .simp only[Rep]at hx hy;subst hx;subst hy;split at h
  .rename_i hk;subst hk;simp only[Z0i]at h;obtain⟨u,hu,rfl⟩:=h;refine⟨u,?_,by simp[Rep]⟩;have:=C6E (P:=C.P) hu t w;cases op<;>simp[A9d]at hu<;>simp[eqGuard,this]
  .simp at h
 .simp only[Rep]at hx hy;subst hx;subst hy;simp only[Z0i]at h;obtain⟨u,hu,rfl⟩:=h;refine⟨u,?_,by simp[Rep]⟩;have:=C7D (P:=C.P) hu t w;cases op<;>simp[B9j]at hu<;>simp[eqGuard,this]
 .simp only[Rep]at hx hy;subst hx;subst hy;split at h
  .rename_i hu;simp at h;subst h;exact⟨_,(A3z (λd=>B4x hu d _ _ w) (by simp) (by simp)).1,by simp[Rep]⟩
  .rename_i hu;simp at h;subst h;exact⟨_,(A3z (λd=>B4x hu d _ _ w) (by simp) (by simp)).2,by simp[Rep]⟩
  .simp at h
 .split at h;case isFalse=>simp at h
  rename_i hc;simp only[Z0f]at hc;obtain⟨k1,k2⟩:=D1V hx hy hc.2;split at h
  .rename_i b hb;simp at h;subst h;exact⟨_,(A3z (λd=>C0G hx hy hc.1 hc.2 hb d w) k1 k2).1,by simp[Rep]⟩
  .rename_i b hb;simp at h;subst h;exact⟨_,(A3z (λd=>C0G hx hy hc.1 hc.2 hb d w) k1 k2).2,by simp[Rep]⟩
  .simp at h
def A1J(len:Nat):Option AV->Option Nat
 |none=>some len
 |some (.val (.int _ i))=>if 0<=i/\i<=len then some i.toNat else none
 |_=>none
def B1D(len l h:Nat)(mx:Option Nat)(own:Own):Own:=
 match mx with
 |some m=>if m=h then .full else .no
 |none=>match own with
  |.full=>if h=len then .full else .no
  |.fam f=>if h=len/\l=0 then .fam f else .no
  |.no=>.no
def A4l(P:Program)(t:TypeId)(sz:Nat)(rows:List (List AV))(own:Own)(lo hi mx:Option AV):Option AV:=
 match(match mx with|none=>some none|some m=>(A1J rows.length (some m)).map some),A0S P t with
 |some m,some e=>if A1e P e=some sz then
  match A1J (m.getD rows.length) (match hi with|some h=>some h|none=>none),hi.isSome||mx.isNone with
  |some h,true=>match(match lo with|none=>some 0|some l=>A1J h (some l))with
   |some l=>some (.list sz ((rows.take h).drop l) (B1D rows.length l h m own))
   |none=>none
  |_,_=>none
  else none
 |_,_=>none
def A3X(P:Program)(t:TypeId)(x:AV)(lo hi mx:Option AV):Option AV:=
 match x with
 |.val (.string s)=>match mx,P.underlying t,A1J s.size hi with
  |none,some .string,some h=>match(match lo with|none=>some 0|some l=>A1J h (some l))with
   |some l=>some (.val (.string (s.extract l h)))
   |none=>none
  |_,_,_=>none
 |.list sz rows own=>A4l P t sz rows own lo hi mx
 |.val (.slice none 0 0)=>match A0S P t with
  |some e=>match A1e P e with
   |some sz=>(A4l P t sz [] .full lo hi mx).map λ_=>.val (.slice none 0 0)
   |none=>none
  |none=>none
 |_=>none
def A1g(P:Program)(t:TypeId)(f:Nat):Option (Nat×TypeId):=match P.underlying t with
 |some (.struct fs)=>(fs[f]?).map λx=>(x.offset,x.type)
 |_=>none
def A2e(zero:List AV)(off:Nat)(v:AV):Option (List AV):=if v.storable&&decide (off+v.cells.length<=zero.length)then some (zero.take off++v.cells++zero.drop (off+v.cells.length))else none
def A0D(P:Program)(t:TypeId):Option (List Value):=match P.info? t with
 |some i=>i.zero.map (·.cells.toList)
 |none=>none
def A3S(P:Program)(t:TypeId):Bool:=match P.underlying t with
 |some (.struct fs)=>fs.toList.all λf=>(A1e P f.type).isSome
 |_=>false
def A1G(P:Program)(t:TypeId):List (Nat×AV)->List AV->Option (List AV)
 |[],cs=>some cs
 |(i,v)::rest,cs=>match A1g P t i with
  |some (off,ft)=>if A1e P ft=some v.cells.length then(A2e cs off v).bind (A1G P t rest)else none
  |none=>none
def A0J(sz:Nat):List (Nat×AV)->List (List AV)->Option (List (List AV))
 |[],rows=>some rows
 |(i,v)::rest,rows=>if v.storable&&decide (v.cells.length=sz)&&decide (i<rows.length)then A0J sz rest (rows.set i v.cells)else none
def B7F(len:Nat):Option AV->Option (Option Nat)
 |none=>some none
 |some m=>(A1J len (some m)).map some
def C5B(hh:Nat):Option AV->Option Nat
 |none=>some 0
 |some l=>A1J hh (some l)
def A9z(P:Program)(t:TypeId)(f g sz lo0 len:Nat)(lo hi mx:Option AV):Option AV:=
 match B7F len mx,A0S P t with
 |some m,some e=>if A1e P e=some sz then
  match A1J (m.getD len) hi,hi.isSome||mx.isNone with
  |some h,true=>match C5B h lo with
   |some l=>match m with
    |none=>some (.vref f g sz (lo0+l) (h-l))
    |some q=>if q=l then some (.list sz [] .full)else none
   |none=>none
  |_,_=>none
  else none
 |_,_=>none
def C6T(op:BinOp)(k:IntKind)(a b:Int):Option Value:=
 if b<0 then none else match op with
 |.shl=>some (.int k (k.wrap (a*2^(min b.toNat k.bits))))
 |.shr=>some (.int k (a.fdiv (2^(min b.toNat k.bits))))
 |_=>none
def A2Y(P:Program)(eq:TypeId->AV->AV->Option Bool)(xs ys:List AV):List Field->Option Bool
 |[]=>some true
 |f::fs=>if f.name≠ "_" then
  if(A1e P f.type).any (λn=>decide (f.offset+n<=xs.length))&&(A1e P f.type).any (λn=>decide (f.offset+n<=ys.length))then
   match A1m P f.type (xs.drop f.offset),A1m P f.type (ys.drop f.offset)with
   |some a,some b=>match eq f.type a b with
    |some true=>A2Y P eq xs ys fs
    |some false=>some false
    |none=>none
   |_,_=>none
  else none
  else A2Y P eq xs ys fs
def A8H(P:Program):Nat->TypeId->AV->AV->Option Bool
 |0,_,_,_=>none
 |d+1,t,x,y=>match P.underlying t,x,y with
  |some .bool,.val (.bool a),.val (.bool b)=>some (a==b)
  |some (.int _),.val (.int k a),.val (.int k' b)=>if k=k' then some (a==b)else none
  |some .string,.val (.string a),.val (.string b)=>some (a.data.toList==b.data.toList)
  |some (.struct fs),.agg xs,.agg ys=>if P.stoodInHeld t then none else A2Y P (A8H P d) xs ys fs.toList
  |_,_,_=>none
def A5i(P:Program)(op:BinOp)(t:TypeId)(x y:AV):Option AV:=
 match x,y with
 |.val (.int k a),.val (.int yk b)=>if k=yk then none else(C6T op k a b).map .val
 |.agg xs,.agg ys=>if P.eqGuardType P.depth t then none else match op,A8H P 30 t (.agg xs) (.agg ys)with
  |.eql,some b=>some (.val (.bool b))
  |.neq,some b=>some (.val (.bool !b))
  |_,_=>none
 |.vref _ _ _ _ _,.val (.slice none 0 0)=>match P.underlying t,op with
  |some (.slice _),.eql=>some (.val (.bool false))
  |some (.slice _),.neq=>some (.val (.bool true))
  |_,_=>none
 |_,_=>none
def A1C(P:Program)(op:BinOp)(t:TypeId)(x y:AV):Option AV:=match A3o P op t x y with
 |some v=>some v
 |none=>A5i P op t x y
def A6X(P:Program)(src dst:TypeId)(x:AV):Option AV:=match P.underlying src,P.underlying dst,x with
 |some (.int _),some (.int k),.val (.int _ n)=>some (.val (.int k (k.wrap n)))
 |some .string,some .string,.val (.string s)=>some (.val (.string s))
 |_,_,_=>none
def A1H(P:Program)(t:TypeId):AV->Option Nat
 |.val (.string s)=>match P.underlying t with|some .string=>some s.size|_=>none
 |.val (.slice none 0 0)=>match P.underlying t with|some (.slice _)=>some 0|_=>none
 |.val (.map none)=>match P.underlying t with|some (.map _ _)=>some 0|_=>none
 |.list _ rows _=>match P.underlying t with|some (.slice _)=>some rows.length|_=>none
 |.vref _ _ _ _ len=>match P.underlying t with|some (.slice _)=>some len|_=>none
 |_=>none
def A7P(mx:Bool):AV->AV->Option AV
 |.val (.int k a),.val (.int k' b)=>if k=k' then some (.val (.int k (if mx then(if b>a then b else a)else(if b<a then b else a))))else none
 |_,_=>none
def A7v(P:Program)(hint:Bool)(b:Builtin)(ts:Array TypeId)(args:List AV):Option AV:=
 match b,args with
 |.len,[x]=>match ts[0]? with
  |some t=>(A1H P t x).map λ(n:Nat)=>AV.val (goInt (n:Int))
  |none=>none
 |.max,[x,y]=>A7P true x y
 |.min,[x,y]=>A7P false x y
 |_,_=>none
def A4C(P:Program)(t:TypeId)(x:AV)(lo hi mx:Option AV):Option AV:=match x with
 |.vref f g sz lo0 len=>A9z P t f g sz lo0 len lo hi mx
 |x=>A3X P t x lo hi mx
def B2C(C:Ctx)(h:A2I)(t:TypeId)(d:Option Nat):Bool:=A1R h.vec d&&!C.data t
def A0n(C:Ctx)(h:A2I)(o:Oper)(ρ:Operand->AV):Option AV:=
 match o.op with
 |.move x=>some (ρ x)
 |.assign x=>some (ρ x)
 |.pick c a b=>match ρ c with
  |.val (.bool t)=>some (if t then ρ a else ρ b)
  |_=>none
 |.box e x=>if A1R h.imm o.dst&&(ρ x).storable then some (.cptr (ρ x).cells)else none
 |.nilCheck x=>match ρ x with
  |.ptr b off=>some (.ptr b off)
  |.cptr cs=>some (.cptr cs)
  |.func (.func f) a c=>some (.func (.func f) a c)
  |.vptr f g off=>some (.vptr f g off)
  |_=>none
 |.binOp op t x y _=>A1C C.P op t (ρ x) (ρ y)
 |.unOp .not _ x=>match ρ x with
  |.val (.bool b)=>some (.val (.bool !b))
  |_=>none
 |.unOp .neg _ x=>match ρ x with
  |.val (.int k n)=>some (.val (.int k (k.wrap (0-n))))
  |_=>none
 |.fieldAddr t x f=>match A1D C.P t f,ρ x with
  |some k,.ptr b off=>some (.ptr b (off+k))
  |some k,.cptr cs=>some (.cptr (cs.drop k))
  |some k,.vptr f g off=>some (.vptr f g (off+k))
  |_,_=>none
 |.field t x f=>match A1g C.P t f,ρ x with
  |some (k,ft),.agg cs=>if(A1e C.P ft).any (λn=>decide (k+n<=cs.length))then A1m C.P ft (cs.drop k)else none
  |_,_=>none
 |.indexAddr t x ix=>match A0S C.P t,ρ x,ρ ix with
  |some e,.list sz rows _,.val (.int _ i)=>if A1e C.P e=some sz/\0<=i/\i<rows.length then some (.cptr (rows.getD i.toNat []))else none
  |some e,.vref f g sz lo len,.val (.int _ i)=>if A1e C.P e=some sz/\0<=i/\i<len then some (.vptr f g ((lo+i.toNat)*sz))else none
  |_,_,_=>none
 |.index t x ix=>match C.P.underlying t,ρ x,ρ ix with
  |some .string,.val (.string s),.val (.int _ i)=>if 0<=i/\i<s.size then some (.val (.int .u8 (s.data.getD i.toNat 0).toNat))else none
  |_,_,_=>none
 |.load t x=>match ρ x with
  |.cptr cs=>A1m C.P t cs
  |_=>none
 |.extract x i=>match ρ x with
  |.tuple vs=>vs[i]?
  |_=>none
 |.makeFunc fn f c=>some (.func fn (f.toList.map ρ) (c.toList.map ρ))
 |.slice t x lo hi mx=>A4C C.P t (ρ x) (lo.map ρ) (hi.map ρ) (mx.map ρ)
 |.convert src dst x=>A6X C.P src dst (ρ x)
 |.build t parts=>match A0D C.P t,C.P.underlying t with
  |some z,some (.struct _)=>if !A3S C.P t||!z.all (·.oneCell')then none else(A1G C.P t (parts.toList.map λp=>(p.1,ρ p.2)) (z.map .val)).map .agg
  |_,_=>none
 |.buildSlice t n parts=>if B2C C h t o.dst then none else match A0S C.P t with
  |some e=>match A1e C.P e,A0D C.P e with
   |some sz,some z=>if n*sz<=2^24/\z.length=sz/\z.all (·.oneCell')/\0<sz then
    (A0J sz (parts.toList.map λp=>(p.1,ρ p.2)) (List.replicate n (z.map .val))).map λrows=>.list sz rows .full
    else none
   |_,_=>none
  |none=>none
 |.call {callee:=.builtin b,args,argTypes}=>A7v C.P (A1R h.own o.dst) b argTypes (args.toList.map ρ)
 |_=>none
def A3F{P}{s}{w w'}{v}(h:s.run P w=.ok v w'):(do pure (.value (<-s)):Sem Next).run P w=.ok (.value v) w':=by simp only[Z0H,h,Z0y,Z0S]
def C8G{P}{t:TypeId}{n}(h:A1e P t=some n):∃i,P.info? t=some i/\i.size=n:=by
 unfold A1e at h;cases hi:P.info? t with
 |none=>simp[hi]at h
 |some i=>simp[hi]at h;exact⟨i,rfl,h⟩
def B5E{P}{t:TypeId}{f k}(h:A1D P t f=some k)(a:Addr)(w:World):(Instr.fieldAt t (.pointer (some a)) f).run P w=.ok (.pointer (some (a.add k))) w:=by
 unfold A1D at h;split at h;case h_2=>simp at h
 rename_i fs hu;split at h;case h_2=>simp at h
 rename_i x hf;cases hs:A1e P x.type with
 |none=>simp[hs]at h
 |some n=>
  cases n with
  |zero=>simp[hs]at h
  |succ n=>simp[hs]at h;subst h;simp[Instr.fieldAt,Z0t hu,hf,Instr.sureAddr,fieldPlace,A1P hs]
def A6J{P}{G}{len n}{v}{x}(hr:Rep G v x)(h:A1J len (some v)=some n)(a:BoundsCode)(w:World):(Instr.sliceBound x len a).run P w=.ok n w/\n<=len:=by
 unfold A1J at h;split at h
 .rename_i h';simp at h'
 .rename_i k i h';simp at h';subst h';simp only[Rep]at hr;subst hr;split at h
  .rename_i hc;simp at h;subst h;exact⟨by simp[Instr.sliceBound,asIntOf,hc],by omega⟩
  .simp at h
 .simp at h
def B2H{P}{G}{len n y}{v}{x}(hr:Rep G v x)(h:A1J len (some v)=some n)(hy:len<=y)(a:BoundsCode)(w:World):(Instr.sliceBound x y a).run P w=.ok n w/\n<=len:=by
 unfold A1J at h;split at h
 .rename_i h';simp at h'
 .rename_i k i h';simp at h';subst h';simp only[Rep]at hr;subst hr;split at h
  .rename_i hc;simp at h;subst h;have b:0<=i/\i<=(y:Int):=⟨hc.1,by omega⟩;exact⟨by simp[Instr.sliceBound,asIntOf,b],by omega⟩
  .simp at h
 .simp at h
section
variable {C:Ctx} {G:A0m} {M:Mem} {w:World}
def B3w{len cap}(i:len<=cap){lo hi mx}{xlo xhi xmx}{m}{hh l}
 (g:∀a,lo=some a->∃x,xlo=some x/\Rep G a x)(k:lo=none->xlo=none)
 (o:∀a,hi=some a->∃x,xhi=some x/\Rep G a x)(r:hi=none->xhi=none)
 (s:∀a,mx=some a->∃x,xmx=some x/\Rep G a x)(p:mx=none->xmx=none)
 (hm:B7F len mx=some m)
 (d:A1J (m.getD len) hi=some hh)(hb:(hi.isSome||mx.isNone)=true)
 (hl:C5B hh lo=some l):
 ∃m',(Instr.sliceBounds true len cap xlo xhi xmx).run C.P w=.ok (l,hh,m') w/\l<=hh/\hh<=len/\hh<=m'/\m'<=cap/\(∀q,m=some q->m'=q)/\(m=none->m'=cap):=by
 unfold Instr.sliceBounds
 have f:∀(e:BoundsCode),l<=hh/\(lo=none->l=0)/\∀x,xlo=some x->(Instr.sliceBound x hh e).run C.P w=.ok l w:=by
  intro e;cases lo with
  |none=>simp only[C5B,Z0a]at hl;subst hl;exact⟨Z3N _,λ_=>rfl,λx hx=>by rw[k rfl]at hx;simp at hx⟩
  |some a=>obtain⟨x,hx,hr⟩:=g a rfl;have:=A6J (P:=C.P) hr hl e w;exact⟨this.2,λh=>by simp at h,λx' hx'=>by rw[hx]at hx';simp at hx';subst hx';exact this.1⟩
 cases mx with
 |none=>
  simp only[B7F,Z0a]at hm
  subst hm
  rw[p rfl]
  simp only[Z3s]at d
  cases hi with
  |none=>
   rw[r rfl]
   simp[A1J]at d
   subst d
   obtain⟨h1,h2,h3⟩:=f .sliceB
   refine⟨cap,?_,h1,Z0u _,i,Z0u _,by simp,by simp⟩
   cases xlo with
   |none=>
    have:lo=none:=by
     cases lo with
     |none=>rfl
     |some a=>obtain⟨x,hx,_⟩:=g a rfl;simp at hx
    simp[h2 this]
   |some x=>simp[h3 x rfl]
  |some b=>
   obtain⟨y,rfl,hy⟩:=o b rfl
   have c:=B2H (P:=C.P) hy d i .sliceAcap w
   obtain⟨h1,h2,h3⟩:=f .sliceB
   refine⟨cap,?_,h1,c.2,by omega,Z0u _,by simp,by simp⟩
   cases xlo with
   |none=>
    have:lo=none:=by
     cases lo with
     |none=>rfl
     |some a=>obtain⟨x,hx,_⟩:=g a rfl;simp at hx
    simp[h2 this,c.1]
   |some x=>simp[h3 x rfl,c.1]
 |some q=>
  obtain⟨z,rfl,hz⟩:=s q rfl
  simp only[B7F,Z0i]at hm
  obtain⟨mm,t,rfl⟩:=hm
  have j:=B2H (P:=C.P) hz t i .slice3Acap w
  simp only[Z1p]at d
  cases hi with
  |none=>simp at hb
  |some b=>
   obtain⟨y,rfl,hy⟩:=o b rfl
   have c:=A6J (P:=C.P) hy d .slice3B w
   obtain⟨h1,h2,h3⟩:=f .slice3C
   refine⟨mm,?_,h1,by omega,c.2,by omega,by simp,by simp⟩
   cases xlo with
   |none=>
    have:lo=none:=by
     cases lo with
     |none=>rfl
     |some a=>obtain⟨x,hx,_⟩:=g a rfl;simp at hx
    simp[h2 this,c.1,j.1]
   |some x=>simp[h3 x rfl,c.1,j.1]
def A9F{sz}{rows}{own}{xv}(hx:Rep G (.list sz rows own) xv){t:TypeId}{lo hi mx}{xlo xhi xmx}{v}
 (z:∀a,lo=some a->∃x,xlo=some x/\Rep G a x)(p:lo=none->xlo=none)
 (y:∀a,hi=some a->∃x,xhi=some x/\Rep G a x)(j:hi=none->xhi=none)
 (r:∀a,mx=some a->∃x,xmx=some x/\Rep G a x)(q:mx=none->xmx=none)(h:A4l C.P t sz rows own lo hi mx=some v):
 ∃u,(Instr.sliceAt t xv xlo xhi xmx).run C.P w=.ok u w/\Rep G v u/\(xv=.slice none 0 0->u=.slice none 0 0):=by
 simp only[A4l]at h
 split at h
 case h_2=>simp at h
 rename_i m e hm he
 split at h
 case isFalse=>simp at h
 rename_i hsz
 split at h
 case h_2=>simp at h
 rename_i hh hhe hb
 split at h
 case h_2=>simp at h
 rename_i l hl
 simp at h
 subst h
 simp only[Rep]at hx
 obtain⟨base,cap,rfl,s,a0,c,b⟩:=hx
 have d:=B3w (C:=C) (w:=w) (G:=G) s z p y j r q (by cases mx<;>exact hm) (by cases hi<;>exact hhe) hb (by cases lo<;>exact hl)
 obtain⟨m',k,q1,q2,q3,q4,q5,q6⟩:=d
 refine⟨.slice (if m'=l then base else base.map (·.add (l*sz))) (hh-l) (m'-l),?_,?_,λe=>?_⟩
 .simp[Instr.sliceAt,Instr.slice,Z0t (A2i he),k,A1P hsz]
 .refine A5U (by simp;omega) (by simp;omega) (by omega) ?_ ?_
  .cases base with
   |none=>obtain⟨rfl,rfl⟩:=c;(have e0:(if m'=l then(none:Option Addr)else Option.map (λx:Addr=>x.add (l*sz)) none)=none:=by split<;>rfl);rw[e0];exact⟨by simp,by omega⟩
   |some a=>
    obtain⟨i,g⟩:=c;by_cases e1:m'=l
    .rw[Z0d e1];(have:(rows.take hh).drop l=[]:=by apply Z0w;simp;omega);rw[this];exact⟨λh=>absurd rfl h,by simp[A0z]⟩
    .rw[Z0e e1];by_cases e2:rows=[]
     .subst e2;simp only[Z0M,List.take_nil,Z4w];exact⟨λh=>absurd rfl h,by simp[A0z]⟩
     have i:=i e2;(have ea:a.add (l*sz)=⟨a.block,a.off+l*sz,none⟩:=by(have ea:a=⟨a.block,a.off,none⟩:=by cases a;simp_all);rw[ea,Z1x]);simp only[Z0M,ea];exact⟨λ_=>rfl,(g.take hh).drop l⟩
  ·(have o:((rows.take hh).drop l).length=hh-l:=by simp;omega);rw[o]
   unfold B1D;cases m with
   |some mm=>
    have:=q5 mm rfl;simp only;split
    .simp only[A6j];omega
    .trivial
   |none=>
    have:=q6 rfl;subst this;simp only;cases own with
    |no=>trivial
    |full=>
     simp only[A6j]at b;simp only;split
     .simp only[A6j];omega
     .trivial
    |fam f=>
     simp only;split
     .rename_i hc;obtain⟨rfl,rfl⟩:=hc;simp only[A6j,Nat.sub_zero]at b|-;have e2:(if m'=0 then base else Option.map (λx=>x.add (0*sz)) base)=base:=by
       split
       .rfl
       .cases base with
        |none=>rfl
        |some a=>simp[Addr.add]
      rw[e2];exact b
     .trivial
 .simp only[Value.slice.injEq]at e;obtain⟨rfl,e1,rfl⟩:=e;have e2:(if m'=l then(none:Option Addr)else Option.map (λx:Addr=>x.add (l*sz)) none)=none:=by split<;>rfl
  rw[e2];have:hh-l=0:=by omega
  have:m'-l=0:=by omega
  simp_all
def B3E{s}{t:TypeId}{lo hi}{xlo xhi}{v}(e:∀a,lo=some a->∃x,xlo=some x/\Rep G a x)(c:lo=none->xlo=none)
 (g:∀a,hi=some a->∃x,xhi=some x/\Rep G a x)(f:hi=none->xhi=none)(h:A3X C.P t (.val (.string s)) lo hi none=some v):
 ∃u,(Instr.sliceAt t (.string s) xlo xhi none).run C.P w=.ok u w/\Rep G v u:=by
 simp only[A3X]at h
 split at h
 case h_2=>simp at h
 rename_i h' _ hu hh
 split at h
 case h_2=>simp at h
 rename_i l hl
 simp at h
 subst h
 refine⟨.string (s.extract l h'),?_,by simp[Rep]⟩
 have e1:(Instr.sliceBounds false s.size s.size xlo xhi none).run C.P w=.ok (l,h',s.size) w:=by
  unfold Instr.sliceBounds;cases hi with
  |none=>
   rw[f rfl];simp[A1J]at hh;subst hh;cases lo with
   |none=>rw[c rfl];simp at hl;subst hl;simp
   |some a=>obtain⟨x,rfl,hx⟩:=e a rfl;have:=(A6J (P:=C.P) hx hl .sliceB w).1;simp[this]
  |some b=>
   obtain⟨y,rfl,hy⟩:=g b rfl;have d:=(A6J (P:=C.P) hy hh .sliceAlen w).1;cases lo with
   |none=>rw[c rfl];simp at hl;subst hl;simp[d]
   |some a=>obtain⟨x,rfl,hx⟩:=e a rfl;have:=(A6J (P:=C.P) hx hl .sliceB w).1;simp[d,this]
 simp[Instr.sliceAt,Instr.slice,Z0t hu,e1]
end
section
variable {C:Ctx} {G:A0m} {M:Mem} {w:World}
def A8k{ys}{cs}(hr:A0q G cs ys.toList)(h1:∀y∈ys.toList,y.oneCell'=true){ft:TypeId}{k}{v}(a:(A1e C.P ft).any (λn=>decide (k+n<=cs.length))=true)
 (h:A1m C.P ft (cs.drop k)=some v):∃u,(part ft ys k).run C.P w=.ok u w/\Rep G v u:=by
 have d:=hr.length
 unfold A1m at h
 split at h
 .rename_i n ha hs;split at h
  .rename_i hle;simp at h;subst h;simp[hs]at a;refine⟨.agg (ys.extract k (k+n)),by simp[part,B2t ha,A1P hs],?_⟩;simp only[Rep];refine⟨_,rfl,?_,λy hy=>h1 y ?_⟩
   ·(have:(ys.extract k (k+n)).toList=(ys.toList.drop k).take n:=by simp[List.take_drop]);rw[this]
    exact(hr.drop k).take n
   ·(have:(ys.extract k (k+n)).toList=(ys.toList.drop k).take n:=by simp[List.take_drop]);rw[this]at hy
    exact Z1z (Z1r hy)
  .simp at h
 .rename_i n ha hs;split at h
  .rename_i c rest hd;simp at h;subst h;(have hc:cs[k]?=some c:=by(have:(cs.drop k)[0]?=some c:=by rw[hd];rfl);simpa using this);obtain⟨y,hy,b⟩:=hr.get hc;(have:ys[k]?=some y:=by simpa using hy);exact⟨y,by simp[part,B2t ha,this],b⟩
  .simp at h
 .simp at h
def C1j(a:Nat->Option (Nat×Nat))(cells:Array Value)(i off b:Nat)(v:Value)(c:List (Nat×Value))(hp:a i=some (off,b))(hs:v.cells.size=b)(hf:off+v.cells.size<=cells.size):Instr.fill a cells ((i,v)::c)=Instr.fill a (cells.toList.take off++v.cells.toList++cells.toList.drop (off+v.cells.size)).toArray c:=by
 simp only[Instr.fill,hp]
 rw[Z0e (by simp[hs];omega)]
 congr 1
 have d:∀(l:List Value) (s:Nat) (cs:Array Value),off+s+l.length<=cs.size->
  (l.zipIdx s).foldl (λcs (x:Value×Nat)=>cs.setIfInBounds (off+x.2) x.1) cs=(cs.toList.take (off+s)++l++cs.toList.drop (off+s+l.length)).toArray:=by
  intro l
  induction l with
  |nil=>intro s cs _;apply Z1A;simp
  |cons x l ih=>
   intro s cs e
   simp only[Z0B]at e
   simp only[List.zipIdx_cons,Z2M]
   rw[ih (s+1) (cs.setIfInBounds (off+s) x) (by simp;omega)]
   apply Z1A
   simp only[Array.toList_setIfInBounds]
   apply Z1J
   intro j
   simp only[Z1B,Z0R,Z1a,Z2d,Z0I,Z1C,Z1E,Z0z,Z0B,List.getElem?_cons]
   by_cases h1:j<off+s
   ·(have:¬(off+s=j):=by omega);simp[h1,this]
    grind
   .by_cases h2:j=off+s
    .subst h2;simp;grind
    .grind
 have:=d v.cells.toList 0 cells (by simpa using hf)
 simp only[Z0V]at this
 rw[<-Array.foldl_toList]
 simpa using this
def B2R{α β:Type}(P:Program)(f:α->Sem β)(g:α->β)(w:World):∀(l:List α),(∀x∈l,(f x).run P w=.ok (g x) w)->(l.mapM f).run P w=.ok (l.map g) w
 |[],_=>by simp
 |x::l,h=>by have h1:=h x (by simp);have h2:=B2R P f g w l (λy hy=>h y (by simp[hy]));simp[Z3m,h1,h2]
def D1F{α β:Type}(P:Program)(f:α->Sem β)(g:α->β)(w:World)(a:Array α)(h:∀x∈a.toList,(f x).run P w=.ok (g x) w):(a.mapM f).run P w=.ok (a.map g) w:=by
 have h1:=B2R P f g w a.toList h;have e:a.mapM f=(List.toArray <$> a.toList.mapM f):=by simp[Z3Y]
 rw[e,Sem.run_map,h1];simp only[Z0y];congr 1;apply Z1A;simp
def B7J{t:TypeId}{fs}(hu:C.P.underlying t=some (.struct fs))(a:Nat->Option (Nat×Nat))
 (hp:∀i off ft n,A1g C.P t i=some (off,ft)->A1e C.P ft=some n->a i=some (off,n)):
 ∀(ps:List (Nat×AV)) (xs:List (Nat×Value)) (cs c:List AV) (vs:Array Value),ps.length=xs.length->(∀(j:Nat) (p:Nat×AV) (x:Nat×Value),ps[j]?=some p->xs[j]?=some x->p.1=x.1/\Rep G p.2 x.2)->
  A0q G cs vs.toList->(∀y∈vs.toList,y.oneCell'=true)->A1G C.P t ps cs=some c->
  ∃vs':Array Value,Instr.fill a vs xs=some vs'/\A0q G c vs'.toList/\∀y∈vs'.toList,y.oneCell'=true
 |[],xs,cs,c,vs,hl,_,hr,h1,h=>by have:xs=[]:=Z0w (by simpa using hl.symm);subst this;simp[A1G]at h;subst h;exact⟨vs,by simp[Instr.fill],hr,h1⟩
 |(i,v)::ps,[],_,_,_,hl,_,_,_,_=>by simp at hl
 |(i,v)::ps,(i',x)::xs,cs,c,vs,hl,hps,hr,h1,h=>by
  obtain⟨rfl,hx⟩:=hps 0 _ _ rfl rfl;simp only at hx;simp only[A1G]at h;split at h;case h_2=>simp at h
  rename_i off ft hf;split at h;case isFalse=>simp at h
  rename_i hsz;simp only[Z1M]at h;obtain⟨r,b,m⟩:=h;unfold A2e at b;split at b;case isFalse=>simp at b
  rename_i hc;simp only[Z0f,Z0o]at hc;simp only[Z0a]at b;subst b;obtain⟨g,o⟩:=hx.cells hc.1;have k:=g.length;have l:=hr.length;have q:=hp i off ft _ hf hsz;have d:x.cells.size=v.cells.length:=by simpa using k
  have f:=C1j a vs i off v.cells.length x xs q d (by simp at l;omega);simp only;rw[f];have e:x.cells.size=x.cells.toList.length:=by simp
  refine B7J hu a hp ps xs _ c _ (by simpa using hl) (λj p y hp' hy=>hps (j+1) p y (by simpa using hp') (by simpa using hy)) ?_ ?_ m
  .simp only[d];exact((hr.take off).append g).append (hr.drop _)
  .intro y hy;simp only[Z1b]at hy;rcases hy with(hy|hy)|hy
   .exact h1 y (Z1r hy)
   .exact o y hy
   .exact h1 y (Z1z hy)
def A9w{P}{t:TypeId}{z}(h:A0D P t=some z)(G:A0m)(w:World):∃v:Value,(zeroValue t).run P w=.ok v w/\v.cells.toList=z/\A0q G (z.map .val) z:=by
 unfold A0D at h;split at h;case h_2=>simp at h
 rename_i i hi;simp only[Z0i]at h;obtain⟨v,hv,rfl⟩:=h;refine⟨v,by simp[zeroValue,typeInfo,hi,hv],rfl,?_⟩;generalize v.cells.toList=l;induction l with
 |nil=>simp[A0q]
 |cons x l ih=>simp only[Z0C,A0q];exact⟨x,l,rfl,by simp[Rep],ih⟩
def C4h{t:TypeId}{fs}(hu:C.P.underlying t=some (.struct fs))(a:A3S C.P t=true){z}(hz:A0D C.P t=some z)(c:z.all (·.oneCell')=true)
 {ps}{xs}(hl:ps.length=xs.size)(d:∀(j:Nat) (p:Nat×AV) (x:Nat×Value),ps[j]?=some p->xs.toList[j]?=some x->p.1=x.1/\Rep G p.2 x.2){cs}(h:A1G C.P t ps (z.map .val)=some cs):
 ∃u,(Instr.build t xs).run C.P w=.ok u w/\Rep G (.agg cs) u:=by
 obtain⟨v,hv,b,e⟩:=A9w (P:=C.P) hz G w
 unfold A3S at a
 rw[hu]at a
 have a:=Z0r.1 a
 have hm:(fs.mapM λf=>(do pure (f.offset,<-sizeOf f.type):Sem (Nat×Nat))).run C.P w=.ok (fs.map λf=>(f.offset,(A1e C.P f.type).getD 0)) w:=by
  refine D1F _ _ _ _ _ (λf hf=>?_);have:=a f hf;cases hs:A1e C.P f.type with
  |none=>simp[hs]at this
  |some n=>simp[A1P hs]
 obtain⟨vs',hf,hr,h1⟩:=B7J (C:=C) (G:=G) hu (λi=>(fs.map λf=>(f.offset,(A1e C.P f.type).getD 0))[i]?) (λi off ft n hfo hs=>by simp only[A1g,hu,Z0i]at hfo;obtain⟨x,hx,he⟩:=hfo;simp at he;obtain⟨rfl,rfl⟩:=he;simp[hx,hs]) ps xs.toList (z.map .val) cs v.cells (by simpa using hl) d (by rw[b];exact e) (λy hy=>by rw[b]at hy;exact Z0r.1 c y hy) h
 refine⟨.agg vs',?_,by simp only[Rep];exact⟨_,rfl,hr,h1⟩⟩
 simp only[Instr.build,Z0H,hv,Z0y,Z0t hu,hm,hf,Z0S]
def B5J(sz:Nat):∀(rows:List (List AV)) (i:Nat) (r:List AV),(∀q∈rows,q.length=sz)->r.length=sz->i<rows.length->
 (rows.set i r).flatten=rows.flatten.take (i*sz)++r++rows.flatten.drop (i*sz+sz)
 |[],i,r,_,_,h=>by simp at h
 |q::rows,0,r,hs,hr,_=>by have hq:=hs q (by simp);simp only[List.set_cons_zero,Z0Z,Z2X,Z2v,Z2h,Z0K];rw[<-hq,List.drop_left]
 |q::rows,i+1,r,hs,hr,h=>by
  have hq:=hs q (by simp);have ih:=B5J sz rows i r (λx hx=>hs x (by simp[hx])) hr (by simpa using h);simp only[List.set_cons_succ,Z0Z,ih];have e1:(i+1)*sz=q.length+i*sz:=by rw[Z0N,hq];omega
  rw[e1,List.take_length_add_append,Z2o q.length,List.drop_length_add_append];simp
def B5t{sz}:∀(ps:List (Nat×AV)) (xs:List (Nat×Value)) (rows a:List (List AV)) (vs:Array Value),ps.length=xs.length->
 (∀(j:Nat) (p:Nat×AV) (x:Nat×Value),ps[j]?=some p->xs[j]?=some x->p.1=x.1/\Rep G p.2 x.2)->
 (∀q∈rows,q.length=sz)->A0q G rows.flatten vs.toList->(∀y∈vs.toList,y.oneCell'=true)->A0J sz ps rows=some a->
 ∃vs':Array Value,Instr.fill (λi=>some (i*sz,sz)) vs xs=some vs'/\A0q G a.flatten vs'.toList/\(∀y∈vs'.toList,y.oneCell'=true)/\(∀q∈a,q.length=sz)/\a.length=rows.length
 |[],xs,rows,a,vs,hl,_,hs,hr,h1,h=>by have:xs=[]:=Z0w (by simpa using hl.symm);subst this;simp[A0J]at h;subst h;exact⟨vs,by simp[Instr.fill],hr,h1,hs,rfl⟩
 |(i,v)::ps,[],_,_,_,hl,_,_,_,_,_=>by simp at hl
 |(i,v)::ps,(i',x)::xs,rows,a,vs,hl,hps,hs,hr,h1,h=>by
  obtain⟨rfl,hx⟩:=hps 0 _ _ rfl rfl;simp only at hx;simp only[A0J]at h;split at h;case isFalse=>simp at h
  rename_i hc;simp only[Z0f,Z0o]at hc;obtain⟨⟨m,b⟩,hi⟩:=hc;obtain⟨f,o⟩:=hx.cells m;have k:=f.length;have e:=hr.length;have l:rows.flatten.length=rows.length*sz:=by
   clear h hr e hps hi;induction rows with
   |nil=>simp
   |cons q rows ih=>simp only[Z0Z,Z0z,Z0B,hs q (by simp),ih (λx hx=>hs x (by simp[hx])),Z0N];omega
  have c:x.cells.size=sz:=by rw[<-b];simpa using k
  have r:i*sz+sz<=rows.length*sz:=by have:(i+1)*sz<=rows.length*sz:=Z1h _ hi;rw[Z0N]at this;omega
  have s:vs.size=rows.length*sz:=by rw[l]at e;simpa using e
  have d:=C1j (λi=>some (i*sz,sz)) vs i (i*sz) sz x xs rfl c (by omega);simp only;rw[d];have g:=B5t ps xs (rows.set i v.cells) a (vs.toList.take (i*sz)++x.cells.toList++vs.toList.drop (i*sz+x.cells.size)).toArray (by simpa using hl)
   (λj p y hp' hy=>hps (j+1) p y (by simpa using hp') (by simpa using hy))
   (λq hq=>by
    rcases Z3e hq with h|h
    .exact hs q h
    .subst h;exact b) ?_ ?_ h
  .obtain⟨vs',q1,q2,q3,q4,q5⟩:=g;exact⟨vs',q1,q2,q3,q4,by simpa using q5⟩
  .rw[B5J sz rows i v.cells hs b hi,c];exact((hr.take _).append f).append (hr.drop _)
  .intro y hy;simp only[Z1b]at hy;rcases hy with(hy|hy)|hy
   .exact h1 y (Z1r hy)
   .exact o y hy
   .exact h1 y (Z1z hy)
def B3b(z:List Value)(n sz:Nat)(hz:z.length=sz)(a:0<sz):((Array.range (n*sz)).map (λi=>z.toArray[i%z.toArray.size]!)).toList=(List.replicate n z).flatten:=by
 subst hz;apply Z1J;intro j;have hl:(List.replicate n z).flatten.length=n*z.length:=by simp
 by_cases hj:j<n*z.length
 .have h1:((Array.range (n*z.length)).map (λi=>z.toArray[i%z.toArray.size]!)).toList[j]?=some (z.toArray[j%z.length]!):=by simp[hj]
  rw[h1];have hm:j%z.length<z.length:=Nat.mod_lt _ a;have:∀(n j:Nat),j<n*z.length->(List.replicate n z).flatten[j]?=z[j%z.length]?:=by
   intro n;induction n with
   |zero=>intro j h;simp at h
   |succ n ih=>
    intro j h;rw[Z1Y,Z0Z];by_cases hlt:j<z.length
    .rw[Z0j hlt,Nat.mod_eq_of_lt hlt]
    .rw[Z1m (by omega),ih (j-z.length) (by rw[Z0N]at h;omega)];rw[<-Nat.mod_eq_sub_mod (by omega)]
  rw[this n j hj,Z0m hm];simp[hm]
 .rw[Z1i (by simp;omega),Z1i (by omega)]
def B1o(hi:Inv C G M w){t e:TypeId}(ht:A0S C.P t=some e){sz n}(hs:A1e C.P e=some sz){z}(hz:A0D C.P e=some z)(g:z.all (·.oneCell')=true)(d:z.length=sz)(f:0<sz)(c:n*sz<=2^24)
 {ps}{xs}(hl:ps.length=xs.size)(s:∀(j:Nat) (p:Nat×AV) (x:Nat×Value),ps[j]?=some p->xs.toList[j]?=some x->p.1=x.1/\Rep G p.2 x.2)
 {rows}(h:A0J sz ps (List.replicate n (z.map .val))=some rows):
 ∃vs':Array Value,(Instr.buildSlice t n xs).run C.P w=.ok (.slice (some ⟨w.heap.size,0,none⟩) n n) (w.alloc (.cells vs' e))/\A0q G rows.flatten vs'.toList/\(∀y∈vs'.toList,y.oneCell'=true)/\(∀q∈rows,q.length=sz)/\rows.length=n:=by
 obtain⟨v,hv,o,k⟩:=A9w (P:=C.P) hz G w
 have a:∀b:Array Value,(n*sz=0\/b=v.cells)->(Array.range (n*sz)).map (λx=>b[x%b.size]!)=(List.replicate n z).flatten.toArray:=by
  intro b h0;rcases h0 with h0|rfl
  ·(have:n=0:=by rcases Nat.mul_eq_zero.1 h0 with h|h<;>omega);subst this
   simp
  .apply Z1A;have:=B3b z n sz d f;rw[<-o]at this|-;simpa using this
 have i:A0q G (List.replicate n (z.map AV.val)).flatten (List.replicate n z).flatten:=by
  clear h a c;induction n with
  |zero=>simp[A0q]
  |succ n ih=>rw[Z1Y,Z1Y,Z0Z,Z0Z];exact k.append ih
 obtain⟨vs',q1,q2,q3,q4,q5⟩:=B5t (G:=G) ps xs.toList (List.replicate n (z.map .val)) rows (List.replicate n z).flatten.toArray (by simpa using hl) s
  (λq hq=>by have:=(Z3i.1 hq).2;subst this;simpa using d) (by simpa using i) (λy hy=>by
   (have:y∈(List.replicate n z).flatten:=by simpa using hy);obtain⟨l,r,m⟩:=Z4b.1 this
   have:=(Z3i.1 r).2;subst this;exact Z0r.1 g y m) h
 refine⟨vs',?_,q2,q3,q4,by simpa using q5⟩
 .have hb:¬(n*sz>2^24):=by omega
  by_cases h0:n*sz=0
  .simp only[Instr.buildSlice,Z0H,Z0t (A2i ht),Z0y,A1P hs,Z0e hb,Z0d h0,Z0S,a #[] (.inl h0),q1,newRow,Z3A];rfl
  .simp only[Instr.buildSlice,Z0H,Z0t (A2i ht),Z0y,A1P hs,Z0e hb,Z0e h0,hv,Z0S,a v.cells (.inr rfl),q1,newRow,Z3A];rfl
def B5m(hi:Inv C G M w){t e:TypeId}(ht:A0S C.P t=some e){sz n}(hs:A1e C.P e=some sz){z}(hz:A0D C.P e=some z)(g:z.all (·.oneCell')=true)(f:z.length=sz)(a:0<sz)(c:n*sz<=2^24)
 {ps}{xs}(hl:ps.length=xs.size)(k:∀(j:Nat) (p:Nat×AV) (x:Nat×Value),ps[j]?=some p->xs.toList[j]?=some x->p.1=x.1/\Rep G p.2 x.2)
 {rows}(h:A0J sz ps (List.replicate n (z.map .val))=some rows):
 ∃u w' G',(Instr.buildSlice t n xs).run C.P w=.ok u w'/\G.le G'/\Inv C G' M w'/\Rep G' (.list sz rows .full) u/\Ext w w':=by
 obtain⟨vs',b,q2,q3,q4,hn⟩:=B1o hi ht hs hz g f a c hl k h
 have d:=A0m.le_fix hi vs'.toList
 refine⟨_,_,G.fix w.heap.size vs'.toList,b,d,hi.fix vs' e vs'.toList (λi v hv=>by simpa using hv),?_,Ext.alloc _ _⟩
 refine A5U hn.symm (by omega) ?_ ⟨λ_=>rfl,?_⟩ (by simp only[A6j];exact hn.symm)
 .have:n<=n*sz:=Z2c _ a;simp only[maxLen];omega
 .refine A0z.mk q4 (A0M.mk (A0q.mono d _ _ q2) q3 (λj v hv=>?_));simp only[A0m.fix,Z0G,Z0K];exact hv
def Inv.newVec(hi:Inv C G M w){n cap sz}{cs}{vs}(t:TypeId)(hr:A0q G cs (vs.toList.take (n*sz)))(h1:∀v∈vs.toList.take (n*sz),v.oneCell'=true)(i:vs.size=cap*sz)(hn:n<=cap)(d:cap<=maxLen):∃G',Inv C G' (M++[.vec t sz cs 0 [(0,n)]]) (w.alloc (.cells vs t))/\G.le G'/\Rep G' (.vref M.length 0 sz 0 n) (.slice (some ⟨w.heap.size,0,none⟩) n cap):=by
 have o:n*sz<=cap*sz:=Z1h _ hn
 have f:cs.length=n*sz:=by rw[<-hr.length];simp;omega
 obtain⟨G',g,e,l,k,j,p⟩:=hi.newObj (.cells vs t) (.vec t sz cs 0 [(0,n)]) (λ_=>(some ⟨w.heap.size,0,none⟩,cap)) 0
  (λG' e _ hh ht hst hk=>⟨ht,λh m hm=>by
   simp only[Z0P,Z0b]at hm;obtain⟨rfl,rfl⟩:=hm;refine⟨by omega,Z2x f.symm,w.heap.size,0,cap,vs,by rw[hh],hn,d,Z2a w _,Z2x (by rw[i,Z0K]),?_,?_,hst,hk⟩
   .rw[Z1q,Z0l (Z2x f)];exact A0q.mono e _ _ hr
   .rw[Z1q];exact h1,λh n h' n' a a' c c' m1 m2 e1 e2 _=>by
   rw[hh]at e1 e2;simp only[Z0b,Z0a]at e1 e2;rw[<-e1.1,<-e2.1]⟩)
  (λG' b _ hh hown=>by obtain⟨h,m,a,_,ha,rfl⟩:=hown;rw[hh]at ha;simp only[Z0a]at ha;rw[<-ha])
 refine⟨G',g,e,?_⟩
 simp only[Rep]
 exact⟨k,by omega,⟨w.heap.size,0,none⟩,⟨w.heap.size,0,none⟩,cap,by rw[j],rfl,rfl,by simp,by omega,d,λ_=>by simp⟩
def A1v(P:Program)(t:TypeId)(n:Nat)(parts:List (Nat×AV))(M:Mem):Option (AV×Mem):=match A0S P t with
 |some e=>match A1e P e,A0D P e with
  |some sz,some z=>if n*sz<=2^24/\z.length=sz/\z.all (·.oneCell')/\0<sz then
   (A0J sz parts (List.replicate n (z.map .val))).map λrows=>(.vref M.length 0 sz 0 n,M++[.vec e sz rows.flatten 0 [(0,n)]])
   else none
  |_,_=>none
 |none=>none
def C1M(hi:Inv C G M w){t:TypeId}{n}{ps}{xs}(hl:ps.length=xs.size)(m:∀(j:Nat) (p:Nat×AV) (x:Nat×Value),ps[j]?=some p->xs.toList[j]?=some x->p.1=x.1/\Rep G p.2 x.2)
 {v}{M'}(h:A1v C.P t n ps M=some (v,M')):
 ∃u w' G',(Instr.buildSlice t n xs).run C.P w=.ok u w'/\G.le G'/\Inv C G' M' w'/\Rep G' v u/\Ext w w':=by
 unfold A1v at h
 split at h
 case h_2=>simp at h
 rename_i e he
 split at h
 case h_2=>simp at h
 rename_i sz z hs hz
 split at h
 case isFalse=>simp at h
 rename_i hc
 obtain⟨c1,c2,c3,c4⟩:=hc
 simp only[Z0i,Z0b]at h
 obtain⟨rows,a,rfl,rfl⟩:=h
 obtain⟨vs',c,q2,q3,q4,hn⟩:=B1o hi he hs hz c3 c2 c4 c1 hl m a
 have b:rows.flatten.length=n*sz:=by
  rw[<-hn];clear a q2 hn;induction rows with
  |nil=>simp
  |cons r rs ih=>rw[Z0Z,Z0z,ih (λq hq=>q4 q (by simp[hq])),q4 r (by simp),Z0B,Z0N];omega
 have g:n<=maxLen:=by have:n<=n*sz:=Z2c _ c4;simp only[maxLen];omega
 have d:vs'.size=n*sz:=by rw[<-b,<-q2.length];simp
 have i:vs'.toList.take (n*sz)=vs'.toList:=Z0l (by simp[d])
 obtain⟨G',k,l,f⟩:=hi.newVec (n:=n) (cap:=n) e (by rw[i];exact q2) (by rw[i];exact q3) d (Z0u _) g
 exact⟨_,_,G',c,l,k,f,Ext.alloc _ _⟩
end
section
variable {C:Ctx} {G:A0m} {M:Mem} {w:World}
def B3U{f g sz lo0 len}{xv}(hx:Rep G (.vref f g sz lo0 len) xv){t:TypeId}{lo hi mx}{xlo xhi xmx}{v}
 (y:∀a,lo=some a->∃x,xlo=some x/\Rep G a x)(i:lo=none->xlo=none)
 (s:∀a,hi=some a->∃x,xhi=some x/\Rep G a x)(k:hi=none->xhi=none)
 (o:∀a,mx=some a->∃x,xmx=some x/\Rep G a x)(j:mx=none->xmx=none)(h:A9z C.P t f g sz lo0 len lo hi mx=some v):
 ∃u,(Instr.sliceAt t xv xlo xhi xmx).run C.P w=.ok u w/\Rep G v u:=by
 unfold A9z at h
 split at h
 case h_2=>simp at h
 rename_i m e hm he
 split at h
 case isFalse=>simp at h
 rename_i hsz
 split at h
 case h_2=>simp at h
 rename_i hh hhe hb
 split at h
 case h_2=>simp at h
 rename_i l hl
 simp only[Rep]at hx
 obtain⟨hf,hg,a,a',cap,hd,r,b,rfl,a0,p,c⟩:=hx
 obtain⟨m',d,q1,q2,q3,q4,q5,q6⟩:=B3w (C:=C) (w:=w) (G:=G) (len:=len) (cap:=cap-lo0) (by omega) y i s k o j hm hhe hb hl
 refine⟨.slice (if m'=l then some a' else(some a').map (·.add (l*sz))) (hh-l) (m'-l),?_,?_⟩
 .simp[Instr.sliceAt,Instr.slice,Z0t (A2i he),d,A1P hsz]
 .split at h
  .have e6:=q6 rfl;subst e6;simp only[Z0a]at h;subst h;simp only[Rep];refine⟨hf,hg,a,if cap-lo0=l then a' else a'.add (l*sz),cap,hd,r,?_,?_,by omega,p,λz=>?_⟩
   .split
    .exact b
    .rw[c (by omega),Z1x]
   .split<;>simp<;>omega
   .rw[Z0e (by omega),c (by omega),Z1x];simp only[Z3q,Z2u,Z2e];rw[Z0N];omega
  .rename_i q;split at h
   .rename_i hql;simp only[Z0a]at h;subst h;have e5:=q5 q rfl;(have h1:hh-l=0:=by omega);(have h2:m'-l=0:=by omega);rw[Z0d (by omega),h1,h2];simp only[Rep];exact⟨some a',0,rfl,Z0u _,by simp[maxLen],⟨λ_=>b,by simp[A0z]⟩,rfl⟩
   .simp at h
def A4W(P:Program)(t:TypeId)(l c:AV)(M:Mem):Option (AV×Mem):=
 match A0S P t,l,c with
 |some e,.val (.int _ l),.val (.int _ c)=>match A1e P e,A0D P e,C2R P e with
  |some sz,some z,some b=>if z.length=sz/\z.all (·.oneCell')/\0<sz/\0<=l/\l<=c/\c.toNat*sz<=16777216/\(b:Int)*c<=281474976710656 then
   some (.vref M.length 0 sz 0 l.toNat,M++[.vec e sz (List.replicate l.toNat (z.map .val)).flatten 0 [(0,l.toNat)]])
   else none
  |_,_,_=>none
 |_,_,_=>none
def C3t(hi:Inv C G M w){t:TypeId}{l c}{lv cv}(hl:Rep G l lv)(hc:Rep G c cv){v}{M'}(h:A4W C.P t l c M=some (v,M')):∃u w' G',(Instr.makeSlice t lv cv).run C.P w=.ok u w'/\G.le G'/\Inv C G' M' w'/\Rep G' v u/\Ext w w':=by
 unfold A4W at h
 split at h
 case h_2=>simp at h
 rename_i e kl l kc c he
 simp only[Rep]at hl hc
 subst hl;subst hc
 split at h
 case h_2=>simp at h
 rename_i sz z b hs hz hb
 split at h
 case isFalse=>simp at h
 rename_i hcond
 obtain⟨c1,c2,c3,c4,c5,c6,c7⟩:=hcond
 simp only[Z0a,Z0b]at h
 obtain⟨rfl,rfl⟩:=h
 obtain⟨i,d,g⟩:=C8G hs
 have a0:i.bytes=b:=by simpa[C2R,d]using hb
 simp only[A0D,d,Z0i]at hz
 obtain⟨zv,a3,rfl⟩:=hz
 have a4:c.toNat<=16777216:=Z0T (Z2c _ c3) c6
 have j:=run_makeSlice (P:=C.P) w t e i zv (A2i he) d a3 kl kc l c c4 c5 (by rw[g];exact c6) (by rw[a0];exact c7) (by omega)
 rw[g]at j
 have m:(madeCells zv.cells (c.toNat*sz)).toList=(List.replicate c.toNat zv.cells.toList).flatten:=by have:=B3b zv.cells.toList c.toNat sz c1 c3;simpa[madeCells]using this
 have k:(madeCells zv.cells (c.toNat*sz)).size=c.toNat*sz:=by simp[madeCells]
 have f:(madeCells zv.cells (c.toNat*sz)).toList.take (l.toNat*sz)=(List.replicate l.toNat zv.cells.toList).flatten:=by
  rw[m];have e1:c.toNat=l.toNat+(c.toNat-l.toNat):=by omega
  have e2:(List.replicate l.toNat zv.cells.toList).flatten.length=l.toNat*sz:=by rw[List.length_flatten];simp[c1]
  rw[e1,<-List.replicate_append_replicate,List.flatten_append,<-e2,Z4n]
 have p:∀n,A0q G (List.replicate n (zv.cells.toList.map AV.val)).flatten (List.replicate n zv.cells.toList).flatten:=by
  intro n;induction n with
  |zero=>simp[A0q]
  |succ n ih=>rw[Z1Y,Z1Y,Z0Z,Z0Z];refine A0q.append ?_ ih;refine A0q.of_get (by simp) ?_;intro i c y h1 h2;simp only[Z1u,Z0i]at h1;obtain⟨a,ha,rfl⟩:=h1;rw[ha]at h2;simp only[Z0a]at h2;subst h2;simp[Rep]
 obtain⟨G',a2,s,r⟩:=hi.newVec (n:=l.toNat) (cap:=c.toNat) (sz:=sz) e (by rw[f];exact p l.toNat) (by rw[f];intro v hv;obtain⟨q,a1,o⟩:=Z4b.1 hv;rw[(Z3i.1 a1).2]at o;exact Z0r.1 c2 v o) k (by omega) (by simp only[maxLen];omega)
 exact⟨_,_,G',j,s,a2,r,Ext.alloc _ _⟩
end
section
variable {α:Type}
end
end Go.Abs
