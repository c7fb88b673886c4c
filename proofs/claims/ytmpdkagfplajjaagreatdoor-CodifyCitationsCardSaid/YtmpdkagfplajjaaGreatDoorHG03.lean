/- The texts AbsJ, AbsX1, SoA. -/
import Derived.Test.YtmpdkagfplajjaaGreatDoorHG02
import Derived.Test.YtmpdkagfplajjaaGreatDoorHG01
set_option linter.all false
namespace Go.Abs
section
variable {C:Ctx} {G:A0o} {M:Mem} {w:World}
def A8q{ys}{cs}(hr:A0t G cs ys.toList)(h1:∀y∈ys.toList,y.oneCell'=true){ft:TypeId}{k}{v}(a:(A1u C.P ft).any (λn=>decide (k+n<=cs.length))=true)
 (h:A1n C.P ft (cs.drop k)=some v):∃u,(part ft ys k).run C.P w=.ok u w/\Rep G v u:=by
 have d:=hr.length
 unfold A1n at h
 split at h
 .rename_i n ha hs;split at h
  .rename_i hle;simp at h;subst h;simp[hs]at a;refine⟨.agg (ys.extract k (k+n)),by simp[part,B2T ha,A2k hs],?_⟩;simp only[Rep];refine⟨_,rfl,?_,λy hy=>h1 y ?_⟩
   ·(have:(ys.extract k (k+n)).toList=(ys.toList.drop k).take n:=by simp[List.take_drop]);rw[this]
    exact(hr.drop k).take n
   ·(have:(ys.extract k (k+n)).toList=(ys.toList.drop k).take n:=by simp[List.take_drop]);rw[this]at hy
    exact Z1m (Z1k hy)
  .simp at h
 .rename_i n ha hs;split at h
  .rename_i c rest hd;simp at h;subst h;(have hc:cs[k]?=some c:=by(have:(cs.drop k)[0]?=some c:=by rw[hd];rfl);simpa using this);obtain⟨y,hy,b⟩:=hr.get hc;(have:ys[k]?=some y:=by simpa using hy);exact⟨y,by simp[part,B2T ha,this],b⟩
  .simp at h
 .simp at h
def C2D(a:Nat->Option (Nat×Nat))(cells:Array Value)(i off b:Nat)(v:Value)(c:List (Nat×Value))(hp:a i=some (off,b))(hs:v.cells.size=b)(hf:off+v.cells.size<=cells.size):Instr.fill a cells ((i,v)::c)=Instr.fill a (cells.toList.take off++v.cells.toList++cells.toList.drop (off+v.cells.size)).toArray c:=by
 simp only[Instr.fill,hp]
 rw[Z0d (by simp[hs];omega)]
 congr 1
 have d:∀(l:List Value) (s:Nat) (cs:Array Value),off+s+l.length<=cs.size->
  (l.zipIdx s).foldl (λcs (x:Value×Nat)=>cs.setIfInBounds (off+x.2) x.1) cs=(cs.toList.take (off+s)++l++cs.toList.drop (off+s+l.length)).toArray:=by
  intro l
  induction l with
  |nil=>intro s cs _;apply Z1E;simp
  |cons x l ih=>
   intro s cs e
   simp only[Z0x]at e
   simp only[List.zipIdx_cons,Z3l]
   rw[ih (s+1) (cs.setIfInBounds (off+s) x) (by simp;omega)]
   apply Z1E
   simp only[Array.toList_setIfInBounds]
   apply Z1G
   intro j
   simp only[Z0W,Z0P,Z1e,Z2m,Z0D,Z3I,Z1z,Z0t,Z0x,List.getElem?_cons]
   by_cases h1:j<off+s
   ·(have:¬(off+s=j):=by omega);simp[h1,this]
    grind
   .by_cases h2:j=off+s
    .subst h2;simp;grind
    .grind
 have:=d v.cells.toList 0 cells (by simpa using hf)
 simp only[Z0Z]at this
 rw[<-Array.foldl_toList]
 simpa using this
def B3k{α β:Type}(P:Program)(f:α->Sem β)(g:α->β)(w:World):∀(l:List α),(∀x∈l,(f x).run P w=.ok (g x) w)->(l.mapM f).run P w=.ok (l.map g) w
 |[],_=>by simp
 |x::l,h=>by have h1:=h x (by simp);have h2:=B3k P f g w l (λy hy=>h y (by simp[hy]));simp[Z3u,h1,h2]
def D6u{α β:Type}(P:Program)(f:α->Sem β)(g:α->β)(w:World)(a:Array α)(h:∀x∈a.toList,(f x).run P w=.ok (g x) w):(a.mapM f).run P w=.ok (a.map g) w:=by
 have h1:=B3k P f g w a.toList h;have e:a.mapM f=(List.toArray <$> a.toList.mapM f):=by simp[Z3m]
 rw[e,Sem.run_map,h1];simp only[Z0u];congr 1;apply Z1E;simp
def B8b{t:TypeId}{fs}(hu:C.P.underlying t=some (.struct fs))(a:Nat->Option (Nat×Nat))
 (hp:∀i off ft n,A0K C.P t i=some (off,ft)->A1u C.P ft=some n->a i=some (off,n)):
 ∀(ps:List (Nat×AV)) (xs:List (Nat×Value)) (cs c:List AV) (vs:Array Value),ps.length=xs.length->(∀(j:Nat) (p:Nat×AV) (x:Nat×Value),ps[j]?=some p->xs[j]?=some x->p.1=x.1/\Rep G p.2 x.2)->
  A0t G cs vs.toList->(∀y∈vs.toList,y.oneCell'=true)->A1b C.P t ps cs=some c->
  ∃vs':Array Value,Instr.fill a vs xs=some vs'/\A0t G c vs'.toList/\∀y∈vs'.toList,y.oneCell'=true
 |[],xs,cs,c,vs,hl,_,hr,h1,h=>by have:xs=[]:=Z0y (by simpa using hl.symm);subst this;simp[A1b]at h;subst h;exact⟨vs,by simp[Instr.fill],hr,h1⟩
 |(i,v)::ps,[],_,_,_,hl,_,_,_,_=>by simp at hl
 |(i,v)::ps,(i',x)::xs,cs,c,vs,hl,hps,hr,h1,h=>by
  obtain⟨rfl,hx⟩:=hps 0 _ _ rfl rfl;simp only at hx;simp only[A1b]at h;split at h;case h_2=>simp at h
  rename_i off ft hf;split at h;case isFalse=>simp at h
  rename_i hsz;simp only[Z2l]at h;obtain⟨r,b,o⟩:=h;unfold A1o at b;split at b;case isFalse=>simp at b
  rename_i hc;simp only[Z0f,Z0k]at hc;simp only[Z0b]at b;subst b;obtain⟨g,k⟩:=hx.cells hc.1;have q:=g.length;have l:=hr.length;have m:=hp i off ft _ hf hsz;have d:x.cells.size=v.cells.length:=by simpa using q
  have f:=C2D a vs i off v.cells.length x xs m d (by simp at l;omega);simp only;rw[f];have e:x.cells.size=x.cells.toList.length:=by simp
  refine B8b hu a hp ps xs _ c _ (by simpa using hl) (λj p y hp' hy=>hps (j+1) p y (by simpa using hp') (by simpa using hy)) ?_ ?_ o
  .simp only[d];exact((hr.take off).append g).append (hr.drop _)
  .intro y hy;simp only[Z0S]at hy;rcases hy with(hy|hy)|hy
   .exact h1 y (Z1k hy)
   .exact k y hy
   .exact h1 y (Z1m hy)
def B0m{P}{t:TypeId}{z}(h:A0H P t=some z)(G:A0o)(w:World):∃v:Value,(zeroValue t).run P w=.ok v w/\v.cells.toList=z/\A0t G (z.map .val) z:=by
 unfold A0H at h;split at h;case h_2=>simp at h
 rename_i i hi;simp only[Z0m]at h;obtain⟨v,hv,rfl⟩:=h;refine⟨v,by simp[zeroValue,typeInfo,hi,hv],rfl,?_⟩;generalize v.cells.toList=l;induction l with
 |nil=>simp[A0t]
 |cons x l ih=>simp only[Z0z,A0t];exact⟨x,l,rfl,by simp[Rep],ih⟩
def C7m{t:TypeId}{fs}(hu:C.P.underlying t=some (.struct fs))(a:A2G C.P t=true){z}(hz:A0H C.P t=some z)(d:z.all (·.oneCell')=true)
 {ps}{xs}(hl:ps.length=xs.size)(c:∀(j:Nat) (p:Nat×AV) (x:Nat×Value),ps[j]?=some p->xs.toList[j]?=some x->p.1=x.1/\Rep G p.2 x.2){cs}(h:A1b C.P t ps (z.map .val)=some cs):
 ∃u,(Instr.build t xs).run C.P w=.ok u w/\Rep G (.agg cs) u:=by
 obtain⟨v,hv,b,e⟩:=B0m (P:=C.P) hz G w
 unfold A2G at a
 rw[hu]at a
 have a:=Z0p.1 a
 have hm:(fs.mapM λf=>(do pure (f.offset,<-sizeOf f.type):Sem (Nat×Nat))).run C.P w=.ok (fs.map λf=>(f.offset,(A1u C.P f.type).getD 0)) w:=by
  refine D6u _ _ _ _ _ (λf hf=>?_);have:=a f hf;cases hs:A1u C.P f.type with
  |none=>simp[hs]at this
  |some n=>simp[A2k hs]
 obtain⟨vs',hf,hr,h1⟩:=B8b (C:=C) (G:=G) hu (λi=>(fs.map λf=>(f.offset,(A1u C.P f.type).getD 0))[i]?) (λi off ft n hfo hs=>by simp only[A0K,hu,Z0m]at hfo;obtain⟨x,hx,he⟩:=hfo;simp at he;obtain⟨rfl,rfl⟩:=he;simp[hx,hs]) ps xs.toList (z.map .val) cs v.cells (by simpa using hl) c (by rw[b];exact e) (λy hy=>by rw[b]at hy;exact Z0p.1 d y hy) h
 refine⟨.agg vs',?_,by simp only[Rep];exact⟨_,rfl,hr,h1⟩⟩
 simp only[Instr.build,Z0E,hv,Z0u,Z0q hu,hm,hf,Z0K]
def B6R(sz:Nat):∀(rows:List (List AV)) (i:Nat) (r:List AV),(∀q∈rows,q.length=sz)->r.length=sz->i<rows.length->
 (rows.set i r).flatten=rows.flatten.take (i*sz)++r++rows.flatten.drop (i*sz+sz)
 |[],i,r,_,_,h=>by simp at h
 |q::rows,0,r,hs,hr,_=>by have hq:=hs q (by simp);simp only[List.set_cons_zero,Z0X,Z2g,Z2w,Z1F,Z0N];rw[<-hq,List.drop_left]
 |q::rows,i+1,r,hs,hr,h=>by
  have hq:=hs q (by simp);have ih:=B6R sz rows i r (λx hx=>hs x (by simp[hx])) hr (by simpa using h);simp only[List.set_cons_succ,Z0X,ih];have e1:(i+1)*sz=q.length+i*sz:=by rw[Z0M,hq];omega
  rw[e1,List.take_length_add_append,Z2s q.length,List.drop_length_add_append];simp
def B5Z{sz}:∀(ps:List (Nat×AV)) (xs:List (Nat×Value)) (rows a:List (List AV)) (vs:Array Value),ps.length=xs.length->
 (∀(j:Nat) (p:Nat×AV) (x:Nat×Value),ps[j]?=some p->xs[j]?=some x->p.1=x.1/\Rep G p.2 x.2)->
 (∀q∈rows,q.length=sz)->A0t G rows.flatten vs.toList->(∀y∈vs.toList,y.oneCell'=true)->A0M sz ps rows=some a->
 ∃vs':Array Value,Instr.fill (λi=>some (i*sz,sz)) vs xs=some vs'/\A0t G a.flatten vs'.toList/\(∀y∈vs'.toList,y.oneCell'=true)/\(∀q∈a,q.length=sz)/\a.length=rows.length
 |[],xs,rows,a,vs,hl,_,hs,hr,h1,h=>by have:xs=[]:=Z0y (by simpa using hl.symm);subst this;simp[A0M]at h;subst h;exact⟨vs,by simp[Instr.fill],hr,h1,hs,rfl⟩
 |(i,v)::ps,[],_,_,_,hl,_,_,_,_,_=>by simp at hl
 |(i,v)::ps,(i',x)::xs,rows,a,vs,hl,hps,hs,hr,h1,h=>by
  obtain⟨rfl,hx⟩:=hps 0 _ _ rfl rfl;simp only at hx;simp only[A0M]at h;split at h;case isFalse=>simp at h
  rename_i hc;simp only[Z0f,Z0k]at hc;obtain⟨⟨m,b⟩,hi⟩:=hc;obtain⟨g,l⟩:=hx.cells m;have n:=g.length;have d:=hr.length;have k:rows.flatten.length=rows.length*sz:=by
   clear h hr d hps hi;induction rows with
   |nil=>simp
   |cons q rows ih=>simp only[Z0X,Z0t,Z0x,hs q (by simp),ih (λx hx=>hs x (by simp[hx])),Z0M];omega
  have c:x.cells.size=sz:=by rw[<-b];simpa using n
  have o:i*sz+sz<=rows.length*sz:=by have:(i+1)*sz<=rows.length*sz:=Z1f _ hi;rw[Z0M]at this;omega
  have r:vs.size=rows.length*sz:=by rw[k]at d;simpa using d
  have e:=C2D (λi=>some (i*sz,sz)) vs i (i*sz) sz x xs rfl c (by omega);simp only;rw[e];have f:=B5Z ps xs (rows.set i v.cells) a (vs.toList.take (i*sz)++x.cells.toList++vs.toList.drop (i*sz+x.cells.size)).toArray (by simpa using hl)
   (λj p y hp' hy=>hps (j+1) p y (by simpa using hp') (by simpa using hy))
   (λq hq=>by
    rcases Z3n hq with h|h
    .exact hs q h
    .subst h;exact b) ?_ ?_ h
  .obtain⟨vs',q1,q2,q3,q4,q5⟩:=f;exact⟨vs',q1,q2,q3,q4,by simpa using q5⟩
  .rw[B6R sz rows i v.cells hs b hi,c];exact((hr.take _).append g).append (hr.drop _)
  .intro y hy;simp only[Z0S]at hy;rcases hy with(hy|hy)|hy
   .exact h1 y (Z1k hy)
   .exact l y hy
   .exact h1 y (Z1m hy)
def B3s(z:List Value)(n sz:Nat)(hz:z.length=sz)(a:0<sz):((Array.range (n*sz)).map (λi=>z.toArray[i%z.toArray.size]!)).toList=(List.replicate n z).flatten:=by
 subst hz;apply Z1G;intro j;have hl:(List.replicate n z).flatten.length=n*z.length:=by simp
 by_cases hj:j<n*z.length
 .have h1:((Array.range (n*z.length)).map (λi=>z.toArray[i%z.toArray.size]!)).toList[j]?=some (z.toArray[j%z.length]!):=by simp[hj]
  rw[h1];have hm:j%z.length<z.length:=Nat.mod_lt _ a;have:∀(n j:Nat),j<n*z.length->(List.replicate n z).flatten[j]?=z[j%z.length]?:=by
   intro n;induction n with
   |zero=>intro j h;simp at h
   |succ n ih=>
    intro j h;rw[Z2o,Z0X];by_cases hlt:j<z.length
    .rw[Z0i hlt,Nat.mod_eq_of_lt hlt]
    .rw[Z1y (by omega),ih (j-z.length) (by rw[Z0M]at h;omega)];rw[<-Nat.mod_eq_sub_mod (by omega)]
  rw[this n j hj,Z0l hm];simp[hm]
 .rw[Z1s (by simp;omega),Z1s (by omega)]
def B2a(hi:Inv C G M w){t e:TypeId}(ht:A1f C.P t=some e){sz n}(hs:A1u C.P e=some sz){z}(hz:A0H C.P e=some z)(k:z.all (·.oneCell')=true)(d:z.length=sz)(c:0<sz)(f:n*sz<=2^24)
 {ps}{xs}(hl:ps.length=xs.size)(r:∀(j:Nat) (p:Nat×AV) (x:Nat×Value),ps[j]?=some p->xs.toList[j]?=some x->p.1=x.1/\Rep G p.2 x.2)
 {rows}(h:A0M sz ps (List.replicate n (z.map .val))=some rows):
 ∃vs':Array Value,(Instr.buildSlice t n xs).run C.P w=.ok (.slice (some ⟨w.heap.size,0,none⟩) n n) (w.alloc (.cells vs' e))/\A0t G rows.flatten vs'.toList/\(∀y∈vs'.toList,y.oneCell'=true)/\(∀q∈rows,q.length=sz)/\rows.length=n:=by
 obtain⟨v,hv,g,m⟩:=B0m (P:=C.P) hz G w
 have a:∀b:Array Value,(n*sz=0\/b=v.cells)->(Array.range (n*sz)).map (λx=>b[x%b.size]!)=(List.replicate n z).flatten.toArray:=by
  intro b h0;rcases h0 with h0|rfl
  ·(have:n=0:=by rcases Nat.mul_eq_zero.1 h0 with h|h<;>omega);subst this
   simp
  .apply Z1E;have:=B3s z n sz d c;rw[<-g]at this|-;simpa using this
 have o:A0t G (List.replicate n (z.map AV.val)).flatten (List.replicate n z).flatten:=by
  clear h a f;induction n with
  |zero=>simp[A0t]
  |succ n ih=>rw[Z2o,Z2o,Z0X,Z0X];exact m.append ih
 obtain⟨vs',q1,q2,q3,q4,q5⟩:=B5Z (G:=G) ps xs.toList (List.replicate n (z.map .val)) rows (List.replicate n z).flatten.toArray (by simpa using hl) r
  (λq hq=>by have:=(Z3s.1 hq).2;subst this;simpa using d) (by simpa using o) (λy hy=>by
   (have:y∈(List.replicate n z).flatten:=by simpa using hy);obtain⟨l,s,i⟩:=Z4c.1 this
   have:=(Z3s.1 s).2;subst this;exact Z0p.1 k y i) h
 refine⟨vs',?_,q2,q3,q4,by simpa using q5⟩
 .have hb:¬(n*sz>2^24):=by omega
  by_cases h0:n*sz=0
  .simp only[Instr.buildSlice,Z0E,Z0q (A2C ht),Z0u,A2k hs,Z0d hb,Z0e h0,Z0K,a #[] (.inl h0),q1,newRow,Z3J];rfl
  .simp only[Instr.buildSlice,Z0E,Z0q (A2C ht),Z0u,A2k hs,Z0d hb,Z0d h0,hv,Z0K,a v.cells (.inr rfl),q1,newRow,Z3J];rfl
def B6i(hi:Inv C G M w){t e:TypeId}(ht:A1f C.P t=some e){sz n}(hs:A1u C.P e=some sz){z}(hz:A0H C.P e=some z)(g:z.all (·.oneCell')=true)(k:z.length=sz)(a:0<sz)(c:n*sz<=2^24)
 {ps}{xs}(hl:ps.length=xs.size)(f:∀(j:Nat) (p:Nat×AV) (x:Nat×Value),ps[j]?=some p->xs.toList[j]?=some x->p.1=x.1/\Rep G p.2 x.2)
 {rows}(h:A0M sz ps (List.replicate n (z.map .val))=some rows):
 ∃u w' G',(Instr.buildSlice t n xs).run C.P w=.ok u w'/\G.le G'/\Inv C G' M w'/\Rep G' (.list sz rows .full) u/\Ext w w':=by
 obtain⟨vs',b,q2,q3,q4,hn⟩:=B2a hi ht hs hz g k a c hl f h
 have d:=A0o.le_fix hi vs'.toList
 refine⟨_,_,G.fix w.heap.size vs'.toList,b,d,hi.fix vs' e vs'.toList (λi v hv=>by simpa using hv),?_,Ext.alloc _ _⟩
 refine A5Q hn.symm (by omega) ?_ ⟨λ_=>rfl,?_⟩ (by simp only[A5I];exact hn.symm)
 .have:n<=n*sz:=Z2k _ a;simp only[maxLen];omega
 .refine A0C.mk q4 (A0N.mk (A0t.mono d _ _ q2) q3 (λj v hv=>?_));simp only[A0o.fix,Z0T,Z0N];exact hv
def Inv.newVec(hi:Inv C G M w){n cap sz}{cs}{vs}(t:TypeId)(hr:A0t G cs (vs.toList.take (n*sz)))(h1:∀v∈vs.toList.take (n*sz),v.oneCell'=true)(k:vs.size=cap*sz)(hn:n<=cap)(d:cap<=maxLen):∃G',Inv C G' (M++[.vec t sz cs 0 [(0,n)]]) (w.alloc (.cells vs t))/\G.le G'/\Rep G' (.vref M.length 0 sz 0 n) (.slice (some ⟨w.heap.size,0,none⟩) n cap):=by
 have o:n*sz<=cap*sz:=Z1f _ hn
 have f:cs.length=n*sz:=by rw[<-hr.length];simp;omega
 obtain⟨G',i,e,l,g,j,p⟩:=hi.newObj (.cells vs t) (.vec t sz cs 0 [(0,n)]) (λ_=>(some ⟨w.heap.size,0,none⟩,cap)) 0
  (λG' e _ hh ht hst hk=>⟨ht,λh m hm=>by
   simp only[Z0I,Z0h]at hm;obtain⟨rfl,rfl⟩:=hm;refine⟨by omega,Z2I f.symm,w.heap.size,0,cap,vs,by rw[hh],hn,d,Z2h w _,Z2I (by rw[k,Z0N]),?_,?_,hst,hk⟩
   .rw[Z1h,Z0g (Z2I f)];exact A0t.mono e _ _ hr
   .rw[Z1h];exact h1,λh n h' n' a a' c c' m1 m2 e1 e2 _=>by
   rw[hh]at e1 e2;simp only[Z0h,Z0b]at e1 e2;rw[<-e1.1,<-e2.1]⟩)
  (λG' b _ hh hown=>by obtain⟨h,m,a,_,ha,rfl⟩:=hown;rw[hh]at ha;simp only[Z0b]at ha;rw[<-ha])
 refine⟨G',i,e,?_⟩
 simp only[Rep]
 exact⟨g,by omega,⟨w.heap.size,0,none⟩,⟨w.heap.size,0,none⟩,cap,by rw[j],rfl,rfl,by simp,by omega,d,λ_=>by simp⟩
def A2m(P:Program)(t:TypeId)(n:Nat)(parts:List (Nat×AV))(M:Mem):Option (AV×Mem):=match A1f P t with
 |some e=>match A1u P e,A0H P e with
  |some sz,some z=>if n*sz<=2^24/\z.length=sz/\z.all (·.oneCell')/\0<sz then
   (A0M sz parts (List.replicate n (z.map .val))).map λrows=>(.vref M.length 0 sz 0 n,M++[.vec e sz rows.flatten 0 [(0,n)]])
   else none
  |_,_=>none
 |none=>none
def C3L(hi:Inv C G M w){t:TypeId}{n}{ps}{xs}(hl:ps.length=xs.size)(k:∀(j:Nat) (p:Nat×AV) (x:Nat×Value),ps[j]?=some p->xs.toList[j]?=some x->p.1=x.1/\Rep G p.2 x.2)
 {v}{M'}(h:A2m C.P t n ps M=some (v,M')):
 ∃u w' G',(Instr.buildSlice t n xs).run C.P w=.ok u w'/\G.le G'/\Inv C G' M' w'/\Rep G' v u/\Ext w w':=by
 unfold A2m at h
 split at h
 case h_2=>simp at h
 rename_i e he
 split at h
 case h_2=>simp at h
 rename_i sz z hs hz
 split at h
 case isFalse=>simp at h
 rename_i hc
 obtain⟨c1,c2,c3,c4⟩:=hc
 simp only[Z0m,Z0h]at h
 obtain⟨rows,a,rfl,rfl⟩:=h
 obtain⟨vs',c,q2,q3,q4,hn⟩:=B2a hi he hs hz c3 c2 c4 c1 hl k a
 have b:rows.flatten.length=n*sz:=by
  rw[<-hn];clear a q2 hn;induction rows with
  |nil=>simp
  |cons r rs ih=>rw[Z0X,Z0t,ih (λq hq=>q4 q (by simp[hq])),q4 r (by simp),Z0x,Z0M];omega
 have i:n<=maxLen:=by have:n<=n*sz:=Z2k _ c4;simp only[maxLen];omega
 have g:vs'.size=n*sz:=by rw[<-b,<-q2.length];simp
 have d:vs'.toList.take (n*sz)=vs'.toList:=Z0g (by simp[g])
 obtain⟨G',l,m,f⟩:=hi.newVec (n:=n) (cap:=n) e (by rw[d];exact q2) (by rw[d];exact q3) g (Z0n _) i
 exact⟨_,_,G',c,m,l,f,Ext.alloc _ _⟩
end
section
variable {C:Ctx} {G:A0o} {M:Mem} {w:World}
def B5l{f g sz lo0 len}{xv}(hx:Rep G (.vref f g sz lo0 len) xv){t:TypeId}{lo hi mx}{xlo xhi xmx}{v}
 (r:∀a,lo=some a->∃x,xlo=some x/\Rep G a x)(c:lo=none->xlo=none)
 (n:∀a,hi=some a->∃x,xhi=some x/\Rep G a x)(j:hi=none->xhi=none)
 (s:∀a,mx=some a->∃x,xmx=some x/\Rep G a x)(i:mx=none->xmx=none)(h:A5w C.P t f g sz lo0 len lo hi mx=some v):
 ∃u,(Instr.sliceAt t xv xlo xhi xmx).run C.P w=.ok u w/\Rep G v u:=by
 unfold A5w at h
 split at h
 case h_2=>simp at h
 rename_i m e hm he
 split at h
 case isFalse=>simp at h
 rename_i hsz
 split at h
 case h_2=>simp at h
 rename_i hh hhe hb
 split at h
 case h_2=>simp at h
 rename_i l hl
 simp only[Rep]at hx
 obtain⟨hf,hg,a,a',cap,hd,p,b,rfl,z,o,k⟩:=hx
 obtain⟨m',d,q1,q2,q3,q4,q5,q6⟩:=B3H (C:=C) (w:=w) (G:=G) (len:=len) (cap:=cap-lo0) (by omega) r c n j s i hm hhe hb hl
 refine⟨.slice (if m'=l then some a' else(some a').map (·.add (l*sz))) (hh-l) (m'-l),?_,?_⟩
 .simp[Instr.sliceAt,Instr.slice,Z0q (A2C he),d,A2k hsz]
 .split at h
  .have e6:=q6 rfl;subst e6;simp only[Z0b]at h;subst h;simp only[Rep];refine⟨hf,hg,a,if cap-lo0=l then a' else a'.add (l*sz),cap,hd,p,?_,?_,by omega,o,λy=>?_⟩
   .split
    .exact b
    .rw[k (by omega),Z1t]
   .split<;>simp<;>omega
   .rw[Z0d (by omega),k (by omega),Z1t];simp only[Z3y,Z2u,Z1D];rw[Z0M];omega
  .rename_i q;split at h
   .rename_i hql;simp only[Z0b]at h;subst h;have e5:=q5 q rfl;(have h1:hh-l=0:=by omega);(have h2:m'-l=0:=by omega);rw[Z0e (by omega),h1,h2];simp only[Rep];exact⟨some a',0,rfl,Z0n _,by simp[maxLen],⟨λ_=>b,by simp[A0C]⟩,rfl⟩
   .simp at h
def A6E(P:Program)(t:TypeId)(l c:AV)(M:Mem):Option (AV×Mem):=
 match A1f P t,l,c with
 |some e,.val (.int _ l),.val (.int _ c)=>match A1u P e,A0H P e,C3Y P e with
  |some sz,some z,some b=>if z.length=sz/\z.all (·.oneCell')/\0<sz/\0<=l/\l<=c/\c.toNat*sz<=16777216/\(b:Int)*c<=281474976710656 then
   some (.vref M.length 0 sz 0 l.toNat,M++[.vec e sz (List.replicate l.toNat (z.map .val)).flatten 0 [(0,l.toNat)]])
   else none
  |_,_,_=>none
 |_,_,_=>none
def C6M(hi:Inv C G M w){t:TypeId}{l c}{lv cv}(hl:Rep G l lv)(hc:Rep G c cv){v}{M'}(h:A6E C.P t l c M=some (v,M')):∃u w' G',(Instr.makeSlice t lv cv).run C.P w=.ok u w'/\G.le G'/\Inv C G' M' w'/\Rep G' v u/\Ext w w':=by
 unfold A6E at h
 split at h
 case h_2=>simp at h
 rename_i e kl l kc c he
 simp only[Rep]at hl hc
 subst hl;subst hc
 split at h
 case h_2=>simp at h
 rename_i sz z b hs hz hb
 split at h
 case isFalse=>simp at h
 rename_i hcond
 obtain⟨c1,c2,c3,c4,c5,c6,c7⟩:=hcond
 simp only[Z0b,Z0h]at h
 obtain⟨rfl,rfl⟩:=h
 obtain⟨i,d,g⟩:=D2o hs
 have a0:i.bytes=b:=by simpa[C3Y,d]using hb
 simp only[A0H,d,Z0m]at hz
 obtain⟨zv,a1,rfl⟩:=hz
 have a3:c.toNat<=16777216:=Z0R (Z2k _ c3) c6
 have j:=run_makeSlice (P:=C.P) w t e i zv (A2C he) d a1 kl kc l c c4 c5 (by rw[g];exact c6) (by rw[a0];exact c7) (by omega)
 rw[g]at j
 have m:(madeCells zv.cells (c.toNat*sz)).toList=(List.replicate c.toNat zv.cells.toList).flatten:=by have:=B3s zv.cells.toList c.toNat sz c1 c3;simpa[madeCells]using this
 have k:(madeCells zv.cells (c.toNat*sz)).size=c.toNat*sz:=by simp[madeCells]
 have f:(madeCells zv.cells (c.toNat*sz)).toList.take (l.toNat*sz)=(List.replicate l.toNat zv.cells.toList).flatten:=by
  rw[m];have e1:c.toNat=l.toNat+(c.toNat-l.toNat):=by omega
  have e2:(List.replicate l.toNat zv.cells.toList).flatten.length=l.toNat*sz:=by rw[List.length_flatten];simp[c1]
  rw[e1,<-List.replicate_append_replicate,List.flatten_append,<-e2,Z4p]
 have o:∀n,A0t G (List.replicate n (zv.cells.toList.map AV.val)).flatten (List.replicate n zv.cells.toList).flatten:=by
  intro n;induction n with
  |zero=>simp[A0t]
  |succ n ih=>rw[Z2o,Z2o,Z0X,Z0X];refine A0t.append ?_ ih;refine A0t.of_get (by simp) ?_;intro i c y h1 h2;simp only[Z1g,Z0m]at h1;obtain⟨a,ha,rfl⟩:=h1;rw[ha]at h2;simp only[Z0b]at h2;subst h2;simp[Rep]
 obtain⟨G',x,a2,r⟩:=hi.newVec (n:=l.toNat) (cap:=c.toNat) (sz:=sz) e (by rw[f];exact o l.toNat) (by rw[f];intro v hv;obtain⟨q,s,p⟩:=Z4c.1 hv;rw[(Z3s.1 s).2]at p;exact Z0p.1 c2 v p) k (by omega) (by simp only[maxLen];omega)
 exact⟨_,_,G',j,a2,x,r,Ext.alloc _ _⟩
end
section
variable {α:Type}
end
end Go.Abs
