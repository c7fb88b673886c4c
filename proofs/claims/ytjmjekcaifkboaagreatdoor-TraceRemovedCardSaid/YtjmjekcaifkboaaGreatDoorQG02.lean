/- The texts AbsJ, AbsX1, SoA. -/
import Derived.Test.YtjmjekcaifkboaaGreatDoorQG01
set_option linter.all false
namespace Go.Abs
section
variable {C:Ctx} {G:A0q} {M:Mem} {w:World}
def A8w{ys}{cs}(hr:A0v G cs ys.toList)(h1:∀y∈ys.toList,y.oneCell'=true){ft:TypeId}{k}{v}(a:(A1n C.P ft).any (λn=>decide (k+n<=cs.length))=true)
 (h:A0p C.P ft (cs.drop k)=some v):∃u,(part ft ys k).run C.P w=.ok u w/\Rep G v u:=by
 have d:=hr.length
 unfold A0p at h
 split at h
 .rename_i n ha hs;split at h
  .rename_i hle;simp at h;subst h;simp[hs]at a;refine⟨.agg (ys.extract k (k+n)),by simp[part,B2i ha,A1U hs],?_⟩;simp only[Rep];refine⟨_,rfl,?_,λy hy=>h1 y ?_⟩
   ·(have:(ys.extract k (k+n)).toList=(ys.toList.drop k).take n:=by simp[List.take_drop]);rw[this]
    exact(hr.drop k).take n
   ·(have:(ys.extract k (k+n)).toList=(ys.toList.drop k).take n:=by simp[List.take_drop]);rw[this]at hy
    exact Z1w (Z1x hy)
  .simp at h
 .rename_i n ha hs;split at h
  .rename_i c rest hd;simp at h;subst h;(have hc:cs[k]?=some c:=by(have:(cs.drop k)[0]?=some c:=by rw[hd];rfl);simpa using this);obtain⟨y,hy,b⟩:=hr.get hc;(have:ys[k]?=some y:=by simpa using hy);exact⟨y,by simp[part,B2i ha,this],b⟩
  .simp at h
 .simp at h
def C1o(a:Nat->Option (Nat×Nat))(cells:Array Value)(i off b:Nat)(v:Value)(c:List (Nat×Value))(hp:a i=some (off,b))(hs:v.cells.size=b)(hf:off+v.cells.size<=cells.size):Instr.fill a cells ((i,v)::c)=Instr.fill a (cells.toList.take off++v.cells.toList++cells.toList.drop (off+v.cells.size)).toArray c:=by
 simp only[Instr.fill,hp]
 rw[Z0d (by simp[hs];omega)]
 congr 1
 have d:∀(l:List Value) (s:Nat) (cs:Array Value),off+s+l.length<=cs.size->
  (l.zipIdx s).foldl (λcs (x:Value×Nat)=>cs.setIfInBounds (off+x.2) x.1) cs=(cs.toList.take (off+s)++l++cs.toList.drop (off+s+l.length)).toArray:=by
  intro l
  induction l with
  |nil=>intro s cs _;apply Z1O;simp
  |cons x l ih=>
   intro s cs e
   simp only[Z0r]at e
   simp only[List.zipIdx_cons,Z1U]
   rw[ih (s+1) (cs.setIfInBounds (off+s) x) ZAB]
   apply Z1O
   simp only[Array.toList_setIfInBounds]
   apply Z1W
   intro j
   simp only[Z0Z,Z0B,Z0H,Z2T,Z0t,Z1Q,Z0X,Z0k,Z0r,List.getElem?_cons]
   by_cases h1:j<off+s
   .have:¬(off+s=j):=Q0;simp[h1,this]
    grind
   .by_cases h2:j=off+s
    .subst h2;simp;grind
    .grind
 have:=d v.cells.toList 0 cells (by simpa using hf)
 simp only[Z0Y]at this
 rw[<-Array.foldl_toList]
 simpa using this
def B2x{α β:Type}(P:Program)(f:α->Sem β)(g:α->β)(w:World):∀(l:List α),(∀x∈l,(f x).run P w=.ok (g x) w)->(l.mapM f).run P w=.ok (l.map g) w
 |[],_=>by simp
 |x::l,h=>by have h1:=h x Q1;have h2:=B2x P f g w l (λy hy=>h y (by simp[hy]));simp[Z3u,h1,h2]
def D5g{α β:Type}(P:Program)(f:α->Sem β)(g:α->β)(w:World)(a:Array α)(h:∀x∈a.toList,(f x).run P w=.ok (g x) w):(a.mapM f).run P w=.ok (a.map g) w:=by
 have h1:=B2x P f g w a.toList h;have e:a.mapM f=(List.toArray <$> a.toList.mapM f):=by simp[Z4o]
 rw[e,Sem.run_map,h1];simp only[Z0u];congr 1;apply Z1O;simp
def B7m{t:TypeId}{fs}(hu:C.P.underlying t=some (.struct fs))(a:Nat->Option (Nat×Nat))
 (hp:∀i off ft n,A0U C.P t i=some (off,ft)->A1n C.P ft=some n->a i=some (off,n)):
 ∀(ps:List (Nat×AV)) (xs:List (Nat×Value)) (cs c:List AV) (vs:Array Value),ps.length=xs.length->(∀(j:Nat) (p:Nat×AV) (x:Nat×Value),ps[j]?=some p->xs[j]?=some x->p.1=x.1/\Rep G p.2 x.2)->
  A0v G cs vs.toList->(∀y∈vs.toList,y.oneCell'=true)->A1l C.P t ps cs=some c->
  ∃vs':Array Value,Instr.fill a vs xs=some vs'/\A0v G c vs'.toList/\∀y∈vs'.toList,y.oneCell'=true
 |[],xs,cs,c,vs,hl,_,hr,h1,h=>by have:xs=[]:=Z0w (by simpa using hl.symm);subst this;simp[A1l]at h;subst h;exact⟨vs,by simp[Instr.fill],hr,h1⟩
 |(i,v)::ps,[],_,_,_,hl,_,_,_,_=>by simp at hl
 |(i,v)::ps,(i',x)::xs,cs,c,vs,hl,hps,hr,h1,h=>by
  obtain⟨rfl,hx⟩:=hps 0 _ _ rfl rfl;simp only at hx;simp only[A1l]at h;split at h;case h_2=>simp at h
  rename_i off ft hf;split at h;case isFalse=>simp at h
  rename_i hsz;simp only[Z2j]at h;obtain⟨r,b,o⟩:=h;unfold putCells at b;split at b;case isFalse=>simp at b
  rename_i hc;simp only[Z0h,Z0n]at hc;simp only[Z0b]at b;subst b;obtain⟨g,k⟩:=hx.cells hc.1;have q:=g.length;have l:=hr.length;have m:=hp i off ft _ hf hsz;have d:x.cells.size=v.cells.length:=by simpa using q
  have f:=C1o a vs i off v.cells.length x xs m d (by simp at l;omega);simp only;rw[f];have e:x.cells.size=x.cells.toList.length:=ZBG
  refine B7m hu a hp ps xs _ c _ ZDL (λj p y hp' hy=>hps (j+1) p y (by simpa using hp') (by simpa using hy)) ?_ ?_ o
  .simp only[d];exact((hr.take off).append g).append (hr.drop _)
  .intro y hy;simp only[Z0N]at hy;rcases hy with(hy|hy)|hy
   .exact h1 y (Z1x hy)
   .exact k y hy
   .exact h1 y (Z1w hy)
def A9P{P}{t:TypeId}{z}(h:A0G P t=some z)(G:A0q)(w:World):∃v:Value,(zeroValue t).run P w=.ok v w/\v.cells.toList=z/\A0v G (z.map .val) z:=by
 unfold A0G at h;split at h;case h_2=>simp at h
 rename_i i hi;simp only[Z0l]at h;obtain⟨v,hv,rfl⟩:=h;refine⟨v,by simp[zeroValue,typeInfo,hi,hv],rfl,?_⟩;generalize v.cells.toList=l;induction l with
 |nil=>simp[A0v]
 |cons x l ih=>simp only[Z0x,A0v];exact⟨x,l,rfl,ZAE,ih⟩
def C5v{t:TypeId}{fs}(hu:C.P.underlying t=some (.struct fs))(a:A3c C.P t=true){z}(hz:A0G C.P t=some z)(d:z.all (·.oneCell')=true)
 {ps}{xs}(hl:ps.length=xs.size)(c:∀(j:Nat) (p:Nat×AV) (x:Nat×Value),ps[j]?=some p->xs.toList[j]?=some x->p.1=x.1/\Rep G p.2 x.2){cs}(h:A1l C.P t ps (z.map .val)=some cs):
 ∃u,(Instr.build t xs).run C.P w=.ok u w/\Rep G (.agg cs) u:=by
 obtain⟨v,hv,b,e⟩:=A9P (P:=C.P) hz G w
 unfold A3c at a
 rw[hu]at a
 have a:=Z0D.1 a
 have hm:(fs.mapM λf=>(do pure (f.offset,<-sizeOf f.type):Sem (Nat×Nat))).run C.P w=.ok (fs.map λf=>(f.offset,(A1n C.P f.type).getD 0)) w:=by
  refine D5g _ _ _ _ _ (λf hf=>?_);have:=a f hf;cases hs:A1n C.P f.type with
  |none=>simp[hs]at this
  |some n=>simp[A1U hs]
 obtain⟨vs',hf,hr,h1⟩:=B7m (C:=C) (G:=G) hu (λi=>(fs.map λf=>(f.offset,(A1n C.P f.type).getD 0))[i]?) (λi off ft n hfo hs=>by simp only[A0U,hu,Z0l]at hfo;obtain⟨x,hx,he⟩:=hfo;simp at he;obtain⟨rfl,rfl⟩:=he;simp[hx,hs]) ps xs.toList (z.map .val) cs v.cells ZDL c (by rw[b];exact e) (λy hy=>by rw[b]at hy;exact Z0D.1 d y hy) h
 refine⟨.agg vs',?_,by simp only[Rep];exact⟨_,rfl,hr,h1⟩⟩
 simp only[Instr.build,Z0E,hv,Z0u,Z0q hu,hm,hf,Z0O]
def B5W(sz:Nat):∀(rows:List (List AV)) (i:Nat) (r:List AV),(∀q∈rows,q.length=sz)->r.length=sz->i<rows.length->
 (rows.set i r).flatten=rows.flatten.take (i*sz)++r++rows.flatten.drop (i*sz+sz)
 |[],i,r,_,_,h=>by simp at h
 |q::rows,0,r,hs,hr,_=>by have hq:=hs q Q1;simp only[Z4f,Z1d,Z1S,Z2c,Z1y,Z0P];rw[<-hq,List.drop_left]
 |q::rows,i+1,r,hs,hr,h=>by
  have hq:=hs q Q1;have ih:=B5W sz rows i r (λx hx=>hs x (by simp[hx])) hr ZAJ;simp only[Z4g,Z1d,ih];have e1:(i+1)*sz=q.length+i*sz:=by rw[Z0R,hq];omega
  rw[e1,List.take_length_add_append,Z2F q.length,List.drop_length_add_append];simp
def B4V{sz}:∀(ps:List (Nat×AV)) (xs:List (Nat×Value)) (rows a:List (List AV)) (vs:Array Value),ps.length=xs.length->
 (∀(j:Nat) (p:Nat×AV) (x:Nat×Value),ps[j]?=some p->xs[j]?=some x->p.1=x.1/\Rep G p.2 x.2)->
 (∀q∈rows,q.length=sz)->A0v G rows.flatten vs.toList->(∀y∈vs.toList,y.oneCell'=true)->A1g sz ps rows=some a->
 ∃vs':Array Value,Instr.fill (λi=>some (i*sz,sz)) vs xs=some vs'/\A0v G a.flatten vs'.toList/\(∀y∈vs'.toList,y.oneCell'=true)/\(∀q∈a,q.length=sz)/\a.length=rows.length
 |[],xs,rows,a,vs,hl,_,hs,hr,h1,h=>by have:xs=[]:=Z0w (by simpa using hl.symm);subst this;simp[A1g]at h;subst h;exact⟨vs,by simp[Instr.fill],hr,h1,hs,rfl⟩
 |(i,v)::ps,[],_,_,_,hl,_,_,_,_,_=>by simp at hl
 |(i,v)::ps,(i',x)::xs,rows,a,vs,hl,hps,hs,hr,h1,h=>by
  obtain⟨rfl,hx⟩:=hps 0 _ _ rfl rfl;simp only at hx;simp only[A1g]at h;split at h;case isFalse=>simp at h
  rename_i hc;simp only[Z0h,Z0n]at hc;obtain⟨⟨m,b⟩,hi⟩:=hc;obtain⟨g,l⟩:=hx.cells m;have n:=g.length;have d:=hr.length;have k:rows.flatten.length=rows.length*sz:=by
   clear h hr d hps hi;induction rows with
   |nil=>simp
   |cons q rows ih=>simp only[Z1d,Z0k,Z0r,hs q Q1,ih (λx hx=>hs x (by simp[hx])),Z0R];omega
  have c:x.cells.size=sz:=by rw[<-b];simpa using n
  have o:i*sz+sz<=rows.length*sz:=by have:(i+1)*sz<=rows.length*sz:=Z0V _ hi;rw[Z0R]at this;omega
  have r:vs.size=rows.length*sz:=by rw[k]at d;simpa using d
  have e:=C1o (λi=>some (i*sz,sz)) vs i (i*sz) sz x xs rfl c Q0;simp only;rw[e];have f:=B4V ps xs (rows.set i v.cells) a (vs.toList.take (i*sz)++x.cells.toList++vs.toList.drop (i*sz+x.cells.size)).toArray ZDL
   (λj p y hp' hy=>hps (j+1) p y (by simpa using hp') (by simpa using hy))
   (λq hq=>by
    rcases Z2x hq with h|h
    .exact hs q h
    .subst h;exact b) ?_ ?_ h
  .obtain⟨vs',q1,q2,q3,q4,q5⟩:=f;exact⟨vs',q1,q2,q3,q4,by simpa using q5⟩
  .rw[B5W sz rows i v.cells hs b hi,c];exact((hr.take _).append g).append (hr.drop _)
  .intro y hy;simp only[Z0N]at hy;rcases hy with(hy|hy)|hy
   .exact h1 y (Z1x hy)
   .exact l y hy
   .exact h1 y (Z1w hy)
def B2S(z:List Value)(n sz:Nat)(hz:z.length=sz)(a:0<sz):((Array.range (n*sz)).map (λi=>z.toArray[i%z.toArray.size]!)).toList=(List.replicate n z).flatten:=by
 subst hz;apply Z1W;intro j;have hl:(List.replicate n z).flatten.length=n*z.length:=ZBG
 by_cases hj:j<n*z.length
 .have h1:((Array.range (n*z.length)).map (λi=>z.toArray[i%z.toArray.size]!)).toList[j]?=some (z.toArray[j%z.length]!):=by simp[hj]
  rw[h1];have hm:j%z.length<z.length:=Nat.mod_lt _ a;have:∀(n j:Nat),j<n*z.length->(List.replicate n z).flatten[j]?=z[j%z.length]?:=by
   intro n;induction n with
   |zero=>intro j h;simp at h
   |succ n ih=>
    intro j h;rw[Z2m,Z1d];by_cases hlt:j<z.length
    .rw[Z0o hlt,Nat.mod_eq_of_lt hlt]
    .rw[Z1t Q0,ih (j-z.length) (by rw[Z0R]at h;omega)];rw[<-Nat.mod_eq_sub_mod Q0]
  rw[this n j hj,Z0g hm];simp[hm]
 .rw[Z1J ZAB,Z1J Q0]
def B1o(hi:Inv C G M w){t e:TypeId}(ht:A1b C.P t=some e){sz n}(hs:A1n C.P e=some sz){z}(hz:A0G C.P e=some z)(k:z.all (·.oneCell')=true)(d:z.length=sz)(c:0<sz)(f:n*sz<=2^24)
 {ps}{xs}(hl:ps.length=xs.size)(r:∀(j:Nat) (p:Nat×AV) (x:Nat×Value),ps[j]?=some p->xs.toList[j]?=some x->p.1=x.1/\Rep G p.2 x.2)
 {rows}(h:A1g sz ps (List.replicate n (z.map .val))=some rows):
 ∃vs':Array Value,(Instr.buildSlice t n xs).run C.P w=.ok (.slice (some ⟨w.heap.size,0,none⟩) n n) (w.alloc (.cells vs' e))/\A0v G rows.flatten vs'.toList/\(∀y∈vs'.toList,y.oneCell'=true)/\(∀q∈rows,q.length=sz)/\rows.length=n:=by
 obtain⟨v,hv,g,m⟩:=A9P (P:=C.P) hz G w
 have a:∀b:Array Value,(n*sz=0\/b=v.cells)->(Array.range (n*sz)).map (λx=>b[x%b.size]!)=(List.replicate n z).flatten.toArray:=by
  intro b h0;rcases h0 with h0|rfl
  ·(have:n=0:=by rcases Nat.mul_eq_zero.1 h0 with h|h<;>omega);subst this
   simp
  .apply Z1O;have:=B2S z n sz d c;rw[<-g]at this|-;simpa using this
 have o:A0v G (List.replicate n (z.map AV.val)).flatten (List.replicate n z).flatten:=by
  clear h a f;induction n with
  |zero=>simp[A0v]
  |succ n ih=>rw[Z2m,Z2m,Z1d,Z1d];exact m.append ih
 obtain⟨vs',q1,q2,q3,q4,q5⟩:=B4V (G:=G) ps xs.toList (List.replicate n (z.map .val)) rows (List.replicate n z).flatten.toArray ZDL r
  (λq hq=>by have:=(Z3q.1 hq).2;subst this;simpa using d) (by simpa using o) (λy hy=>by
   (have:y∈(List.replicate n z).flatten:=by simpa using hy);obtain⟨l,s,i⟩:=Z3K.1 this
   have:=(Z3q.1 s).2;subst this;exact Z0D.1 k y i) h
 refine⟨vs',?_,q2,q3,q4,by simpa using q5⟩
 .have hb:¬(n*sz>2^24):=Q0;by_cases h0:n*sz=0
  .simp only[Instr.buildSlice,Z0E,Z0q (A2q ht),Z0u,A1U hs,Z0d hb,Z0c h0,Z0O,a #[] (.inl h0),q1,newRow,Z3T];rfl
  .simp only[Instr.buildSlice,Z0E,Z0q (A2q ht),Z0u,A1U hs,Z0d hb,Z0d h0,hv,Z0O,a v.cells (.inr rfl),q1,newRow,Z3T];rfl
def B5d(hi:Inv C G M w){t e:TypeId}(ht:A1b C.P t=some e){sz n}(hs:A1n C.P e=some sz){z}(hz:A0G C.P e=some z)(g:z.all (·.oneCell')=true)(k:z.length=sz)(a:0<sz)(c:n*sz<=2^24)
 {ps}{xs}(hl:ps.length=xs.size)(f:∀(j:Nat) (p:Nat×AV) (x:Nat×Value),ps[j]?=some p->xs.toList[j]?=some x->p.1=x.1/\Rep G p.2 x.2)
 {rows}(h:A1g sz ps (List.replicate n (z.map .val))=some rows):
 ∃u w' G',(Instr.buildSlice t n xs).run C.P w=.ok u w'/\G.le G'/\Inv C G' M w'/\Rep G' (.list sz rows .full) u/\Ext w w':=by
 obtain⟨vs',b,q2,q3,q4,hn⟩:=B1o hi ht hs hz g k a c hl f h
 have d:=A0q.le_fix hi vs'.toList
 refine⟨_,_,G.fix w.heap.size vs'.toList,b,d,hi.fix vs' e vs'.toList (λi v hv=>by simpa using hv),?_,Ext.alloc _ _⟩
 refine A5C hn.symm Q0 ?_ ⟨λ_=>rfl,?_⟩ (by simp only[A5v];exact hn.symm)
 .have:n<=n*sz:=Z2i _ a;simp only[maxLen];omega
 .refine A0F.mk q4 (A0S.mk (A0v.mono d _ _ q2) q3 (λj v hv=>?_));simp only[A0q.fix,Z1e,Z0P];exact hv
def Inv.newVec(hi:Inv C G M w){n cap sz}{cs}{vs}(t:TypeId)(hr:A0v G cs (vs.toList.take (n*sz)))(h1:∀v∈vs.toList.take (n*sz),v.oneCell'=true)(k:vs.size=cap*sz)(hn:n<=cap)(d:cap<=maxLen):∃G',Inv C G' (M++[.vec t sz cs 0 [(0,n)]]) (w.alloc (.cells vs t))/\G.le G'/\Rep G' (.vref M.length 0 sz 0 n) (.slice (some ⟨w.heap.size,0,none⟩) n cap):=by
 have o:n*sz<=cap*sz:=Z0V _ hn
 have f:cs.length=n*sz:=by rw[<-hr.length];simp;omega
 obtain⟨G',i,e,l,g,j,p⟩:=hi.newObj (.cells vs t) (.vec t sz cs 0 [(0,n)]) (λ_=>(some ⟨w.heap.size,0,none⟩,cap)) 0
  (λG' e _ hh ht hst hk=>⟨ht,λh m hm=>by
   simp only[Z0L,Z0i]at hm;obtain⟨rfl,rfl⟩:=hm;refine⟨Q0,Z2p f.symm,w.heap.size,0,cap,vs,by rw[hh],hn,d,Z1Z w _,Z2p (by rw[k,Z0P]),?_,?_,hst,hk⟩
   .rw[Z1z,Z0e (Z2p f)];exact A0v.mono e _ _ hr
   .rw[Z1z];exact h1,λh n h' n' a a' c c' m1 m2 e1 e2 _=>by
   rw[hh]at e1 e2;simp only[Z0i,Z0b]at e1 e2;rw[<-e1.1,<-e2.1]⟩)
  (λG' b _ hh hown=>by obtain⟨h,m,a,_,ha,rfl⟩:=hown;rw[hh]at ha;simp only[Z0b]at ha;rw[<-ha])
 refine⟨G',i,e,?_⟩
 simp only[Rep]
 exact⟨g,Q0,⟨w.heap.size,0,none⟩,⟨w.heap.size,0,none⟩,cap,by rw[j],rfl,rfl,Q1,Q0,d,λ_=>by simp⟩
def A1C(P:Program)(t:TypeId)(n:Nat)(parts:List (Nat×AV))(M:Mem):Option (AV×Mem):=match A1b P t with
 |some e=>match A1n P e,A0G P e with
  |some sz,some z=>if n*sz<=2^24/\z.length=sz/\z.all (·.oneCell')/\0<sz then
   (A1g sz parts (List.replicate n (z.map .val))).map λrows=>(.vref M.length 0 sz 0 n,M++[.vec e sz rows.flatten 0 [(0,n)]])
   else none
  |_,_=>none
 |none=>none
def C2A(hi:Inv C G M w){t:TypeId}{n}{ps}{xs}(hl:ps.length=xs.size)(k:∀(j:Nat) (p:Nat×AV) (x:Nat×Value),ps[j]?=some p->xs.toList[j]?=some x->p.1=x.1/\Rep G p.2 x.2)
 {v}{M'}(h:A1C C.P t n ps M=some (v,M')):
 ∃u w' G',(Instr.buildSlice t n xs).run C.P w=.ok u w'/\G.le G'/\Inv C G' M' w'/\Rep G' v u/\Ext w w':=by
 unfold A1C at h
 split at h
 case h_2=>simp at h
 rename_i e he
 split at h
 case h_2=>simp at h
 rename_i sz z hs hz
 split at h
 case isFalse=>simp at h
 rename_i hc
 obtain⟨c1,c2,c3,c4⟩:=hc
 simp only[Z0l,Z0i]at h
 obtain⟨rows,a,rfl,rfl⟩:=h
 obtain⟨vs',c,q2,q3,q4,hn⟩:=B1o hi he hs hz c3 c2 c4 c1 hl k a
 have b:rows.flatten.length=n*sz:=by
  rw[<-hn];clear a q2 hn;induction rows with
  |nil=>simp
  |cons r rs ih=>rw[Z1d,Z0k,ih (λq hq=>q4 q ZBH),q4 r Q1,Z0r,Z0R];omega
 have i:n<=maxLen:=by have:n<=n*sz:=Z2i _ c4;simp only[maxLen];omega
 have g:vs'.size=n*sz:=by rw[<-b,<-q2.length];simp
 have d:vs'.toList.take (n*sz)=vs'.toList:=Z0e (by simp[g])
 obtain⟨G',l,m,f⟩:=hi.newVec (n:=n) (cap:=n) e (by rw[d];exact q2) (by rw[d];exact q3) g (Z0j _) i
 exact⟨_,_,G',c,m,l,f,Ext.alloc _ _⟩
end
section
variable {C:Ctx} {G:A0q} {M:Mem} {w:World}
def B4k{f g sz lo0 len}{xv}(hx:Rep G (.vref f g sz lo0 len) xv){t:TypeId}{lo hi mx}{xlo xhi xmx}{v}
 (r:∀a,lo=some a->∃x,xlo=some x/\Rep G a x)(c:lo=none->xlo=none)
 (n:∀a,hi=some a->∃x,xhi=some x/\Rep G a x)(j:hi=none->xhi=none)
 (s:∀a,mx=some a->∃x,xmx=some x/\Rep G a x)(i:mx=none->xmx=none)(h:A4d C.P t f g sz lo0 len lo hi mx=some v):
 ∃u,(Instr.sliceAt t xv xlo xhi xmx).run C.P w=.ok u w/\Rep G v u:=by
 unfold A4d at h
 split at h
 case h_2=>simp at h
 rename_i m e hm he
 split at h
 case isFalse=>simp at h
 rename_i hsz
 split at h
 case h_2=>simp at h
 rename_i hh hhe hb
 split at h
 case h_2=>simp at h
 rename_i l hl
 simp only[Rep]at hx
 obtain⟨hf,hg,a,a',cap,hd,p,b,rfl,y,o,k⟩:=hx
 obtain⟨m',d,q1,q2,q3,q4,q5,q6⟩:=B2X (C:=C) (w:=w) (G:=G) (len:=len) (cap:=cap-lo0) Q0 r c n j s i hm hhe hb hl
 refine⟨.slice (if m'=l then some a' else(some a').map (·.add (l*sz))) (hh-l) (m'-l),?_,?_⟩
 .simp[Instr.sliceAt,Instr.slice,Z0q (A2q he),d,A1U hsz]
 .split at h
  .have e6:=q6 rfl;subst e6;simp only[Z0b]at h;subst h;simp only[Rep];refine⟨hf,hg,a,if cap-lo0=l then a' else a'.add (l*sz),cap,hd,p,?_,?_,Q0,o,λhlt=>?_⟩
   .split
    .exact b
    .rw[k Q0,Z1k]
   .split<;>simp<;>omega
   .rw[Z0d Q0,k Q0,Z1k];simp only[Z3J,Z2J,Z1A];rw[Z0R];omega
  .rename_i q;split at h
   .rename_i hql;simp only[Z0b]at h;subst h;have e5:=q5 q rfl;have h1:hh-l=0:=Q0;have h2:m'-l=0:=Q0;rw[Z0c Q0,h1,h2];simp only[Rep];exact⟨some a',0,rfl,Z0j _,by simp[maxLen],⟨λ_=>b,by simp[A0F]⟩,rfl⟩
   .simp at h
def A5l(P:Program)(t:TypeId)(l c:AV)(M:Mem):Option (AV×Mem):=
 match A1b P t,l,c with
 |some e,.val (.int _ l),.val (.int _ c)=>match A1n P e,A0G P e,B6S P e with
  |some sz,some z,some b=>if z.length=sz/\z.all (·.oneCell')/\0<sz/\0<=l/\l<=c/\c.toNat*sz<=16777216/\(b:Int)*c<=281474976710656 then
   some (.vref M.length 0 sz 0 l.toNat,M++[.vec e sz (List.replicate l.toNat (z.map .val)).flatten 0 [(0,l.toNat)]])
   else none
  |_,_,_=>none
 |_,_,_=>none
def C5a(hi:Inv C G M w){t:TypeId}{l c}{lv cv}(hl:Rep G l lv)(hc:Rep G c cv){v}{M'}(h:A5l C.P t l c M=some (v,M')):∃u w' G',(Instr.makeSlice t lv cv).run C.P w=.ok u w'/\G.le G'/\Inv C G' M' w'/\Rep G' v u/\Ext w w':=by
 unfold A5l at h
 split at h
 case h_2=>simp at h
 rename_i e kl l kc c he
 simp only[Rep]at hl hc
 subst hl;subst hc
 split at h
 case h_2=>simp at h
 rename_i sz z b hs hz hb
 split at h
 case isFalse=>simp at h
 rename_i hcond
 obtain⟨c1,c2,c3,c4,c5,c6,c7⟩:=hcond
 simp only[Z0b,Z0i]at h
 obtain⟨rfl,rfl⟩:=h
 obtain⟨i,d,g⟩:=D0I hs
 have a0:i.bytes=b:=by simpa[B6S,d]using hb
 simp only[A0G,d,Z0l]at hz
 obtain⟨zv,a1,rfl⟩:=hz
 have a3:c.toNat<=16777216:=Z0J (Z2i _ c3) c6
 have j:=run_makeSlice (P:=C.P) w t e i zv (A2q he) d a1 kl kc l c c4 c5 (by rw[g];exact c6) (by rw[a0];exact c7) Q0
 rw[g]at j
 have m:(madeCells zv.cells (c.toNat*sz)).toList=(List.replicate c.toNat zv.cells.toList).flatten:=by have:=B2S zv.cells.toList c.toNat sz c1 c3;simpa[madeCells]using this
 have k:(madeCells zv.cells (c.toNat*sz)).size=c.toNat*sz:=by simp[madeCells]
 have f:(madeCells zv.cells (c.toNat*sz)).toList.take (l.toNat*sz)=(List.replicate l.toNat zv.cells.toList).flatten:=by
  rw[m];have e1:c.toNat=l.toNat+(c.toNat-l.toNat):=Q0;have e2:(List.replicate l.toNat zv.cells.toList).flatten.length=l.toNat*sz:=by rw[Z3X];simp[c1]
  rw[e1,<-List.replicate_append_replicate,List.flatten_append,<-e2,Z4D]
 have o:∀n,A0v G (List.replicate n (zv.cells.toList.map AV.val)).flatten (List.replicate n zv.cells.toList).flatten:=by
  intro n;induction n with
  |zero=>simp[A0v]
  |succ n ih=>rw[Z2m,Z2m,Z1d,Z1d];refine A0v.append ?_ ih;refine A0v.of_get Q1 ?_;intro i c y h1 h2;simp only[Z1i,Z0l]at h1;obtain⟨a,ha,rfl⟩:=h1;rw[ha]at h2;simp only[Z0b]at h2;subst h2;simp[Rep]
 obtain⟨G',x,a2,r⟩:=hi.newVec (n:=l.toNat) (cap:=c.toNat) (sz:=sz) e (by rw[f];exact o l.toNat) (by rw[f];intro v hv;obtain⟨q,s,p⟩:=Z3K.1 hv;rw[(Z3q.1 s).2]at p;exact Z0D.1 c2 v p) k Q0 (by simp only[maxLen];omega)
 exact⟨_,_,G',j,a2,x,r,Ext.alloc _ _⟩
end
section
variable {α:Type}
def upd(D:Nat->α)(i:Nat)(x:α):Nat->α:=λk=>if k=i then x else D k
def swp(D:Nat->α)(i j:Nat):Nat->α:=upd (upd D i (D j)) j (D i)
def ofD(D:Nat->α)(n:Nat):List α:=(List.range n).map D
@[simp] def C6Q(D:Nat->α)(n:Nat):(ofD D n).length=n:=by simp[ofD]
def A8S(D:Nat->α)(n i:Nat)(h:i<(ofD D n).length):(ofD D n)[i]=D i:=by simp[ofD]
def C2X(D:Nat->α)(n i:Nat)(x:α):(ofD D n).set i x=ofD (upd D i x) n:=by
 apply Z4y
 .simp
 .intro k h1 h2;rw[List.getElem_set,A8S,A8S];simp only[upd];by_cases e:i=k
  .simp[e]
  .rw[Z0d e,Z0d (λh=>e h.symm)]
def D4g(D:Nat->α){n i j:Nat}(hi:i<n)(hj:j<n):(ofD (swp D i j) n).Perm (ofD D n):=by have h:=@List.set_set_perm α (ofD D n) i j (by simpa using hi) (by simpa using hj);rw[A8S,A8S,C2X,C2X]at h;exact h
def A6U(D:Nat->α)(i j k:Nat):swp D i j k=if k=j then D i else if k=i then D j else D k:=rfl
structure Mix (n a b:Nat) (D E:Nat->α):Prop where
 perm:(ofD E n).Perm (ofD D n)
 out:∀k,k<a\/b<=k->E k=D k
 mem:∀k,a<=k->k<b->∃j,a<=j/\j<b/\E k=D j
def Mix.refl(n a b:Nat)(D:Nat->α):Mix n a b D D:=⟨.refl _,λ_ _=>rfl,λk h1 h2=>⟨k,h1,h2,rfl⟩⟩
def Mix.trans{n a b:Nat}{D E F:Nat->α}(h:Mix n a b D E)(k:Mix n a b E F):Mix n a b D F:=⟨k.perm.trans h.perm,λi hi=>(k.out i hi).trans (h.out i hi),λi h1 h2=>by obtain⟨j,q1,q2,q3⟩:=k.mem i h1 h2;obtain⟨j',r1,r2,r3⟩:=h.mem j q1 q2;exact⟨j',r1,r2,q3.trans r3⟩⟩
def Mix.wide{n a b a' b':Nat}{D E:Nat->α}(h:Mix n a b D E)(ha:a'<=a)(hb:b<=b'):Mix n a' b' D E:=
 ⟨h.perm,λk hk=>h.out k (by omega),λk h1 h2=>by
  by_cases c:a<=k/\k<b
  .obtain⟨j,q1,q2,q3⟩:=h.mem k c.1 c.2;exact⟨j,by omega,by omega,q3⟩
  .exact⟨k,h1,h2,h.out k (by omega)⟩⟩
def Mix.swap{n a b:Nat}(D:Nat->α){i j:Nat}(hb:b<=n)(h1:a<=i)(h2:i<b)(h3:a<=j)(h4:j<b):Mix n a b D (swp D i j):=
 ⟨D4g D (by omega) (by omega),λk hk=>by rw[A6U,Z0d (by omega),Z0d (by omega)],λk k1 k2=>by
  rw[A6U];split
  .exact⟨i,h1,h2,rfl⟩
  .split
   .exact⟨j,h3,h4,rfl⟩
   .exact⟨k,k1,k2,rfl⟩⟩
structure A5V (c:α->α->Int):Prop where
 asymm:∀x y,c x y<0->¬c y x<0
 trans:∀x y z,¬c y x<0->¬c z y<0->¬c z x<0
def Srt(c:α->α->Int)(a b:Nat)(D:Nat->α):Prop:=∀i j,a<=i->i<j->j<b->¬c (D j) (D i)<0
def Srt.part{c:α->α->Int}{a b a' b':Nat}{D:Nat->α}(h:Srt c a b D)(ha:a<=a')(hb:b'<=b):Srt c a' b' D:=λi j h1 h2 h3=>h i j (by omega) h2 (by omega)
def Srt.congr{c:α->α->Int}{a b:Nat}{D E:Nat->α}(h:Srt c a b D)(he:∀k,a<=k->k<b->E k=D k):Srt c a b E:=λi j h1 h2 h3=>by rw[he i h1 (by omega),he j (by omega) h3];exact h i j h1 h2 h3
def A5V.lt_of{c:α->α->Int}(o:A5V c){x y z:α}(h1:¬c y x<0)(h2:c y z<0):c x z<0:=Z3o λh=>o.trans z x y h h1 h2
def A5V.lt_of'{c:α->α->Int}(o:A5V c){x y z:α}(h1:c x y<0)(h2:¬c z y<0):c x z<0:=Z3o λh=>o.trans y z x h2 h h1
def B1B(c:α->α->Int)(a i j:Nat)(D:Nat->α):Prop:=∀p q,a<=p->p<q->q<=i->q≠j->¬c (D q) (D p)<0
def B1B.start{c:α->α->Int}{a i:Nat}{D:Nat->α}(h:Srt c a i D):B1B c a i i D:=λp q h1 h2 h3 h4=>h p q h1 h2 (by omega)
def B1B.stop{c:α->α->Int}(o:A5V c){a i j:Nat}{D:Nat->α}(h:B1B c a i j D)(hj:j<=i)(he:j<=a\/¬c (D j) (D (j-1))<0):Srt c a (i+1) D:=by
 intro p q h1 h2 h3;by_cases hq:q=j
 .subst hq;rcases he with he|he
  .omega
  .by_cases hp:p=q-1
   .subst hp;exact he
   .exact o.trans (D p) (D (q-1)) (D q) (h p (q-1) h1 (by omega) (by omega) (by omega)) he
 .exact h p q h1 h2 (by omega) hq
def B1B.step{c:α->α->Int}(o:A5V c){a i j:Nat}{D:Nat->α}(h:B1B c a i j D)(ha:a<j)(hj:j<=i)(hlt:c (D j) (D (j-1))<0):B1B c a i (j-1) (swp D j (j-1)):=by
 intro p q h1 h2 h3 h4;rw[A6U,A6U,Z0d h4];by_cases hq:q=j
 .subst hq;rw[Z0c rfl];by_cases hp:p=q-1
  .rw[Z0c hp];exact o.asymm _ _ hlt
  .rw[Z0d hp,Z0d (by omega)];exact h p (q-1) h1 (by omega) (by omega) (by omega)
 .rw[Z0d hq];by_cases hp:p=j-1
  .rw[Z0c hp];exact h j q (by omega) (by omega) h3 hq
  .rw[Z0d hp];by_cases hp2:p=j
   .rw[Z0c hp2];exact h (j-1) q (by omega) (by omega) h3 hq
   .rw[Z0d hp2];exact h p q h1 h2 h3 hq
def B5p(D:Nat->α)(a k:Nat):Nat->α:=λx=>if a<=x/\x<k then D (x+1)else if x=k then D a else D x
def C0z(D:Nat->α)(a:Nat):B5p D a a=D:=by
 funext x;simp only[B5p];rw[Z0d (by omega)];split
 .rename_i h;rw[h]
 .rfl
def C0T(D:Nat->α){a k:Nat}(h:a<=k):swp (B5p D a k) k (k+1)=B5p D a (k+1):=by
 funext x;rw[A6U];simp only[B5p];repeat' split
 all_goals first|rfl|contradiction|(exfalso;omega)|(congr 1;omega)
def D2j{c:α->α->Int}(o:A5V c){D:Nat->α}{a b i:Nat}(hs:Srt c (a+1) b D)(h1:a<i)(h2:i<=b)(hl:a+1<i->c (D (i-1)) (D a)<0)(hr:i<b->¬c (D i) (D a)<0):Srt c a b (B5p D a (i-1)):=by
 have lo:∀q,a+1<=q->q<i->c (D q) (D a)<0:=by
  intro q q1 q2;by_cases e:q=i-1
  .rw[e];exact hl (by omega)
  .exact o.lt_of (hs q (i-1) q1 (by omega) (by omega)) (hl (by omega))
 have hi:∀q,i<=q->q<b->¬c (D q) (D a)<0:=by
  intro q q1 q2;by_cases e:q=i
  .rw[e];exact hr (by omega)
  .exact o.trans _ _ _ (hr (by omega)) (hs i q (by omega) (by omega) q2)
 intro p q p1 p2 p3;simp only[B5p];by_cases hp:p<i-1
 .rw[Z0c (show a<=p/\p<i-1 from⟨p1,hp⟩)];by_cases hq:q<i-1
  .rw[Z0c (show a<=q/\q<i-1 from⟨by omega,hq⟩)];exact hs _ _ (by omega) (by omega) (by omega)
  .rw[Z0d (by omega)];by_cases hq2:q=i-1
   .rw[Z0c hq2];exact o.asymm _ _ (lo _ (by omega) (by omega))
   .rw[Z0d hq2];exact hs _ _ (by omega) (by omega) (by omega)
 .rw[Z0d (by omega),Z0d (by omega),Z0d (show¬(a<=p/\p<i-1)by omega)];by_cases hp2:p=i-1
  .rw[Z0c hp2];exact hi q (by omega) p3
  .rw[Z0d hp2];exact hs _ _ (by omega) p2 p3
def A7g(D:Nat->α)(k m:Nat):Nat->α:=λx=>if k<x/\x<=m then D (x-1)else if x=k then D m else D x
def B5G(D:Nat->α)(m:Nat):A7g D m m=D:=by
 funext x;simp only[A7g];rw[Z0d (by omega)];split
 .rename_i h;rw[h]
 .rfl
def B6y(D:Nat->α){k m:Nat}(h:k<=m)(h0:0<k):swp (A7g D k m) k (k-1)=A7g D (k-1) m:=by
 funext x;rw[A6U];simp only[A7g];repeat' split
 all_goals first|rfl|(exfalso;rename_i h _;exact h trivial)|(exfalso;rename_i h _ _;exact h trivial)|contradiction|(exfalso;omega)|(congr 1;omega)
def C6W{c:α->α->Int}(o:A5V c){D:Nat->α}{a m i:Nat}(hs:Srt c a m D)(h1:a<=i)(h2:i<=m)(hl:a<i->¬c (D m) (D (i-1))<0)(hr:i<m->c (D m) (D i)<0):Srt c a (m+1) (A7g D i m):=by
 have lo:∀q,a<=q->q<i->¬c (D m) (D q)<0:=by
  intro q q1 q2;by_cases e:q=i-1
  .rw[e];exact hl (by omega)
  .exact o.trans _ _ _ (hs q (i-1) q1 (by omega) (by omega)) (hl (by omega))
 have hi:∀q,i<=q->q<m->c (D m) (D q)<0:=by
  intro q q1 q2;by_cases e:q=i
  .rw[e];exact hr (by omega)
  .exact o.lt_of' (hr (by omega)) (hs i q (by omega) (by omega) q2)
 intro p q p1 p2 p3;simp only[A7g];by_cases hp:p<i
 .rw[Z0d (show¬(i<p/\p<=m)by omega),Z0d (show¬p=i by omega)];by_cases hq:q<i
  .rw[Z0d (show¬(i<q/\q<=m)by omega),Z0d (show¬q=i by omega)];exact hs _ _ p1 p2 (by omega)
  .by_cases hq2:q=i
   .rw[Z0d (show¬(i<q/\q<=m)by omega),Z0c hq2];exact lo p p1 hp
   .rw[Z0c (show i<q/\q<=m by omega)];by_cases hq3:q-1=p
    .omega
    .exact hs _ _ p1 (by omega) (by omega)
 .rw[Z0c (show i<q/\q<=m by omega)];by_cases hp2:p=i
  .rw[Z0d (show¬(i<p/\p<=m)by omega),Z0c hp2];exact o.asymm _ _ (hi _ (by omega) (by omega))
  .rw[Z0c (show i<p/\p<=m by omega)];exact hs _ _ (by omega) (by omega) (by omega)
def rot(D:Nat->α)(s m e:Nat):Nat->α:=λk=>if k<s\/e<=k then D k else if k<s+(e-m)then D (k+(m-s))else D (k-(e-m))
def xch(D:Nat->α)(i j l:Nat):Nat->α:=λk=>if i<=k/\k<i+l then D (k-i+j)else if j<=k/\k<j+l then D (k-j+i)else D k
def C4Z(D:Nat->α)(i j:Nat):xch D i j 0=D:=by funext x;simp only[xch];rw[Z0d (by omega),Z0d (by omega)]
def C4j(D:Nat->α){i j l:Nat}(h:i+l<j):swp (xch D i j l) (i+l) (j+l)=xch D i j (l+1):=by
 funext x;rw[A6U];simp only[xch];repeat' split
 all_goals first|rfl|(exfalso;rename_i h _;exact h trivial)|(exfalso;rename_i h _ _;exact h trivial)|contradiction|(exfalso;omega)|(congr 1;omega)
def D4d(D:Nat->α){i j m:Nat}(a:i<=m)(h:j<i)(hj:0<j):rot (xch D (m-i) m j) (m-(i-j)) m (m+j)=rot D (m-i) m (m+j):=by
 funext k;simp only[rot,xch];repeat' split
 all_goals first|rfl|(exfalso;omega)|(congr 1;omega)
def D2o(D:Nat->α){i j m:Nat}(a:i<=m)(h:i<j)(hi:0<i):rot (xch D (m-i) (m+j-i) i) (m-i) m (m+(j-i))=rot D (m-i) m (m+j):=by
 funext k;simp only[rot,xch];repeat' split
 all_goals first|rfl|(exfalso;omega)|(congr 1;omega)
def D2h(D:Nat->α){i m:Nat}(a:i<=m):xch D (m-i) m i=rot D (m-i) m (m+i):=by
 funext k;simp only[rot,xch];repeat' split
 all_goals first|rfl|(exfalso;omega)|(congr 1;omega)
def C4W(D:Nat->α){s m e:Nat}(h1:s<=m)(h2:m<=e)(h:¬(s<m/\m<e)):rot D s m e=D:=by
 funext k;simp only[rot];by_cases c1:k<s\/e<=k
 .rw[Z0c c1]
 .rw[Z0d c1];by_cases c2:k<s+(e-m)
  .rw[Z0c c2];congr 1;omega
  .rw[Z0d c2];congr 1;omega
def C5o{c:α->α->Int}(o:A5V c){D:Nat->α}{a m b mid s e:Nat}(d:Srt c a m D)(f:Srt c m b D)(h1:a<=s)(h2:s<=m)(h3:m<=e)(h4:e<=b)(h5:e+s=mid+m) (hl:(a<s/\e<b)->¬c (D e) (D (s-1))<0)(hr:(s<m/\m<e)->c (D (e-1)) (D s)<0):∀i j,a<=i->i<mid->mid<=j->j<b->¬c (rot D s m e j) (rot D s m e i)<0:=by
 intro i j i1 i2 j1 j2
 simp only[rot]
 by_cases ci:i<s
 .rw[Z0c (show i<s\/e<=i from .inl ci)];by_cases cj:e<=j
  .rw[Z0c (show j<s\/e<=j from .inr cj)];have k1:¬c (D e) (D (s-1))<0:=hl ⟨by omega,by omega⟩;have k2:¬c (D e) (D i)<0:=by
    by_cases q:i=s-1
    .rw[q];exact k1
    .exact o.trans _ _ _ (d i (s-1) i1 (by omega) (by omega)) k1
   by_cases q:j=e
   .rw[q];exact k2
   .exact o.trans _ _ _ k2 (f e j (by omega) (by omega) j2)
  .rw[Z0d (show¬(j<s\/e<=j)by omega),Z0d (show¬j<s+(e-m)by omega)];exact d _ _ i1 (by omega) (by omega)
 .rw[Z0d (show¬(i<s\/e<=i)by omega),Z0c (show i<s+(e-m)by omega)];by_cases cj:e<=j
  .rw[Z0c (show j<s\/e<=j from .inr cj)];exact f _ _ (by omega) (by omega) j2
  .rw[Z0d (show¬(j<s\/e<=j)by omega),Z0d (show¬j<s+(e-m)by omega)];have k1:c (D (e-1)) (D s)<0:=hr ⟨by omega,by omega⟩;have k2:c (D (i+(m-s))) (D s)<0:=by
    by_cases q:i+(m-s)=e-1
    .rw[q];exact k1
    .exact o.lt_of (f _ (e-1) (by omega) (by omega) (by omega)) k1
   refine o.asymm _ _ ?_;by_cases q:j-(e-m)=s
   .rw[q];exact k2
   .exact o.lt_of' k2 (d s _ (by omega) (by omega) (by omega))
def D1o{c:α->α->Int}{D:Nat->α}{a m b mid s e:Nat}(d:Srt c a m D)(f:Srt c m b D)(h1:a<=s)(h2:s<=m)(h3:m<=e)(h4:e<=b)(h5:e+s=mid+m):Srt c a s (rot D s m e)/\Srt c s mid (rot D s m e)/\Srt c mid e (rot D s m e)/\Srt c e b (rot D s m e):=by
 have lo:∀k,k<s->rot D s m e k=D k:=λk h=>Z0c (.inl h)
 have v:∀k,s<=k->k<mid->rot D s m e k=D (k+(m-s)):=λk k1 k2=>by simp only[rot];rw[Z0d (by omega),Z0c (by omega)]
 have u:∀k,mid<=k->k<e->rot D s m e k=D (k-(e-m)):=λk k1 k2=>by simp only[rot];rw[Z0d (by omega),Z0d (by omega)]
 have up:∀k,e<=k->rot D s m e k=D k:=λk h=>Z0c (.inr h)
 refine⟨?_,?_,?_,?_⟩<;>intro i j i1 i2 i3
 .rw[lo i (by omega),lo j (by omega)];exact d _ _ (by omega) (by omega) (by omega)
 .rw[v i (by omega) (by omega),v j (by omega) (by omega)];exact f _ _ (by omega) (by omega) (by omega)
 .rw[u i (by omega) (by omega),u j (by omega) (by omega)];exact d _ _ (by omega) (by omega) (by omega)
 .rw[up i (by omega),up j (by omega)];exact f _ _ (by omega) (by omega) (by omega)
def C8n{c:α->α->Int}{D E F:Nat->α}{n a b mid:Nat}(e:a<=mid)(d:mid<=b)(hx:∀i j,a<=i->i<mid->mid<=j->j<b->¬c (D j) (D i)<0) (h1:Mix n a mid D E)(h2:Mix n mid b E F)(s1:Srt c a mid E)(s2:Srt c mid b F):Srt c a b F:=by
 intro i j i1 i2 i3
 by_cases ci:i<mid
 .rw[h2.out i (.inl ci)];by_cases cj:j<mid
  .rw[h2.out j (.inl cj)];exact s1 i j i1 i2 cj
  .obtain⟨j',q1,q2,q3⟩:=h2.mem j (by omega) i3;obtain⟨i',r1,r2,r3⟩:=h1.mem i i1 ci;rw[q3,h1.out j' (.inr q1),r3];exact hx i' j' r1 r2 q1 q2
 .exact s2 i j (by omega) i2 i3
def B7a(D:Nat->α){n lo hi i j:Nat}(h1:lo<=i)(hn:hi<=n):∀l,i+l<=j->j+l<=hi->Mix n lo hi D (xch D i j l)
 |0,_,_=>by rw[C4Z];exact .refl ..
 |l+1,h2,h3=>by rw[<-C4j D (show i+l<j by omega)];exact(B7a D h1 hn l (by omega) (by omega)).trans (.swap _ hn (by omega) (by omega) (by omega) (by omega))
def C5n(D:Nat->α){n lo hi a:Nat}(h1:lo<=a)(hn:hi<=n):∀d,a+d<hi->Mix n lo hi D (B5p D a (a+d))
 |0,_=>by rw[Z0Y,C0z];exact .refl ..
 |d+1,h2=>by rw[<-Z2F,<-C0T D (show a<=a+d by omega)];exact(C5n D h1 hn d (by omega)).trans (.swap _ hn (by omega) (by omega) (by omega) (by omega))
def B8U(D:Nat->α){n lo hi m:Nat}(h1:m<hi)(hn:hi<=n):∀d,d<=m->lo<=m-d->Mix n lo hi D (A7g D (m-d) m)
 |0,_,_=>by rw[Z4Q,B5G];exact .refl ..
 |d+1,h2,h3=>by have e:=B6y D (show m-d<=m by omega) (by omega);rw[show m-(d+1)=m-d-1 by omega,<-e];exact(B8U D h1 hn d (by omega) (by omega)).trans (.swap _ hn (by omega) (by omega) (by omega) (by omega))
def Srt.short{c:α->α->Int}{a b:Nat}{D:Nat->α}(h:b<=a+1):Srt c a b D:=λi j h1 h2 h3=>by omega
end
end Go.Abs
