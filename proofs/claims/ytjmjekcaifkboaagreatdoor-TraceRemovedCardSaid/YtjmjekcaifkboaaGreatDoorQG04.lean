/- The texts AbsX3, AbsX4. -/
import Derived.Test.YtjmjekcaifkboaaGreatDoorQG03
import Derived.WideKeyRuns
set_option linter.all false
namespace Go.Abs
section
variable {C:Ctx} {G:A0q} {M:Mem} {w:World}
def B1e{P}{r}{es}{c}(h:w.heap[r]?=some (.map es c))(o:Obj):(setObj r o).run P w=.ok () {w with heap:=w.heap.setIfInBounds r o}:=by simp[setObj,Sem.run,h]
def A6y{P}{r}{es}{c}(h:w.heap[r]?=some (.map es c)):(getObj r).run P w=.ok (.map es c) w:=by simp[getObj,Sem.run,h]
def Inv.setMap(hi:Inv C G M w){k}{es es'}{clock clock'}(hk:M[k]?=some (.map es clock)){xs xs'}(hh:w.heap[G.blk k]?=some (.map xs clock))(hr:A1v G es' xs'.toList):
 Inv C G (M.set k (.map es' clock')) {w with heap:=w.heap.setIfInBounds (G.blk k) (.map xs' clock')}:=by
 obtain⟨_,_,_,a⟩:=hi.obj k _ hk
 have hlt:=A4x hh
 have c:∀b,(w.heap.setIfInBounds (G.blk k) (.map xs' clock'))[b]?=if b=G.blk k then some (.map xs' clock')else w.heap[b]?:=by
  intro b;rw[Z4c];by_cases e:G.blk k=b
  .subst e;simp[hlt]
  .rw[Z0d e,Z0d (λh=>e h.symm)]
 refine hi.step k (G.blk k) hk (.inl rfl) (.refl _) rfl (λ_=>rfl) (λ_ _=>⟨rfl,rfl⟩) (λb i v h=>.inl h) (λ_=>rfl) (λb _ hne=>by simp only[c,Z0d hne]) (λi v h=>by have:=hi.st _ _ _ h;simp[World.cell?,hh]at this) (λo h=>by rw[a]at h;simp at h) ⟨xs',by simp only[c,Z1e],hr,a⟩ (λb hb=>.inl hb)
def Ext.setHeap(w:World)(r:Nat)(o:Obj):Ext w {w with heap:=w.heap.setIfInBounds r o}:=⟨rfl,rfl,rfl,Q1⟩
def A4P(P:Program):Nat->TypeId->AV->Bool
 |0,_,_=>false
 |d+1,t,x=>match P.underlying t,x with
  |some .bool,.val (.bool _)|some (.int _),.val (.int _ _)|some .string,.val (.string _)=>true
  |some (.struct fs),.agg cs=>fs.toList.all λf=>f.name== "_"||((A1n P f.type).any (λn=>decide (f.offset+n<=cs.length))&&match A0p P f.type (cs.drop f.offset)with
   |some a=>A4P P d f.type a
   |none=>false)
  |_,_=>false
def A9l:∀(d:Nat) (t:TypeId) (x:AV) (em:Bool) (n:Nat) (xv:Value),A4P C.P d t x=true->Rep G x xv->(Instr.checkKey em (d+n) t xv).run C.P w=.ok () w
 |0,t,x,em,n,xv,h,_=>by simp[A4P]at h
 |d+1,t,x,em,n,xv,h,hx=>by
  rw[show d+1+n=(d+n)+1 from by omega];unfold A4P at h;split at h
  .rename_i hu;simp only[Rep]at hx;subst hx;simp[Instr.checkKey,Z0q hu]
  .rename_i hu;simp only[Rep]at hx;subst hx;simp[Instr.checkKey,Z0q hu]
  .rename_i hu;simp only[Rep]at hx;subst hx;simp[Instr.checkKey,Z0q hu]
  .rename_i fs cs hu;simp only[Rep]at hx;obtain⟨ax,rfl,g,i⟩:=hx;simp only[Instr.checkKey,Z0E,Z0q hu,Z0u];rw[<-Array.forIn_toList];generalize fs.toList=l at h;clear hu;induction l with
   |nil=>simp
   |cons f l ih=>
    simp only[Z2Q,Z0h,Z1V,Z3t]at h;obtain⟨h1,h2⟩:=h;have ih:=ih h2;simp only[List.forIn_cons,Z0E];by_cases hn:f.name= "_"
    .simp only[hn,ne_eq,Z3c,Z2f,Z0O,Z0u];simpa using ih
    .simp only[ne_eq,hn,Z4l,Z1e];rcases h1 with h1|h1
     .exact absurd h1 hn
     .obtain⟨b,hm⟩:=h1;split at hm
      .rename_i a ha;obtain⟨u,c,e⟩:=A8w (C:=C) (w:=w) g i b ha;have hc:=A9l d f.type a em n u hm e;simp only[Z0E,c,Z0u,hc,Z0O];simpa using ih
      .simp at hm
  .simp at h
def A2Q(P:Program)(kt:TypeId)(k:AV):List (AV×AV×Nat)->Option (Option (Nat×AV))
 |[]=>some none
 |(ek,ev,_)::es=>match B0m P 30 kt k ek with
  |some true=>some (some (0,ev))
  |some false=>(A2Q P kt k es).map (·.map λx=>(x.1+1,x.2))
  |none=>none
def B3D(G:A0q)(xs:List MapEntry)(i:Nat):Option (Nat×AV)->Option (Nat×Value)->Prop
 |none,r=>r=none
 |some (j,ev),r=>∃x,xs[j]?=some x/\Rep G ev x.val/\r=some (i+j,x.val)
def B1l{kt:TypeId}{k}{kv}(hk:Rep G k kv):∀(es:List (AV×AV×Nat)) (xs:List MapEntry) (i:Nat) (r:Option (Nat×AV)),A1v G es xs->A2Q C.P kt k es=some r->
 ∃r',(Instr.findAsking kt kv xs i).run C.P w=.ok r' w/\B3D G xs i r r'
 |[],xs,i,r,hr,h=>by cases hr;simp only[A2Q,Z0b]at h;subst h;exact⟨none,by simp[Instr.findAsking],rfl⟩
 |(ek,ev,b)::es,xs,i,r,hr,h=>by
  cases hr with
  |cons h1 h2=>
  rename_i x xs;obtain⟨a,c,hb⟩:=h1;simp only[A2Q]at h;split at h
  .rename_i he;simp only[Z0b]at h;subst h;have:=A6Z (C:=C) (w:=w) rfl 30 kt _ _ true 9970 _ _ he hk a;exact⟨some (i,x.val),by simp[Instr.findAsking,Op.equal,Op.maxDepth,this],x,rfl,c,rfl⟩
  .rename_i he;simp only[Z0l]at h;obtain⟨r0,h0,rfl⟩:=h;have:=A6Z (C:=C) (w:=w) rfl 30 kt _ _ false 9970 _ _ he hk a;obtain⟨r',q1,q2⟩:=B1l hk es xs (i+1) r0 h2 h0;refine⟨r',by simp[Instr.findAsking,Op.equal,Op.maxDepth,this,q1],?_⟩;cases r0 with
   |none=>exact q2
   |some p=>obtain⟨y,hy,hv,rfl⟩:=q2;exact⟨y,by simpa using hy,hv,ZAB⟩
  .simp at h
def A6E(P:Program)(kt:TypeId):Bool:=match P.underlying kt with
 |some .bool|some (.int _)|some .string=>true
 |_=>false
def B6j(P:Program)(kt:TypeId):Bool:=match P.underlying kt with
 |some (.array _ _)|some (.struct _)=>true
 |_=>false
def B8z{kt:TypeId}{kd:TypeDesc}(hu:C.P.underlying kt=some kd)(hs:A6E C.P kt=true){k ek}{kv ekv}(hk:Rep G k kv)(he:Rep G ek ekv){b}(h:B0m C.P 30 kt k ek=some b):Instr.sameNow kd kv ekv=some b:=by
 unfold B0m at h;rw[hu]at h;simp only[A6E,hu]at hs;split at h
 .rename_i e;simp only[Z0b]at e h;subst e h;simp only[Rep]at hk he;subst hk;subst he;rfl
 .rename_i e;split at h
  .rename_i e2;subst e2;simp only[Z0b]at e h;subst e h;simp only[Rep]at hk he;subst hk;subst he;simp[Instr.sameNow]
  .simp at h
 .rename_i e;simp only[Z0b]at e h;subst e h;simp only[Rep]at hk he;subst hk;subst he;simp[Instr.sameNow,C4t]
 .rename_i e;cases e;simp at hs
 .simp at h
def B6h{kt:TypeId}{kd:TypeDesc}(hu:C.P.underlying kt=some kd)(hs:A6E C.P kt=true){k}{kv}(hk:Rep G k kv):∀(es:List (AV×AV×Nat)) (xs:List MapEntry) (i:Nat) (r:Option (Nat×AV)),A1v G es xs->A2Q C.P kt k es=some r->
 ∃r',Instr.findNow kd kv xs i=some r'/\B3D G xs i r r'
 |[],xs,i,r,hr,h=>by cases hr;simp only[A2Q,Z0b]at h;subst h;exact⟨none,rfl,rfl⟩
 |(ek,ev,b)::es,xs,i,r,hr,h=>by
  cases hr with
  |cons h1 h2=>
  rename_i x xs;obtain⟨a,c,hb⟩:=h1;simp only[A2Q]at h;split at h
  .rename_i he;simp only[Z0b]at h;subst h;have:=B8z hu hs hk a he;exact⟨some (i,x.val),by simp[Instr.findNow,this],x,rfl,c,rfl⟩
  .rename_i he;simp only[Z0l]at h;obtain⟨r0,h0,rfl⟩:=h;have:=B8z hu hs hk a he;obtain⟨r',q1,q2⟩:=B6h hu hs hk es xs (i+1) r0 h2 h0;refine⟨r',by simp[Instr.findNow,this,q1],?_⟩;cases r0 with
   |none=>exact q2
   |some p=>obtain⟨y,hy,hv,rfl⟩:=q2;exact⟨y,by simpa using hy,hv,ZAB⟩
  .simp at h
def A8Z{kt:TypeId}(hs:(A6E C.P kt||B6j C.P kt)=true){k}{kv}(hk:Rep G k kv){es}{xs}{r}(hr:A1v G es xs)(h:A2Q C.P kt k es=some r):∃r',(Instr.findKey kt kv xs).run C.P w=.ok r' w/\B3D G xs 0 r r':=by
 simp only[Z1V]at hs
 rcases hs with hs|hs
 .cases hu:C.P.underlying kt with
  |none=>simp[A6E,hu]at hs
  |some kd=>obtain⟨r',q1,q2⟩:=B6h hu hs hk es xs 0 r hr h;exact⟨r',by simp[Instr.findKey,Z0q hu,q1],q2⟩
 .obtain⟨r',q1,q2⟩:=B1l (C:=C) (w:=w) hk es xs 0 r hr h
  exact⟨r',by rw[run_findKey_eq w (by
   unfold B6j at hs;cases hu:C.P.underlying kt with
   |none=>simp[hu]at hs
   |some kd=>cases kd<;>simp[hu]at hs|-)];exact q1,q2⟩
def A9n(P:Program)(e:TypeId):Option AV:=match P.info? e with
 |some i=>match i.zero with
  |some (.agg cs)=>if cs.toList.all (·.oneCell')then some (.agg (cs.toList.map .val))else none
  |some (.tuple _)=>none
  |some v=>some (.val v)
  |none=>none
 |none=>none
def C8d{P}{e:TypeId}{z}(h:A9n P e=some z)(G:A0q)(w:World):∃v,(zeroValue e).run P w=.ok v w/\Rep G z v:=by
 unfold A9n at h;split at h;case h_2=>simp at h
 rename_i i hi;split at h
 .rename_i cs hz;split at h
  .rename_i hall;simp only[Z0b]at h;subst h;refine⟨.agg cs,by simp[zeroValue,typeInfo,hi,hz],?_⟩;simp only[Rep];refine⟨cs,rfl,A0v.of_get Q1 ?_,λy hy=>Z0D.1 hall y hy⟩;intro i c y h1 h2;simp only[Z1i,Z0l]at h1;obtain⟨a,ha,rfl⟩:=h1;rw[ha]at h2;simp only[Z0b]at h2;subst h2;simp[Rep]
  .simp at h
 .simp at h
 .rename_i v _ _ hz;simp only[Z0b]at h;subst h;exact⟨v,by simp[zeroValue,typeInfo,hi,hz],ZAE⟩
 .simp at h
def A8r(P:Program)(t:TypeId):Option (TypeId×TypeId):=match P.underlying t with|some (.map k e)=>some (k,e)|_=>none
def C0K{P}{t k e:TypeId}(h:A8r P t=some (k,e)):P.underlying t=some (.map k e):=by
 unfold A8r at h;split at h
 .rename_i k' e' he;cases h;exact he
 .simp at h
def A4I(M:Mem):AV->Option (List (AV×AV×Nat))
 |.val (.map none)=>some []
 |.mapr b=>match M[b]? with|some (.map es _)=>some es|_=>none
 |_=>none
def A1Y(P:Program)(t:TypeId)(M:Mem)(m k:AV)(ok:Bool):Option AV:=
 match A8r P t,A4I M m with
 |some (kt,et),some es=>if(A6E P kt||B6j P kt)&&A4P P 30 kt k then
  match A2Q P kt k es with
  |some (some (_,v))=>some (if ok then .tuple [v,.val (.bool true)]else v)
  |some none=>(A9n P et).map λz=>if ok then .tuple [z,.val (.bool false)]else z
  |none=>none
  else none
 |_,_=>none
def C3j(hi:Inv C G M w){t:TypeId}{m k}{mv kv}(hm:Rep G m mv)(hk:Rep G k kv){ok}{v}(h:A1Y C.P t M m k ok=some v):∃u,(Instr.lookup t mv kv ok).run C.P w=.ok u w/\Rep G v u:=by
 unfold A1Y at h
 split at h
 case h_2=>simp at h
 rename_i kt et es hkv hes
 split at h
 case isFalse=>simp at h
 rename_i hc
 simp only[Z0h]at hc
 have hu:=C0K hkv
 have g:∃xs:Array MapEntry,A1v G es xs.toList/\((mv=.map none/\xs=#[])\/∃r c,mv=.map (some r)/\w.heap[r]?=some (.map xs c)):=by
  unfold A4I at hes;split at hes
  .simp only[Z0b]at hes;subst hes;simp only[Rep]at hm;exact⟨#[],.nil,.inl ⟨hm,rfl⟩⟩
  .rename_i b;split at hes
   .rename_i es' c hb;simp only[Z0b]at hes;subst hes;simp only[Rep]at hm;obtain⟨xs,h1,h2,_⟩:=hi.obj b _ hb;exact⟨xs,h2,.inr ⟨_,c,hm.2,h1⟩⟩
   .simp at hes
  .simp at hes
 obtain⟨xs,j,l⟩:=g
 have a:=A9l (C:=C) (w:=w) 30 kt k xs.isEmpty 9970 kv hc.2 hk
 have start:∀r':Option (Nat×Value),(Instr.findKey kt kv xs.toList).run C.P w=.ok r' w->(Instr.lookup t mv kv ok).run C.P w=
  (do let(v,ok') <-(match r' with|some (_,v)=>pure (v,true)|none=>do pure (<-zeroValue et,false):Sem (Value×Bool));pure (if ok then .tuple #[v,.bool ok']else v):Sem Value).run C.P w:=by
  intro r' f
  rcases l with⟨rfl,rfl⟩|⟨r,c,rfl,hh⟩
  .simp only[Instr.lookup,Z0E,Z0q hu,Z0u,Z0O,a,f];cases r' with
   |none=>simp;cases(zeroValue et).run C.P w<;>rfl
   |some p=>simp
  .simp only[Instr.lookup,Z0E,Z0q hu,Z0u,Z0O,A6y hh,a,f];cases r' with
   |none=>simp;cases(zeroValue et).run C.P w<;>rfl
   |some p=>simp
 split at h
 .rename_i i ev hf;obtain⟨r',q1,x,hx,e,rfl⟩:=A8Z (C:=C) (w:=w) hc.1 hk j hf;simp only[Z0b]at h;subst h;refine⟨if ok then .tuple #[x.val,.bool true]else x.val,by rw[start _ q1];simp,?_⟩;cases ok
  .simpa using e
  .simp only[Z1e,Rep];exact⟨_,rfl,by simp only[A0v];exact⟨_,_,rfl,e,_,_,rfl,ZAE,rfl⟩⟩
 .rename_i hf;obtain⟨r',q1,q2⟩:=A8Z (C:=C) (w:=w) hc.1 hk j hf;simp only[B3D]at q2;subst q2;simp only[Z0l]at h;obtain⟨z,hz,rfl⟩:=h;obtain⟨zv,n,d⟩:=C8d hz G w;refine⟨if ok then .tuple #[zv,.bool false]else zv,by rw[start _ q1];simp[n],?_⟩;cases ok
  .simpa using d
  .simp only[Z1e,Rep];exact⟨_,rfl,by simp only[A0v];exact⟨_,_,rfl,d,_,_,rfl,ZAE,rfl⟩⟩
 .simp at h
def A7Z:AV->Option Value
 |.val v=>match v with|.bool _|.int _ _|.string _=>some v|_=>none
 |.agg cs=>if cs.all (λc=>match c with|.val (.bool _)|.val (.int _ _)|.val (.string _)=>true|_=>false)then some (.agg (cs.map λc=>match c with|.val v=>v|_=>.bool false).toArray)else none
 |_=>none
def B5X{k}{kv v}(h:A7Z k=some v)(hk:Rep G k kv):kv=v:=by
 unfold A7Z at h;split at h
 .split at h<;>first|(cases h;simpa[Rep]using hk)|simp at h
 .rename_i cs;split at h
  .rename_i hall;simp only[Z0b]at h;subst h;simp only[Rep]at hk;obtain⟨ys,rfl,hr,_⟩:=hk;congr 1;apply Z1O;generalize ys.toList=l at hr;simp only;induction cs generalizing l with
   |nil=>simp only[A0v]at hr;subst hr;rfl
   |cons c cs ih=>
    simp only[A0v]at hr;obtain⟨y,l',rfl,h1,h2⟩:=hr;simp only[Z2Q,Z0h]at hall;rw[Z0x,<-ih hall.2 l' h2];congr 1;split at hall
    .simpa[Rep]using h1
    .simpa[Rep]using h1
    .simpa[Rep]using h1
    .simp at hall
  .simp at h
 .simp at h
def A1v.get_{es}{xs}(h:A1v G es xs):∀(i:Nat) (x:MapEntry),xs[i]?=some x->∃e,es[i]?=some e/\B3S G e x:=by
 induction h with
 |nil=>intro i x hx;simp at hx
 |cons h1 _ ih=>
  intro i x hx;cases i with
  |zero=>simp only[Z3y,Z0b]at hx;subst hx;exact⟨_,rfl,h1⟩
  |succ i=>simpa using ih i x ZDK
def A1v.set_{es}{xs}(h:A1v G es xs){e}{x}(h1:B3S G e x):∀i,A1v G (es.set i e) (xs.set i x):=by
 induction h with
 |nil=>intro i;exact .nil
 |cons h2 h3 ih=>
  intro i;cases i with
  |zero=>exact .cons h1 h3
  |succ i=>exact .cons h2 (ih i)
def A1v.push_{es}{xs}(h:A1v G es xs){e}{x}(h1:B3S G e x):A1v G (es++[e]) (xs++[x]):=by
 induction h with
 |nil=>exact .cons h1 .nil
 |cons h2 _ ih=>exact .cons h2 ih
def A2b(P:Program)(t:TypeId)(M:Mem)(m k v:AV):Option Mem:=
 match A8r P t,m with
 |some (kt,et),.mapr b=>match M[b]? with
  |some (.map es clock)=>if(A6E P kt||B6j P kt)&&A4P P 30 kt k then
   match A2Q P kt k es with
   |some (some (i,_))=>match es[i]? with
    |some (ok,_,born)=>match A7Z ok,A7Z k with
     |some a,some c=>if Instr.sameBits 10000 a c then some (M.set b (.map (es.set i (k,v,born)) clock))else none
     |_,_=>none
    |none=>none
   |some none=>some (M.set b (.map (es++[(k,v,clock)]) (clock+1)))
   |none=>none
   else none
  |_=>none
 |_,_=>none
def C0k{α:Type}(a:Array α)(i:Nat)(f:α->α)(x:α)(h:a[i]?=some x):(a.modify i f).toList=a.toList.set i (f x):=by
 apply Z1W;intro j;rw[Z2T];have hlt:=(Z1L.1 h).1;by_cases e:i=j
 .subst e;simp[hlt];have:=(Z1L.1 h).2;rw[this]
 .simp[e]
def B3W(hi:Inv C G M w){t:TypeId}{m k v}{mv kv vv}(hm:Rep G m mv)(hk:Rep G k kv)(hv:Rep G v vv){M'}(h:A2b C.P t M m k v=some M'):∃w',(Instr.mapUpdate t mv kv vv).run C.P w=.ok () w'/\Inv C G M' w'/\Ext w w':=by
 unfold A2b at h
 split at h
 case h_2=>simp at h
 rename_i kt et b hkv
 split at h
 case h_2=>simp at h
 rename_i es clock hb
 split at h
 case isFalse=>simp at h
 rename_i hc
 simp only[Z0h]at hc
 have hu:=C0K hkv
 simp only[Rep]at hm
 obtain⟨p,rfl⟩:=hm
 obtain⟨xs,hh,f,_⟩:=hi.obj b _ hb
 have g:=A9l (C:=C) (w:=w) 30 kt k false 9970 kv hc.2 hk
 split at h
 .rename_i i ev hf;obtain⟨r',q1,x,hx,o,rfl⟩:=A8Z (C:=C) (w:=w) hc.1 hk f hf;split at h;case h_2=>simp at h
  rename_i ok evv born hes;split at h;case h_2=>simp at h
  rename_i a c ha hcc;split at h;case isFalse=>simp at h
  rename_i hsame;simp only[Z0b]at h;subst h;obtain⟨e,he,j⟩:=f.get_ i x hx;rw[hes]at he;simp only[Z0b]at he;subst he;have e1:x.key=a:=B5X ha j.1;have e2:kv=c:=B5X hcc hk;have l:xs[i]?=some x:=ZDK
  have d:=hi.setMap (clock':=clock) hb hh (es':=es.set i (k,v,born)) (xs':=xs.modify i λe=>{e with key:=kv,val:=vv}) (by rw[C0k _ _ _ _ l];exact f.set_ (e:=(k,v,born)) (x:={x with key:=kv,val:=vv}) ⟨hk,hv,j.2.2⟩ i);refine⟨_,?_,d,Ext.setHeap _ _ _⟩;have n:(Instr.keyThatStays x.key kv).run C.P w=.ok kv w:=by rw[e1,e2];simp[Instr.keyThatStays,hsame]
  simp only[Instr.mapUpdate,Z0E,Z0q hu,Z0u,A6y hh,g,q1,Z0P,l,Z1T,Z1m,n,B1e hh]
 .rename_i hf;obtain⟨r',q1,q2⟩:=A8Z (C:=C) (w:=w) hc.1 hk f hf;simp only[B3D]at q2;subst q2;simp only[Z0b]at h;subst h;have d:=hi.setMap (clock':=clock+1) hb hh (es':=es++[(k,v,clock)]) (xs':=xs.push {key:=kv,val:=vv,born:=clock}) (by rw[Array.toList_push];exact f.push_ ⟨hk,hv,rfl⟩);refine⟨_,?_,d,Ext.setHeap _ _ _⟩;simp only[Instr.mapUpdate,Z0E,Z0q hu,Z0u,A6y hh,g,q1,B1e hh]
 .simp at h
def C0b(hi:Inv C G M w)(t:TypeId):∃u w' G',(Instr.makeMap t none).run C.P w=.ok u w'/\G.le G'/\Inv C G' (M++[.map [] 0]) w'/\Rep G' (.mapr M.length) u/\Ext w w':=by obtain⟨G',d,e,a,c,_,_⟩:=hi.newObj (.map #[] 0) (.map [] 0) (λ_=>(none,0)) 0 (λG' _ hb _ _ _ hk=>⟨#[],by rw[hb];exact Z1Z w _,.nil,by rw[hb];exact hk⟩) (λG' b hb _ ho=>by simp only[A3p,hb]at ho;exact ho);refine⟨.map (some w.heap.size),_,G',?_,e,d,by simp only[Rep];exact⟨c,by rw[a]⟩,Ext.alloc _ _⟩;simp[Instr.makeMap]
end
section
variable {C:Ctx} {G:A0q} {M:Mem} {w:World}
def A4N(P:Program)(t:TypeId)(M:Mem)(x:AV):Option Nat:=match x with
 |.mapr b=>match P.underlying t,M[b]? with
  |some (.map _ _),some (.map es _)=>some es.length
  |_,_=>none
 |_=>none
def A9k(P:Program)(t u:TypeId)(M:Mem)(d s:AV):Option (AV×Mem):=match A1b P t with
 |some e=>
  match A1n P e with
  |some sz=>match A0D M sz s with
   |some (news,m)=>match d with
    |.vref f g sz' lo len=>match M[f]? with
     |some (.vec ty sz2 cs g' hist)=>match hist.lookup g with
      |some n=>if sz'=sz/\sz2=sz/\m<=len/\lo+len<=n then
       if m=0 then some (.val (goInt 0),M)else
       some (.val (goInt m),M.set f (.vec ty sz (A0e cs (lo*sz) news) g' (A0Q sz g (lo*sz) hist)))
       else none
      |none=>none
     |_=>none
    |_=>none
   |none=>none
  |none=>none
 |none=>none
def A5g(P:Program)(b:Builtin)(ts:List TypeId)(args:List AV)(M:Mem):Option (AV×Mem):=
 match b,ts,args with
 |.len,[t],[x]=>(A4N P t M x).map λn=>(.val (goInt n),M)
 |.cap,[t],[.val (.slice none 0 0)]=>match P.underlying t with|some (.slice _)=>some (.val (goInt 0),M)|_=>none
 |.copy,[t,u],[d,s]=>A9k P t u M d s
 |_,_,_=>none
def C7K(hi:Inv C G M w){t u ty:TypeId}{d s}{dv sv}(hd:Rep G d dv)(hs:Rep G s sv){v}{M'}(h:A9k C.P t u M d s=some (v,M')):∃r w',(Builtin.copy_ #[t,u] ty #[dv,sv]).run C.P w=.ok r w'/\Inv C G M' w'/\Rep G v r/\Ext w w':=by
 unfold A9k at h
 split at h
 case h_2=>simp at h
 rename_i e he
 split at h
 case h_2=>simp at h
 rename_i sz hsz
 split at h
 case h_2=>simp at h
 rename_i news m hsrc
 split at h
 case h_2=>simp at h
 rename_i f g sz' lo len
 split at h
 case h_2=>simp at h
 rename_i ety sz2 cs g' hist hM
 split at h
 case h_2=>simp at h
 rename_i n hn
 split at h
 case isFalse=>simp at h
 rename_i hc
 obtain⟨rfl,rfl,p,a0⟩:=hc
 obtain⟨vs,hr,c,k,i,l⟩:=A7M hi hs hsrc
 have a3:=hd
 simp only[Rep]at hd
 obtain⟨hf,hg,a,a',cap,hdr,a1,y,rfl,a4,z,q⟩:=hd
 have b:Nat.min m len=m:=Z1F p
 split at h
 .rename_i hm0;subst hm0;simp only[Z0b,Z0i]at h;obtain⟨rfl,rfl⟩:=h;have hv:vs=[]:=Z0w (by simpa using c);subst hv;refine⟨goInt 0,w,?_,hi,ZAE,.refl _⟩;have o:=l w rfl;simp[Builtin.copy_,Z0q (A2q he),i,b,A1U hsz,o,storeCells]
 .rename_i hm0;simp only[Z0b,Z0i]at h;obtain⟨rfl,rfl⟩:=h;have ha:=q Q0;have hb:lo*sz2+news.length<=n*sz2:=by rw[<-hr.length,c,<-Z0R];exact Z0V _ Q0
  obtain⟨a2,w',e2,j,h2,h3⟩:=A7m hi (f:=f) (g:=g) (off:=lo*sz2) (x:=.pointer (some ⟨a.block,a.off+lo*sz2,none⟩)) (by simp only[Rep];exact⟨hf,hg,a,cap,hdr,rfl⟩) hr k hM hn hb;simp only[Z2X,Z0b]at e2;subst e2;rw[<-ha]at j;refine⟨goInt m,w',?_,h2,ZAE,h3⟩;simp[Builtin.copy_,Z0q (A2q he),i,b,A1U hsz,l w rfl,j]
def A1v.length{es}{xs}(h:A1v G es xs):xs.length=es.length:=by
 induction h with
 |nil=>rfl
 |cons _ _ ih=>simp[ih]
def B4j(hi:Inv C G M w){b}{ts}{args}{xs}(hr:A0v G args xs.toList){v}{M'}(h:A5g C.P b ts.toList args M=some (v,M'))(ty:TypeId)(a:Array Bool):∃u w',(builtin b ts ty a xs).run C.P w=.ok (.value u) w'/\Inv C G M' w'/\Rep G v u/\Ext w w':=by
 obtain⟨xs⟩:=xs
 obtain⟨ts⟩:=ts
 simp only at hr h
 unfold A5g at h
 split at h
 .rename_i t x;simp only[A0v]at hr;obtain⟨y,ys,rfl,hy,rfl⟩:=hr;simp only[Z0l,Z0i]at h;obtain⟨n,hn,rfl,rfl⟩:=h;refine⟨goInt n,w,?_,hi,ZAE,.refl _⟩;unfold A4N at hn;split at hn
  .rename_i b;split at hn
   .rename_i k e es c hu hb;cases hn;simp only[Rep]at hy;obtain⟨_,rfl⟩:=hy;obtain⟨ms,hh,g,_⟩:=hi.obj b _ hb;have:=g.length;simp only[Z0X]at this;simp[builtin,Builtin.len_,Z0q hu,A6y hh,this]
   .simp at hn
  .simp at hn
 .rename_i t;simp only[A0v]at hr;obtain⟨y,ys,rfl,hy,rfl⟩:=hr;split at h
  .rename_i e hu;simp only[Z0b,Z0i]at h;obtain⟨rfl,rfl⟩:=h;simp only[Rep]at hy;subst hy;exact⟨goInt 0,w,by simp[builtin,Builtin.cap_,Z0q hu],hi,ZAE,.refl _⟩
  .simp at h
 .rename_i t u d s;simp only[A0v]at hr;obtain⟨y,_,rfl,hy,y2,_,rfl,f,rfl⟩:=hr;obtain⟨r,w',h1,h2,h3,h4⟩:=C7K (ty:=ty) hi hy f h;exact⟨r,w',ZBY,h2,h3,h4⟩
 .simp at h
def D2Q{P}{s}{w w'}(h:s.run P w=.ok () w'):(do s;pure .skip:Sem Next).run P w=.ok .skip w':=by simp only[Z0E,h,Z0u,Z0O]
def A1X(C:Ctx)(h:A2r)(o:Oper)(ρ:Operand->AV)(M:Mem):Option (AV×Mem):=
 match o.op with
 |.buildSlice t n parts=>if B6E C h t o.dst then A1C C.P t n (parts.toList.map λp=>(p.1,ρ p.2)) M else none
 |.makeSlice t l c=>A5l C.P t (ρ l) (ρ c) M
 |.makeMap t none=>some (.mapr M.length,M++[.map [] 0])
 |.lookup t m k ok=>(A1Y C.P t M (ρ m) (ρ k) ok).map λv=>(v,M)
 |.mapUpdate t m k v=>(A2b C.P t M (ρ m) (ρ k) (ρ v)).map λM'=>(.val undef,M')
 |.insert t m k v=>(A2b C.P t M (ρ m) (ρ k) (ρ v)).map λM'=>(.val undef,M')
 |.call {callee:=.builtin b,args,argTypes}=>A5g C.P b argTypes.toList (args.toList.map ρ) M
 |_=>none
def C7y(hi:Inv C G M w){o}{ρ:Operand->AV}{σ:Operand->Value}(hρ:∀x∈o.op.operands.toList,Rep G (ρ x) (σ x)){hn}{v}{M'}(h:A1X C hn o ρ M=some (v,M')):A3z C G w (execOp σ o) v M':=by
 obtain⟨dst,op,type,pos,after,guard⟩:=o;simp only at hρ;unfold A1X at h;simp only at h;split at h
 ·-- buildSlice
  rename_i t n parts;split at h;case isFalse=>simp at h
  obtain⟨u,w',G',h1,h2,h3,h4,h5⟩:=C2A (C:=C) (G:=G) (w:=w) hi (xs:=parts.map λ(i,x)=>(i,σ x)) Q1 (λj p x hp hx=>by simp only[Z1i,Z0l]at hp;obtain⟨q,hq,rfl⟩:=hp;simp only[Z3L,Z1i,Z0l]at hx;obtain⟨q',e,rfl⟩:=hx;rw[hq]at e;simp at e;subst e;exact⟨rfl,hρ _ ZAN⟩) h;exact⟨_,w',G',A3L h1,.inl ⟨u,rfl,h4⟩,h2,h3,h5⟩
 .rename_i t l c;obtain⟨u,w',G',h1,h2,h3,h4,h5⟩:=C5a hi (hρ l ZAA) (hρ c ZAA) h;exact⟨_,w',G',A3L h1,.inl ⟨u,rfl,h4⟩,h2,h3,h5⟩
 .rename_i t;simp only[Z0b,Z0i]at h;obtain⟨rfl,rfl⟩:=h;obtain⟨u,w',G',h1,h2,h3,h4,h5⟩:=C0b hi t;exact⟨_,w',G',A3L h1,.inl ⟨u,rfl,h4⟩,h2,h3,h5⟩
 .rename_i t m k ok;simp only[Z0l,Z0i]at h;obtain⟨v',f,rfl,rfl⟩:=h;obtain⟨u,h1,h2⟩:=C3j hi (hρ m ZAA) (hρ k ZAA) f;exact A3z.same hi (x:=u) (A3L h1) h2
 .rename_i t m k x;simp only[Z0l,Z0i]at h;obtain⟨M2,d,rfl,rfl⟩:=h;obtain⟨w',h1,h2,h3⟩:=B3W hi (hρ m ZAA) (hρ k ZAA) (hρ x ZAA) d;exact⟨_,w',G,D2Q h1,.inr ⟨rfl,rfl⟩,.refl _,h2,h3⟩
 .rename_i t m k x;simp only[Z0l,Z0i]at h;obtain⟨M2,d,rfl,rfl⟩:=h;obtain⟨w',h1,h2,h3⟩:=B3W hi (hρ m ZAA) (hρ k ZAA) (hρ x ZAA) d;exact⟨_,w',G,D2Q h1,.inr ⟨rfl,rfl⟩,.refl _,h2,h3⟩
 .rename_i b args ts;have a:A0v G (args.toList.map ρ) (args.map σ).toList:=by have:=A8x (G:=G) args.toList (λx hx=>hρ x ZBV);simpa using this
  obtain⟨u,w',h1,h2,h3,h4⟩:=B4j hi a h type (args.map λx=>x matches .const _);refine⟨.value u,w',G,?_,.inl ⟨u,rfl,h3⟩,.refl _,h2,h4⟩;simp only[execOp,resolve,Z0E,Z0O,Z0u,invoke];exact h1
 .simp at h
end
end Go.Abs
