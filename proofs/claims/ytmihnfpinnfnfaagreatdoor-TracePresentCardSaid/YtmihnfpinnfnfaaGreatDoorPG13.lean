/- The texts AbsP, AbsQ. -/
import Derived.Test.YtmihnfpinnfnfaaGreatDoorPG12
import Derived.Orders
set_option linter.all false
namespace Go.Abs
def A3I(C:Ctx)(o:Oper)(ρ:Operand->AV)(M:Mem):Option AV:=
 match o.op with
 |.load t x=>A0M C.P t M (ρ x)
 |.lookup t m k ok=>A1S C.P t M (ρ m) (ρ k) ok
 |.call {callee:=.builtin .len,args,argTypes}=>match args.toList,argTypes.toList with
  |[x],[t]=>((A2W C.P t (ρ x)).or (A4H C.P t M (ρ x))).map λ(n:Nat)=>AV.val (.int .i64 n)
  |_,_=>none
 |_=>none
def A1g(o:Oper)(ρ:Operand->AV):Option Nat:=match o.op with
 |.load _ x=>match ρ x with|.ptr b _=>some b|.vptr f _ _=>some f|_=>none
 |.lookup _ m _ _=>match ρ m with|.mapr b=>some b|_=>none
 |.call {callee:=.builtin .len,args,..}=>match args.toList with
  |[x]=>match ρ x with|.mapr b=>some b|_=>none
  |_=>none
 |_=>none
def A3R:A0l:=.vec 0 1 [] 0 []
def fill(M:Mem)(l:List (Nat×A0l)):Mem:=l.foldl (λM p=>M.set p.1 p.2) M
def B4R(M:Mem)(l:List (Nat×A0l)):Prop:=(∀p∈l,M[p.1]?=some A3R)/\(l.map (·.1)).Nodup
def A9M(M M':Mem):Prop:=∀s:Nat,M[s]?=some A3R->M'[s]?=some A3R
def D6J(f:Mem->Option (AV×Mem))(M:Mem)(v:AV)(M1:Mem):Prop:=A9M M M1/\∀l,B4R M l->f (fill M l)=some (v,fill M1 l)
def C5T(C:Ctx)(g:FuncId)(args:List AV)(M:Mem)(v:AV)(M1:Mem):Prop:=A9M M M1/\∀l,B4R M l->A3E C g args (fill M l) (λr m=>r=v/\m=fill M1 l)
def A6W(fl:Bool)(f:Mem->Option (AV×Mem))(M:Mem)(K:AV->Mem->Prop):Prop:=match f M with
 |some (v,M1)=>(fl=true->D6J f M v M1)/\K v M1
 |none=>False
def B1r(P:Program)(e:TypeId):Option A0l:=match A0F P e with
 |some z=>if z.all (·.oneCell')then some (.vec e z.length (z.map .val) 1 [(1,1)])else none
 |none=>none
def A4i(o:Oper)(ρ:Operand->AV):Option Nat:=match o.op with
 |.store _ a _=>match ρ a with|.ptr b _=>some b|.vptr f _ _=>some f|_=>none
 |_=>none
def B3O{C}{h}{d}{st:TypeId}{a x}{t:TypeId}{p}{af}{g}{ρ:Operand->AV}{M}:A0W C h ⟨d,.store st a x,t,p,af,g⟩ ρ M=A1P C h ⟨d,.store st a x,t,p,af,g⟩ ρ M:=by
 simp only[A0W,A0I,A1R,A1a,A7l]
 cases A1P C h ⟨d,.store st a x,t,p,af,g⟩ ρ M<;>rfl
def B4U{C}{h}{o}{ρ:Operand->AV}{M M1}{v}{s}(hs:A4i o ρ=some s)(he:A0W C h o ρ M=some (v,M1)):∃X,M1=M.set s X/\s<M.length/\∀M2:Mem,M2[s]?=M[s]?->A0W C h o ρ M2=some (v,M2.set s X):=by
 obtain⟨d,op,t,p,af,g⟩:=o
 cases op<;>first|(simp[A4i]at hs;done)|skip
 case store st a x=>
  simp only[B3O]at he|-;simp only[A4i]at hs;split at hs
  .rename_i b off ha;simp only[Z0b]at hs;subst hs;simp only[A1P,ha]at he|-;split at he;(case h_2=>simp at he);rename_i bt cs hM;split at he;(case isFalse=>simp at he);rename_i hc;simp only[Z0b,Z0g]at he;obtain⟨rfl,rfl⟩:=he;refine⟨_,rfl,A0N hM,λM2 h2=>?_⟩;rw[h2,hM];simp only[Z0c hc]
  .rename_i f gg off ha;simp only[Z0b]at hs;subst hs;simp only[A1P,ha]at he|-;split at he;(case h_2=>simp at he);rename_i vt sz cs g' hist hM;split at he;(case h_2=>simp at he);rename_i n hn;split at he;(case isFalse=>simp at he);rename_i hc;simp only[Z0b,Z0g]at he;obtain⟨rfl,rfl⟩:=he;refine⟨_,rfl,A0N hM,λM2 h2=>?_⟩;rw[h2,hM];simp only[hn,Z0c hc]
  .simp at hs
def dOp(C:Ctx)(h:A2j)(fl:Bool)(cls rob slot:Nat)(o:Oper)(ρ:Operand->AV)(M:Mem)(K:AV->Mem->Prop):Prop:=
 match o.op with
 |.call {callee:=.value f,args,..}=>match ρ f with
  |.func (.func g) first captured=>
   if cls=0 then∃r,(∀M,A3E C g (first++args.toList.map ρ++captured) M (λv M'=>v=r/\M'=M))/\K r M
   else∃r M1,cls=2/\A3E C g (first++args.toList.map ρ++captured) M (λv M'=>v=r/\M'=M1)/\(fl=true->C5T C g (first++args.toList.map ρ++captured) M r M1)/\K r M1
  |_=>False
 |.call {callee:=.builtin .append,args,argTypes}=>match args.toList,argTypes.toList with
  |[s,x],[t,u]=>∃e sz bytes,B6S C.P t u sz bytes e/\cls=2/\A6W fl (A6n (A1X h.own o.dst) (A1X h.vec o.dst) e sz bytes (ρ s) (ρ x)) M K
  |_,_=>False
 |.alloc e=>if cls=4 then fl=true/\M[slot]?=some A3R/\A0S (B1r C.P e) (λX=>K (.vptr slot 1 0) (M.set slot X))else cls=2/\A6W fl (A0W C h o ρ) M K
 |_=>if cls=0 then A0S ((A0I C h o ρ).or (A1a C o ρ)) (λv=>K v M)else if cls=1 then A1g o ρ=some rob/\A0S (A3I C o ρ M) (λv=>K v M)
  else if cls=5 then A4i o ρ=some slot/\A0S (A0W C h o ρ M) (λr=>K r.1 r.2)
  else cls=2/\A6W fl (A0W C h o ρ) M K
structure B1N where
 cls:Nat->Nat
 rob:Nat->Nat:=λ_=>0
 slot:Nat->Nat:=λ_=>0
 /-- may the operation j turn what the look i looks at -/
 aff:Nat->Nat->Bool:=λ_ _=>true
 fl:Bool:=false
def C3X(L:B1N)(k:Nat)(M M':Mem):Prop:=∀i,L.cls i=1->L.aff i k=false->M'[L.rob i]?=M[L.rob i]?
def A1t(C:Ctx)(h:A2j)(ops:Array Oper)(L:B1N):Nat->List Oper->Env->Mem->(Env->Mem->Prop)->Prop
 |_,[],T,M,K=>K T M
 |k,o::rest,T,M,K=>A2q ops o T (dOp C h L.fl (L.cls k) (L.rob k) (L.slot k) o (T.ev C) M (λv M'=>C3X L k M M'/\A1t C h ops L (k+1) rest (T.put o.dst v) M' K)) (A1t C h ops L (k+1) rest (T.put o.dst (.val undef)) M K)
inductive Eff where
 |none
 |put (s:Nat) (X:A0l)
 |mem (M:Mem)
def Eff.app:Eff->Mem->Mem
 |.none,M=>M
 |.put s X,M=>M.set s X
 |.mem M1,_=>M1
def Eff.appF(l:List (Nat×A0l)):Eff->Mem->Mem
 |.none,M=>M
 |.put s X,M=>M.set s X
 |.mem M1,_=>fill M1 l
def Eff.ok(fl:Bool)(cls slot:Nat)(M:Mem):Eff->Prop
 |.none=>True
 |.put s X=>(cls=4\/cls=5)/\s=slot/\slot<M.length
 |.mem M1=>cls=2/\(fl=true->A9M M M1)
def B6K(fl:Bool)(cls rob slot:Nat)(M M2:Mem)(l:List (Nat×A0l)):Prop:=(cls=1->M2[rob]?=M[rob]?)/\(cls=2->M2=fill M l/\B4R M l/\(fl=false->l=[]))/\(cls=4->M2[slot]?=some A3R)/\(cls=5->M2[slot]?=M[slot]?)
def D6C(C:Ctx)(N:Nat)(ops:Array Oper)(fl:Bool)(cls rob slot:Nat)(o:Oper)(v:AV)(T:Env)(M:Mem)(eff:Eff):Prop:=
 eff.ok fl cls slot M/\∀T2 M2 l,(∀s∈o.looksAt ops,T2 s=T s)->B6K fl cls rob slot M M2 l->∀G w a,Inv C G M2 w->A2Q G N T2 a->∀(next:Act->World->Prop) (Q:Exit->Act->World->Prop),
  (∀G' w' x,G.le G'->Inv C G' (eff.appF l M2) w'->Rep G' v x->Ext w w'->next (a.put o.dst x) w')->
  if Region.wanted o (yielded ops a.tmps)then o.wp C.P a w next Q\/(o.asks C.P a w/\LetsOut Q)else next (a.put o.dst undef) w
def C4D{C}{o}{ρ:Operand->AV}{A B}(h:∀r,A1g o ρ=some r->A[r]?=B[r]?):A3I C o ρ A=A3I C o ρ B:=by
 obtain⟨d,op,t,p,af,g⟩:=o;cases op<;>try rfl
 case load t x=>
  simp only[A3I,A0M];simp only[A1g]at h;have e:A2r A (ρ x)=A2r B (ρ x):=by
   cases hx:ρ x with
   |ptr b off=>rw[hx]at h;simp only[A2r];rw[h b rfl]
   |vptr f g off=>rw[hx]at h;simp only[A2r];rw[h f rfl]
   |_=>rfl
  rw[e]
 case lookup t m k ok=>
  simp only[A3I,A1S];have e:A4C A (ρ m)=A4C B (ρ m):=by
   unfold A4C;simp only[A1g]at h;split
   .rfl
   .rename_i b hb;rw[hb]at h;simp only at h;rw[h b rfl]
   .rfl
  rw[e]
 case call c=>
  obtain⟨callee,args,ts⟩:=c;cases callee with
  |builtin b=>
   cases b<;>try rfl
   simp only[A3I];simp only[A1g]at h;split
   .rename_i x t' ha ht;rw[ha]at h;simp only at h;have e:A4H C.P t' A (ρ x)=A4H C.P t' B (ρ x):=by
     unfold A4H;split
     .rename_i b hb;rw[hb]at h;simp only at h;rw[h b rfl]
     .rfl
    rw[e]
   .rfl
  |_=>rfl
def C9J{C}{h}{o}{ρ:Operand->AV}{M}{v}(hr:A3I C o ρ M=some v){K:AV->Mem->Prop}(hk:K v M):A4F C h o K ρ M:=by
 obtain⟨d,op,t,p,af,g⟩:=o;unfold A3I at hr;simp only at hr;split at hr
 .rw[B9T,hr];exact hk
 .rw[B5r,hr];exact hk
 .rename_i args ts;split at hr
  .rename_i x t' ha ht;(have a:args=#[x]:=by apply Z1K;simpa using ha);(have b:ts=#[t']:=by apply Z1K;simpa using ht);subst a;subst b;simp only[Z0l]at hr;obtain⟨n,hn,rfl⟩:=hr;rw[D0N,hn];exact hk
  .simp at hr
 .simp at hr
def A8e{C:Ctx}{ops:Array Oper}{T T2:Env}{o:Oper}(h:∀s∈o.looksAt ops,T2 s=T s):∀x∈o.op.operands.toList,T2.ev C x=T.ev C x:=by
 intro x hx;cases x with
 |tmp t=>simp only[Env.ev];refine h t ?_;unfold Oper.looksAt;exact Z2v _ (List.mem_filterMap.2 ⟨.tmp t,by simpa using hx,rfl⟩)
 |_=>rfl
def B0G{ops}{T T2}{o}(h:∀s∈o.looksAt ops,T2 s=T s)(run skip:Prop):A2q ops o T2 run skip=A2q ops o T run skip:=by
 unfold A2q;split
 .rfl
 .rename_i j want hg;split
  .rename_i d hd;have:T2 d=T d:=h d (by unfold Oper.looksAt;rw[hg];simp only[hd];simp);rw[this]
  .rfl
def A9R{ρ ρ':Operand->AV}{l:List Operand}(h:∀x∈l,ρ' x=ρ x):l.map ρ'=l.map ρ:=Z2e h
def B1b{C:Ctx}{hn:A2j}{o:Oper}{ρ ρ':Operand->AV}(h:∀x∈o.op.operands.toList,ρ' x=ρ x):A0I C hn o ρ'=A0I C hn o ρ:=by
 obtain⟨dst,op,type,pos,after,guard⟩:=o;simp only at h;cases op<;>simp only[Op.operands]at h;case call c=>
  obtain⟨callee,args,ts⟩:=c;cases callee<;>try rfl
  simp only[Call.operands]at h;simp only[A0I];rw[A9R (l:=args.toList) (λx hx=>h x (by simpa using hx))]
 case build t ps=>
  have e:(ps.toList.map λp=>(p.1,ρ' p.2))=ps.toList.map λp=>(p.1,ρ p.2):=Z2e λp hp=>by rw[h p.2 (by simp;exact⟨p.1,by simpa using hp⟩)]
  simp only[A0I,e]
 case buildSlice t n ps=>
  have e:(ps.toList.map λp=>(p.1,ρ' p.2))=ps.toList.map λp=>(p.1,ρ p.2):=Z2e λp hp=>by rw[h p.2 (by simp;exact⟨p.1,by simpa using hp⟩)]
  simp only[A0I,e]
 case makeFunc fn f c=>simp only[A0I];rw[A9R (l:=f.toList) (λx hx=>h x (by simp;simp at hx;simp[hx])),A9R (l:=c.toList) (λx hx=>h x (by simp;simp at hx;simp[hx]))]
 case slice t x lo hi mx=>
  have e:∀(y:Option Operand),(∀q,y=some q->ρ' q=ρ q)->y.map ρ'=y.map ρ:=λy hy=>by cases y with|none=>rfl|some q=>simp[hy q rfl]
  simp only[A0I];rw[h x Q1,e lo (λq hq=>h q (by simp[hq])),e hi (λq hq=>h q (by simp[hq])),e mx (λq hq=>h q (by simp[hq]))]
 case unOp op t x=>cases op<;>first|rfl|(simp only[A0I];rw[h x Q1])
 case move x=>simp only[A0I];rw[h x Q1]
 case assign x=>simp only[A0I];rw[h x Q1]
 case pick c a b=>simp only[A0I];rw[h c Q1,h a Q1,h b Q1]
 case box e x=>simp only[A0I];rw[h x Q1]
 case nilCheck x=>simp only[A0I];rw[h x Q1]
 case binOp op t x y u=>simp only[A0I];rw[h x Q1,h y Q1]
 case fieldAddr t x f=>simp only[A0I];rw[h x Q1]
 case field t x f=>simp only[A0I];rw[h x Q1]
 case indexAddr t x i=>simp only[A0I];rw[h x Q1,h i Q1]
 case index t x i=>simp only[A0I];rw[h x Q1,h i Q1]
 case load t x=>simp only[A0I];rw[h x Q1]
 case extract x i=>simp only[A0I];rw[h x Q1]
 case convert a b x=>simp only[A0I];rw[h x Q1]
 all_goals rfl
def B9t{C}{hn}{o}{ρ ρ':Operand->AV}{M}(h:∀x∈o.op.operands.toList,ρ' x=ρ x):A1P C hn o ρ' M=A1P C hn o ρ M:=by
 obtain⟨dst,op,type,pos,after,guard⟩:=o;simp only at h;cases op<;>simp only[Op.operands]at h;case load t x=>simp only[A1P];rw[h x Q1]
 case store t a x=>simp only[A1P];rw[h a Q1,h x Q1]
 case box e x=>simp only[A1P];rw[h x Q1]
 all_goals rfl
def B6R{C}{hn}{o}{ρ ρ':Operand->AV}{M}(h:∀x∈o.op.operands.toList,ρ' x=ρ x):A1R C hn o ρ' M=A1R C hn o ρ M:=by
 obtain⟨dst,op,type,pos,after,guard⟩:=o;simp only at h;cases op<;>simp only[Op.operands]at h;case buildSlice t n ps=>
  simp only[A1R];have:(ps.toList.map λp=>(p.1,ρ' p.2))=(ps.toList.map λp=>(p.1,ρ p.2)):=Z2e λp hp=>by rw[h p.2 (by simp;exact⟨_,by simpa using hp⟩)]
  rw[this]
 case makeSlice t l c=>simp only[A1R];rw[h l Q1,h c Q1]
 case lookup t m k ok=>simp only[A1R];rw[h m Q1,h k Q1]
 case mapUpdate t m k x=>simp only[A1R];rw[h m Q1,h k Q1,h x Q1]
 case insert t m k x=>simp only[A1R];rw[h m Q1,h k Q1,h x Q1]
 case call c=>
  obtain⟨callee,args,ts⟩:=c;cases callee with
  |builtin b=>simp only[A1R];have:args.toList.map ρ'=args.toList.map ρ:=Z2e λx hx=>h x (by simp[Call.operands];simpa using hx);rw[this]
  |_=>rfl
 case makeMap t r=>cases r<;>rfl
 all_goals rfl
def B0p{C}{o}{ρ ρ':Operand->AV}(h:∀x∈o.op.operands.toList,ρ' x=ρ x):A1a C o ρ'=A1a C o ρ:=by
 obtain⟨dst,op,type,pos,after,guard⟩:=o;simp only at h;cases op<;>simp only[Op.operands]at h;case indexAddr t x i=>simp only[A1a];rw[h x Q1,h i Q1]
 case index t x i=>simp only[A1a];rw[h x Q1,h i Q1]
 case build t ps=>
  have e:(ps.toList.map λp=>(p.1,ρ' p.2))=ps.toList.map λp=>(p.1,ρ p.2):=Z2e λp hp=>by rw[h p.2 (by simp;exact⟨p.1,by simpa using hp⟩)]
  simp only[A1a,e]
 case binOp op t x y u=>cases op<;>first|rfl|(simp only[A1a];rw[h x Q1,h y Q1])
 case unOp op t x=>cases op<;>first|rfl|(simp only[A1a];rw[h x Q1])
 case convert a b x=>simp only[A1a];rw[h x Q1]
 all_goals rfl
def C3H{C}{o}{ρ ρ':Operand->AV}{M}(h:∀x∈o.op.operands.toList,ρ' x=ρ x):A7l C o ρ' M=A7l C o ρ M:=by
 obtain⟨dst,op,type,pos,after,guard⟩:=o;simp only at h;cases op<;>simp only[Op.operands]at h;case range t x=>simp only[A7l];rw[h x Q1]
 case next x b=>cases b<;>first|rfl|(simp only[A7l];rw[h x Q1])
 case slice t x lo hi mx=>
  have e:∀(y:Option Operand),(∀q,y=some q->ρ' q=ρ q)->y.map ρ'=y.map ρ:=λy hy=>by cases y with|none=>rfl|some q=>simp[hy q rfl]
  simp only[A7l];rw[h x Q1,e lo (λq hq=>h q (by simp[hq])),e hi (λq hq=>h q (by simp[hq])),e mx (λq hq=>h q (by simp[hq]))]
 case convert a b x=>simp only[A7l];rw[h x Q1]
 case call c=>
  obtain⟨callee,args,ts⟩:=c;cases callee with
  |builtin b=>simp only[A7l];have:args.toList.map ρ'=args.toList.map ρ:=Z2e λx hx=>h x (by simp[Call.operands];simpa using hx);rw[this]
  |_=>rfl
 all_goals rfl
def C1M{C}{hn}{o}{ρ ρ':Operand->AV}{M}(h:∀x∈o.op.operands.toList,ρ' x=ρ x):A0W C hn o ρ' M=A0W C hn o ρ M:=by simp only[A0W,B1b h,B9t h,B6R h,B0p h,C3H h]
def C1t{C}{o}{ρ ρ':Operand->AV}{M}(h:∀x∈o.op.operands.toList,ρ' x=ρ x):A3I C o ρ' M=A3I C o ρ M:=by
 obtain⟨dst,op,type,pos,after,guard⟩:=o;simp only at h;cases op<;>simp only[Op.operands]at h;case load t x=>simp only[A3I];rw[h x Q1]
 case lookup t m k ok=>simp only[A3I];rw[h m Q1,h k Q1]
 case call c=>
  obtain⟨callee,args,ts⟩:=c;cases callee with
  |builtin b=>
   cases b<;>first|rfl|skip
   simp only[A3I];cases ha:args.toList with
   |nil=>rfl
   |cons x l=>
    cases l with
    |cons _ _=>rfl
    |nil=>
     cases ht:ts.toList with
     |nil=>rfl
     |cons t l2=>
      cases l2 with
      |cons _ _=>rfl
      |nil=>simp only;(have hx:x∈args.toList:=by rw[ha];simp);rw[h x (by simp[Call.operands];simpa using hx)]
  |_=>rfl
 all_goals rfl
def C5v{C}{G}{M}{w}(hi:Inv C G M w){s}(hM:M[s]?=some A3R){vs}{cs}(t:TypeId)(hr:A0s G cs vs.toList)(k:∀v∈vs.toList,v.oneCell'=true):∃G',G.le G'/\Inv C G' (M.set s (.vec t cs.length cs 1 [(1,1)])) (w.alloc (.cells vs t))/\Rep G' (.vptr s 1 0) (.pointer (some ⟨w.heap.size,0,none⟩)):=by
 obtain⟨p0,_,_⟩:=hi.obj s _ hM
 have d:=A0p.le_time (G:=G) (f:=s) (n:=1) (h:=(some (⟨w.heap.size,0,none⟩:Addr),1)) Q0
 have a:∀i,G.st w.heap.size i=none:=by
  intro i;cases e:G.st w.heap.size i with
  |none=>rfl
  |some v=>have:=Z2A w ⟨w.heap.size,i,none⟩ (hi.st _ _ _ e);simp at this
 have c:G.keep w.heap.size=none:=by
  cases e:G.keep w.heap.size with
  |none=>rfl
  |some o=>have:=A4q (hi.keep _ _ e);omega
 have g:cs.length=vs.size:=by rw[<-hr.length];simp
 refine⟨_,d,hi.step (G':=G.grow s 1 (some ⟨w.heap.size,0,none⟩,1) 0 0 []) (w':=w.alloc (.cells vs t)) (o':=.vec t cs.length cs 1 [(1,1)]) s w.heap.size hM (.inr (Z0j _)) d rfl (λ_=>rfl) (λj hj=>by simp[A0p.grow,hj])
  (λb i v hv=>by rw[A0p.time_st]at hv;exact .inl hv) (λ_=>rfl) (λb hb _=>A2E w _ b hb) (λi v hv=>by rw[a i]at hv;simp at hv) (λo ho=>by rw[c]at ho;simp at ho)
  ⟨by simp[A0p.grow],λh1 n1 hm=>?_,λh1 n1 h2 n2 a1 a2 c1' c2' m1 m2 e1 e2 e3=>?_⟩ (λb1 ⟨h1,n1,a1,hm,e1,e2⟩=>?_),?_⟩
 .simp only[Z0R,Z0g]at hm;obtain⟨rfl,rfl⟩:=hm;refine⟨by simp[A0p.grow],Q0,w.heap.size,0,1,vs,A0p.time_hdr _ _ _ _,Z0j _,by decide,Z1U w _,Q0,?_,?_,λi=>by rw[A0p.time_st];exact a i,c⟩
  .rw[Z1x,Nat.one_mul,Z0e (Z0j _),Z0e (by simp[g])];exact A0s.mono d _ _ hr
  .intro v hv;rw[Z1x]at hv;exact k v (Z1m hv)
 .simp only[Z0R,Z0g]at m1 m2;obtain⟨rfl,rfl⟩:=m1;obtain⟨rfl,rfl⟩:=m2;rw[e1]at e2;simp only[Z0g,Z0b]at e2;exact e2.1
 .simp only[Z0R,Z0g]at hm;obtain⟨rfl,rfl⟩:=hm;rw[A0p.time_hdr]at e1;simp only[Z0b]at e1;subst e1;exact .inl e2.symm
 .simp only[Rep];exact⟨by rw[show(G.grow s 1 (some ⟨w.heap.size,0,none⟩,1) 0 0 []).n=G.n from rfl,hi.n];exact A0N hM,by simp[A0p.grow],⟨w.heap.size,0,none⟩,1,A0p.time_hdr _ _ _ _,Q1⟩
def B9l{C}{G}{M}{w}(hi:Inv C G M w){e:TypeId}{X}(hX:B1r C.P e=some X){slot}(hM:M[slot]?=some A3R){o}(ho:o.op=.alloc e)(a:Act):A9D C G w o a (λv m=>v=.vptr slot 1 0/\m=M.set slot X):=by
 unfold B1r at hX
 split at hX
 case h_2=>simp at hX
 rename_i z hz
 split at hX
 case isFalse=>simp at hX
 rename_i hall
 simp only[Z0b]at hX
 subst hX
 obtain⟨zv,hv,c,f⟩:=A9r (P:=C.P) hz G w
 have d:(z.map AV.val).length=z.length:=by simp
 obtain⟨G',h1,h2,h3⟩:=C5v hi hM (vs:=zv.cells) e (by rw[c];exact f) (λy hy=>by rw[c]at hy;exact Z0D.1 hall y hy)
 intro next Q hK
 obtain⟨dst,op,type,pos,after,guard⟩:=o
 simp only at ho
 subst ho
 have b:(execOp a.eval ⟨dst,.alloc e,type,pos,after,guard⟩).run C.P w=.ok (.value (.pointer (some ⟨w.heap.size,0,none⟩))) (w.alloc (.cells zv.cells e)):=by refine A3w (v:=.pointer (some ⟨w.heap.size,0,none⟩)) ?_;simp only[Instr.alloc,Z0E,hv,Z0t,newVar,newRow,Z3G,Z0M];rfl
 unfold Oper.wp
 rw[b]
 rw[d]at h2
 exact hK _ _ G' _ _ ⟨rfl,rfl⟩ h1 h2 h3 (Ext.alloc _ _)
def D1u{fl}{f:Mem->Option (AV×Mem)}{M}{K:AV->Mem->Prop}(h:A6W fl f M K):∃v M1,K v M1/\(fl=true->A9M M M1)/\∀l,B4R M l->(fl=false->l=[])->f (fill M l)=some (v,fill M1 l):=by
 unfold A6W at h;split at h;case h_2=>exact h.elim
 rename_i v M1 hf;refine⟨v,M1,h.2,λe=>(h.1 e).1,λl hb hl=>?_⟩;cases fl with
 |true=>exact(h.1 rfl).2 l hb
 |false=>rw[hl rfl];exact hf
def D7P{C:Ctx}{N:Nat}{h:A2j}{ops:Array Oper}{fl:Bool}{cls rob b:Nat}{o:Oper}(i:Oper.inside N o=true){T:Env}{M:Mem}{K:AV->Mem->Prop}(hd:dOp C h fl cls rob b o (T.ev C) M K):∃(v:AV) (eff:Eff),K v (eff.app M)/\eff.ok fl cls b M/\∀T2 M2 l,(∀s∈o.looksAt ops,T2 s=T s)->B6K fl cls rob b M M2 l->∀G w a,Inv C G M2 w->A2Q G N T2 a->A9D C G w o a (λv' M3=>v'=v/\M3=eff.appF l M2):=by
 have n:∀f,A6W fl f M K->cls=2->(∀T2 M2 v M',(∀s∈o.looksAt ops,T2 s=T s)->f M2=some (v,M')->∀G w a,Inv C G M2 w->A2Q G N T2 a->A9D C G w o a (λv' M3=>v'=v/\M3=M'))->
  ∃(v:AV) (eff:Eff),K v (Eff.app eff M)/\eff.ok fl cls b M/\∀T2 M2 l,(∀s∈o.looksAt ops,T2 s=T s)->B6K fl cls rob b M M2 l->∀G w a,Inv C G M2 w->A2Q G N T2 a->
  A9D C G w o a (λv' M3=>v'=v/\M3=eff.appF l M2):=by
  intro f hf hc hs
  obtain⟨v,M1,h1,h2,h3⟩:=D1u hf
  refine⟨v,.mem M1,h1,⟨hc,h2⟩,λT2 M2 l e1 e2 G w a hi hr=>?_⟩
  obtain⟨rfl,hb,hl⟩:=e2.2.1 hc
  exact hs T2 _ v _ e1 (h3 l hb hl) G w a hi hr
 have c:(∀ρ M2 v M',A0W C h o ρ M2=some (v,M')->∀K':AV->Mem->Prop,K' v M'->A4F C h o K' ρ M2)->∀T2 M2 v M',(∀s∈o.looksAt ops,T2 s=T s)->A0W C h o (T.ev C) M2=some (v,M')->∀G w a,Inv C G M2 w->A2Q G N T2 a->A9D C G w o a (λv' M3=>v'=v/\M3=M'):=by intro hv T2 M2 v M' e1 he G w a hi hr;exact A5D hi (A8q hi hr i) (hv (T2.ev C) M2 v M' (by rw[C1M (A8e e1)];exact he) _ ⟨rfl,rfl⟩)
 have j:(if cls=0 then A0S ((A0I C h o (T.ev C)).or (A1a C o (T.ev C))) (λv=>K v M)else if cls=1 then A1g o (T.ev C)=some rob/\A0S (A3I C o (T.ev C) M) (λv=>K v M)
  else if cls=5 then A4i o (T.ev C)=some b/\A0S (A0W C h o (T.ev C) M) (λr=>K r.1 r.2)
  else cls=2/\A6W fl (A0W C h o (T.ev C)) M K)->
  (∀ρ M2 v M',A0W C h o ρ M2=some (v,M')->∀K':AV->Mem->Prop,K' v M'->A4F C h o K' ρ M2)->
  ∃(v:AV) (eff:Eff),K v (Eff.app eff M)/\eff.ok fl cls b M/\∀T2 M2 l,(∀s∈o.looksAt ops,T2 s=T s)->B6K fl cls rob b M M2 l->∀G w a,Inv C G M2 w->A2Q G N T2 a->
  A9D C G w o a (λv' M3=>v'=v/\M3=eff.appF l M2):=by
  intro hp hv
  split at hp
  .rename_i hc;cases he:(A0I C h o (T.ev C)).or (A1a C o (T.ev C))with
   |none=>rw[he]at hp;exact hp.elim
   |some v=>
    rw[he]at hp;refine⟨v,.none,hp,trivial,λT2 M2 l h1 h2 G w a hi hr=>?_⟩;(have m:(A0I C h o (T2.ev C)).or (A1a C o (T2.ev C))=some v:=by rw[B1b (A8e h1),B0p (A8e h1)];exact he);rcases Option.or_eq_some_iff.1 m with h3|⟨_,h3⟩
    .exact A5D hi (A8q hi hr i) (hv (T2.ev C) M2 v M2 (by simp[A0W,h3]) _ ⟨rfl,rfl⟩)
    ·(intro next Q hK);obtain⟨nx,w',G',k1,k2,k3,k4,k5⟩:=B5I hi (A8q hi hr i) h3
     unfold Oper.wp;rw[k1];rcases k2 with⟨x,rfl,y⟩|⟨rfl,rfl⟩
     .exact hK v M2 G' w' x ⟨rfl,rfl⟩ k3 k4 y k5
     .exact hK _ M2 G' w' undef ⟨rfl,rfl⟩ k3 k4 (by simp[Rep]) k5
  .rename_i hc0;split at hp
   .rename_i hc;obtain⟨a1,hp⟩:=hp;cases he:A3I C o (T.ev C) M with
    |none=>rw[he]at hp;exact hp.elim
    |some v=>rw[he]at hp;refine⟨v,.none,hp,trivial,λT2 M2 l h1 h2 G w a hi hr=>?_⟩;(have m:A3I C o (T2.ev C) M2=some v:=by rw[C1t (A8e h1),<-he];exact C4D (λr hr=>by rw[a1]at hr;simp at hr;subst hr;exact h2.1 hc));exact A5D hi (A8q hi hr i) (C9J (h:=h) m ⟨rfl,rfl⟩)
   .split at hp
    .rename_i hc;obtain⟨z,hp⟩:=hp;cases he:A0W C h o (T.ev C) M with
     |none=>rw[he]at hp;exact hp.elim
     |some r=>obtain⟨v,M1⟩:=r;rw[he]at hp;obtain⟨X,rfl,a0,hX⟩:=B4U z he;refine⟨v,.put b X,hp,⟨.inr hc,rfl,a0⟩,λT2 M2 l h1 h2 G w a hi hr=>?_⟩;exact c hv T2 M2 v _ h1 (hX M2 (h2.2.2.2 hc)) G w a hi hr
    .exact n _ hp.2 hp.1 (c hv)
 obtain⟨dst,op,type,pos,after,guard⟩:=o
 unfold dOp at hd
 simp only at hd
 split at hd
 .rename_i f args ts;have a2:=@A8e C ops T;split at hd;case h_2=>exact hd.elim
  rename_i g first captured hf
  have same:∀T2:Env,(∀s∈Oper.looksAt ops ⟨dst,.call {callee:=.value f,args:=args,argTypes:=ts},type,pos,after,guard⟩,T2 s=T s)->T2.ev C f=.func (.func g) first captured/\args.toList.map (T2.ev C)=args.toList.map (T.ev C):=by intro T2 h1;have h2:=A8e (C:=C) h1;exact⟨by rw[h2 f (by simp[Op.operands,Call.operands])];exact hf,A9R λx hx=>h2 x (by simp[Op.operands,Call.operands];simp at hx;simp[hx])⟩
  split at hd
  .rename_i hc;obtain⟨r,d,hk⟩:=hd;refine⟨r,.none,hk,trivial,λT2 M2 l h1 h2 G w a hi hr=>?_⟩;obtain⟨e1,e2⟩:=same T2 h1;refine A5D (h:=h) hi (A8q hi hr i) ?_;simp only[A4F,e1,e2];exact d M2
  .rename_i hc;obtain⟨r,M1,p,d,k,hk⟩:=hd;refine⟨r,.mem M1,hk,⟨p,λe=>(k e).1⟩,λT2 M2 l h1 h2 G w a hi hr=>?_⟩;obtain⟨rfl,hb,hl⟩:=h2.2.1 p;obtain⟨e1,e2⟩:=same T2 h1;refine A5D (h:=h) hi (A8q hi hr i) ?_;simp only[A4F,e1,e2];cases fl with
   |true=>exact(k rfl).2 l hb
   |false=>rw[hl rfl];exact d
 .rename_i args ts;split at hd;case h_2=>exact hd.elim
  rename_i s x t u ha ht;obtain⟨e,sz,bytes,q,hc,hm⟩:=hd;refine n _ hm hc (λT2 M2 v M' h1 hap G w a hi hr=>?_);have h3:=A8e (C:=C) h1;have es:T2.ev C s=T.ev C s:=h3 s (by(simp[Op.operands,Call.operands];have:s∈args.toList:=by rw[ha];simp);simpa using this);have ex:T2.ev C x=T.ev C x:=h3 x (by(simp[Op.operands,Call.operands];have:x∈args.toList:=by rw[ha];simp);simpa using this);refine A5D (h:=h) hi (A8q hi hr i) ?_;simp only[A4F,ha,ht,es,ex];exact⟨e,sz,bytes,q,by rw[hap];exact⟨rfl,rfl⟩⟩
 .rename_i e;have hv:∀ρ M2 v M',A0W C h ⟨dst,.alloc e,type,pos,after,guard⟩ ρ M2=some (v,M')->∀K':AV->Mem->Prop,K' v M'->A4F C h ⟨dst,.alloc e,type,pos,after,guard⟩ K' ρ M2:=by intro ρ M2 v M' he K' hk;unfold A4F;simp only;rw[he];exact hk
  split at hd
  .rename_i hc;obtain⟨k,hM,hd⟩:=hd;cases hX:B1r C.P e with
   |none=>rw[hX]at hd;exact hd.elim
   |some X=>rw[hX]at hd;refine⟨_,.put b X,hd,⟨.inl hc,rfl,A0N hM⟩,λT2 M2 l h1 h2 G w a hi hr=>?_⟩;exact B9l hi hX (h2.2.2.1 hc) rfl a
  .exact n _ hd.2 hd.1 (c hv)
 .rename_i hne1 hne2 hne3;refine j hd (λρ M2 v M' he K' hk=>?_);unfold A4F;split
  .rename_i heq;exact absurd heq (by intro e;exact hne1 _ _ _ e)
  .rename_i heq;exact absurd heq (by intro e;exact hne2 _ _ e)
  .rw[he];exact hk
structure A4K where
 o:Oper
 v:AV
 eff:Eff
def A5k:List A4K->Nat->(Nat->Bool)->Env->Env
 |[],_,_,T=>T
 |p::ps,k,S,T=>A5k ps (k+1) S (if S k then T.put p.o.dst p.v else T)
def A4e:List A4K->Nat->(Nat->Bool)->Mem->Mem
 |[],_,_,M=>M
 |p::ps,k,S,M=>A4e ps (k+1) S (if S k then p.eff.app M else M)
def A9i(C:Ctx)(N:Nat)(ops:Array Oper)(L:B1N):List A4K->Nat->Env->Mem->Prop
 |[],_,_,_=>True
 |p::ps,k,T,M=>D6C C N ops L.fl (L.cls k) (L.rob k) (L.slot k) p.o p.v T M p.eff/\C3X L k M (p.eff.app M)/\A9i C N ops L ps (k+1) (T.put p.o.dst p.v) (p.eff.app M)
def A4r:List A4K->Env->Env
 |[],T=>T
 |p::ps,T=>A4r ps (T.put p.o.dst p.v)
def A2z:List A4K->Mem->Mem
 |[],M=>M
 |p::ps,M=>A2z ps (p.eff.app M)
def B0i{C}{N}{h}{ops}{L}:∀(l:List Oper) (k:Nat) (T:Env) (M:Mem) (K:Env->Mem->Prop),A2u N ops l=true->A1t C h ops L k l T M K->
 ∃ps:List A4K,ps.map (·.o)=l/\A9i C N ops L ps k T M/\K (A4r ps T) (A2z ps M)
 |[],k,T,M,K,_,hd=>⟨[],rfl,trivial,hd⟩
 |o::l,k,T,M,K,hin,hd=>by
  simp only[A2u,Z2I,Z0h]at hin;obtain⟨⟨ho,hg⟩,p⟩:=hin;have g:A2u N ops l=true:=by simpa[A2u]using p
  simp only[A1t]at hd;have r:=hd;unfold A2q at hd;have f:(∀T2,(∀s∈o.looksAt ops,T2 s=T s)->∀run skip:Prop,A2q ops o T2 run skip=run)->dOp C h L.fl (L.cls k) (L.rob k) (L.slot k) o (T.ev C) M (λv M'=>C3X L k M M'/\A1t C h ops L (k+1) l (T.put o.dst v) M' K)->
   ∃ps:List A4K,ps.map (·.o)=o::l/\A9i C N ops L ps k T M/\K (A4r ps T) (A2z ps M):=by
   intro m hr
   obtain⟨v,eff,⟨hq,hk⟩,hw,q⟩:=D7P (ops:=ops) ho hr
   obtain⟨ps,h1,h2,h3⟩:=B0i l (k+1) _ _ K g hk
   refine⟨⟨o,v,eff⟩::ps,by simp[h1],⟨⟨hw,λT2 M2 fl e1 e2 G w a hi he next Q hK=>?_⟩,hq,h2⟩,h3⟩
   have n:=B0S (C:=C) (M:=M2) (w:=w) he hg (run:=True) (skip:=False) (by rw[m T2 e1];trivial)
   rcases n with⟨i,_⟩|⟨_,hf⟩
   .simp only at i|-;rw[Z0c i];left;(refine q T2 M2 fl e1 e2 G w a hi he next Q ?_);rintro v' M3 G' w' x ⟨rfl,rfl⟩ q1 q2 q3 q4;exact hK G' w' x q1 q2 q3 q4
   .exact hf.elim
  have c:(∀T2,(∀s∈o.looksAt ops,T2 s=T s)->∀run skip:Prop,A2q ops o T2 run skip=skip)->A1t C h ops L (k+1) l (T.put o.dst (.val undef)) M K->
   ∃ps:List A4K,ps.map (·.o)=o::l/\A9i C N ops L ps k T M/\K (A4r ps T) (A2z ps M):=by
   intro m hr
   obtain⟨ps,h1,h2,h3⟩:=B0i l (k+1) _ _ K g hr
   refine⟨⟨o,.val undef,.none⟩::ps,by simp[h1],⟨⟨trivial,λT2 M2 fl e1 e2 G w a hi he next Q hK=>?_⟩,λ_ _ _=>rfl,h2⟩,h3⟩
   have n:=B0S (C:=C) (M:=M2) (w:=w) he hg (run:=False) (skip:=True) (by rw[m T2 e1];trivial)
   rcases n with⟨_,hf⟩|⟨i,_⟩
   .exact hf.elim
   .simp only at i|-;rw[Z0d (by simp[i])];exact hK G w undef (.refl _) hi (by simp[Rep]) (.refl _)
  split at hd
  .rename_i hn;exact f (λT2 _ run skip=>by unfold A2q;rw[hn]) hd
  .rename_i j want hs;split at hd;(case h_2=>exact hd.elim);rename_i d hdst;split at hd
   .rename_i b hb;by_cases e:b=want
    .rw[Z0c e]at hd;refine f (λT2 e1 run skip=>?_) hd;rw[B0G e1];unfold A2q;rw[hs];simp only[hdst,hb];rw[Z0c e]
    .rw[Z0d e]at hd;refine c (λT2 e1 run skip=>?_) hd;rw[B0G e1];unfold A2q;rw[hs];simp only[hdst,hb];rw[Z0d e]
   .rename_i vs hb;refine c (λT2 e1 run skip=>?_) hd;rw[B0G e1];unfold A2q;rw[hs];simp only[hdst,hb]
   .exact hd.elim
def C0y(ops:Array Oper):Nat->Nat->Nat->Bool
 |0,_,_=>false
 |fuel+1,j,i=>match ops[i]? with
  |some o=>o.after.any λe=>Region.binds .any e&&(e.on==j||C0y ops fuel j e.on)
  |none=>false
def A5r(ops:Array Oper)(x y:Oper):Bool:=
 (match x.dst with
  |some d=>(y.looksAt ops).contains d||y.dst==some d
  |none=>false)||
 (match y.dst with
  |some d=>(x.looksAt ops).contains d
  |none=>false)
def A6q(c:Nat):Bool:=c==4||c==5
def A9k{c}:A6q c=true<->c=4\/c=5:=by simp[A6q]
def A2b(L:B1N)(j i:Nat):Bool:=
 (L.cls j==2&&L.cls i==2)||(A6q (L.cls j)&&L.cls i==2)||(L.cls j==2&&L.cls i==5)||(L.cls j==1&&L.cls i==2&&L.aff j i)||(L.cls i==1&&L.cls j==2&&L.aff i j)||
 (L.cls j==1&&A6q (L.cls i)&&L.rob j==L.slot i)||(L.cls i==1&&A6q (L.cls j)&&L.rob i==L.slot j)
def A4D(ops:Array Oper)(L:B1N):Bool:=
 (List.range ops.size).all λi=>match ops[i]? with
  |some o=>(o.after.all λe=>!Region.binds .any e||decide (e.on<i))&&(L.cls i !=4||L.fl)&&
   (List.range i).all λj=>match ops[j]? with
    |some x=>(!(A5r ops x o||A2b L j i)||C0y ops ops.size j i)&&(!A6q (L.cls i)||!A6q (L.cls j)||L.slot j !=L.slot i)
    |none=>true
  |none=>true
def C6G(ops:Array Oper)(S:Nat->Bool):Prop:=∀i o,ops[i]?=some o->S i=true->∀e∈o.after.toList,Region.binds .any e=true->S e.on=true
def A7t{ops}{S:Nat->Bool}(hc:C6G ops S):∀(fuel j i:Nat),C0y ops fuel j i=true->(∀o,ops[i]?=some o->∀e∈o.after.toList,Region.binds .any e=true->S e.on=true)->S j=true
 |0,_,_,h,_=>by simp[C0y]at h
 |fuel+1,j,i,h,hp=>by
  simp only[C0y]at h;split at h;case h_2=>simp at h
  rename_i o ho;rw[<-Array.any_toList]at h;obtain⟨e,he,hb⟩:=Z2R.1 h;simp only[Z0h,Z1V,Z3i]at hb;have hs:=hp o ho e he hb.1;rcases hb.2 with h1|h1
  .rw[<-h1];exact hs
  .exact A7t hc fuel j e.on h1 (λo' ho' e' he' hb'=>hc e.on o' ho' hs e' he' hb')
def B1C{T:Env}{d:Option Tmp}{v:AV}{s:Nat}(h:d≠some s):T.put d v s=T s:=by
 cases d with
 |none=>rfl
 |some d=>rw[Env.put_some,Z0d (λe=>h (by rw[e]))]
def A5v(S:Nat->Bool)(s:Nat):∀(ps:List A4K) (k:Nat) (T:Env),(∀j p,ps[j]?=some p->S (k+j)=true->p.o.dst≠some s)->A5k ps k S T s=T s
 |[],k,T,_=>rfl
 |p::ps,k,T,h=>by
  simp only[A5k];rw[A5v S s ps (k+1) _ (λj q hq hs=>h (j+1) q (by simpa using hq) (by rw[show k+(j+1)=k+1+j from by omega];exact hs))];by_cases hs:S k=true
  .rw[Z0c hs];exact B1C (h 0 p rfl hs)
  .rw[Z0d hs]
def B0x(S:Nat->Bool)(s:Nat):∀(ps:List A4K) (k i:Nat) (T:Env),(∀j p,ps[j]?=some p->p.o.dst=some s->(S (k+j)=true<->j<i))->A5k ps k S T s=A4r (ps.take i) T s
 |[],k,i,T,_=>by simp[A5k,A4r]
 |p::ps,k,0,T,h=>by simp only[Z2m,A4r];exact A5v S s (p::ps) k T (λj q hq hs hd=>by have:=(h j q hq hd).1 hs;omega)
 |p::ps,k,i+1,T,h=>by
  simp only[A5k,Z1j,A4r];have step:=B0x S s ps (k+1) i (if S k=true then T.put p.o.dst p.v else T) (λj q hq hd=>by have:=h (j+1) q (by simpa using hq) hd;rw[show k+(j+1)=k+1+j from by omega]at this;rw[this];omega);rw[step];have e0:(if S k=true then T.put p.o.dst p.v else T) s=T.put p.o.dst p.v s:=by
   by_cases hd:p.o.dst=some s
   .have:=(h 0 p rfl hd).2 Q0;simp only[Z0S]at this;rw[Z0c this]
   .by_cases hs:S k=true
    .rw[Z0c hs]
    .rw[Z0d hs,B1C hd]
  have a:∀(qs:List A4K) (A B:Env),A s=B s->A4r qs A s=A4r qs B s:=by
   intro qs;induction qs with
   |nil=>intro A B h;exact h
   |cons q qs ih=>
    intro A B h;simp only[A4r];refine ih _ _ ?_;cases q.o.dst with
    |none=>exact h
    |some d=>simp only[Env.put_some];split<;>simp_all
  exact a _ _ _ e0
def B6I(S:Nat->Bool)(i:Nat):∀(ps:List A4K) (k:Nat) (T:Env) (p:A4K),ps[i]?=some p->S (k+i)=false->(∀j q,ps[j]?=some q->i<j->S (k+j)=true->∀s,p.o.dst=some s->q.o.dst≠some s)->
 ∀s,A5k ps k (λx=>if x=k+i then true else S x) T s=(A5k ps k S T).put p.o.dst p.v s
 |[],k,T,p,hp,_,_=>by simp at hp
 |q::ps,k,T,p,hp,hS,hc=>by
  intro s;simp only[A5k];cases i with
  |zero=>
   simp at hp;subst hp;simp only[Z0S]at hS|-;rw[Z0c Q1,Z0d (by simp[hS])];have same:∀(rs:List A4K) (m:Nat) (A:Env),k<m->A5k rs m (λx=>if x=k then true else S x) A=A5k rs m S A:=by
    intro rs;induction rs with
    |nil=>intro m A _;rfl
    |cons r rs ih=>intro m A hm;have a:¬m=k:=Q0;simp only[A5k,Z0d a];exact ih (m+1) _ Q0
   rw[same ps (k+1) _ Q0];by_cases hs:q.o.dst=some s
   .have un:∀A:Env,A5k ps (k+1) S A s=A s:=λA=>A5v S s ps (k+1) A (λj r hr hsj=>by exact hc (j+1) r (by simpa using hr) Q0 (by rw[show k+(j+1)=k+1+j from by omega];exact hsj) s hs);rw[un,hs,Env.put_some,Env.put_some,Z0c rfl,Z0c rfl]
   .rw[B1C hs];have b:∀(rs:List A4K) (m:Nat) (A B:Env),A s=B s->A5k rs m S A s=A5k rs m S B s:=by
     intro rs;induction rs with
     |nil=>intro m A B h;exact h
     |cons r rs ih=>
      intro m A B h;simp only[A5k];refine ih _ _ _ ?_;split
      .cases r.o.dst with
       |none=>exact h
       |some d=>simp only[Env.put_some];split<;>simp_all
      .exact h
    exact b ps (k+1) _ _ (B1C hs)
  |succ i=>have a:¬k=k+(i+1):=Q0;simp only[Z0d a];have:=B6I S i ps (k+1) (if S k=true then T.put q.o.dst q.v else T) p (by simpa using hp) (by rw[show k+1+i=k+(i+1)from by omega];exact hS) (λj r hr hij hsj=>hc (j+1) r (by simpa using hr) Q0 (by rw[show k+(j+1)=k+1+j from by omega];exact hsj)) s;rw[show k+(i+1)=k+1+i from by omega];exact this
def A9i.at_{C}{N}{ops}{L}:∀(ps:List A4K) (k:Nat) (T:Env) (M:Mem),A9i C N ops L ps k T M->∀(i:Nat) (p:A4K),ps[i]?=some p->
 D6C C N ops L.fl (L.cls (k+i)) (L.rob (k+i)) (L.slot (k+i)) p.o p.v (A4r (ps.take i) T) (A2z (ps.take i) M) p.eff
 |[],_,_,_,_,i,p,hp=>by simp at hp
 |q::ps,k,T,M,h,0,p,hp=>by simp at hp;subst hp;exact h.1
 |q::ps,k,T,M,h,i+1,p,hp=>by have:=A9i.at_ ps (k+1) _ _ h.2.2 i p (by simpa using hp);rw[show k+(i+1)=k+1+i from by omega];exact this
def A8O(L:B1N):List A4K->Nat->Mem->Prop
 |[],_,_=>True
 |p::ps,k,M=>p.eff.ok L.fl (L.cls k) (L.slot k) M/\C3X L k M (p.eff.app M)/\A8O L ps (k+1) (p.eff.app M)
def A9i.effs{C}{N}{ops}{L}:∀(ps:List A4K) (k:Nat) (T:Env) (M:Mem),A9i C N ops L ps k T M->A8O L ps k M
 |[],_,_,_,_=>trivial
 |p::ps,k,T,M,h=>⟨h.1.1,h.2.1,A9i.effs ps (k+1) _ _ h.2.2⟩
def B5H(S:Nat->Bool):∀(a b:List A4K) (k:Nat) (M:Mem),A4e (a++b) k S M=A4e b (k+a.length) S (A4e a k S M)
 |[],b,k,M=>rfl
 |p::a,b,k,M=>by simp only[Z0O,A4e,Z0q];rw[B5H S a b (k+1),show k+1+a.length=k+(a.length+1)from by omega]
def A8O.append{L}:∀(a b:List A4K) (k:Nat) (M:Mem),A8O L (a++b) k M<->A8O L a k M/\A8O L b (k+a.length) (A2z a M)
 |[],b,k,M=>by simp[A8O,A2z]
 |p::a,b,k,M=>by simp only[Z0O,A8O,Z0q,A2z];rw[A8O.append a b (k+1),show k+1+a.length=k+(a.length+1)from by omega];simp only[and_assoc]
def B2Z{S S':Nat->Bool}:∀(a:List A4K) (k:Nat) (M:Mem),(∀j,j<a.length->S (k+j)=S' (k+j))->A4e a k S M=A4e a k S' M
 |[],k,M,_=>rfl
 |p::a,k,M,h=>by simp only[A4e];have h0:=h 0 Q1;simp only[Z0S]at h0;rw[h0];exact B2Z a (k+1) _ (λj hj=>by have:=h (j+1) (by simpa using hj);rwa[show k+(j+1)=k+1+j from by omega]at this)
def Eff.app_none_of{fl:Bool}{cls a:Nat}{M:Mem}{eff:Eff}(h:eff.ok fl cls a M)(h2:cls≠2)(h4:¬(cls=4\/cls=5)):eff=.none:=by
 cases eff with
 |none=>rfl
 |put s X=>exact absurd h.1 h4
 |mem M1=>exact absurd h.1 h2
def B1H{L:B1N}{S:Nat->Bool}:∀(a:List A4K) (k:Nat) (M:Mem),A8O L a k M->(∀j,j<a.length->L.cls (k+j)=2\/(L.cls (k+j)=4\/L.cls (k+j)=5)->S (k+j)=true)->A4e a k S M=A2z a M
 |[],k,M,_,_=>rfl
 |p::a,k,M,he,h=>by
  simp only[A4e,A2z];have h':∀j,j<a.length->L.cls (k+1+j)=2\/(L.cls (k+1+j)=4\/L.cls (k+1+j)=5)->S (k+1+j)=true:=λj hj hc=>by have:=h (j+1) (by simpa using hj) (by rwa[show k+(j+1)=k+1+j from by omega]);rwa[show k+(j+1)=k+1+j from by omega]at this
  cases hs:S k with
  |true=>rw[Z0c rfl];exact B1H a (k+1) _ he.2.2 h'
  |false=>have hn:p.eff=.none:=Eff.app_none_of he.1 (λe=>by have:=h 0 Q1 (.inl e);simp only[Z0S]at this;rw[hs]at this;simp at this) (λe=>by have:=h 0 Q1 (.inr e);simp only[Z0S]at this;rw[hs]at this;simp at this);rw[hn];simp only[Eff.app];have b:=he.2.2;rw[hn]at b;exact B1H a (k+1) _ b h'
def A6m:List A4K->Nat->(Nat->Bool)->List (Nat×A0l)
 |[],_,_=>[]
 |p::ps,k,S=>match S k,p.eff with
  |true,.put s X=>(s,X)::A6m ps (k+1) S
  |_,_=>A6m ps (k+1) S
def A6I{L}{S:Nat->Bool}:∀(a:List A4K) (k:Nat) (M0 M:Mem),A8O L a k M0->(∀j,j<a.length->L.cls (k+j)=2->S (k+j)=false)->A4e a k S M=fill M (A6m a k S)
 |[],k,M0,M,_,_=>rfl
 |p::a,k,M0,M,he,h=>by
  simp only[A4e,A6m];have h':∀j,j<a.length->L.cls (k+1+j)=2->S (k+1+j)=false:=λj hj hc=>by have:=h (j+1) (by simpa using hj) (by rwa[show k+(j+1)=k+1+j from by omega]);rwa[show k+(j+1)=k+1+j from by omega]at this
  rw[A6I a (k+1) _ _ he.2.2 h'];cases hs:S k with
  |false=>rfl
  |true=>
   rw[Z0c rfl];cases hf:p.eff with
   |none=>rfl
   |put s X=>rfl
   |mem M1=>have h1:=he.1;rw[hf]at h1;have:=h 0 Q1 h1.1;simp only[Z0S]at this;rw[hs]at this;simp at this
def A5z{L}{S:Nat->Bool}:∀(a:List A4K) (k:Nat) (M0:Mem),A8O L a k M0->∀q∈A6m a k S,∃j,j<a.length/\(L.cls (k+j)=4\/L.cls (k+j)=5)/\q.1=L.slot (k+j)/\S (k+j)=true
 |[],k,M0,_,q,hq=>by simp[A6m]at hq
 |p::a,k,M0,he,q,hq=>by
  have tl:q∈A6m a (k+1) S->∃j,j<(p::a).length/\(L.cls (k+j)=4\/L.cls (k+j)=5)/\q.1=L.slot (k+j)/\S (k+j)=true:=by intro hq;obtain⟨j,h1,h2,h3,h4⟩:=A5z a (k+1) _ he.2.2 q hq;exact⟨j+1,by simpa using h1,by rwa[show k+(j+1)=k+1+j from by omega],by rwa[show k+(j+1)=k+1+j from by omega],by rwa[show k+(j+1)=k+1+j from by omega]⟩
  simp only[A6m]at hq;split at hq
  .rename_i s X hs hf;rcases Z0r.1 hq with rfl|hq
   .have h1:=he.1;rw[hf]at h1;exact⟨0,Q1,h1.1,h1.2.1,hs⟩
   .exact tl hq
  .exact tl hq
def B3a{L}{S:Nat->Bool}:∀(a:List A4K) (k:Nat) (M0:Mem),A8O L a k M0->(∀j m,j<m->m<a.length->(L.cls (k+j)=4\/L.cls (k+j)=5)->(L.cls (k+m)=4\/L.cls (k+m)=5)->L.slot (k+j)≠L.slot (k+m))->((A6m a k S).map (·.1)).Nodup
 |[],k,M0,_,_=>by simp[A6m]
 |p::a,k,M0,he,h=>by
  have ih:=B3a (S:=S) a (k+1) _ he.2.2 (λj m hj hm h1 h2=>by have:=h (j+1) (m+1) Q0 (by simpa using hm) (by rwa[show k+(j+1)=k+1+j from by omega]) (by rwa[show k+(m+1)=k+1+m from by omega]);rwa[show k+(j+1)=k+1+j from by omega,show k+(m+1)=k+1+m from by omega]at this);simp only[A6m];split
  .rename_i s X hs hf;simp only[Z0w,Z1D];refine⟨λhm=>?_,ih⟩;obtain⟨q,hq,b⟩:=Z0H.1 hm;obtain⟨j,h1,h2,h3,_⟩:=A5z a (k+1) _ he.2.2 q hq;have h0:=he.1;rw[hf]at h0;refine h 0 (j+1) Q0 (by simpa using h1) h0.1 (by rwa[show k+(j+1)=k+1+j from by omega]) ?_;rw[show k+(j+1)=k+1+j from by omega,<-h3,b];exact h0.2.1.symm
  .exact ih
def B7I{L}{s}:∀(a:List A4K) (k:Nat) (M:Mem),A8O L a k M->L.fl=true->(∀j,j<a.length->(L.cls (k+j)=4\/L.cls (k+j)=5)->L.slot (k+j)≠s)->M[s]?=some A3R->(A2z a M)[s]?=some A3R
 |[],k,M,_,_,_,h=>h
 |p::a,k,M,he,hfl,hs,h=>by
  refine B7I a (k+1) _ he.2.2 hfl (λj hj hc=>by have:=hs (j+1) (by simpa using hj) (by rwa[show k+(j+1)=k+1+j from by omega]);rwa[show k+(j+1)=k+1+j from by omega]at this) ?_;have h0:=he.1;cases hf:p.eff with
  |none=>exact h
  |put s' X=>rw[hf]at h0;have:=hs 0 Q1 h0.1;simp only[Z0S]at this;simp only[Eff.app];rw[Z0f (by rw[h0.2.1];exact this)];exact h
  |mem M1=>rw[hf]at h0;exact h0.2 hfl s h
def B8b{L}{S:Nat->Bool}{r i}(hr:r=L.rob i)(b:L.cls i=1):∀(a:List A4K) (k:Nat) (A M:Mem),A8O L a k M->(∀j,j<a.length->L.cls (k+j)=2->L.aff i (k+j)=true->S (k+j)=true)->
 (∀j,j<a.length->(L.cls (k+j)=4\/L.cls (k+j)=5)->L.slot (k+j)=r->S (k+j)=true)->A[r]?=M[r]?->(A4e a k S A)[r]?=(A2z a M)[r]?
 |[],k,A,M,_,_,_,h=>h
 |p::a,k,A,M,he,h2,h4,h=>by
  simp only[A4e,A2z];refine B8b hr b a (k+1) _ _ he.2.2 (λj hj hc c=>?_) (λj hj hc hsl=>?_) ?_
  .have:=h2 (j+1) (by simpa using hj) (by rwa[show k+(j+1)=k+1+j from by omega]) (by rwa[show k+(j+1)=k+1+j from by omega]);rwa[show k+(j+1)=k+1+j from by omega]at this
  .have:=h4 (j+1) (by simpa using hj) (by rwa[show k+(j+1)=k+1+j from by omega]) (by rwa[show k+(j+1)=k+1+j from by omega]);rwa[show k+(j+1)=k+1+j from by omega]at this
  .have h0:=he.1;cases hf:p.eff with
   |none=>simp only[Eff.app];split<;>exact h
   |mem M1=>
    rw[hf]at h0;simp only[Eff.app];split
    .rfl
    .rename_i hs;have c:L.aff i k=false:=by
      cases e:L.aff i k with
      |false=>rfl
      |true=>have:=h2 0 Q1 h0.1 e;exact absurd this hs
     have:=he.2.1 i b c;rw[hf]at this;rw[h,hr];exact this.symm
   |put s X=>
    rw[hf]at h0;simp only[Eff.app];by_cases e:s=r
    .subst e;have hs:=h4 0 Q1 h0.1 h0.2.1.symm;simp only[Z0S]at hs;rw[Z0c hs];(have h1:s<M.length:=by rw[h0.2.1];exact h0.2.2);have h3:s<A.length:=A0N (by rw[h];exact Z0i h1);rw[Z2F h1,Z2F h3]
    .rw[Z0f e];split
     .rw[Z0f e];exact h
     .exact h
def B8J{L}{S:Nat->Bool}{r i}(hr:r=L.rob i)(c:L.cls i=1){V}:∀(a:List A4K) (k:Nat) (A M:Mem),A8O L a k M->(∀j,j<a.length->L.cls (k+j)=2->L.aff i (k+j)=true->S (k+j)=false)->
 (∀j,j<a.length->(L.cls (k+j)=4\/L.cls (k+j)=5)->L.slot (k+j)=r->S (k+j)=false)->(∀j m,j<m->m<a.length->(L.cls (k+j)=2\/(L.cls (k+j)=4\/L.cls (k+j)=5))->L.cls (k+m)=2->S (k+m)=true->S (k+j)=true)->
 A[r]?=V->(M[r]?=V\/∀j,j<a.length->L.cls (k+j)=2->S (k+j)=false)->(A4e a k S A)[r]?=V
 |[],k,A,M,_,_,_,_,h,_=>h
 |p::a,k,A,M,he,h2,h4,hp,h,hor=>by
  simp only[A4e];have sh:∀j,k+(j+1)=k+1+j:=λj=>by omega
  have b:(∀j,j<(p::a).length->L.cls (k+j)=2->S (k+j)=false)->∀j,j<a.length->L.cls (k+1+j)=2->S (k+1+j)=false:=λhx j hj hc=>by have:=hx (j+1) (by simpa using hj) (by rw[sh];exact hc);rwa[sh]at this
  have later:(L.cls k=2\/(L.cls k=4\/L.cls k=5))->S k=false->∀j,j<a.length->L.cls (k+1+j)=2->S (k+1+j)=false:=λhc hs j hj hcj=>by
   cases e:S (k+1+j)with
   |false=>rfl
   |true=>have:=hp 0 (j+1) Q0 (by simpa using hj) (by simpa using hc) (by rw[sh];exact hcj) (by rw[sh];exact e);simp only[Z0S]at this;rw[hs]at this;simp at this
  have go:∀A',A'[r]?=V->((p.eff.app M)[r]?=V\/∀j,j<a.length->L.cls (k+1+j)=2->S (k+1+j)=false)->(A4e a (k+1) S A')[r]?=V:=λA' hA ho=>
   B8J hr c a (k+1) _ _ he.2.2 (λj hj hc haf=>by
    have:=h2 (j+1) (by simpa using hj) (by rw[sh];exact hc) (by rw[sh];exact haf);rwa[sh]at this) (λj hj hc hsl=>by
    have:=h4 (j+1) (by simpa using hj) (by rw[sh];exact hc) (by rw[sh];exact hsl);rwa[sh]at this) (λj m hj hm h1 h3 h5=>by
    have:=hp (j+1) (m+1) Q0 (by simpa using hm) (by rw[sh];exact h1) (by rw[sh];exact h3) (by rw[sh];exact h5);rwa[sh]at this) hA ho
  have h0:=he.1;cases hf:p.eff with
  |none=>
   (have g:(if S k=true then Eff.none.app A else A)=A:=by simp[Eff.app]);rw[g]
   refine go A h ?_;rw[hf];exact hor.imp id b
  |mem M1=>
   rw[hf]at h0;have hq:=he.2.1;rw[hf]at hq;simp only[Eff.app]at hq|-;by_cases haf:L.aff i k=true
   .have hs:=h2 0 Q1 h0.1 haf;simp only[Z0S]at hs;rw[Z0d (by simp[hs])];exact go A h (.inr (later (.inl h0.1) hs))
   ·(have d:L.aff i k=false:=by simpa using haf);have e:=hq i c d
    rw[<-hr]at e;cases hs:S k with
    |true=>
     rw[Z0c rfl];have hM:M[r]?=V:=by
      rcases hor with hh|hh
      .exact hh
      .have:=hh 0 Q1 h0.1;simp only[Z0S]at this;rw[hs]at this;simp at this
     refine go M1 (by rw[e];exact hM) (.inl ?_);rw[hf];simp only[Eff.app];rw[e];exact hM
    |false=>rw[Z0d Q1];exact go A h (.inr (later (.inl h0.1) hs))
  |put s X=>
   rw[hf]at h0;simp only[Eff.app];by_cases e:s=r
   .subst e;have hs:=h4 0 Q1 h0.1 h0.2.1.symm;simp only[Z0S]at hs;rw[Z0d (by simp[hs])];exact go A h (.inr (later (.inr h0.1) hs))
   .have f:(if S k=true then A.set s X else A)[r]?=V:=by
     split
     .rw[Z0f e];exact h
     .exact h
    refine go _ f ?_;rw[hf];simp only[Eff.app];rw[Z0f e];exact hor.imp id b
def B7l{L}{S:Nat->Bool}{s}:∀(a:List A4K) (k:Nat) (A M:Mem),A8O L a k M->L.fl=true->(∀j,j<a.length->(L.cls (k+j)=4\/L.cls (k+j)=5)->L.slot (k+j)≠s)->M[s]?=some A3R->A[s]?=some A3R->(A4e a k S A)[s]?=some A3R
 |[],k,A,M,_,_,_,_,h=>h
 |p::a,k,A,M,he,hfl,hs,hM,hA=>by
  have sh:∀j,k+(j+1)=k+1+j:=λj=>by omega
  have h0:=he.1;have b:(p.eff.app M)[s]?=some A3R:=by
   cases hf:p.eff with
   |none=>exact hM
   |mem M1=>rw[hf]at h0;exact h0.2 hfl s hM
   |put s' X=>rw[hf]at h0;simp only[Eff.app];have:=hs 0 Q1 h0.1;simp only[Z0S]at this;rw[Z0f (by rw[h0.2.1];exact this)];exact hM
  simp only[A4e];refine B7l a (k+1) _ _ he.2.2 hfl (λj hj hc=>by have:=hs (j+1) (by simpa using hj) (by rw[sh];exact hc);rwa[sh]at this) b ?_;split
  .cases hf:p.eff with
   |none=>exact hA
   |mem M1=>rw[hf]at b;exact b
   |put s' X=>rw[hf]at h0;simp only[Eff.app];have:=hs 0 Q1 h0.1;simp only[Z0S]at this;rw[Z0f (by rw[h0.2.1];exact this)];exact hA
  .exact hA
def B8r{L}{S:Nat->Bool}{s}:∀(a:List A4K) (k:Nat) (A M:Mem),A8O L a k M->(∀j,j<a.length->L.cls (k+j)=2->S (k+j)=true)->(∀j,j<a.length->(L.cls (k+j)=4\/L.cls (k+j)=5)->L.slot (k+j)≠s)->
 A[s]?=M[s]?->(A4e a k S A)[s]?=(A2z a M)[s]?
 |[],k,A,M,_,_,_,h=>h
 |p::a,k,A,M,he,h2,hs,h=>by
  have sh:∀j,k+(j+1)=k+1+j:=λj=>by omega
  have h0:=he.1;simp only[A4e,A2z];refine B8r a (k+1) _ _ he.2.2 (λj hj hc=>by
   have:=h2 (j+1) (by simpa using hj) (by rw[sh];exact hc);rwa[sh]at this) (λj hj hc=>by
   have:=hs (j+1) (by simpa using hj) (by rw[sh];exact hc);rwa[sh]at this) ?_
  cases hf:p.eff with
  |none=>simp only[Eff.app];split<;>exact h
  |mem M1=>rw[hf]at h0;have:=h2 0 Q1 h0.1;simp only[Z0S]at this;rw[Z0c this];rfl
  |put s' X=>
   rw[hf]at h0;have:=hs 0 Q1 h0.1;simp only[Z0S]at this;(have b:s'≠s:=by rw[h0.2.1];exact this);simp only[Eff.app];split
   .rw[Z0f b,Z0f b];exact h
   .rw[Z0f b];exact h
def B7r{s}:∀(l:List (Nat×A0l)) (M:Mem),(∀q∈l,q.1≠s)->(fill M l)[s]?=M[s]?
 |[],M,_=>rfl
 |q::l,M,h=>by simp only[fill,Z2t];have:=B7r l (M.set q.1 q.2) (λq' hq'=>h q' (Z1y _ hq'));simp only[fill]at this;rw[this,Z0f (h q Z3f)]
def C2o{s}{X}:∀(l:List (Nat×A0l)) (M:Mem),(∀q∈l,q.1≠s)->fill (M.set s X) l=(fill M l).set s X
 |[],M,_=>rfl
 |q::l,M,h=>by simp only[fill,Z2t];have:=C2o (s:=s) (X:=X) l (M.set q.1 q.2) (λq' hq'=>h q' (Z1y _ hq'));simp only[fill]at this;rw[List.set_comm _ _ (h q Z3f).symm,this]
def A4Z{ops}{L}(h:A4D ops L=true){i}{o}(ho:ops[i]?=some o):(∀e∈o.after.toList,Region.binds .any e=true->e.on<i)/\(L.cls i=4->L.fl=true)/\∀j x,j<i->ops[j]?=some x->((A5r ops x o=true\/A2b L j i=true)->C0y ops ops.size j i=true)/\((L.cls i=4\/L.cls i=5)->(L.cls j=4\/L.cls j=5)->L.slot j≠L.slot i):=by
 have hi:i<ops.size:=(Z1H.1 ho).1
 have h1:=Z0D.1 h i (Z1W.2 hi)
 rw[ho]at h1
 simp only[Z0h]at h1
 obtain⟨⟨h1,h2⟩,h3⟩:=h1
 refine⟨λe he hb=>?_,λhc=>?_,λj x hj hx=>?_⟩
 .rw[<-Z4f]at h1;have:=Z0D.1 h1 e he;simp only[hb,Z3x,Z2J,Z0m]at this;exact this
 .simp only[hc,bne_self_eq_false,Z2J]at h2;exact h2
 .have h4:=Z0D.1 h3 j (Z1W.2 hj);rw[hx]at h4;simp only[Z0h,Z1V,Z2N,Z3I]at h4;obtain⟨h5,h6⟩:=h4;refine⟨λhc=>?_,λa b=>?_⟩
  .rcases h5 with h|h
   .rcases hc with hc|hc
    .rw[h.1]at hc;simp at hc
    .rw[h.2]at hc;simp at hc
   .exact h
  .rcases h6 with(h|h)|h
   .rw[A9k.2 a]at h;simp at h
   .rw[A9k.2 b]at h;simp at h
   .simpa using h
def C4w(L:B1N)(n:Nat)(M:Mem):Prop:=∀k,k<n->L.cls k=4->M[L.slot k]?=some A3R
def C9c{C:Ctx}{N:Nat}{ops:Array Oper}{L:B1N}(af:A4D ops L=true){ps:List A4K}(b3:ps.map (·.o)=ops.toList){T:Env}{M:Mem}(b4:A9i C N ops L ps 0 T M)(al:C4w L ops.size M){Q:Exit->Act->World->Prop}
 {G0:A0p}{w0:World}(hQ:∀G w a,G0.le G->Ext w0 w->Inv C G (A2z ps M) w->A2Q G N (A4r ps T) a->Q .normal a w):
 ∀(fuel:Nat) (b:Array Bool) (G:A0p) (w:World) (a:Act),b.size=ops.size->((List.range ops.size).filter λi=>!b.getD i true).length<=fuel->C6G ops (λi=>b.getD i false)->G0.le G->Ext w0 w->Inv C G (A4e ps 0 (λi=>b.getD i false) M) w->A2Q G N (A5k ps 0 (λi=>b.getD i false) T) a->wpAny C.P .any ops Q fuel b a w:=by
 have ap:=A9i.effs ps 0 T M b4
 have bm:ps.length=ops.size:=by have:=congrArg List.length b3;simpa using this
 have ar:∀(i:Nat) (p:A4K),ps[i]?=some p->ops[i]?=some p.o:=by
  intro i p hp;have:(ps.map (·.o))[i]?=some p.o:=by simp[hp]
  rw[b3]at this;simpa using this
 have b2:∀(i:Nat) (o:Oper),ops[i]?=some o->∃p:A4K,ps[i]?=some p/\p.o=o:=by
  intro i o ho;have:(ps.map (·.o))[i]?=some o:=by rw[b3];simpa using ho
  simpa using this
 have done:∀(b:Array Bool),b.size=ops.size->Region.ready .any ops b=[]->∀i,i<ops.size->b.getD i false=true:=by
  intro b a7 hr i;induction i using Nat.strongRecOn with
  |_ i ih=>
   intro hi;cases hl:b.getD i false with
   |true=>rfl
   |false=>
    exfalso;obtain⟨o,ho⟩:∃o,ops[i]?=some o:=⟨ops[i],Z1e hi⟩;have az:i∈Region.ready .any ops b:=by
     unfold Region.ready;refine Z1u.2 ⟨Z1W.2 hi,?_⟩;(have bl:b.getD i true=false:=by have h1:i<b.size:=Q0;simp[Array.getD,h1]at hl|-;exact hl);rw[bl,ho];simp only[Z3M,Z0V,Z1R,Z1E];rw[<-Z4f];refine Z0D.2 (λe he=>?_);by_cases hb:Region.binds .any e=true
     .have bj:=(A4Z af ho).1 e he hb;simp[ih e.on bj Q0]
     .simp[hb]
    rw[hr]at az;simp at az
 have b7:∀(b:Array Bool) (G:A0p) (w:World) (a:Act),b.size=ops.size->Region.ready .any ops b=[]->G0.le G->Ext w0 w->Inv C G (A4e ps 0 (λi=>b.getD i false) M) w->A2Q G N (A5k ps 0 (λi=>b.getD i false) T) a->Q .normal a w:=by
  intro b G w a a7 hr ag a3 hi he;have ay:=done b a7 hr;have e1:A4e ps 0 (λi=>b.getD i false) M=A2z ps M:=B1H ps 0 M ap (λj hj _=>by simp only[Z0P];exact ay j Q0);have e2:∀s,A5k ps 0 (λi=>b.getD i false) T s=A4r ps T s:=by intro s;have:=B0x (λi=>b.getD i false) s ps 0 ps.length T (λj p hp _=>by have hj:=A0N hp;simp only[Z0P];exact⟨λ_=>hj,λ_=>ay j Q0⟩);simpa using this
  rw[e1]at hi;exact hQ G w a ag a3 hi ⟨he.defers,he.size,λi hi'=>by rw[<-e2 i];exact he.at_ i hi'⟩
 intro fuel
 induction fuel with
 |zero=>
  intro b G w a a7 ab aa ag a3 hi he
  simp only[wpAny]
  have aj:Region.ready .any ops b=[]:=by unfold Region.ready;refine Z3v.2 (λi hi'=>?_);have hz:=Z0v (Nat.le_zero.1 ab);have:=Z3v.1 hz i hi';intro hc;simp only[Z0h]at hc;exact this hc.1
  exact⟨aj,b7 b G w a a7 aj ag a3 hi he⟩
 |succ fuel ih=>
  intro b G w a a7 ab aa ag a3 hi he
  simp only[wpAny]
  refine⟨λhr=>b7 b G w a a7 hr ag a3 hi he,λi hir=>?_⟩
  unfold Region.ready at hir
  obtain⟨ad,a8⟩:=Z1u.1 hir
  have a0:=Z1W.1 ad
  obtain⟨o,ho⟩:∃o,ops[i]?=some o:=⟨ops[i],Z1e a0⟩
  rw[ho]at a8
  simp only[Z1R,Z1E,Z0h]at a8
  obtain⟨bd,av⟩:=a8
  have aq:i<b.size:=Q0
  have a5:b.getD i false=false:=by simpa[Array.getD,aq]using bd
  obtain⟨p,hp,ah⟩:=b2 i o ho
  have ax:i<ps.length:=A0N hp
  have ac:∀o',ops[i]?=some o'->∀e∈o'.after.toList,Region.binds .any e=true->b.getD e.on false=true:=by intro o' z e a6 hb;rw[ho]at z;simp at z;subst z;rw[<-Z4f]at av;have:=Z0D.1 av e a6;simpa[hb]using this
  have c:∀j,j<ops.size->∃x,ops[j]?=some x:=λj hj=>⟨ops[j],Z1e hj⟩
  have u:∀(j:Nat) (x:Oper),ops[j]?=some x->j<i->(A5r ops x o=true\/A2b L j i=true)->b.getD j false=true:=λj x hx hj hc=>A7t aa _ _ _ (((A4Z af ho).2.2 j x hj hx).1 hc) ac
  have bb:∀(j m:Nat),j<m->m<ops.size->A2b L j m=true->b.getD m false=true->b.getD j false=true:=λj m hjm hm hc hs=>by obtain⟨x,hx⟩:=c j Q0;obtain⟨y,hy⟩:=c m hm;exact A7t aa _ _ _ (((A4Z af hy).2.2 j x hjm hx).1 (.inr hc)) (λo' z e a6 hb=>aa m o' z hs e a6 hb)
  have f:∀(j:Nat) (x:Oper),ops[j]?=some x->i<j->(A5r ops o x=true\/A2b L i j=true)->b.getD j false=false:=λj x hx hj hc=>by
   cases hs:b.getD j false with
   |false=>rfl
   |true=>have:=A7t aa _ _ _ (((A4Z af hx).2.2 i o hj ho).1 hc) (λo' z e a6 hb=>aa j o' z hs e a6 hb);rw[a5]at this;simp at this
  have ak:∀x y,A5r ops x y=true->A5r ops y x=true:=by
   intro x y h;unfold A5r at h|-;cases hxd:x.dst with
   |none=>
    cases hyd:y.dst with
    |none=>rw[hxd,hyd]at h;simp at h
    |some d=>rw[hxd,hyd]at h;simp at h|-;simp[h]
   |some d=>
    cases hyd:y.dst with
    |none=>rw[hxd,hyd]at h;simp at h|-;exact h
    |some d'=>
     rw[hxd,hyd]at h;simp at h|-;rcases h with(h|h)|h
     .simp[h]
     .simp[h]
     .simp[h]
  have au:∀(j:Nat) (x:Oper),ops[j]?=some x->j≠i->A5r ops x o=true->(b.getD j false=true<->j<i):=by
   intro j x hx bg hc;constructor
   .intro hj;rcases Nat.lt_or_gt_of_ne bg with h|h
    .exact h
    .rw[f j x hx h (.inl (ak _ _ hc))]at hj;simp at hj
   .intro hj;exact u j x hx hj (.inl hc)
  have b9:=A9i.at_ ps 0 T M b4 i p hp
  simp only[Z0P]at b9
  have b0:∀s∈p.o.looksAt ops,A5k ps 0 (λi=>b.getD i false) T s=A4r (ps.take i) T s:=by
   intro s hs;refine B0x _ s ps 0 i T (λj q hq hd=>?_);simp only[Z0P];by_cases e:j=i
   .subst e;simp[a5]
   .refine au j q.o (ar j q hq) e ?_;unfold A5r;rw[hd];rw[<-ah];simp[hs]
  have ae:ps=ps.take i++p::ps.drop (i+1):=by(have h1:ps.drop i=p::ps.drop (i+1):=by rw[Z0o ax];congr 1;rw[Z0i ax]at hp;simpa using hp);rw[<-h1,Z1b]
  have be:(ps.take i).length=i:=by rw[Z0s];omega
  have bq:(ps.drop (i+1)).length=ps.length-(i+1):=Z0G ..
  have b1:A8O L (ps.take i) 0 M/\p.eff.ok L.fl (L.cls i) (L.slot i) (A2z (ps.take i) M)/\C3X L i (A2z (ps.take i) M) (p.eff.app (A2z (ps.take i) M))/\A8O L (ps.drop (i+1)) (i+1) (p.eff.app (A2z (ps.take i) M)):=by have h1:=ap;rw[ae,A8O.append,be,Z0P]at h1;exact h1
  obtain⟨an,a9,bo,n⟩:=b1
  have t:∀S:Nat->Bool,A4e ps 0 S M=A4e (ps.drop (i+1)) (i+1) S (if S i=true then p.eff.app (A4e (ps.take i) 0 S M)else A4e (ps.take i) 0 S M):=by intro S;rw[show A4e ps 0 S M=A4e (ps.take i++p::ps.drop (i+1)) 0 S M from by rw[<-ae],B5H,be,Z0P];rfl
  have g:∀j k,j<k->k<ops.size->(L.cls j=4\/L.cls j=5)->(L.cls k=4\/L.cls k=5)->L.slot j≠L.slot k:=λj k hjk hk h1 h2=>by obtain⟨x,hx⟩:=c j Q0;obtain⟨y,hy⟩:=c k hk;exact((A4Z af hy).2.2 j x hjk hx).2 h2 h1
  have ai:∀k,k<ops.size->L.cls k=4->L.fl=true:=λk hk hc=>by obtain⟨y,hy⟩:=c k hk;exact(A4Z af hy).2.1 hc
  have am:∀k,i<=k->k<ops.size->L.cls k=4->(A2z (ps.take i) M)[L.slot k]?=some A3R:=λk hik hk hc=>B7I (ps.take i) 0 M an (ai k hk hc) (λj hj h4=>by simp only[Z0P]at h4|-;exact g j k Q0 hk h4 (.inl hc)) (al k hk hc)
  have sh:∀j,i+1+j=i+(j+1):=λj=>by omega
  have w2:L.cls i=2->(∀j,j<(ps.take i).length->L.cls (0+j)=2\/(L.cls (0+j)=4\/L.cls (0+j)=5)->b.getD (0+j) false=true)/\(∀j,j<(ps.drop (i+1)).length->L.cls (i+1+j)=2->b.getD (i+1+j) false=false):=by
   intro hc;refine⟨λj hj h=>?_,λj hj h=>?_⟩
   .simp only[Z0P]at h|-;obtain⟨x,hx⟩:=c j Q0;exact u j x hx Q0 (.inr (by unfold A2b;rcases h with h|h|h<;>simp[h,hc,A6q]))
   .obtain⟨x,hx⟩:=c (i+1+j) Q0;exact f _ x hx Q0 (.inr (by unfold A2b;simp[h,hc]))
  have ao:B6K L.fl (L.cls i) (L.rob i) (L.slot i) (A2z (ps.take i) M) (A4e ps 0 (λi=>b.getD i false) M) (A6m (ps.drop (i+1)) (i+1) (λi=>b.getD i false)):=by
   refine⟨λhc=>?_,λhc=>⟨?_,⟨λq hq=>?_,?_⟩,λbk=>?_⟩,λhc=>?_,λhc=>?_⟩
   .rw[t];simp only[a5,Z1L,Z2b];have h1:=B8b (S:=λi=>b.getD i false) (r:=L.rob i) rfl hc (ps.take i) 0 M M an (λj hj h2 haf=>by
     simp only[Z0P]at h2 haf|-;obtain⟨x,hx⟩:=c j Q0;exact u j x hx Q0 (.inr (by unfold A2b;simp[h2,hc,haf]))) (λj hj h4 hsl=>by
     simp only[Z0P]at h4 hsl|-;obtain⟨x,hx⟩:=c j Q0;exact u j x hx Q0 (.inr (by unfold A2b;rcases h4 with h4|h4<;>simp[h4,hc,hsl,A6q]))) rfl
    have bi:p.eff=.none:=Eff.app_none_of a9 Q0 Q0;refine B8J (S:=λi=>b.getD i false) (r:=L.rob i) (i:=i) rfl hc (ps.drop (i+1)) (i+1) _ _ n (λj hj h2 haf=>?_) (λj hj h4 hsl=>?_) (λj m hjm hm h2 h3 hs=>?_) h1 (.inl ?_)
    .obtain⟨x,hx⟩:=c (i+1+j) Q0;exact f _ x hx Q0 (.inr (by unfold A2b;simp[h2,hc,haf]))
    .obtain⟨x,hx⟩:=c (i+1+j) Q0;exact f _ x hx Q0 (.inr (by unfold A2b;rcases h4 with h4|h4<;>simp[h4,hc,hsl,A6q]))
    .exact bb (i+1+j) (i+1+m) Q0 Q0 (by unfold A2b;rcases h2 with h|h|h<;>simp[h,h3,A6q]) hs
    .rw[bi];rfl
   .rw[t];simp only[a5,Z1L,Z2b];rw[B1H (ps.take i) 0 M an (w2 hc).1];exact A6I _ _ _ _ n (w2 hc).2
   .obtain⟨j,h1,h2,h3,h5⟩:=A5z _ _ _ n q hq;rw[h3];rcases h2 with h2|h2
    .exact am (i+1+j) Q0 Q0 h2
    .obtain⟨x,hx⟩:=c (i+1+j) Q0;have:=f _ x hx Q0 (.inr (by unfold A2b;simp[h2,hc]));rw[this]at h5;simp at h5
   .exact B3a _ _ _ n (λj m hjm hm h1 h2=>g _ _ Q0 Q0 h1 h2)
   .cases hl:A6m (ps.drop (i+1)) (i+1) (λi=>b.getD i false)with
    |nil=>rfl
    |cons q l=>
     obtain⟨j,h1,h2,h3,h5⟩:=A5z (S:=λi=>b.getD i false) _ _ _ n q (by rw[hl];exact Z3f);rcases h2 with h2|h2
     .have:=ai (i+1+j) Q0 h2;rw[bk]at this;simp at this
     .obtain⟨x,hx⟩:=c (i+1+j) Q0;have:=f _ x hx Q0 (.inr (by unfold A2b;simp[h2,hc]));rw[this]at h5;simp at h5
   .rw[t];simp only[a5,Z1L,Z2b];have h1:(A4e (ps.take i) 0 (λi=>b.getD i false) M)[L.slot i]?=some A3R:=B7l (ps.take i) 0 M M an (ai i a0 hc) (λj hj h4=>by simp only[Z0P]at h4|-;exact g j i Q0 a0 h4 (.inl hc)) (al i a0 hc) (al i a0 hc);rw[A6I _ _ _ _ n (λj hj h2=>by obtain⟨x,hx⟩:=c (i+1+j) Q0;exact f _ x hx Q0 (.inr (by unfold A2b;simp[h2,hc,A6q])))];rw[B7r _ _ (λq hq=>by obtain⟨j,h1,h2,h3,_⟩:=A5z _ _ _ n q hq;rw[h3];exact(g i (i+1+j) Q0 Q0 (.inl hc) h2).symm)];exact h1
   .rw[t];simp only[a5,Z1L,Z2b];have h1:(A4e (ps.take i) 0 (λi=>b.getD i false) M)[L.slot i]?=(A2z (ps.take i) M)[L.slot i]?:=
     B8r (ps.take i) 0 M M an (λj hj h2=>by
      simp only[Z0P]at h2|-;obtain⟨x,hx⟩:=c j Q0;exact u j x hx Q0 (.inr (by unfold A2b;simp[h2,hc]))) (λj hj h4=>by
      simp only[Z0P]at h4|-;exact g j i Q0 a0 h4 (.inr hc)) rfl
    rw[A6I _ _ _ _ n (λj hj h2=>by obtain⟨x,hx⟩:=c (i+1+j) Q0;exact f _ x hx Q0 (.inr (by unfold A2b;simp[h2,hc,A6q])))];rw[B7r _ _ (λq hq=>by obtain⟨j,h1,h2,h3,_⟩:=A5z _ _ _ n q hq;rw[h3];exact(g i (i+1+j) Q0 Q0 (.inr hc) h2).symm)];exact h1
  have bh:A4e ps 0 (λx=>if x=i then true else b.getD x false) M=p.eff.appF (A6m (ps.drop (i+1)) (i+1) (λi=>b.getD i false)) (A4e ps 0 (λi=>b.getD i false) M):=by
   have a1:A4e (ps.take i) 0 (λx=>if x=i then true else b.getD x false) M=A4e (ps.take i) 0 (λi=>b.getD i false) M:=B2Z _ _ _ (λj hj=>by simp only[Z0P];rw[Z0d Q0]);have a2:∀A,A4e (ps.drop (i+1)) (i+1) (λx=>if x=i then true else b.getD x false) A=A4e (ps.drop (i+1)) (i+1) (λi=>b.getD i false) A:=λA=>B2Z _ _ _ (λj hj=>by rw[Z0d Q0]);rw[t,t,a1,a2];simp only[Z1f,a5,Z1L,Z2b];cases hf:p.eff with
   |none=>rfl
   |mem M1=>rw[hf]at a9;simp only[Eff.app,Eff.appF];exact A6I _ _ _ _ n (w2 a9.1).2
   |put s X=>rw[hf]at a9;(have aw:∀j,j<(ps.drop (i+1)).length->L.cls (i+1+j)=2->b.getD (i+1+j) false=false:=λj hj h2=>by obtain⟨x,hx⟩:=c (i+1+j) Q0;exact f _ x hx Q0 (.inr (by unfold A2b;rcases a9.1 with h|h<;>simp[h2,h,A6q])));simp only[Eff.app,Eff.appF];rw[A6I _ _ _ _ n aw,A6I _ _ _ _ n aw];exact C2o _ _ (λq hq=>by obtain⟨j,h1,h2,h3,_⟩:=A5z _ _ _ n q hq;rw[h3,a9.2.1];exact(g i (i+1+j) Q0 Q0 a9.1 h2).symm)
  unfold wpOp
  rw[ho]
  simp only
  have bf:=b9.2 _ _ _ b0 ao G w a hi he (wpAny C.P .any ops Q fuel (b.setIfInBounds i true)) Q ?_
  .rw[ah]at bf;exact bf
  .intro G' w' x h1 h2 h3 h4;rw[ah];have bc:∀j,(b.setIfInBounds i true).getD j false=if j=i then true else b.getD j false:=by
    intro j;by_cases e:j=i
    .subst e;simp[Array.getD,aq]
    .have e':i≠j:=λh=>e h.symm;rw[Z0d e];by_cases hj:j<b.size
     .simp[Array.getD,hj,e']
     .simp[Array.getD,hj]
   have ba:(λj=>(b.setIfInBounds i true).getD j false)=λj=>if j=i then true else b.getD j false:=funext bc;refine ih _ G' w' _ (by simpa using a7) ?_ ?_ (ag.trans h1) (a3.trans h4) ?_ ?_
   ·-- one fewer is open
    have bn:((List.range ops.size).filter λj=>!(b.setIfInBounds i true).getD j true).length<((List.range ops.size).filter λj=>!b.getD j true).length:=by
     have b6:((List.range ops.size).filter λj=>!(b.setIfInBounds i true).getD j true)=(((List.range ops.size).filter λj=>!b.getD j true).filter λj=>j !=i):=by
      rw[List.filter_filter];refine List.filter_congr (λj hj=>?_);have bp:=Z1W.1 hj;have b8:j<b.size:=Q0;by_cases e:j=i
      .subst e;simp[Array.getD,b8]
      .have e':i≠j:=λh=>e h.symm;simp[Array.getD,b8,e,e']
     rw[b6];refine List.length_filter_lt_length_iff_exists.2 ⟨i,?_,Q1⟩;exact Z1u.2 ⟨ad,bd⟩
    omega
   ·-- still C6G
    intro k o' z hk e a6 hb;simp only[bc]at hk|-;by_cases ek:k=i
    .subst ek;rw[ac o' z e a6 hb];simp
    .rw[Z0d ek]at hk;have:=aa k o' z hk e a6 hb;simp only at this;rw[this];simp
   .rw[ba,bh];exact h2
   .have a4:A2Q G' N ((A5k ps 0 (λi=>b.getD i false) T).put p.o.dst p.v) (a.put p.o.dst x):=(he.mono h1).put h3;rw[ah]at a4;refine⟨a4.defers,a4.size,λs hs=>?_⟩;have b5:=B6I (λi=>b.getD i false) i ps 0 T p hp (by simpa using a5) (λj q hq hij hsj s hd hqd=>by simp only[Z0P]at hsj;have:=(au j q.o (ar j q hq) Q0 (by unfold A5r;rw[hqd,<-ah,hd];simp)).1 hsj;omega) s;simp only[Z0P]at b5;rw[ba,b5,ah];exact a4.at_ s hs
def B0u{C:Ctx}{N:Nat}{h:A2j}{id:Nat}{ops:Array Oper}{Q:Exit->Env->Mem->Prop}{T:Env}{M:Mem}(b:C.P.follows .mixedOrders=true)(L:B1N)(f:A2u N ops ops.toList=true)(g:A4D ops L=true)(d:C4w L ops.size M) (hr:A1t C h ops L 0 ops.toList T M (λT M=>Q .normal T M)):AWp C N (.region id ops true) Q T M:=by
 intro G w a hi he
 obtain⟨ps,h1,h2,h3⟩:=B0i ops.toList 0 T M _ f hr
 refine wp_region_any b ?_
 have e0:∀j,(Array.replicate ops.size false).getD j false=false:=λj=>by simp[Array.getD]
 have c:(λj=>(Array.replicate ops.size false).getD j false)=λ_=>false:=funext e0
 have e:∀(a:List A4K) (k:Nat) (M:Mem),A4e a k (λ_=>false) M=M:=by
  intro a;induction a with
  |nil=>intro k M;rfl
  |cons p a ih=>intro k M;simp only[A4e,Z1L,Z2b];exact ih _ _
 refine C9c g h1 h2 d (G0:=G) (w0:=w) ?_ ops.size (Array.replicate ops.size false) G _ a Q1 (by have:=Z1s (λi=>!(Array.replicate ops.size false).getD i true) (List.range ops.size);simpa using this) (λi o _ hs=>by simp only[e0]at hs;exact Bool.noConfusion hs) (.refl _) ⟨rfl,rfl,rfl,Z0j _⟩ ?_ ?_
 .intro G' w' a' q1 q2 q3 q4;exact⟨_,_,G',h3,q1,q3,q4,q2⟩
 .rw[c,e];exact hi.world rfl
 .refine⟨he.defers,he.size,λs hs=>?_⟩;rw[c,A5v _ s ps 0 T (λj p _ h=>by simp at h)];exact he.at_ s hs
def Inv.reserve1{C}{G}{M}{w}(hi:Inv C G M w):∃G',G.le G'/\Inv C G' (M++[A3R]) w:=by
 have hm:=hi.more w.heap.size (λ_=>(none,0)) 0;have hk:(M++[A0l.gone])[M.length]?=some .gone:=by simp
 have ht:(G.more w.heap.size (λ_=>(none,0)) 0).top M.length=0:=by simp[A0p.more,hi.n]
 have c:∀i,(G.more w.heap.size (λ_=>(none,0)) 0).st w.heap.size i=none:=by
  intro i;cases h:G.st w.heap.size i with
  |none=>exact h
  |some v=>have:=hi.st_lt h;omega
 have a:(G.more w.heap.size (λ_=>(none,0)) 0).keep w.heap.size=none:=by
  cases h:G.keep w.heap.size with
  |none=>exact h
  |some v=>have:=hi.keep_lt h;omega
 have:=hm.step (w':=w) (o':=A3R) M.length w.heap.size hk (.inr (Z0j _)) (.refl _) rfl (λ_=>rfl) (λ_ _=>⟨rfl,rfl⟩) (λ_ _ _ h=>.inl h) (λ_=>rfl)
  (λb hlt _=>rfl) (λi v h=>by rw[c]at h;simp at h) (λo h=>by rw[a]at h;simp at h)
  ⟨ht,λ_ _ h=>by simp at h,λ_ _ _ _ _ _ _ _ h=>by simp at h⟩ (λb ⟨_,_,_,h,_⟩=>by simp at h)
 exact⟨_,G.le_more w.heap.size (λ_=>(none,0)) 0,by simpa using this⟩
def Inv.reserve{C}:∀(n:Nat) {G:A0p} {M:Mem} {w:World},Inv C G M w->∃G',G.le G'/\Inv C G' (M++List.replicate n A3R) w
 |0,G,M,w,hi=>⟨G,.refl _,by simpa using hi⟩
 |n+1,G,M,w,hi=>by obtain⟨G1,h1,h2⟩:=hi.reserve1;obtain⟨G2,h3,h4⟩:=Inv.reserve n h2;refine⟨G2,h1.trans h3,?_⟩;rw[Z0F]at h4;exact h4
def C4M{C}{N}{c}{Q:Exit->Env->Mem->Prop}{T}{M}(n:Nat)(h:AWp C N c Q T (M++List.replicate n A3R)):AWp C N c Q T M:=by intro G w a hi he;obtain⟨G',h1,h2⟩:=hi.reserve n;exact Z4q (h G' w a h2 (he.mono h1)) λ_ _ _ l=>B4u.mono h1 (.refl _) l
end Go.Abs
