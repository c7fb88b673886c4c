/- The texts AbsP, AbsQ, AbsT, AbsU2. -/
import Derived.Test.YtmpdkagfplajjaaGreatDoorAG11
import Derived.Orders
set_option linter.all false
namespace Go.Abs
def A2r(C:Ctx)(o:Oper)(ρ:Operand->AV)(M:Mem):Option AV:=
 match o.op with
 |.load t x=>A2u C.P t M (ρ x)
 |.lookup t m k ok=>A1K C.P t M (ρ m) (ρ k) ok
 |.call {callee:=.builtin .len,args,argTypes}=>match args.toList,argTypes.toList with
  |[x],[t]=>((A1H C.P t (ρ x)).or (A2U C.P t M (ρ x))).map λ(n:Nat)=>AV.val (.int .i64 n)
  |_,_=>none
 |_=>none
def A0y(o:Oper)(ρ:Operand->AV):Option Nat:=match o.op with
 |.load _ x=>match ρ x with|.ptr b _=>some b|.vptr f _ _=>some f|_=>none
 |.lookup _ m _ _=>match ρ m with|.mapr b=>some b|_=>none
 |.call {callee:=.builtin .len,args,..}=>match args.toList with
  |[x]=>match ρ x with|.mapr b=>some b|_=>none
  |_=>none
 |_=>none
def A1q:A0p:=.vec 0 1 [] 0 []
def fill(M:Mem)(l:List (Nat×A0p)):Mem:=l.foldl (λM p=>M.set p.1 p.2) M
def B0C(M:Mem)(l:List (Nat×A0p)):Prop:=(∀p∈l,M[p.1]?=some A1q)/\(l.map (·.1)).Nodup
def A4V(M M':Mem):Prop:=∀s:Nat,M[s]?=some A1q->M'[s]?=some A1q
def D9f(f:Mem->Option (AV×Mem))(M:Mem)(v:AV)(M1:Mem):Prop:=A4V M M1/\∀l,B0C M l->f (fill M l)=some (v,fill M1 l)
def D6N(C:Ctx)(g:FuncId)(args:List AV)(M:Mem)(v:AV)(M1:Mem):Prop:=A4V M M1/\∀l,B0C M l->A5q C g args (fill M l) (λr m=>r=v/\m=fill M1 l)
def A6l(fl:Bool)(f:Mem->Option (AV×Mem))(M:Mem)(K:AV->Mem->Prop):Prop:=match f M with
 |some (v,M1)=>(fl=true->D9f f M v M1)/\K v M1
 |none=>False
def B2h(P:Program)(e:TypeId):Option A0p:=match A0D P e with
 |some z=>if z.all (·.oneCell')then some (.vec e z.length (z.map .val) 1 [(1,1)])else none
 |none=>none
def A6K(o:Oper)(ρ:Operand->AV):Option Nat:=match o.op with
 |.store _ a _=>match ρ a with|.ptr b _=>some b|.vptr f _ _=>some f|_=>none
 |_=>none
def C2X{C}{h}{d}{st:TypeId}{a x}{t:TypeId}{p}{af}{g}{ρ:Operand->AV}{M}:A0A C h ⟨d,.store st a x,t,p,af,g⟩ ρ M=A0W C h ⟨d,.store st a x,t,p,af,g⟩ ρ M:=by
 simp only[A0A,A0n,A0R,A0E,A2V]
 cases A0W C h ⟨d,.store st a x,t,p,af,g⟩ ρ M<;>rfl
def C5P{C}{h}{o}{ρ:Operand->AV}{M M1}{v}{s}(hs:A6K o ρ=some s)(he:A0A C h o ρ M=some (v,M1)):∃X,M1=M.set s X/\s<M.length/\∀M2:Mem,M2[s]?=M[s]?->A0A C h o ρ M2=some (v,M2.set s X):=by
 obtain⟨d,op,t,p,af,g⟩:=o
 cases op<;>first|(simp[A6K]at hs;done)|skip
 case store st a x=>
  simp only[C2X]at he|-;simp only[A6K]at hs;split at hs
  .rename_i b off ha;simp only[Z0a]at hs;subst hs;simp only[A0W,ha]at he|-;split at he;(case h_2=>simp at he);rename_i bt cs hM;split at he;(case isFalse=>simp at he);rename_i hc;simp only[Z0a,Z0b]at he;obtain⟨rfl,rfl⟩:=he;refine⟨_,rfl,A0r hM,λM2 h2=>?_⟩;rw[h2,hM];simp only[Z0d hc]
  .rename_i f gg off ha;simp only[Z0a]at hs;subst hs;simp only[A0W,ha]at he|-;split at he;(case h_2=>simp at he);rename_i vt sz cs g' hist hM;split at he;(case h_2=>simp at he);rename_i n hn;split at he;(case isFalse=>simp at he);rename_i hc;simp only[Z0a,Z0b]at he;obtain⟨rfl,rfl⟩:=he;refine⟨_,rfl,A0r hM,λM2 h2=>?_⟩;rw[h2,hM];simp only[hn,Z0d hc]
  .simp at hs
def dOp(C:Ctx)(h:A2I)(fl:Bool)(cls rob slot:Nat)(o:Oper)(ρ:Operand->AV)(M:Mem)(K:AV->Mem->Prop):Prop:=
 match o.op with
 |.call {callee:=.value f,args,..}=>match ρ f with
  |.func (.func g) first captured=>
   if cls=0 then∃r,(∀M,A5q C g (first++args.toList.map ρ++captured) M (λv M'=>v=r/\M'=M))/\K r M
   else∃r M1,cls=2/\A5q C g (first++args.toList.map ρ++captured) M (λv M'=>v=r/\M'=M1)/\(fl=true->D6N C g (first++args.toList.map ρ++captured) M r M1)/\K r M1
  |_=>False
 |.call {callee:=.builtin .append,args,argTypes}=>match args.toList,argTypes.toList with
  |[s,x],[t,u]=>∃e sz bytes,B4f C.P t u sz bytes e/\cls=2/\A6l fl (A3B (A1R h.own o.dst) (A1R h.vec o.dst) e sz bytes (ρ s) (ρ x)) M K
  |_,_=>False
 |.alloc e=>if cls=4 then fl=true/\M[slot]?=some A1q/\A0N (B2h C.P e) (λX=>K (.vptr slot 1 0) (M.set slot X))else cls=2/\A6l fl (A0A C h o ρ) M K
 |_=>if cls=0 then A0N ((A0n C h o ρ).or (A0E C o ρ)) (λv=>K v M)else if cls=1 then A0y o ρ=some rob/\A0N (A2r C o ρ M) (λv=>K v M)
  else if cls=5 then A6K o ρ=some slot/\A0N (A0A C h o ρ M) (λr=>K r.1 r.2)
  else cls=2/\A6l fl (A0A C h o ρ) M K
structure B1A where
 cls:Nat->Nat
 rob:Nat->Nat:=λ_=>0
 slot:Nat->Nat:=λ_=>0
 /-- may the operation j turn what the look i looks at -/
 aff:Nat->Nat->Bool:=λ_ _=>true
 fl:Bool:=false
def C4H(L:B1A)(k:Nat)(M M':Mem):Prop:=∀i,L.cls i=1->L.aff i k=false->M'[L.rob i]?=M[L.rob i]?
def A3c(C:Ctx)(h:A2I)(ops:Array Oper)(L:B1A):Nat->List Oper->Env->Mem->(Env->Mem->Prop)->Prop
 |_,[],T,M,K=>K T M
 |k,o::rest,T,M,K=>A2n ops o T (dOp C h L.fl (L.cls k) (L.rob k) (L.slot k) o (T.ev C) M (λv M'=>C4H L k M M'/\A3c C h ops L (k+1) rest (T.put o.dst v) M' K)) (A3c C h ops L (k+1) rest (T.put o.dst (.val undef)) M K)
inductive Eff where
 |none
 |put (s:Nat) (X:A0p)
 |mem (M:Mem)
def Eff.app:Eff->Mem->Mem
 |.none,M=>M
 |.put s X,M=>M.set s X
 |.mem M1,_=>M1
def Eff.appF(l:List (Nat×A0p)):Eff->Mem->Mem
 |.none,M=>M
 |.put s X,M=>M.set s X
 |.mem M1,_=>fill M1 l
def Eff.ok(fl:Bool)(cls slot:Nat)(M:Mem):Eff->Prop
 |.none=>True
 |.put s X=>(cls=4\/cls=5)/\s=slot/\slot<M.length
 |.mem M1=>cls=2/\(fl=true->A4V M M1)
def B7g(fl:Bool)(cls rob slot:Nat)(M M2:Mem)(l:List (Nat×A0p)):Prop:=(cls=1->M2[rob]?=M[rob]?)/\(cls=2->M2=fill M l/\B0C M l/\(fl=false->l=[]))/\(cls=4->M2[slot]?=some A1q)/\(cls=5->M2[slot]?=M[slot]?)
def D5q(C:Ctx)(N:Nat)(ops:Array Oper)(fl:Bool)(cls rob slot:Nat)(o:Oper)(v:AV)(T:Env)(M:Mem)(eff:Eff):Prop:=
 eff.ok fl cls slot M/\∀T2 M2 l,(∀s∈o.looksAt ops,T2 s=T s)->B7g fl cls rob slot M M2 l->∀G w a,Inv C G M2 w->A2S G N T2 a->∀(next:Act->World->Prop) (Q:Exit->Act->World->Prop),
  (∀G' w' x,G.le G'->Inv C G' (eff.appF l M2) w'->Rep G' v x->Ext w w'->next (a.put o.dst x) w')->
  if Region.wanted o (yielded ops a.tmps)then o.wp C.P a w next Q\/(o.asks C.P a w/\LetsOut Q)else next (a.put o.dst undef) w
def C3j{C}{o}{ρ:Operand->AV}{A B}(h:∀r,A0y o ρ=some r->A[r]?=B[r]?):A2r C o ρ A=A2r C o ρ B:=by
 obtain⟨d,op,t,p,af,g⟩:=o;cases op<;>try rfl
 case load t x=>
  simp only[A2r,A2u];simp only[A0y]at h;have e:A3g A (ρ x)=A3g B (ρ x):=by
   cases hx:ρ x with
   |ptr b off=>rw[hx]at h;simp only[A3g];rw[h b rfl]
   |vptr f g off=>rw[hx]at h;simp only[A3g];rw[h f rfl]
   |_=>rfl
  rw[e]
 case lookup t m k ok=>
  simp only[A2r,A1K];have e:A5b A (ρ m)=A5b B (ρ m):=by
   unfold A5b;simp only[A0y]at h;split
   .rfl
   .rename_i b hb;rw[hb]at h;simp only at h;rw[h b rfl]
   .rfl
  rw[e]
 case call c=>
  obtain⟨callee,args,ts⟩:=c;cases callee with
  |builtin b=>
   cases b<;>try rfl
   simp only[A2r];simp only[A0y]at h;split
   .rename_i x t' ha ht;rw[ha]at h;simp only at h;have e:A2U C.P t' A (ρ x)=A2U C.P t' B (ρ x):=by
     unfold A2U;split
     .rename_i b hb;rw[hb]at h;simp only at h;rw[h b rfl]
     .rfl
    rw[e]
   .rfl
  |_=>rfl
def D0c{C}{h}{o}{ρ:Operand->AV}{M}{v}(hr:A2r C o ρ M=some v){K:AV->Mem->Prop}(hk:K v M):A4x C h o K ρ M:=by
 obtain⟨d,op,t,p,af,g⟩:=o;unfold A2r at hr;simp only at hr;split at hr
 .rw[C0L,hr];exact hk
 .rw[B5U,hr];exact hk
 .rename_i args ts;split at hr
  .rename_i x t' ha ht;(have a:args=#[x]:=by apply Z1A;simpa using ha);(have b:ts=#[t']:=by apply Z1A;simpa using ht);subst a;subst b;simp only[Z0i]at hr;obtain⟨n,hn,rfl⟩:=hr;rw[D2g,hn];exact hk
  .simp at hr
 .simp at hr
def A8B{C:Ctx}{ops:Array Oper}{T T2:Env}{o:Oper}(h:∀s∈o.looksAt ops,T2 s=T s):∀x∈o.op.operands.toList,T2.ev C x=T.ev C x:=by
 intro x hx;cases x with
 |tmp t=>simp only[Env.ev];refine h t ?_;unfold Oper.looksAt;exact Z3B _ (List.mem_filterMap.2 ⟨.tmp t,by simpa using hx,rfl⟩)
 |_=>rfl
def B1B{ops}{T T2}{o}(h:∀s∈o.looksAt ops,T2 s=T s)(run skip:Prop):A2n ops o T2 run skip=A2n ops o T run skip:=by
 unfold A2n;split
 .rfl
 .rename_i j want hg;split
  .rename_i d hd;have:T2 d=T d:=h d (by unfold Oper.looksAt;rw[hg];simp only[hd];simp);rw[this]
  .rfl
def B0z{ρ ρ':Operand->AV}{l:List Operand}(h:∀x∈l,ρ' x=ρ x):l.map ρ'=l.map ρ:=Z1S h
def B1a{C:Ctx}{hn:A2I}{o:Oper}{ρ ρ':Operand->AV}(h:∀x∈o.op.operands.toList,ρ' x=ρ x):A0n C hn o ρ'=A0n C hn o ρ:=by
 obtain⟨dst,op,type,pos,after,guard⟩:=o;simp only at h;cases op<;>simp only[Op.operands]at h;case call c=>
  obtain⟨callee,args,ts⟩:=c;cases callee<;>try rfl
  simp only[Call.operands]at h;simp only[A0n];rw[B0z (l:=args.toList) (λx hx=>h x (by simpa using hx))]
 case build t ps=>
  have e:(ps.toList.map λp=>(p.1,ρ' p.2))=ps.toList.map λp=>(p.1,ρ p.2):=Z1S λp hp=>by rw[h p.2 (by simp;exact⟨p.1,by simpa using hp⟩)]
  simp only[A0n,e]
 case buildSlice t n ps=>
  have e:(ps.toList.map λp=>(p.1,ρ' p.2))=ps.toList.map λp=>(p.1,ρ p.2):=Z1S λp hp=>by rw[h p.2 (by simp;exact⟨p.1,by simpa using hp⟩)]
  simp only[A0n,e]
 case makeFunc fn f c=>simp only[A0n];rw[B0z (l:=f.toList) (λx hx=>h x (by simp;simp at hx;simp[hx])),B0z (l:=c.toList) (λx hx=>h x (by simp;simp at hx;simp[hx]))]
 case slice t x lo hi mx=>
  have e:∀(y:Option Operand),(∀q,y=some q->ρ' q=ρ q)->y.map ρ'=y.map ρ:=λy hy=>by cases y with|none=>rfl|some q=>simp[hy q rfl]
  simp only[A0n];rw[h x (by simp),e lo (λq hq=>h q (by simp[hq])),e hi (λq hq=>h q (by simp[hq])),e mx (λq hq=>h q (by simp[hq]))]
 case unOp op t x=>cases op<;>first|rfl|(simp only[A0n];rw[h x (by simp)])
 case move x=>simp only[A0n];rw[h x (by simp)]
 case assign x=>simp only[A0n];rw[h x (by simp)]
 case pick c a b=>simp only[A0n];rw[h c (by simp),h a (by simp),h b (by simp)]
 case box e x=>simp only[A0n];rw[h x (by simp)]
 case nilCheck x=>simp only[A0n];rw[h x (by simp)]
 case binOp op t x y u=>simp only[A0n];rw[h x (by simp),h y (by simp)]
 case fieldAddr t x f=>simp only[A0n];rw[h x (by simp)]
 case field t x f=>simp only[A0n];rw[h x (by simp)]
 case indexAddr t x i=>simp only[A0n];rw[h x (by simp),h i (by simp)]
 case index t x i=>simp only[A0n];rw[h x (by simp),h i (by simp)]
 case load t x=>simp only[A0n];rw[h x (by simp)]
 case extract x i=>simp only[A0n];rw[h x (by simp)]
 case convert a b x=>simp only[A0n];rw[h x (by simp)]
 all_goals rfl
def B9U{C}{hn}{o}{ρ ρ':Operand->AV}{M}(h:∀x∈o.op.operands.toList,ρ' x=ρ x):A0W C hn o ρ' M=A0W C hn o ρ M:=by
 obtain⟨dst,op,type,pos,after,guard⟩:=o;simp only at h;cases op<;>simp only[Op.operands]at h;case load t x=>simp only[A0W];rw[h x (by simp)]
 case store t a x=>simp only[A0W];rw[h a (by simp),h x (by simp)]
 case box e x=>simp only[A0W];rw[h x (by simp)]
 all_goals rfl
def B9H{C}{hn}{o}{ρ ρ':Operand->AV}{M}(h:∀x∈o.op.operands.toList,ρ' x=ρ x):A0R C hn o ρ' M=A0R C hn o ρ M:=by
 obtain⟨dst,op,type,pos,after,guard⟩:=o;simp only at h;cases op<;>simp only[Op.operands]at h;case buildSlice t n ps=>
  simp only[A0R];have:(ps.toList.map λp=>(p.1,ρ' p.2))=(ps.toList.map λp=>(p.1,ρ p.2)):=Z1S λp hp=>by rw[h p.2 (by simp;exact⟨_,by simpa using hp⟩)]
  rw[this]
 case makeSlice t l c=>simp only[A0R];rw[h l (by simp),h c (by simp)]
 case lookup t m k ok=>simp only[A0R];rw[h m (by simp),h k (by simp)]
 case mapUpdate t m k x=>simp only[A0R];rw[h m (by simp),h k (by simp),h x (by simp)]
 case insert t m k x=>simp only[A0R];rw[h m (by simp),h k (by simp),h x (by simp)]
 case call c=>
  obtain⟨callee,args,ts⟩:=c;cases callee with
  |builtin b=>simp only[A0R];have:args.toList.map ρ'=args.toList.map ρ:=Z1S λx hx=>h x (by simp[Call.operands];simpa using hx);rw[this]
  |_=>rfl
 case makeMap t r=>cases r<;>rfl
 all_goals rfl
def B0U{C}{o}{ρ ρ':Operand->AV}(h:∀x∈o.op.operands.toList,ρ' x=ρ x):A0E C o ρ'=A0E C o ρ:=by
 obtain⟨dst,op,type,pos,after,guard⟩:=o;simp only at h;cases op<;>simp only[Op.operands]at h;case indexAddr t x i=>simp only[A0E];rw[h x (by simp),h i (by simp)]
 case index t x i=>simp only[A0E];rw[h x (by simp),h i (by simp)]
 case build t ps=>
  have e:(ps.toList.map λp=>(p.1,ρ' p.2))=ps.toList.map λp=>(p.1,ρ p.2):=Z1S λp hp=>by rw[h p.2 (by simp;exact⟨p.1,by simpa using hp⟩)]
  simp only[A0E,e]
 case binOp op t x y u=>cases op<;>first|rfl|(simp only[A0E];rw[h x (by simp),h y (by simp)])
 case unOp op t x=>cases op<;>first|rfl|(simp only[A0E];rw[h x (by simp)])
 case convert a b x=>simp only[A0E];rw[h x (by simp)]
 all_goals rfl
def C5t{C}{o}{ρ ρ':Operand->AV}{M}(h:∀x∈o.op.operands.toList,ρ' x=ρ x):A2V C o ρ' M=A2V C o ρ M:=by
 obtain⟨dst,op,type,pos,after,guard⟩:=o;simp only at h;cases op<;>simp only[Op.operands]at h;case range t x=>simp only[A2V];rw[h x (by simp)]
 case next x b=>cases b<;>first|rfl|(simp only[A2V];rw[h x (by simp)])
 case slice t x lo hi mx=>
  have e:∀(y:Option Operand),(∀q,y=some q->ρ' q=ρ q)->y.map ρ'=y.map ρ:=λy hy=>by cases y with|none=>rfl|some q=>simp[hy q rfl]
  simp only[A2V];rw[h x (by simp),e lo (λq hq=>h q (by simp[hq])),e hi (λq hq=>h q (by simp[hq])),e mx (λq hq=>h q (by simp[hq]))]
 case convert a b x=>simp only[A2V];rw[h x (by simp)]
 case call c=>
  obtain⟨callee,args,ts⟩:=c;cases callee with
  |builtin b=>simp only[A2V];have:args.toList.map ρ'=args.toList.map ρ:=Z1S λx hx=>h x (by simp[Call.operands];simpa using hx);rw[this]
  |_=>rfl
 all_goals rfl
def C2b{C}{hn}{o}{ρ ρ':Operand->AV}{M}(h:∀x∈o.op.operands.toList,ρ' x=ρ x):A0A C hn o ρ' M=A0A C hn o ρ M:=by simp only[A0A,B1a h,B9U h,B9H h,B0U h,C5t h]
def C2q{C}{o}{ρ ρ':Operand->AV}{M}(h:∀x∈o.op.operands.toList,ρ' x=ρ x):A2r C o ρ' M=A2r C o ρ M:=by
 obtain⟨dst,op,type,pos,after,guard⟩:=o;simp only at h;cases op<;>simp only[Op.operands]at h;case load t x=>simp only[A2r];rw[h x (by simp)]
 case lookup t m k ok=>simp only[A2r];rw[h m (by simp),h k (by simp)]
 case call c=>
  obtain⟨callee,args,ts⟩:=c;cases callee with
  |builtin b=>
   cases b<;>first|rfl|skip
   simp only[A2r];cases ha:args.toList with
   |nil=>rfl
   |cons x l=>
    cases l with
    |cons _ _=>rfl
    |nil=>
     cases ht:ts.toList with
     |nil=>rfl
     |cons t l2=>
      cases l2 with
      |cons _ _=>rfl
      |nil=>simp only;(have hx:x∈args.toList:=by rw[ha];simp);rw[h x (by simp[Call.operands];simpa using hx)]
  |_=>rfl
 all_goals rfl
def C6I{C}{G}{M}{w}(hi:Inv C G M w){s}(hM:M[s]?=some A1q){vs}{cs}(t:TypeId)(hr:A0q G cs vs.toList)(k:∀v∈vs.toList,v.oneCell'=true):∃G',G.le G'/\Inv C G' (M.set s (.vec t cs.length cs 1 [(1,1)])) (w.alloc (.cells vs t))/\Rep G' (.vptr s 1 0) (.pointer (some ⟨w.heap.size,0,none⟩)):=by
 obtain⟨p0,_,_⟩:=hi.obj s _ hM
 have d:=A0m.le_time (G:=G) (f:=s) (n:=1) (h:=(some (⟨w.heap.size,0,none⟩:Addr),1)) (by omega)
 have a:∀i,G.st w.heap.size i=none:=by
  intro i;cases e:G.st w.heap.size i with
  |none=>rfl
  |some v=>have:=Z2q w ⟨w.heap.size,i,none⟩ (hi.st _ _ _ e);simp at this
 have c:G.keep w.heap.size=none:=by
  cases e:G.keep w.heap.size with
  |none=>rfl
  |some o=>have:=A5E (hi.keep _ _ e);omega
 have g:cs.length=vs.size:=by rw[<-hr.length];simp
 refine⟨_,d,hi.step (G':=G.grow s 1 (some ⟨w.heap.size,0,none⟩,1) 0 0 []) (w':=w.alloc (.cells vs t)) (o':=.vec t cs.length cs 1 [(1,1)]) s w.heap.size hM (.inr (Z0u _)) d rfl (λ_=>rfl) (λj hj=>by simp[A0m.grow,hj])
  (λb i v hv=>by rw[A0m.time_st]at hv;exact .inl hv) (λ_=>rfl) (λb hb _=>A3I w _ b hb) (λi v hv=>by rw[a i]at hv;simp at hv) (λo ho=>by rw[c]at ho;simp at ho)
  ⟨by simp[A0m.grow],λh1 n1 hm=>?_,λh1 n1 h2 n2 a1 a2 c1' c2' m1 m2 e1 e2 e3=>?_⟩ (λb1 ⟨h1,n1,a1,hm,e1,e2⟩=>?_),?_⟩
 .simp only[Z0P,Z0b]at hm;obtain⟨rfl,rfl⟩:=hm;refine⟨by simp[A0m.grow],by omega,w.heap.size,0,1,vs,A0m.time_hdr _ _ _ _,Z0u _,by decide,Z2a w _,by omega,?_,?_,λi=>by rw[A0m.time_st];exact a i,c⟩
  .rw[Z1q,Nat.one_mul,Z0l (Z0u _),Z0l (by simp[g])];exact A0q.mono d _ _ hr
  .intro v hv;rw[Z1q]at hv;exact k v (Z1r hv)
 .simp only[Z0P,Z0b]at m1 m2;obtain⟨rfl,rfl⟩:=m1;obtain⟨rfl,rfl⟩:=m2;rw[e1]at e2;simp only[Z0b,Z0a]at e2;exact e2.1
 .simp only[Z0P,Z0b]at hm;obtain⟨rfl,rfl⟩:=hm;rw[A0m.time_hdr]at e1;simp only[Z0a]at e1;subst e1;exact .inl e2.symm
 .simp only[Rep];exact⟨by rw[show(G.grow s 1 (some ⟨w.heap.size,0,none⟩,1) 0 0 []).n=G.n from rfl,hi.n];exact A0r hM,by simp[A0m.grow],⟨w.heap.size,0,none⟩,1,A0m.time_hdr _ _ _ _,by simp⟩
def B9P{C}{G}{M}{w}(hi:Inv C G M w){e:TypeId}{X}(hX:B2h C.P e=some X){slot}(hM:M[slot]?=some A1q){o}(ho:o.op=.alloc e)(a:Act):B0r C G w o a (λv m=>v=.vptr slot 1 0/\m=M.set slot X):=by
 unfold B2h at hX
 split at hX
 case h_2=>simp at hX
 rename_i z hz
 split at hX
 case isFalse=>simp at hX
 rename_i hall
 simp only[Z0a]at hX
 subst hX
 obtain⟨zv,hv,c,f⟩:=A9w (P:=C.P) hz G w
 have d:(z.map AV.val).length=z.length:=by simp
 obtain⟨G',h1,h2,h3⟩:=C6I hi hM (vs:=zv.cells) e (by rw[c];exact f) (λy hy=>by rw[c]at hy;exact Z0r.1 hall y hy)
 intro next Q hK
 obtain⟨dst,op,type,pos,after,guard⟩:=o
 simp only at ho
 subst ho
 have b:(execOp a.eval ⟨dst,.alloc e,type,pos,after,guard⟩).run C.P w=.ok (.value (.pointer (some ⟨w.heap.size,0,none⟩))) (w.alloc (.cells zv.cells e)):=by refine A3F (v:=.pointer (some ⟨w.heap.size,0,none⟩)) ?_;simp only[Instr.alloc,Z0H,hv,Z0y,newVar,newRow,Z3A,Z0S];rfl
 unfold Oper.wp
 rw[b]
 rw[d]at h2
 exact hK _ _ G' _ _ ⟨rfl,rfl⟩ h1 h2 h3 (Ext.alloc _ _)
def D1g{fl}{f:Mem->Option (AV×Mem)}{M}{K:AV->Mem->Prop}(h:A6l fl f M K):∃v M1,K v M1/\(fl=true->A4V M M1)/\∀l,B0C M l->(fl=false->l=[])->f (fill M l)=some (v,fill M1 l):=by
 unfold A6l at h;split at h;case h_2=>exact h.elim
 rename_i v M1 hf;refine⟨v,M1,h.2,λe=>(h.1 e).1,λl hb hl=>?_⟩;cases fl with
 |true=>exact(h.1 rfl).2 l hb
 |false=>rw[hl rfl];exact hf
def D6x{C:Ctx}{N:Nat}{h:A2I}{ops:Array Oper}{fl:Bool}{cls rob slot:Nat}{o:Oper}(d:Oper.inside N o=true){T:Env}{M:Mem}{K:AV->Mem->Prop}(hd:dOp C h fl cls rob slot o (T.ev C) M K):∃(v:AV) (eff:Eff),K v (eff.app M)/\eff.ok fl cls slot M/\∀T2 M2 l,(∀s∈o.looksAt ops,T2 s=T s)->B7g fl cls rob slot M M2 l->∀G w a,Inv C G M2 w->A2S G N T2 a->B0r C G w o a (λv' M3=>v'=v/\M3=eff.appF l M2):=by
 have m:∀f,A6l fl f M K->cls=2->(∀T2 M2 v M',(∀s∈o.looksAt ops,T2 s=T s)->f M2=some (v,M')->∀G w a,Inv C G M2 w->A2S G N T2 a->B0r C G w o a (λv' M3=>v'=v/\M3=M'))->
  ∃(v:AV) (eff:Eff),K v (Eff.app eff M)/\eff.ok fl cls slot M/\∀T2 M2 l,(∀s∈o.looksAt ops,T2 s=T s)->B7g fl cls rob slot M M2 l->∀G w a,Inv C G M2 w->A2S G N T2 a->
  B0r C G w o a (λv' M3=>v'=v/\M3=eff.appF l M2):=by
  intro f hf hc hs
  obtain⟨v,M1,h1,h2,h3⟩:=D1g hf
  refine⟨v,.mem M1,h1,⟨hc,h2⟩,λT2 M2 l e1 e2 G w a hi hr=>?_⟩
  obtain⟨rfl,hb,hl⟩:=e2.2.1 hc
  exact hs T2 _ v _ e1 (h3 l hb hl) G w a hi hr
 have b:(∀ρ M2 v M',A0A C h o ρ M2=some (v,M')->∀K':AV->Mem->Prop,K' v M'->A4x C h o K' ρ M2)->∀T2 M2 v M',(∀s∈o.looksAt ops,T2 s=T s)->A0A C h o (T.ev C) M2=some (v,M')->∀G w a,Inv C G M2 w->A2S G N T2 a->B0r C G w o a (λv' M3=>v'=v/\M3=M'):=by intro hv T2 M2 v M' e1 he G w a hi hr;exact A6i hi (A8N hi hr d) (hv (T2.ev C) M2 v M' (by rw[C2b (A8B e1)];exact he) _ ⟨rfl,rfl⟩)
 have p:(if cls=0 then A0N ((A0n C h o (T.ev C)).or (A0E C o (T.ev C))) (λv=>K v M)else if cls=1 then A0y o (T.ev C)=some rob/\A0N (A2r C o (T.ev C) M) (λv=>K v M)
  else if cls=5 then A6K o (T.ev C)=some slot/\A0N (A0A C h o (T.ev C) M) (λr=>K r.1 r.2)
  else cls=2/\A6l fl (A0A C h o (T.ev C)) M K)->
  (∀ρ M2 v M',A0A C h o ρ M2=some (v,M')->∀K':AV->Mem->Prop,K' v M'->A4x C h o K' ρ M2)->
  ∃(v:AV) (eff:Eff),K v (Eff.app eff M)/\eff.ok fl cls slot M/\∀T2 M2 l,(∀s∈o.looksAt ops,T2 s=T s)->B7g fl cls rob slot M M2 l->∀G w a,Inv C G M2 w->A2S G N T2 a->
  B0r C G w o a (λv' M3=>v'=v/\M3=eff.appF l M2):=by
  intro hp hv
  split at hp
  .rename_i hc;cases he:(A0n C h o (T.ev C)).or (A0E C o (T.ev C))with
   |none=>rw[he]at hp;exact hp.elim
   |some v=>
    rw[he]at hp;refine⟨v,.none,hp,trivial,λT2 M2 l h1 h2 G w a hi hr=>?_⟩;(have j:(A0n C h o (T2.ev C)).or (A0E C o (T2.ev C))=some v:=by rw[B1a (A8B h1),B0U (A8B h1)];exact he);rcases Z3x.1 j with h3|⟨_,h3⟩
    .exact A6i hi (A8N hi hr d) (hv (T2.ev C) M2 v M2 (by simp[A0A,h3]) _ ⟨rfl,rfl⟩)
    ·(intro next Q hK);obtain⟨nx,w',G',k1,k2,k3,k4,k5⟩:=B6m hi (A8N hi hr d) h3
     unfold Oper.wp;rw[k1];rcases k2 with⟨x,rfl,y⟩|⟨rfl,rfl⟩
     .exact hK v M2 G' w' x ⟨rfl,rfl⟩ k3 k4 y k5
     .exact hK _ M2 G' w' undef ⟨rfl,rfl⟩ k3 k4 (by simp[Rep]) k5
  .rename_i hc0;split at hp
   .rename_i hc;obtain⟨a2,hp⟩:=hp;cases he:A2r C o (T.ev C) M with
    |none=>rw[he]at hp;exact hp.elim
    |some v=>rw[he]at hp;refine⟨v,.none,hp,trivial,λT2 M2 l h1 h2 G w a hi hr=>?_⟩;(have j:A2r C o (T2.ev C) M2=some v:=by rw[C2q (A8B h1),<-he];exact C3j (λr hr=>by rw[a2]at hr;simp at hr;subst hr;exact h2.1 hc));exact A6i hi (A8N hi hr d) (D0c (h:=h) j ⟨rfl,rfl⟩)
   .split at hp
    .rename_i hc;obtain⟨a0,hp⟩:=hp;cases he:A0A C h o (T.ev C) M with
     |none=>rw[he]at hp;exact hp.elim
     |some r=>obtain⟨v,M1⟩:=r;rw[he]at hp;obtain⟨X,rfl,z,hX⟩:=C5P a0 he;refine⟨v,.put slot X,hp,⟨.inr hc,rfl,z⟩,λT2 M2 l h1 h2 G w a hi hr=>?_⟩;exact b hv T2 M2 v _ h1 (hX M2 (h2.2.2.2 hc)) G w a hi hr
    .exact m _ hp.2 hp.1 (b hv)
 obtain⟨dst,op,type,pos,after,guard⟩:=o
 unfold dOp at hd
 simp only at hd
 split at hd
 .rename_i f args ts;have a3:=@A8B C ops T;split at hd;case h_2=>exact hd.elim
  rename_i g first captured hf
  have same:∀T2:Env,(∀s∈Oper.looksAt ops ⟨dst,.call {callee:=.value f,args:=args,argTypes:=ts},type,pos,after,guard⟩,T2 s=T s)->T2.ev C f=.func (.func g) first captured/\args.toList.map (T2.ev C)=args.toList.map (T.ev C):=by intro T2 h1;have h2:=A8B (C:=C) h1;exact⟨by rw[h2 f (by simp[Op.operands,Call.operands])];exact hf,B0z λx hx=>h2 x (by simp[Op.operands,Call.operands];simp at hx;simp[hx])⟩
  split at hd
  .rename_i hc;obtain⟨r,c,hk⟩:=hd;refine⟨r,.none,hk,trivial,λT2 M2 l h1 h2 G w a hi hr=>?_⟩;obtain⟨e1,e2⟩:=same T2 h1;refine A6i (h:=h) hi (A8N hi hr d) ?_;simp only[A4x,e1,e2];exact c M2
  .rename_i hc;obtain⟨r,M1,q,c,k,hk⟩:=hd;refine⟨r,.mem M1,hk,⟨q,λe=>(k e).1⟩,λT2 M2 l h1 h2 G w a hi hr=>?_⟩;obtain⟨rfl,hb,hl⟩:=h2.2.1 q;obtain⟨e1,e2⟩:=same T2 h1;refine A6i (h:=h) hi (A8N hi hr d) ?_;simp only[A4x,e1,e2];cases fl with
   |true=>exact(k rfl).2 l hb
   |false=>rw[hl rfl];exact c
 .rename_i args ts;split at hd;case h_2=>exact hd.elim
  rename_i s x t u ha ht;obtain⟨e,sz,i,a1,hc,hm⟩:=hd;refine m _ hm hc (λT2 M2 v M' h1 hap G w a hi hr=>?_);have h3:=A8B (C:=C) h1;have es:T2.ev C s=T.ev C s:=h3 s (by(simp[Op.operands,Call.operands];have:s∈args.toList:=by rw[ha];simp);simpa using this);have ex:T2.ev C x=T.ev C x:=h3 x (by(simp[Op.operands,Call.operands];have:x∈args.toList:=by rw[ha];simp);simpa using this);refine A6i (h:=h) hi (A8N hi hr d) ?_;simp only[A4x,ha,ht,es,ex];exact⟨e,sz,i,a1,by rw[hap];exact⟨rfl,rfl⟩⟩
 .rename_i e;have hv:∀ρ M2 v M',A0A C h ⟨dst,.alloc e,type,pos,after,guard⟩ ρ M2=some (v,M')->∀K':AV->Mem->Prop,K' v M'->A4x C h ⟨dst,.alloc e,type,pos,after,guard⟩ K' ρ M2:=by intro ρ M2 v M' he K' hk;unfold A4x;simp only;rw[he];exact hk
  split at hd
  .rename_i hc;obtain⟨k,hM,hd⟩:=hd;cases hX:B2h C.P e with
   |none=>rw[hX]at hd;exact hd.elim
   |some X=>rw[hX]at hd;refine⟨_,.put slot X,hd,⟨.inl hc,rfl,A0r hM⟩,λT2 M2 l h1 h2 G w a hi hr=>?_⟩;exact B9P hi hX (h2.2.2.1 hc) rfl a
  .exact m _ hd.2 hd.1 (b hv)
 .rename_i hne1 hne2 hne3;refine p hd (λρ M2 v M' he K' hk=>?_);unfold A4x;split
  .rename_i heq;exact absurd heq (by intro e;exact hne1 _ _ _ e)
  .rename_i heq;exact absurd heq (by intro e;exact hne2 _ _ e)
  .rw[he];exact hk
structure A5s where
 o:Oper
 v:AV
 eff:Eff
def A5S:List A5s->Nat->(Nat->Bool)->Env->Env
 |[],_,_,T=>T
 |p::ps,k,S,T=>A5S ps (k+1) S (if S k then T.put p.o.dst p.v else T)
def A4B:List A5s->Nat->(Nat->Bool)->Mem->Mem
 |[],_,_,M=>M
 |p::ps,k,S,M=>A4B ps (k+1) S (if S k then p.eff.app M else M)
def A9U(C:Ctx)(N:Nat)(ops:Array Oper)(L:B1A):List A5s->Nat->Env->Mem->Prop
 |[],_,_,_=>True
 |p::ps,k,T,M=>D5q C N ops L.fl (L.cls k) (L.rob k) (L.slot k) p.o p.v T M p.eff/\C4H L k M (p.eff.app M)/\A9U C N ops L ps (k+1) (T.put p.o.dst p.v) (p.eff.app M)
def A4R:List A5s->Env->Env
 |[],T=>T
 |p::ps,T=>A4R ps (T.put p.o.dst p.v)
def A2F:List A5s->Mem->Mem
 |[],M=>M
 |p::ps,M=>A2F ps (p.eff.app M)
def B0u{C}{N}{h}{ops}{L}:∀(l:List Oper) (k:Nat) (T:Env) (M:Mem) (K:Env->Mem->Prop),A2b N ops l=true->A3c C h ops L k l T M K->
 ∃ps:List A5s,ps.map (·.o)=l/\A9U C N ops L ps k T M/\K (A4R ps T) (A2F ps M)
 |[],k,T,M,K,_,hd=>⟨[],rfl,trivial,hd⟩
 |o::l,k,T,M,K,hin,hd=>by
  simp only[A2b,Z1k,Z0f]at hin;obtain⟨⟨ho,hg⟩,m⟩:=hin;have g:A2b N ops l=true:=by simpa[A2b]using m
  simp only[A3c]at hd;have t:=hd;unfold A2n at hd;have f:(∀T2,(∀s∈o.looksAt ops,T2 s=T s)->∀run skip:Prop,A2n ops o T2 run skip=run)->dOp C h L.fl (L.cls k) (L.rob k) (L.slot k) o (T.ev C) M (λv M'=>C4H L k M M'/\A3c C h ops L (k+1) l (T.put o.dst v) M' K)->
   ∃ps:List A5s,ps.map (·.o)=o::l/\A9U C N ops L ps k T M/\K (A4R ps T) (A2F ps M):=by
   intro q hr
   obtain⟨v,eff,⟨hq,hk⟩,hw,r⟩:=D6x (ops:=ops) ho hr
   obtain⟨ps,h1,h2,h3⟩:=B0u l (k+1) _ _ K g hk
   refine⟨⟨o,v,eff⟩::ps,by simp[h1],⟨⟨hw,λT2 M2 fl e1 e2 G w a hi he next Q hK=>?_⟩,hq,h2⟩,h3⟩
   have p:=B1h (C:=C) (M:=M2) (w:=w) he hg (run:=True) (skip:=False) (by rw[q T2 e1];trivial)
   rcases p with⟨i,_⟩|⟨_,hf⟩
   .simp only at i|-;rw[Z0d i];left;(refine r T2 M2 fl e1 e2 G w a hi he next Q ?_);rintro v' M3 G' w' x ⟨rfl,rfl⟩ q1 q2 q3 q4;exact hK G' w' x q1 q2 q3 q4
   .exact hf.elim
  have c:(∀T2,(∀s∈o.looksAt ops,T2 s=T s)->∀run skip:Prop,A2n ops o T2 run skip=skip)->A3c C h ops L (k+1) l (T.put o.dst (.val undef)) M K->
   ∃ps:List A5s,ps.map (·.o)=o::l/\A9U C N ops L ps k T M/\K (A4R ps T) (A2F ps M):=by
   intro q hr
   obtain⟨ps,h1,h2,h3⟩:=B0u l (k+1) _ _ K g hr
   refine⟨⟨o,.val undef,.none⟩::ps,by simp[h1],⟨⟨trivial,λT2 M2 fl e1 e2 G w a hi he next Q hK=>?_⟩,λ_ _ _=>rfl,h2⟩,h3⟩
   have p:=B1h (C:=C) (M:=M2) (w:=w) he hg (run:=False) (skip:=True) (by rw[q T2 e1];trivial)
   rcases p with⟨_,hf⟩|⟨i,_⟩
   .exact hf.elim
   .simp only at i|-;rw[Z0e (by simp[i])];exact hK G w undef (.refl _) hi (by simp[Rep]) (.refl _)
  split at hd
  .rename_i hn;exact f (λT2 _ run skip=>by unfold A2n;rw[hn]) hd
  .rename_i j want hs;split at hd;(case h_2=>exact hd.elim);rename_i d hdst;split at hd
   .rename_i b hb;by_cases e:b=want
    .rw[Z0d e]at hd;refine f (λT2 e1 run skip=>?_) hd;rw[B1B e1];unfold A2n;rw[hs];simp only[hdst,hb];rw[Z0d e]
    .rw[Z0e e]at hd;refine c (λT2 e1 run skip=>?_) hd;rw[B1B e1];unfold A2n;rw[hs];simp only[hdst,hb];rw[Z0e e]
   .rename_i vs hb;refine c (λT2 e1 run skip=>?_) hd;rw[B1B e1];unfold A2n;rw[hs];simp only[hdst,hb]
   .exact hd.elim
def A7M(ops:Array Oper):Nat->Nat->Nat->Bool
 |0,_,_=>false
 |fuel+1,j,i=>match ops[i]? with
  |some o=>o.after.any λe=>Region.binds .any e&&(e.on==j||A7M ops fuel j e.on)
  |none=>false
def A5A(ops:Array Oper)(x y:Oper):Bool:=
 (match x.dst with
  |some d=>(y.looksAt ops).contains d||y.dst==some d
  |none=>false)||
 (match y.dst with
  |some d=>(x.looksAt ops).contains d
  |none=>false)
def A3f(c:Nat):Bool:=c==4||c==5
def A5c{c}:A3f c=true<->c=4\/c=5:=by simp[A3f]
def A1I(L:B1A)(j i:Nat):Bool:=
 (L.cls j==2&&L.cls i==2)||(A3f (L.cls j)&&L.cls i==2)||(L.cls j==2&&L.cls i==5)||(L.cls j==1&&L.cls i==2&&L.aff j i)||(L.cls i==1&&L.cls j==2&&L.aff i j)||
 (L.cls j==1&&A3f (L.cls i)&&L.rob j==L.slot i)||(L.cls i==1&&A3f (L.cls j)&&L.rob i==L.slot j)
def A5y(ops:Array Oper)(L:B1A):Bool:=
 (List.range ops.size).all λi=>match ops[i]? with
  |some o=>(o.after.all λe=>!Region.binds .any e||decide (e.on<i))&&(L.cls i !=4||L.fl)&&
   (List.range i).all λj=>match ops[j]? with
    |some x=>(!(A5A ops x o||A1I L j i)||A7M ops ops.size j i)&&(!A3f (L.cls i)||!A3f (L.cls j)||L.slot j !=L.slot i)
    |none=>true
  |none=>true
def C6H(ops:Array Oper)(S:Nat->Bool):Prop:=∀i o,ops[i]?=some o->S i=true->∀e∈o.after.toList,Region.binds .any e=true->S e.on=true
def A7S{ops}{S:Nat->Bool}(hc:C6H ops S):∀(fuel j i:Nat),A7M ops fuel j i=true->(∀o,ops[i]?=some o->∀e∈o.after.toList,Region.binds .any e=true->S e.on=true)->S j=true
 |0,_,_,h,_=>by simp[A7M]at h
 |fuel+1,j,i,h,hp=>by
  simp only[A7M]at h;split at h;case h_2=>simp at h
  rename_i o ho;rw[<-Z4c]at h;obtain⟨e,he,hb⟩:=Z2I.1 h;simp only[Z0f,Z1O,Z2E]at hb;have hs:=hp o ho e he hb.1;rcases hb.2 with h1|h1
  .rw[<-h1];exact hs
  .exact A7S hc fuel j e.on h1 (λo' ho' e' he' hb'=>hc e.on o' ho' hs e' he' hb')
def B2f{T:Env}{d:Option Tmp}{v:AV}{s:Nat}(h:d≠some s):T.put d v s=T s:=by
 cases d with
 |none=>rfl
 |some d=>rw[Env.put_some,Z0e (λe=>h (by rw[e]))]
def A6b(S:Nat->Bool)(s:Nat):∀(ps:List A5s) (k:Nat) (T:Env),(∀j p,ps[j]?=some p->S (k+j)=true->p.o.dst≠some s)->A5S ps k S T s=T s
 |[],k,T,_=>rfl
 |p::ps,k,T,h=>by
  simp only[A5S];rw[A6b S s ps (k+1) _ (λj q hq hs=>h (j+1) q (by simpa using hq) (by rw[show k+(j+1)=k+1+j from by omega];exact hs))];by_cases hs:S k=true
  .rw[Z0d hs];exact B2f (h 0 p rfl hs)
  .rw[Z0e hs]
def B1O(S:Nat->Bool)(s:Nat):∀(ps:List A5s) (k i:Nat) (T:Env),(∀j p,ps[j]?=some p->p.o.dst=some s->(S (k+j)=true<->j<i))->A5S ps k S T s=A4R (ps.take i) T s
 |[],k,i,T,_=>by simp[A5S,A4R]
 |p::ps,k,0,T,h=>by simp only[Z2v,A4R];exact A6b S s (p::ps) k T (λj q hq hs hd=>by have:=(h j q hq hd).1 hs;omega)
 |p::ps,k,i+1,T,h=>by
  simp only[A5S,Z0D,A4R];have step:=B1O S s ps (k+1) i (if S k=true then T.put p.o.dst p.v else T) (λj q hq hd=>by have:=h (j+1) q (by simpa using hq) hd;rw[show k+(j+1)=k+1+j from by omega]at this;rw[this];omega);rw[step];have e0:(if S k=true then T.put p.o.dst p.v else T) s=T.put p.o.dst p.v s:=by
   by_cases hd:p.o.dst=some s
   .have:=(h 0 p rfl hd).2 (by omega);simp only[Z0V]at this;rw[Z0d this]
   .by_cases hs:S k=true
    .rw[Z0d hs]
    .rw[Z0e hs,B2f hd]
  have a:∀(qs:List A5s) (A B:Env),A s=B s->A4R qs A s=A4R qs B s:=by
   intro qs;induction qs with
   |nil=>intro A B h;exact h
   |cons q qs ih=>
    intro A B h;simp only[A4R];refine ih _ _ ?_;cases q.o.dst with
    |none=>exact h
    |some d=>simp only[Env.put_some];split<;>simp_all
  exact a _ _ _ e0
def B9b(S:Nat->Bool)(i:Nat):∀(ps:List A5s) (k:Nat) (T:Env) (p:A5s),ps[i]?=some p->S (k+i)=false->(∀j q,ps[j]?=some q->i<j->S (k+j)=true->∀s,p.o.dst=some s->q.o.dst≠some s)->
 ∀s,A5S ps k (λx=>if x=k+i then true else S x) T s=(A5S ps k S T).put p.o.dst p.v s
 |[],k,T,p,hp,_,_=>by simp at hp
 |q::ps,k,T,p,hp,hS,hc=>by
  intro s;simp only[A5S];cases i with
  |zero=>
   simp at hp;subst hp;simp only[Z0V]at hS|-;rw[Z0d (by simp),Z0e (by simp[hS])];have same:∀(rs:List A5s) (m:Nat) (A:Env),k<m->A5S rs m (λx=>if x=k then true else S x) A=A5S rs m S A:=by
    intro rs;induction rs with
    |nil=>intro m A _;rfl
    |cons r rs ih=>intro m A hm;(have a:¬m=k:=by omega);simp only[A5S,Z0e a];exact ih (m+1) _ (by omega)
   rw[same ps (k+1) _ (by omega)];by_cases hs:q.o.dst=some s
   .have un:∀A:Env,A5S ps (k+1) S A s=A s:=λA=>A6b S s ps (k+1) A (λj r hr hsj=>by exact hc (j+1) r (by simpa using hr) (by omega) (by rw[show k+(j+1)=k+1+j from by omega];exact hsj) s hs);rw[un,hs,Env.put_some,Env.put_some,Z0d rfl,Z0d rfl]
   .rw[B2f hs];have b:∀(rs:List A5s) (m:Nat) (A B:Env),A s=B s->A5S rs m S A s=A5S rs m S B s:=by
     intro rs;induction rs with
     |nil=>intro m A B h;exact h
     |cons r rs ih=>
      intro m A B h;simp only[A5S];refine ih _ _ _ ?_;split
      .cases r.o.dst with
       |none=>exact h
       |some d=>simp only[Env.put_some];split<;>simp_all
      .exact h
    exact b ps (k+1) _ _ (B2f hs)
  |succ i=>
   (have a:¬k=k+(i+1):=by omega);simp only[Z0e a]
   have:=B9b S i ps (k+1) (if S k=true then T.put q.o.dst q.v else T) p (by simpa using hp) (by rw[show k+1+i=k+(i+1)from by omega];exact hS) (λj r hr hij hsj=>hc (j+1) r (by simpa using hr) (by omega) (by rw[show k+(j+1)=k+1+j from by omega];exact hsj)) s;rw[show k+(i+1)=k+1+i from by omega];exact this
def A9U.at_{C}{N}{ops}{L}:∀(ps:List A5s) (k:Nat) (T:Env) (M:Mem),A9U C N ops L ps k T M->∀(i:Nat) (p:A5s),ps[i]?=some p->
 D5q C N ops L.fl (L.cls (k+i)) (L.rob (k+i)) (L.slot (k+i)) p.o p.v (A4R (ps.take i) T) (A2F (ps.take i) M) p.eff
 |[],_,_,_,_,i,p,hp=>by simp at hp
 |q::ps,k,T,M,h,0,p,hp=>by simp at hp;subst hp;exact h.1
 |q::ps,k,T,M,h,i+1,p,hp=>by have:=A9U.at_ ps (k+1) _ _ h.2.2 i p (by simpa using hp);rw[show k+(i+1)=k+1+i from by omega];exact this
def A9c(L:B1A):List A5s->Nat->Mem->Prop
 |[],_,_=>True
 |p::ps,k,M=>p.eff.ok L.fl (L.cls k) (L.slot k) M/\C4H L k M (p.eff.app M)/\A9c L ps (k+1) (p.eff.app M)
def A9U.effs{C}{N}{ops}{L}:∀(ps:List A5s) (k:Nat) (T:Env) (M:Mem),A9U C N ops L ps k T M->A9c L ps k M
 |[],_,_,_,_=>trivial
 |p::ps,k,T,M,h=>⟨h.1.1,h.2.1,A9U.effs ps (k+1) _ _ h.2.2⟩
def B6a(S:Nat->Bool):∀(a b:List A5s) (k:Nat) (M:Mem),A4B (a++b) k S M=A4B b (k+a.length) S (A4B a k S M)
 |[],b,k,M=>rfl
 |p::a,b,k,M=>by simp only[Z1R,A4B,Z0B];rw[B6a S a b (k+1),show k+1+a.length=k+(a.length+1)from by omega]
def A9c.append{L}:∀(a b:List A5s) (k:Nat) (M:Mem),A9c L (a++b) k M<->A9c L a k M/\A9c L b (k+a.length) (A2F a M)
 |[],b,k,M=>by simp[A9c,A2F]
 |p::a,b,k,M=>by simp only[Z1R,A9c,Z0B,A2F];rw[A9c.append a b (k+1),show k+1+a.length=k+(a.length+1)from by omega];simp only[and_assoc]
def B3o{S S':Nat->Bool}:∀(a:List A5s) (k:Nat) (M:Mem),(∀j,j<a.length->S (k+j)=S' (k+j))->A4B a k S M=A4B a k S' M
 |[],k,M,_=>rfl
 |p::a,k,M,h=>by simp only[A4B];have h0:=h 0 (by simp);simp only[Z0V]at h0;rw[h0];exact B3o a (k+1) _ (λj hj=>by have:=h (j+1) (by simpa using hj);rwa[show k+(j+1)=k+1+j from by omega]at this)
def Eff.app_none_of{fl:Bool}{cls slot:Nat}{M:Mem}{eff:Eff}(h:eff.ok fl cls slot M)(h2:cls≠2)(h4:¬(cls=4\/cls=5)):eff=.none:=by
 cases eff with
 |none=>rfl
 |put s X=>exact absurd h.1 h4
 |mem M1=>exact absurd h.1 h2
def B2y{L:B1A}{S:Nat->Bool}:∀(a:List A5s) (k:Nat) (M:Mem),A9c L a k M->(∀j,j<a.length->L.cls (k+j)=2\/(L.cls (k+j)=4\/L.cls (k+j)=5)->S (k+j)=true)->A4B a k S M=A2F a M
 |[],k,M,_,_=>rfl
 |p::a,k,M,he,h=>by
  simp only[A4B,A2F];have h':∀j,j<a.length->L.cls (k+1+j)=2\/(L.cls (k+1+j)=4\/L.cls (k+1+j)=5)->S (k+1+j)=true:=λj hj hc=>by have:=h (j+1) (by simpa using hj) (by rwa[show k+(j+1)=k+1+j from by omega]);rwa[show k+(j+1)=k+1+j from by omega]at this
  cases hs:S k with
  |true=>rw[Z0d rfl];exact B2y a (k+1) _ he.2.2 h'
  |false=>have hn:p.eff=.none:=Eff.app_none_of he.1 (λe=>by have:=h 0 (by simp) (.inl e);simp only[Z0V]at this;rw[hs]at this;simp at this) (λe=>by have:=h 0 (by simp) (.inr e);simp only[Z0V]at this;rw[hs]at this;simp at this);rw[hn];simp only[Eff.app];have b:=he.2.2;rw[hn]at b;exact B2y a (k+1) _ b h'
def A6u:List A5s->Nat->(Nat->Bool)->List (Nat×A0p)
 |[],_,_=>[]
 |p::ps,k,S=>match S k,p.eff with
  |true,.put s X=>(s,X)::A6u ps (k+1) S
  |_,_=>A6u ps (k+1) S
def A7k{L}{S:Nat->Bool}:∀(a:List A5s) (k:Nat) (M0 M:Mem),A9c L a k M0->(∀j,j<a.length->L.cls (k+j)=2->S (k+j)=false)->A4B a k S M=fill M (A6u a k S)
 |[],k,M0,M,_,_=>rfl
 |p::a,k,M0,M,he,h=>by
  simp only[A4B,A6u];have h':∀j,j<a.length->L.cls (k+1+j)=2->S (k+1+j)=false:=λj hj hc=>by have:=h (j+1) (by simpa using hj) (by rwa[show k+(j+1)=k+1+j from by omega]);rwa[show k+(j+1)=k+1+j from by omega]at this
  rw[A7k a (k+1) _ _ he.2.2 h'];cases hs:S k with
  |false=>rfl
  |true=>
   rw[Z0d rfl];cases hf:p.eff with
   |none=>rfl
   |put s X=>rfl
   |mem M1=>have h1:=he.1;rw[hf]at h1;have:=h 0 (by simp) h1.1;simp only[Z0V]at this;rw[hs]at this;simp at this
def A6h{L}{S:Nat->Bool}:∀(a:List A5s) (k:Nat) (M0:Mem),A9c L a k M0->∀q∈A6u a k S,∃j,j<a.length/\(L.cls (k+j)=4\/L.cls (k+j)=5)/\q.1=L.slot (k+j)/\S (k+j)=true
 |[],k,M0,_,q,hq=>by simp[A6u]at hq
 |p::a,k,M0,he,q,hq=>by
  have tl:q∈A6u a (k+1) S->∃j,j<(p::a).length/\(L.cls (k+j)=4\/L.cls (k+j)=5)/\q.1=L.slot (k+j)/\S (k+j)=true:=by intro hq;obtain⟨j,h1,h2,h3,h4⟩:=A6h a (k+1) _ he.2.2 q hq;exact⟨j+1,by simpa using h1,by rwa[show k+(j+1)=k+1+j from by omega],by rwa[show k+(j+1)=k+1+j from by omega],by rwa[show k+(j+1)=k+1+j from by omega]⟩
  simp only[A6u]at hq;split at hq
  .rename_i s X hs hf;rcases Z0F.1 hq with rfl|hq
   .have h1:=he.1;rw[hf]at h1;exact⟨0,by simp,h1.1,h1.2.1,hs⟩
   .exact tl hq
  .exact tl hq
def B4v{L}{S:Nat->Bool}:∀(a:List A5s) (k:Nat) (M0:Mem),A9c L a k M0->(∀j m,j<m->m<a.length->(L.cls (k+j)=4\/L.cls (k+j)=5)->(L.cls (k+m)=4\/L.cls (k+m)=5)->L.slot (k+j)≠L.slot (k+m))->((A6u a k S).map (·.1)).Nodup
 |[],k,M0,_,_=>by simp[A6u]
 |p::a,k,M0,he,h=>by
  have ih:=B4v (S:=S) a (k+1) _ he.2.2 (λj m hj hm h1 h2=>by have:=h (j+1) (m+1) (by omega) (by simpa using hm) (by rwa[show k+(j+1)=k+1+j from by omega]) (by rwa[show k+(m+1)=k+1+m from by omega]);rwa[show k+(j+1)=k+1+j from by omega,show k+(m+1)=k+1+m from by omega]at this);simp only[A6u];split
  .rename_i s X hs hf;simp only[Z0C,Z2z];refine⟨λhm=>?_,ih⟩;obtain⟨q,hq,b⟩:=Z0W.1 hm;obtain⟨j,h1,h2,h3,_⟩:=A6h a (k+1) _ he.2.2 q hq;have h0:=he.1;rw[hf]at h0;refine h 0 (j+1) (by omega) (by simpa using h1) h0.1 (by rwa[show k+(j+1)=k+1+j from by omega]) ?_;rw[show k+(j+1)=k+1+j from by omega,<-h3,b];exact h0.2.1.symm
  .exact ih
def B8m{L}{s}:∀(a:List A5s) (k:Nat) (M:Mem),A9c L a k M->L.fl=true->(∀j,j<a.length->(L.cls (k+j)=4\/L.cls (k+j)=5)->L.slot (k+j)≠s)->M[s]?=some A1q->(A2F a M)[s]?=some A1q
 |[],k,M,_,_,_,h=>h
 |p::a,k,M,he,hfl,hs,h=>by
  refine B8m a (k+1) _ he.2.2 hfl (λj hj hc=>by have:=hs (j+1) (by simpa using hj) (by rwa[show k+(j+1)=k+1+j from by omega]);rwa[show k+(j+1)=k+1+j from by omega]at this) ?_;have h0:=he.1;cases hf:p.eff with
  |none=>exact h
  |put s' X=>rw[hf]at h0;have:=hs 0 (by simp) h0.1;simp only[Z0V]at this;simp only[Eff.app];rw[Z0g (by rw[h0.2.1];exact this)];exact h
  |mem M1=>rw[hf]at h0;exact h0.2 hfl s h
def B8g{L}{S:Nat->Bool}{r i}(hr:r=L.rob i)(c:L.cls i=1):∀(a:List A5s) (k:Nat) (A M:Mem),A9c L a k M->(∀j,j<a.length->L.cls (k+j)=2->L.aff i (k+j)=true->S (k+j)=true)->
 (∀j,j<a.length->(L.cls (k+j)=4\/L.cls (k+j)=5)->L.slot (k+j)=r->S (k+j)=true)->A[r]?=M[r]?->(A4B a k S A)[r]?=(A2F a M)[r]?
 |[],k,A,M,_,_,_,h=>h
 |p::a,k,A,M,he,h2,h4,h=>by
  simp only[A4B,A2F];refine B8g hr c a (k+1) _ _ he.2.2 (λj hj hc b=>?_) (λj hj hc hsl=>?_) ?_
  .have:=h2 (j+1) (by simpa using hj) (by rwa[show k+(j+1)=k+1+j from by omega]) (by rwa[show k+(j+1)=k+1+j from by omega]);rwa[show k+(j+1)=k+1+j from by omega]at this
  .have:=h4 (j+1) (by simpa using hj) (by rwa[show k+(j+1)=k+1+j from by omega]) (by rwa[show k+(j+1)=k+1+j from by omega]);rwa[show k+(j+1)=k+1+j from by omega]at this
  .have h0:=he.1;cases hf:p.eff with
   |none=>simp only[Eff.app];split<;>exact h
   |mem M1=>
    rw[hf]at h0;simp only[Eff.app];split
    .rfl
    .rename_i hs;have b:L.aff i k=false:=by
      cases e:L.aff i k with
      |false=>rfl
      |true=>have:=h2 0 (by simp) h0.1 e;exact absurd this hs
     have:=he.2.1 i c b;rw[hf]at this;rw[h,hr];exact this.symm
   |put s X=>
    rw[hf]at h0;simp only[Eff.app];by_cases e:s=r
    .subst e;have hs:=h4 0 (by simp) h0.1 h0.2.1.symm;simp only[Z0V]at hs;rw[Z0d hs];(have h1:s<M.length:=by rw[h0.2.1];exact h0.2.2);have h3:s<A.length:=A0r (by rw[h];exact Z0m h1);rw[Z4l h1,Z4l h3]
    .rw[Z0g e];split
     .rw[Z0g e];exact h
     .exact h
def B7X{L}{S:Nat->Bool}{r i}(hr:r=L.rob i)(c:L.cls i=1){V}:∀(a:List A5s) (k:Nat) (A M:Mem),A9c L a k M->(∀j,j<a.length->L.cls (k+j)=2->L.aff i (k+j)=true->S (k+j)=false)->
 (∀j,j<a.length->(L.cls (k+j)=4\/L.cls (k+j)=5)->L.slot (k+j)=r->S (k+j)=false)->(∀j m,j<m->m<a.length->(L.cls (k+j)=2\/(L.cls (k+j)=4\/L.cls (k+j)=5))->L.cls (k+m)=2->S (k+m)=true->S (k+j)=true)->
 A[r]?=V->(M[r]?=V\/∀j,j<a.length->L.cls (k+j)=2->S (k+j)=false)->(A4B a k S A)[r]?=V
 |[],k,A,M,_,_,_,_,h,_=>h
 |p::a,k,A,M,he,h2,h4,hp,h,hor=>by
  simp only[A4B];have sh:∀j,k+(j+1)=k+1+j:=λj=>by omega
  have b:(∀j,j<(p::a).length->L.cls (k+j)=2->S (k+j)=false)->∀j,j<a.length->L.cls (k+1+j)=2->S (k+1+j)=false:=λhx j hj hc=>by have:=hx (j+1) (by simpa using hj) (by rw[sh];exact hc);rwa[sh]at this
  have later:(L.cls k=2\/(L.cls k=4\/L.cls k=5))->S k=false->∀j,j<a.length->L.cls (k+1+j)=2->S (k+1+j)=false:=λhc hs j hj hcj=>by
   cases e:S (k+1+j)with
   |false=>rfl
   |true=>have:=hp 0 (j+1) (by omega) (by simpa using hj) (by simpa using hc) (by rw[sh];exact hcj) (by rw[sh];exact e);simp only[Z0V]at this;rw[hs]at this;simp at this
  have go:∀A',A'[r]?=V->((p.eff.app M)[r]?=V\/∀j,j<a.length->L.cls (k+1+j)=2->S (k+1+j)=false)->(A4B a (k+1) S A')[r]?=V:=λA' hA ho=>
   B7X hr c a (k+1) _ _ he.2.2 (λj hj hc haf=>by
    have:=h2 (j+1) (by simpa using hj) (by rw[sh];exact hc) (by rw[sh];exact haf);rwa[sh]at this) (λj hj hc hsl=>by
    have:=h4 (j+1) (by simpa using hj) (by rw[sh];exact hc) (by rw[sh];exact hsl);rwa[sh]at this) (λj m hj hm h1 h3 h5=>by
    have:=hp (j+1) (m+1) (by omega) (by simpa using hm) (by rw[sh];exact h1) (by rw[sh];exact h3) (by rw[sh];exact h5);rwa[sh]at this) hA ho
  have h0:=he.1;cases hf:p.eff with
  |none=>
   (have g:(if S k=true then Eff.none.app A else A)=A:=by simp[Eff.app]);rw[g]
   refine go A h ?_;rw[hf];exact hor.imp id b
  |mem M1=>
   rw[hf]at h0;have hq:=he.2.1;rw[hf]at hq;simp only[Eff.app]at hq|-;by_cases haf:L.aff i k=true
   .have hs:=h2 0 (by simp) h0.1 haf;simp only[Z0V]at hs;rw[Z0e (by simp[hs])];exact go A h (.inr (later (.inl h0.1) hs))
   ·(have d:L.aff i k=false:=by simpa using haf);have e:=hq i c d
    rw[<-hr]at e;cases hs:S k with
    |true=>
     rw[Z0d rfl];have hM:M[r]?=V:=by
      rcases hor with hh|hh
      .exact hh
      .have:=hh 0 (by simp) h0.1;simp only[Z0V]at this;rw[hs]at this;simp at this
     refine go M1 (by rw[e];exact hM) (.inl ?_);rw[hf];simp only[Eff.app];rw[e];exact hM
    |false=>rw[Z0e (by simp)];exact go A h (.inr (later (.inl h0.1) hs))
  |put s X=>
   rw[hf]at h0;simp only[Eff.app];by_cases e:s=r
   .subst e;have hs:=h4 0 (by simp) h0.1 h0.2.1.symm;simp only[Z0V]at hs;rw[Z0e (by simp[hs])];exact go A h (.inr (later (.inr h0.1) hs))
   .have f:(if S k=true then A.set s X else A)[r]?=V:=by
     split
     .rw[Z0g e];exact h
     .exact h
    refine go _ f ?_;rw[hf];simp only[Eff.app];rw[Z0g e];exact hor.imp id b
def B8K{L}{S:Nat->Bool}{s}:∀(a:List A5s) (k:Nat) (A M:Mem),A9c L a k M->L.fl=true->(∀j,j<a.length->(L.cls (k+j)=4\/L.cls (k+j)=5)->L.slot (k+j)≠s)->M[s]?=some A1q->A[s]?=some A1q->(A4B a k S A)[s]?=some A1q
 |[],k,A,M,_,_,_,_,h=>h
 |p::a,k,A,M,he,hfl,hs,hM,hA=>by
  have sh:∀j,k+(j+1)=k+1+j:=λj=>by omega
  have h0:=he.1;have b:(p.eff.app M)[s]?=some A1q:=by
   cases hf:p.eff with
   |none=>exact hM
   |mem M1=>rw[hf]at h0;exact h0.2 hfl s hM
   |put s' X=>rw[hf]at h0;simp only[Eff.app];have:=hs 0 (by simp) h0.1;simp only[Z0V]at this;rw[Z0g (by rw[h0.2.1];exact this)];exact hM
  simp only[A4B];refine B8K a (k+1) _ _ he.2.2 hfl (λj hj hc=>by have:=hs (j+1) (by simpa using hj) (by rw[sh];exact hc);rwa[sh]at this) b ?_;split
  .cases hf:p.eff with
   |none=>exact hA
   |mem M1=>rw[hf]at b;exact b
   |put s' X=>rw[hf]at h0;simp only[Eff.app];have:=hs 0 (by simp) h0.1;simp only[Z0V]at this;rw[Z0g (by rw[h0.2.1];exact this)];exact hA
  .exact hA
def B8u{L}{S:Nat->Bool}{s}:∀(a:List A5s) (k:Nat) (A M:Mem),A9c L a k M->(∀j,j<a.length->L.cls (k+j)=2->S (k+j)=true)->(∀j,j<a.length->(L.cls (k+j)=4\/L.cls (k+j)=5)->L.slot (k+j)≠s)->
 A[s]?=M[s]?->(A4B a k S A)[s]?=(A2F a M)[s]?
 |[],k,A,M,_,_,_,h=>h
 |p::a,k,A,M,he,h2,hs,h=>by
  have sh:∀j,k+(j+1)=k+1+j:=λj=>by omega
  have h0:=he.1;simp only[A4B,A2F];refine B8u a (k+1) _ _ he.2.2 (λj hj hc=>by
   have:=h2 (j+1) (by simpa using hj) (by rw[sh];exact hc);rwa[sh]at this) (λj hj hc=>by
   have:=hs (j+1) (by simpa using hj) (by rw[sh];exact hc);rwa[sh]at this) ?_
  cases hf:p.eff with
  |none=>simp only[Eff.app];split<;>exact h
  |mem M1=>rw[hf]at h0;have:=h2 0 (by simp) h0.1;simp only[Z0V]at this;rw[Z0d this];rfl
  |put s' X=>
   rw[hf]at h0;have:=hs 0 (by simp) h0.1;simp only[Z0V]at this;(have b:s'≠s:=by rw[h0.2.1];exact this);simp only[Eff.app];split
   .rw[Z0g b,Z0g b];exact h
   .rw[Z0g b];exact h
def B9D{s}:∀(l:List (Nat×A0p)) (M:Mem),(∀q∈l,q.1≠s)->(fill M l)[s]?=M[s]?
 |[],M,_=>rfl
 |q::l,M,h=>by simp only[fill,Z2M];have:=B9D l (M.set q.1 q.2) (λq' hq'=>h q' (Z2l _ hq'));simp only[fill]at this;rw[this,Z0g (h q Z3g)]
def C3D{s}{X}:∀(l:List (Nat×A0p)) (M:Mem),(∀q∈l,q.1≠s)->fill (M.set s X) l=(fill M l).set s X
 |[],M,_=>rfl
 |q::l,M,h=>by simp only[fill,Z2M];have:=C3D (s:=s) (X:=X) l (M.set q.1 q.2) (λq' hq'=>h q' (Z2l _ hq'));simp only[fill]at this;rw[Z4x _ _ (h q Z3g).symm,this]
def A5d{ops}{L}(h:A5y ops L=true){i}{o}(ho:ops[i]?=some o):(∀e∈o.after.toList,Region.binds .any e=true->e.on<i)/\(L.cls i=4->L.fl=true)/\∀j x,j<i->ops[j]?=some x->((A5A ops x o=true\/A1I L j i=true)->A7M ops ops.size j i=true)/\((L.cls i=4\/L.cls i=5)->(L.cls j=4\/L.cls j=5)->L.slot j≠L.slot i):=by
 have hi:i<ops.size:=(Z1N.1 ho).1
 have h1:=Z0r.1 h i (Z1D.2 hi)
 rw[ho]at h1
 simp only[Z0f]at h1
 obtain⟨⟨h1,h2⟩,h3⟩:=h1
 refine⟨λe he hb=>?_,λhc=>?_,λj x hj hx=>?_⟩
 .rw[<-Z3u]at h1;have:=Z0r.1 h1 e he;simp only[hb,Z1s,Z0X,Z0o]at this;exact this
 .simp only[hc,bne_self_eq_false,Z0X]at h2;exact h2
 .have h4:=Z0r.1 h3 j (Z1D.2 hj);rw[hx]at h4;simp only[Z0f,Z1O,Z1U,Z2b]at h4;obtain⟨h5,h6⟩:=h4;refine⟨λhc=>?_,λa b=>?_⟩
  .rcases h5 with h|h
   .rcases hc with hc|hc
    .rw[h.1]at hc;simp at hc
    .rw[h.2]at hc;simp at hc
   .exact h
  .rcases h6 with(h|h)|h
   .rw[A5c.2 a]at h;simp at h
   .rw[A5c.2 b]at h;simp at h
   .simpa using h
def C5e(L:B1A)(n:Nat)(M:Mem):Prop:=∀k,k<n->L.cls k=4->M[L.slot k]?=some A1q
def C8Z{C:Ctx}{N:Nat}{ops:Array Oper}{L:B1A}(ag:A5y ops L=true){ps:List A5s}(b3:ps.map (·.o)=ops.toList){T:Env}{M:Mem}(b8:A9U C N ops L ps 0 T M)(ak:C5e L ops.size M){Q:Exit->Act->World->Prop}
 {G0:A0m}{w0:World}(hQ:∀G w a,G0.le G->Ext w0 w->Inv C G (A2F ps M) w->A2S G N (A4R ps T) a->Q .normal a w):
 ∀(fuel:Nat) (b:Array Bool) (G:A0m) (w:World) (a:Act),b.size=ops.size->((List.range ops.size).filter λi=>!b.getD i true).length<=fuel->C6H ops (λi=>b.getD i false)->G0.le G->Ext w0 w->Inv C G (A4B ps 0 (λi=>b.getD i false) M) w->A2S G N (A5S ps 0 (λi=>b.getD i false) T) a->wpAny C.P .any ops Q fuel b a w:=by
 have b0:=A9U.effs ps 0 T M b8
 have bm:ps.length=ops.size:=by have:=congrArg List.length b3;simpa using this
 have az:∀(i:Nat) (p:A5s),ps[i]?=some p->ops[i]?=some p.o:=by
  intro i p hp;have:(ps.map (·.o))[i]?=some p.o:=by simp[hp]
  rw[b3]at this;simpa using this
 have b1:∀(i:Nat) (o:Oper),ops[i]?=some o->∃p:A5s,ps[i]?=some p/\p.o=o:=by
  intro i o ho;have:(ps.map (·.o))[i]?=some o:=by rw[b3];simpa using ho
  simpa using this
 have done:∀(b:Array Bool),b.size=ops.size->Region.ready .any ops b=[]->∀i,i<ops.size->b.getD i false=true:=by
  intro b ab hr i;induction i using Nat.strongRecOn with
  |_ i ih=>
   intro hi;cases hl:b.getD i false with
   |true=>rfl
   |false=>
    exfalso;obtain⟨o,ho⟩:∃o,ops[i]?=some o:=⟨ops[i],Z0U hi⟩;have ax:i∈Region.ready .any ops b:=by
     unfold Region.ready;refine Z1G.2 ⟨Z1D.2 hi,?_⟩;have bj:b.getD i true=false:=by
      (have h1:i<b.size:=by omega);simp[Array.getD,h1]at hl|-
      exact hl
     rw[bj,ho];simp only[Z1j,Z0s,Z0M,Z1p];rw[<-Z3u];refine Z0r.2 (λe he=>?_);by_cases hb:Region.binds .any e=true
     .have bg:=(A5d ag ho).1 e he hb;simp[ih e.on bg (by omega)]
     .simp[hb]
    rw[hr]at ax;simp at ax
 have fin:∀(b:Array Bool) (G:A0m) (w:World) (a:Act),b.size=ops.size->Region.ready .any ops b=[]->G0.le G->Ext w0 w->Inv C G (A4B ps 0 (λi=>b.getD i false) M) w->A2S G N (A5S ps 0 (λi=>b.getD i false) T) a->Q .normal a w:=by
  intro b G w a ab hr ah a3 hi he;have aq:=done b ab hr;have e1:A4B ps 0 (λi=>b.getD i false) M=A2F ps M:=B2y ps 0 M b0 (λj hj _=>by simp only[Z0K];exact aq j (by omega));have e2:∀s,A5S ps 0 (λi=>b.getD i false) T s=A4R ps T s:=by intro s;have:=B1O (λi=>b.getD i false) s ps 0 ps.length T (λj p hp _=>by have hj:=A0r hp;simp only[Z0K];exact⟨λ_=>hj,λ_=>aq j (by omega)⟩);simpa using this
  rw[e1]at hi;exact hQ G w a ah a3 hi ⟨he.defers,he.size,λi hi'=>by rw[<-e2 i];exact he.at_ i hi'⟩
 intro fuel
 induction fuel with
 |zero=>
  intro b G w a ab af aa ah a3 hi he
  simp only[wpAny]
  have aj:Region.ready .any ops b=[]:=by unfold Region.ready;refine Z2R.2 (λi hi'=>?_);have hz:=Z0w (Nat.le_zero.1 af);have:=Z2R.1 hz i hi';intro hc;simp only[Z0f]at hc;exact this hc.1
  exact⟨aj,fin b G w a ab aj ah a3 hi he⟩
 |succ fuel ih=>
  intro b G w a ab af aa ah a3 hi he
  simp only[wpAny]
  refine⟨λhr=>fin b G w a ab hr ah a3 hi he,λi hir=>?_⟩
  unfold Region.ready at hir
  obtain⟨ae,a8⟩:=Z1G.1 hir
  have a4:=Z1D.1 ae
  obtain⟨o,ho⟩:∃o,ops[i]?=some o:=⟨ops[i],Z0U a4⟩
  rw[ho]at a8
  simp only[Z0M,Z1p,Z0f]at a8
  obtain⟨b5,aw⟩:=a8
  have au:i<b.size:=by omega
  have a7:b.getD i false=false:=by simpa[Array.getD,au]using b5
  obtain⟨p,hp,ai⟩:=b1 i o ho
  have ar:i<ps.length:=A0r hp
  have ac:∀o',ops[i]?=some o'->∀e∈o'.after.toList,Region.binds .any e=true->b.getD e.on false=true:=by intro o' a0 e a6 hb;rw[ho]at a0;simp at a0;subst a0;rw[<-Z3u]at aw;have:=Z0r.1 aw e a6;simpa[hb]using this
  have c:∀j,j<ops.size->∃x,ops[j]?=some x:=λj hj=>⟨ops[j],Z0U hj⟩
  have z:∀(j:Nat) (x:Oper),ops[j]?=some x->j<i->(A5A ops x o=true\/A1I L j i=true)->b.getD j false=true:=λj x hx hj hc=>A7S aa _ _ _ (((A5d ag ho).2.2 j x hj hx).1 hc) ac
  have b9:∀(j m:Nat),j<m->m<ops.size->A1I L j m=true->b.getD m false=true->b.getD j false=true:=λj m hjm hm hc hs=>by obtain⟨x,hx⟩:=c j (by omega);obtain⟨y,hy⟩:=c m hm;exact A7S aa _ _ _ (((A5d ag hy).2.2 j x hjm hx).1 (.inr hc)) (λo' a0 e a6 hb=>aa m o' a0 hs e a6 hb)
  have f:∀(j:Nat) (x:Oper),ops[j]?=some x->i<j->(A5A ops o x=true\/A1I L i j=true)->b.getD j false=false:=λj x hx hj hc=>by
   cases hs:b.getD j false with
   |false=>rfl
   |true=>have:=A7S aa _ _ _ (((A5d ag hx).2.2 i o hj ho).1 hc) (λo' a0 e a6 hb=>aa j o' a0 hs e a6 hb);rw[a7]at this;simp at this
  have al:∀x y,A5A ops x y=true->A5A ops y x=true:=by
   intro x y h;unfold A5A at h|-;cases hxd:x.dst with
   |none=>
    cases hyd:y.dst with
    |none=>rw[hxd,hyd]at h;simp at h
    |some d=>rw[hxd,hyd]at h;simp at h|-;simp[h]
   |some d=>
    cases hyd:y.dst with
    |none=>rw[hxd,hyd]at h;simp at h|-;exact h
    |some d'=>
     rw[hxd,hyd]at h;simp at h|-;rcases h with(h|h)|h
     .simp[h]
     .simp[h]
     .simp[h]
  have av:∀(j:Nat) (x:Oper),ops[j]?=some x->j≠i->A5A ops x o=true->(b.getD j false=true<->j<i):=by
   intro j x hx bl hc;constructor
   .intro hj;rcases Nat.lt_or_gt_of_ne bl with h|h
    .exact h
    .rw[f j x hx h (.inl (al _ _ hc))]at hj;simp at hj
   .intro hj;exact z j x hx hj (.inl hc)
  have ba:=A9U.at_ ps 0 T M b8 i p hp
  simp only[Z0K]at ba
  have b2:∀s∈p.o.looksAt ops,A5S ps 0 (λi=>b.getD i false) T s=A4R (ps.take i) T s:=by
   intro s hs;refine B1O _ s ps 0 i T (λj q hq hd=>?_);simp only[Z0K];by_cases e:j=i
   .subst e;simp[a7]
   .refine av j q.o (az j q hq) e ?_;unfold A5A;rw[hd];rw[<-ai];simp[hs]
  have ad:ps=ps.take i++p::ps.drop (i+1):=by(have h1:ps.drop i=p::ps.drop (i+1):=by rw[Z0h ar];congr 1;rw[Z0m ar]at hp;simpa using hp);rw[<-h1,Z1o]
  have bc:(ps.take i).length=i:=by rw[Z0I];omega
  have bp:(ps.drop (i+1)).length=ps.length-(i+1):=Z1e ..
  have b4:A9c L (ps.take i) 0 M/\p.eff.ok L.fl (L.cls i) (L.slot i) (A2F (ps.take i) M)/\C4H L i (A2F (ps.take i) M) (p.eff.app (A2F (ps.take i) M))/\A9c L (ps.drop (i+1)) (i+1) (p.eff.app (A2F (ps.take i) M)):=by have h1:=b0;rw[ad,A9c.append,bc,Z0K]at h1;exact h1
  obtain⟨an,a9,bo,u⟩:=b4
  have t:∀S:Nat->Bool,A4B ps 0 S M=A4B (ps.drop (i+1)) (i+1) S (if S i=true then p.eff.app (A4B (ps.take i) 0 S M)else A4B (ps.take i) 0 S M):=by intro S;rw[show A4B ps 0 S M=A4B (ps.take i++p::ps.drop (i+1)) 0 S M from by rw[<-ad],B6a,bc,Z0K];rfl
  have g:∀j k,j<k->k<ops.size->(L.cls j=4\/L.cls j=5)->(L.cls k=4\/L.cls k=5)->L.slot j≠L.slot k:=λj k hjk hk h1 h2=>by obtain⟨x,hx⟩:=c j (by omega);obtain⟨y,hy⟩:=c k hk;exact((A5d ag hy).2.2 j x hjk hx).2 h2 h1
  have ao:∀k,k<ops.size->L.cls k=4->L.fl=true:=λk hk hc=>by obtain⟨y,hy⟩:=c k hk;exact(A5d ag hy).2.1 hc
  have am:∀k,i<=k->k<ops.size->L.cls k=4->(A2F (ps.take i) M)[L.slot k]?=some A1q:=λk hik hk hc=>B8m (ps.take i) 0 M an (ao k hk hc) (λj hj h4=>by simp only[Z0K]at h4|-;exact g j k (by omega) hk h4 (.inl hc)) (ak k hk hc)
  have sh:∀j,i+1+j=i+(j+1):=λj=>by omega
  have w2:L.cls i=2->(∀j,j<(ps.take i).length->L.cls (0+j)=2\/(L.cls (0+j)=4\/L.cls (0+j)=5)->b.getD (0+j) false=true)/\(∀j,j<(ps.drop (i+1)).length->L.cls (i+1+j)=2->b.getD (i+1+j) false=false):=by
   intro hc;refine⟨λj hj h=>?_,λj hj h=>?_⟩
   .simp only[Z0K]at h|-;obtain⟨x,hx⟩:=c j (by omega);exact z j x hx (by omega) (.inr (by unfold A1I;rcases h with h|h|h<;>simp[h,hc,A3f]))
   .obtain⟨x,hx⟩:=c (i+1+j) (by omega);exact f _ x hx (by omega) (.inr (by unfold A1I;simp[h,hc]))
  have ap:B7g L.fl (L.cls i) (L.rob i) (L.slot i) (A2F (ps.take i) M) (A4B ps 0 (λi=>b.getD i false) M) (A6u (ps.drop (i+1)) (i+1) (λi=>b.getD i false)):=by
   refine⟨λhc=>?_,λhc=>⟨?_,⟨λq hq=>?_,?_⟩,λbh=>?_⟩,λhc=>?_,λhc=>?_⟩
   .rw[t];simp only[a7,Z0E,Z0Y];have h1:=B8g (S:=λi=>b.getD i false) (r:=L.rob i) rfl hc (ps.take i) 0 M M an (λj hj h2 haf=>by
     simp only[Z0K]at h2 haf|-;obtain⟨x,hx⟩:=c j (by omega);exact z j x hx (by omega) (.inr (by unfold A1I;simp[h2,hc,haf]))) (λj hj h4 hsl=>by
     simp only[Z0K]at h4 hsl|-;obtain⟨x,hx⟩:=c j (by omega);exact z j x hx (by omega) (.inr (by unfold A1I;rcases h4 with h4|h4<;>simp[h4,hc,hsl,A3f]))) rfl
    have bi:p.eff=.none:=Eff.app_none_of a9 (by omega) (by omega);refine B7X (S:=λi=>b.getD i false) (r:=L.rob i) (i:=i) rfl hc (ps.drop (i+1)) (i+1) _ _ u (λj hj h2 haf=>?_) (λj hj h4 hsl=>?_) (λj m hjm hm h2 h3 hs=>?_) h1 (.inl ?_)
    .obtain⟨x,hx⟩:=c (i+1+j) (by omega);exact f _ x hx (by omega) (.inr (by unfold A1I;simp[h2,hc,haf]))
    .obtain⟨x,hx⟩:=c (i+1+j) (by omega);exact f _ x hx (by omega) (.inr (by unfold A1I;rcases h4 with h4|h4<;>simp[h4,hc,hsl,A3f]))
    .exact b9 (i+1+j) (i+1+m) (by omega) (by omega) (by unfold A1I;rcases h2 with h|h|h<;>simp[h,h3,A3f]) hs
    .rw[bi];rfl
   .rw[t];simp only[a7,Z0E,Z0Y];rw[B2y (ps.take i) 0 M an (w2 hc).1];exact A7k _ _ _ _ u (w2 hc).2
   .obtain⟨j,h1,h2,h3,h5⟩:=A6h _ _ _ u q hq;rw[h3];rcases h2 with h2|h2
    .exact am (i+1+j) (by omega) (by omega) h2
    .obtain⟨x,hx⟩:=c (i+1+j) (by omega);have:=f _ x hx (by omega) (.inr (by unfold A1I;simp[h2,hc]));rw[this]at h5;simp at h5
   .exact B4v _ _ _ u (λj m hjm hm h1 h2=>g _ _ (by omega) (by omega) h1 h2)
   .cases hl:A6u (ps.drop (i+1)) (i+1) (λi=>b.getD i false)with
    |nil=>rfl
    |cons q l=>
     obtain⟨j,h1,h2,h3,h5⟩:=A6h (S:=λi=>b.getD i false) _ _ _ u q (by rw[hl];exact Z3g);rcases h2 with h2|h2
     .have:=ao (i+1+j) (by omega) h2;rw[bh]at this;simp at this
     .obtain⟨x,hx⟩:=c (i+1+j) (by omega);have:=f _ x hx (by omega) (.inr (by unfold A1I;simp[h2,hc]));rw[this]at h5;simp at h5
   .rw[t];simp only[a7,Z0E,Z0Y];have h1:(A4B (ps.take i) 0 (λi=>b.getD i false) M)[L.slot i]?=some A1q:=B8K (ps.take i) 0 M M an (ao i a4 hc) (λj hj h4=>by simp only[Z0K]at h4|-;exact g j i (by omega) a4 h4 (.inl hc)) (ak i a4 hc) (ak i a4 hc);rw[A7k _ _ _ _ u (λj hj h2=>by obtain⟨x,hx⟩:=c (i+1+j) (by omega);exact f _ x hx (by omega) (.inr (by unfold A1I;simp[h2,hc,A3f])))];rw[B9D _ _ (λq hq=>by obtain⟨j,h1,h2,h3,_⟩:=A6h _ _ _ u q hq;rw[h3];exact(g i (i+1+j) (by omega) (by omega) (.inl hc) h2).symm)];exact h1
   .rw[t];simp only[a7,Z0E,Z0Y];have h1:(A4B (ps.take i) 0 (λi=>b.getD i false) M)[L.slot i]?=(A2F (ps.take i) M)[L.slot i]?:=
     B8u (ps.take i) 0 M M an (λj hj h2=>by
      simp only[Z0K]at h2|-;obtain⟨x,hx⟩:=c j (by omega);exact z j x hx (by omega) (.inr (by unfold A1I;simp[h2,hc]))) (λj hj h4=>by
      simp only[Z0K]at h4|-;exact g j i (by omega) a4 h4 (.inr hc)) rfl
    rw[A7k _ _ _ _ u (λj hj h2=>by obtain⟨x,hx⟩:=c (i+1+j) (by omega);exact f _ x hx (by omega) (.inr (by unfold A1I;simp[h2,hc,A3f])))];rw[B9D _ _ (λq hq=>by obtain⟨j,h1,h2,h3,_⟩:=A6h _ _ _ u q hq;rw[h3];exact(g i (i+1+j) (by omega) (by omega) (.inr hc) h2).symm)];exact h1
  have bk:A4B ps 0 (λx=>if x=i then true else b.getD x false) M=p.eff.appF (A6u (ps.drop (i+1)) (i+1) (λi=>b.getD i false)) (A4B ps 0 (λi=>b.getD i false) M):=by
   have a1:A4B (ps.take i) 0 (λx=>if x=i then true else b.getD x false) M=A4B (ps.take i) 0 (λi=>b.getD i false) M:=B3o _ _ _ (λj hj=>by simp only[Z0K];rw[Z0e (by omega)]);have a2:∀A,A4B (ps.drop (i+1)) (i+1) (λx=>if x=i then true else b.getD x false) A=A4B (ps.drop (i+1)) (i+1) (λi=>b.getD i false) A:=λA=>B3o _ _ _ (λj hj=>by rw[Z0e (by omega)]);rw[t,t,a1,a2];simp only[Z0G,a7,Z0E,Z0Y];cases hf:p.eff with
   |none=>rfl
   |mem M1=>rw[hf]at a9;simp only[Eff.app,Eff.appF];exact A7k _ _ _ _ u (w2 a9.1).2
   |put s X=>rw[hf]at a9;(have ay:∀j,j<(ps.drop (i+1)).length->L.cls (i+1+j)=2->b.getD (i+1+j) false=false:=λj hj h2=>by obtain⟨x,hx⟩:=c (i+1+j) (by omega);exact f _ x hx (by omega) (.inr (by unfold A1I;rcases a9.1 with h|h<;>simp[h2,h,A3f])));simp only[Eff.app,Eff.appF];rw[A7k _ _ _ _ u ay,A7k _ _ _ _ u ay];exact C3D _ _ (λq hq=>by obtain⟨j,h1,h2,h3,_⟩:=A6h _ _ _ u q hq;rw[h3,a9.2.1];exact(g i (i+1+j) (by omega) (by omega) a9.1 h2).symm)
  unfold wpOp
  rw[ho]
  simp only
  have bb:=ba.2 _ _ _ b2 ap G w a hi he (wpAny C.P .any ops Q fuel (b.setIfInBounds i true)) Q ?_
  .rw[ai]at bb;exact bb
  .intro G' w' x h1 h2 h3 h4;rw[ai];have bf:∀j,(b.setIfInBounds i true).getD j false=if j=i then true else b.getD j false:=by
    intro j;by_cases e:j=i
    .subst e;simp[Array.getD,au]
    .have e':i≠j:=λh=>e h.symm;rw[Z0e e];by_cases hj:j<b.size
     .simp[Array.getD,hj,e']
     .simp[Array.getD,hj]
   have be:(λj=>(b.setIfInBounds i true).getD j false)=λj=>if j=i then true else b.getD j false:=funext bf;refine ih _ G' w' _ (by simpa using ab) ?_ ?_ (ah.trans h1) (a3.trans h4) ?_ ?_
   ·-- one fewer is open
    have bn:((List.range ops.size).filter λj=>!(b.setIfInBounds i true).getD j true).length<((List.range ops.size).filter λj=>!b.getD j true).length:=by
     have b6:((List.range ops.size).filter λj=>!(b.setIfInBounds i true).getD j true)=(((List.range ops.size).filter λj=>!b.getD j true).filter λj=>j !=i):=by
      rw[List.filter_filter];refine List.filter_congr (λj hj=>?_);have bq:=Z1D.1 hj;(have bd:j<b.size:=by omega);by_cases e:j=i
      .subst e;simp[Array.getD,bd]
      .have e':i≠j:=λh=>e h.symm;simp[Array.getD,bd,e,e']
     rw[b6];refine List.length_filter_lt_length_iff_exists.2 ⟨i,?_,by simp⟩;exact Z1G.2 ⟨ae,b5⟩
    omega
   ·-- still C6H
    intro k o' a0 hk e a6 hb;simp only[bf]at hk|-;by_cases ek:k=i
    .subst ek;rw[ac o' a0 e a6 hb];simp
    .rw[Z0e ek]at hk;have:=aa k o' a0 hk e a6 hb;simp only at this;rw[this];simp
   .rw[be,bk];exact h2
   .have a5:A2S G' N ((A5S ps 0 (λi=>b.getD i false) T).put p.o.dst p.v) (a.put p.o.dst x):=(he.mono h1).put h3;rw[ai]at a5;refine⟨a5.defers,a5.size,λs hs=>?_⟩;have b7:=B9b (λi=>b.getD i false) i ps 0 T p hp (by simpa using a7) (λj q hq hij hsj s hd hqd=>by simp only[Z0K]at hsj;have:=(av j q.o (az j q hq) (by omega) (by unfold A5A;rw[hqd,<-ai,hd];simp)).1 hsj;omega) s;simp only[Z0K]at b7;rw[be,b7,ai];exact a5.at_ s hs
def B1v{C:Ctx}{N:Nat}{h:A2I}{id:Nat}{ops:Array Oper}{Q:Exit->Env->Mem->Prop}{T:Env}{M:Mem}(d:C.P.follows .mixedOrders=true)(L:B1A)(g:A2b N ops ops.toList=true)(f:A5y ops L=true)(b:C5e L ops.size M) (hr:A3c C h ops L 0 ops.toList T M (λT M=>Q .normal T M)):AWp C N (.region id ops true) Q T M:=by
 intro G w a hi he
 obtain⟨ps,h1,h2,h3⟩:=B0u ops.toList 0 T M _ g hr
 refine wp_region_any d ?_
 have e0:∀j,(Array.replicate ops.size false).getD j false=false:=λj=>by simp[Array.getD]
 have c:(λj=>(Array.replicate ops.size false).getD j false)=λ_=>false:=funext e0
 have e:∀(a:List A5s) (k:Nat) (M:Mem),A4B a k (λ_=>false) M=M:=by
  intro a;induction a with
  |nil=>intro k M;rfl
  |cons p a ih=>intro k M;simp only[A4B,Z0E,Z0Y];exact ih _ _
 refine C8Z f h1 h2 b (G0:=G) (w0:=w) ?_ ops.size (Array.replicate ops.size false) G _ a (by simp) (by have:=Z2Y (λi=>!(Array.replicate ops.size false).getD i true) (List.range ops.size);simpa using this) (λi o _ hs=>by simp only[e0]at hs;exact Bool.noConfusion hs) (.refl _) ⟨rfl,rfl,rfl,Z0u _⟩ ?_ ?_
 .intro G' w' a' q1 q2 q3 q4;exact⟨_,_,G',h3,q1,q3,q4,q2⟩
 .rw[c,e];exact hi.world rfl
 .refine⟨he.defers,he.size,λs hs=>?_⟩;rw[c,A6b _ s ps 0 T (λj p _ h=>by simp at h)];exact he.at_ s hs
def Inv.reserve1{C}{G}{M}{w}(hi:Inv C G M w):∃G',G.le G'/\Inv C G' (M++[A1q]) w:=by
 have hm:=hi.more w.heap.size (λ_=>(none,0)) 0;have hk:(M++[A0p.gone])[M.length]?=some .gone:=by simp
 have ht:(G.more w.heap.size (λ_=>(none,0)) 0).top M.length=0:=by simp[A0m.more,hi.n]
 have c:∀i,(G.more w.heap.size (λ_=>(none,0)) 0).st w.heap.size i=none:=by
  intro i;cases h:G.st w.heap.size i with
  |none=>exact h
  |some v=>have:=hi.st_lt h;omega
 have a:(G.more w.heap.size (λ_=>(none,0)) 0).keep w.heap.size=none:=by
  cases h:G.keep w.heap.size with
  |none=>exact h
  |some v=>have:=hi.keep_lt h;omega
 have:=hm.step (w':=w) (o':=A1q) M.length w.heap.size hk (.inr (Z0u _)) (.refl _) rfl (λ_=>rfl) (λ_ _=>⟨rfl,rfl⟩) (λ_ _ _ h=>.inl h) (λ_=>rfl)
  (λb hlt _=>rfl) (λi v h=>by rw[c]at h;simp at h) (λo h=>by rw[a]at h;simp at h)
  ⟨ht,λ_ _ h=>by simp at h,λ_ _ _ _ _ _ _ _ h=>by simp at h⟩ (λb ⟨_,_,_,h,_⟩=>by simp at h)
 exact⟨_,G.le_more w.heap.size (λ_=>(none,0)) 0,by simpa using this⟩
def Inv.reserve{C}:∀(n:Nat) {G:A0m} {M:Mem} {w:World},Inv C G M w->∃G',G.le G'/\Inv C G' (M++List.replicate n A1q) w
 |0,G,M,w,hi=>⟨G,.refl _,by simpa using hi⟩
 |n+1,G,M,w,hi=>by obtain⟨G1,h1,h2⟩:=hi.reserve1;obtain⟨G2,h3,h4⟩:=Inv.reserve n h2;refine⟨G2,h1.trans h3,?_⟩;rw[Z0O]at h4;exact h4
def C5o{C}{N}{c}{Q:Exit->Env->Mem->Prop}{T}{M}(n:Nat)(h:AWp C N c Q T (M++List.replicate n A1q)):AWp C N c Q T M:=by intro G w a hi he;obtain⟨G',h1,h2⟩:=hi.reserve n;exact Z4o (h G' w a h2 (he.mono h1)) λ_ _ _ l=>B3c.mono h1 (.refl _) l
mutual
def bdd(n:Nat):AV->Prop
 |.poison|.val _=>True
 |.ptr b _=>b<n
 |.cptr cs=>A2l n cs
 |.list _ rows own=>A9W n rows/\(match own with|.fam f=>f<n|_=>True)
 |.vref f _ _ _ _=>f<n
 |.vptr f _ _=>f<n
 |.mapr b=>b<n
 |.func _ f c=>A2l n f/\A2l n c
 |.iface _ v=>bdd n v
 |.agg cs=>A2l n cs
 |.tuple cs=>A2l n cs
def A2l(n:Nat):List AV->Prop
 |[]=>True
 |c::cs=>bdd n c/\A2l n cs
def A9W(n:Nat):List (List AV)->Prop
 |[]=>True
 |r::rs=>A2l n r/\A9W n rs
end
mutual
def B5j{G}:∀(a:AV) (x:Value),Rep G a x->bdd G.n a
 |.poison,_,_=>by simp[bdd]
 |.val v,x,k=>by simp[bdd]
 |.ptr b off,x,k=>by simp only[Rep]at k;simp only[bdd];exact k.1
 |.cptr cs,x,k=>by simp only[Rep]at k;simp only[bdd];obtain⟨b,i,_,hm⟩:=k;exact C2l cs b i hm
 |.list sz rows own,x,k=>by
  simp only[Rep]at k;simp only[bdd];obtain⟨base,cap,_,_,_,hb,ho⟩:=k;refine⟨?_,?_⟩
  .cases base with
   |none=>obtain⟨rfl,_⟩:=hb;simp[A9W]
   |some a=>exact C4G sz rows _ _ hb.2
  .cases own with
   |fam f=>exact ho.1
   |_=>trivial
 |.vref f g sz lo len,x,k=>by simp only[Rep]at k;simp only[bdd];exact k.1
 |.vptr f g off,x,k=>by simp only[Rep]at k;simp only[bdd];exact k.1
 |.mapr b,x,k=>by simp only[Rep]at k;simp only[bdd];exact k.1
 |.func fn f c,x,k=>by simp only[Rep]at k;simp only[bdd];obtain⟨fs,cs,_,h1,h2⟩:=k;exact⟨B9I f _ h1,B9I c _ h2⟩
 |.iface t v,x,k=>by simp only[Rep]at k;simp only[bdd];obtain⟨y,_,h1⟩:=k;exact B5j v y h1
 |.agg cs,x,k=>by simp only[Rep]at k;simp only[bdd];obtain⟨ys,_,h1,_⟩:=k;exact B9I cs _ h1
 |.tuple cs,x,k=>by simp only[Rep]at k;simp only[bdd];obtain⟨ys,_,h1⟩:=k;exact B9I cs _ h1
def B9I{G}:∀(cs:List AV) (ys:List Value),A0q G cs ys->A2l G.n cs
 |[],ys,k=>by simp[A2l]
 |c::cs,ys,k=>by simp only[A0q]at k;simp only[A2l];obtain⟨y,a,_,h1,h2⟩:=k;exact⟨B5j c y h1,B9I cs a h2⟩
def C2l{G}:∀(cs:List AV) (b i:Nat),A0M G cs b i->A2l G.n cs
 |[],_,_,_=>by simp[A2l]
 |c::cs,b,i,k=>by simp only[A0M]at k;simp only[A2l];obtain⟨⟨v,_,_,h1⟩,h2⟩:=k;exact⟨B5j c v h1,C2l cs b (i+1) h2⟩
def C4G{G}(sz:Nat):∀(rs:List (List AV)) (b i:Nat),A0z G sz rs b i->A9W G.n rs
 |[],_,_,_=>by simp[A9W]
 |r::rs,b,i,k=>by simp only[A0z]at k;simp only[A9W];exact⟨C2l r b i k.1.2,C4G sz rs b (i+sz) k.2⟩
end
def A0m.cut(G:A0m)(n:Nat):A0m:={G with n:=n}
mutual
def Rep.cut{G}{n}:∀(a:AV) (x:Value),Rep G a x->bdd n a->Rep (G.cut n) a x
 |.poison,_,_,_=>by simp[Rep]
 |.val v,x,k,_=>by simpa[Rep]using k
 |.ptr b off,x,k,h=>by simp only[Rep,bdd]at k h|-;exact⟨h,k.2⟩
 |.cptr cs,x,k,h=>by simp only[Rep,bdd]at k h|-;obtain⟨b,i,hx,hm⟩:=k;exact⟨b,i,hx,A0M.cut cs b i hm h⟩
 |.list sz rows own,x,k,h=>by
  simp only[Rep,bdd]at k h|-;obtain⟨base,cap,hx,hl,hm,hb,ho⟩:=k;refine⟨base,cap,hx,hl,hm,?_,?_⟩
  .cases base with
   |none=>exact hb
   |some a=>exact⟨hb.1,A0z.cut sz rows _ _ hb.2 h.1⟩
  .cases own with
   |fam f=>exact⟨h.2,ho.2⟩
   |full=>exact ho
   |no=>trivial
 |.vref f g sz lo len,x,k,h=>by simp only[Rep,bdd]at k h|-;exact⟨h,k.2⟩
 |.vptr f g off,x,k,h=>by simp only[Rep,bdd]at k h|-;exact⟨h,k.2⟩
 |.mapr b,x,k,h=>by simp only[Rep,bdd]at k h|-;exact⟨h,k.2⟩
 |.func fn f c,x,k,h=>by simp only[Rep,bdd]at k h|-;obtain⟨fs,cs,hx,h1,h2⟩:=k;exact⟨fs,cs,hx,A0q.cut f _ h1 h.1,A0q.cut c _ h2 h.2⟩
 |.iface t v,x,k,h=>by simp only[Rep,bdd]at k h|-;obtain⟨y,hx,h1⟩:=k;exact⟨y,hx,Rep.cut v y h1 h⟩
 |.agg cs,x,k,h=>by simp only[Rep,bdd]at k h|-;obtain⟨ys,hx,h1,h2⟩:=k;exact⟨ys,hx,A0q.cut cs _ h1 h,h2⟩
 |.tuple cs,x,k,h=>by simp only[Rep,bdd]at k h|-;obtain⟨ys,hx,h1⟩:=k;exact⟨ys,hx,A0q.cut cs _ h1 h⟩
def A0q.cut{G}{n}:∀(cs:List AV) (ys:List Value),A0q G cs ys->A2l n cs->A0q (G.cut n) cs ys
 |[],ys,k,_=>by simpa[A0q]using k
 |c::cs,ys,k,h=>by simp only[A0q,A2l]at k h|-;obtain⟨y,a,hy,h1,h2⟩:=k;exact⟨y,a,hy,Rep.cut c y h1 h.1,A0q.cut cs a h2 h.2⟩
def A0M.cut{G}{n}:∀(cs:List AV) (b i:Nat),A0M G cs b i->A2l n cs->A0M (G.cut n) cs b i
 |[],_,_,_,_=>by simp[A0M]
 |c::cs,b,i,k,h=>by simp only[A0M,A2l]at k h|-;obtain⟨⟨v,hv,ho,h1⟩,h2⟩:=k;exact⟨⟨v,hv,ho,Rep.cut c v h1 h.1⟩,A0M.cut cs b (i+1) h2 h.2⟩
def A0z.cut{G}{n}(sz:Nat):∀(rs:List (List AV)) (b i:Nat),A0z G sz rs b i->A9W n rs->A0z (G.cut n) sz rs b i
 |[],_,_,_,_=>by simp[A0z]
 |r::rs,b,i,k,h=>by simp only[A0z,A9W]at k h|-;exact⟨⟨k.1.1,A0M.cut r b i k.1.2 h.1⟩,A0z.cut sz rs b (i+sz) k.2 h.2⟩
end
def C4e{G}{es}{xs}(h:A1p G es xs):∀e∈es,bdd G.n e.1/\bdd G.n e.2.1:=by
 induction h with
 |nil=>simp
 |cons h1 _ ih=>
  intro e he;rcases Z0F.1 he with rfl|he
  .exact⟨B5j _ _ h1.1,B5j _ _ h1.2.1⟩
  .exact ih e he
def A1p.cut{G}{n}{es}{xs}(h:A1p G es xs):(∀e∈es,bdd n e.1/\bdd n e.2.1)->A1p (G.cut n) es xs:=by
 induction h with
 |nil=>intro _;exact .nil
 |cons h1 _ ih=>intro hb;exact .cons ⟨Rep.cut _ _ h1.1 (hb _ (by simp)).1,Rep.cut _ _ h1.2.1 (hb _ (by simp)).2,h1.2.2⟩ (ih λe he=>hb e (by simp[he]))
def D1c(n:Nat):A0p->Prop
 |.cells _ cs=>A2l n cs
 |.vec _ sz cs _ hist=>∀h m,(h,m)∈hist->A2l n (cs.take (m*sz))
 |.map es _=>∀e∈es,bdd n e.1/\bdd n e.2.1
 |.miter m _ _ _=>∀b∈m,b<n
 |_=>True
def A5J.bdd{G}{w}{k}{o}(h:A5J G w k o):D1c G.n o:=by
 cases o with
 |cells t cs=>obtain⟨vs,_,h2,_⟩:=h;exact B9I _ _ h2
 |vec e sz cs g hist=>intro h' m hm;obtain⟨_,_,b,o,cap,vs,_,_,_,_,_,q,_⟩:=h.2.1 h' m hm;exact B9I _ _ q
 |map es clock=>obtain⟨xs,_,h2,_⟩:=h;exact C4e h2
 |miter m since A1c stepped=>exact h.2.1
 |_=>trivial
def A5J.cut{G}{w}{k n}{o}(h:A5J G w k o)(hb:D1c n o):A5J (G.cut n) w k o:=by
 cases o with
 |gone=>trivial
 |fam m sz=>exact h
 |cells t cs=>obtain⟨vs,h1,h2,h3⟩:=h;exact⟨vs,h1,A0q.cut _ _ h2 hb,h3⟩
 |vec e sz cs g hist=>refine⟨h.1,λh' m hm=>?_,h.2.2⟩;obtain⟨p1,p2,b,o,cap,vs,q1,q2,q3,q4,q5,q6,q7⟩:=h.2.1 h' m hm;exact⟨p1,p2,b,o,cap,vs,q1,q2,q3,q4,q5,A0q.cut _ _ q6 (hb h' m hm),q7⟩
 |map es clock=>obtain⟨xs,h1,h2,h3⟩:=h;exact⟨xs,h1,h2.cut hb,h3⟩
 |siter s pos=>exact h
 |miter m since A1c stepped=>exact⟨h.1,hb,h.2.2⟩
def Inv.cut{C}{G G'}{M X}{w w'}(hi:Inv C G M w)(c:G.le G')(a:Inv C G' (M++X) w'):Inv C (G'.cut M.length) M w'/\G.le (G'.cut M.length):=by
 have hn:=hi.n;refine⟨⟨rfl,a.st,a.keep,λk o hk=>?_,λj k x y b hx hy ox oy=>?_,λg=>?_,a.tab⟩,⟨by simp[A0m.cut,hn],c.blk,c.st,c.keep,c.top,c.hdr⟩⟩
 .have h1:=a.obj k o (by rw[Z0j (A0r hk)];exact hk);have h2:=(hi.obj k o hk).bdd;rw[hn]at h2;exact h1.cut h2
 .refine a.apart j k x y b (by rw[Z0j (A0r hx)];exact hx) (by rw[Z0j (A0r hy)];exact hy) ?_ ?_
  .cases x<;>exact ox
  .cases y<;>exact oy
 .have h2:=B5j _ _ (hi.gl g);rw[hn]at h2;exact Rep.cut _ _ (a.gl g) h2
def A0e.cut{C}{f}{args}{M}{Q:AV->Mem->Prop}(h:A0e C f args M Q){Q':AV->Mem->Prop}(hq:∀r M',Q r M'->∃X,M'=M++X/\bdd M.length r/\Q' r M):A0e C f args M Q':=by intro G w vs hi hr;refine Z2D (h G w vs hi hr) ?_;rintro e w' ⟨r,M',G',v,rfl,h1,h2,h3,h4,h5⟩;obtain⟨X,rfl,hb,a⟩:=hq r M' h1;obtain⟨k1,k2⟩:=hi.cut h2 h3;exact⟨r,M,_,v,rfl,a,k2,k1,Rep.cut _ _ h4 hb,h5⟩
mutual
def flat:AV->Bool
 |.val _=>true
 |.agg cs=>C3C cs
 |.tuple cs=>C3C cs
 |.iface _ v=>flat v
 |_=>false
def C3C:List AV->Bool
 |[]=>true
 |c::cs=>flat c&&C3C cs
end
mutual
def B9k{n}:∀(a:AV),flat a=true->bdd n a
 |.val v,_=>by simp[bdd]
 |.agg cs,h=>by simp only[flat]at h;simp only[bdd];exact B5c cs h
 |.tuple cs,h=>by simp only[flat]at h;simp only[bdd];exact B5c cs h
 |.iface t v,h=>by simp only[flat]at h;simp only[bdd];exact B9k v h
 |.poison,h|.ptr _ _,h|.cptr _,h|.list _ _ _,h|.vref _ _ _ _ _,h|.vptr _ _ _,h|.mapr _,h|.func _ _ _,h=>by simp[flat]at h
def B5c{n}:∀(cs:List AV),C3C cs=true->A2l n cs
 |[],_=>by simp[A2l]
 |c::cs,h=>by simp only[C3C,Z0f]at h;simp only[A2l];exact⟨B9k c h.1,B5c cs h.2⟩
end
structure A8C (f:Mem->Option (AV×Mem)) (M:Mem) (v:AV) (M1:Mem) (ws:List Nat):Prop where
 grow:M.length<=M1.length
 old:∀i,i<M.length->i∉ws->M1[i]?=M[i]?
 keep:A4V M M1
 fill:∀(s:Nat) (X:A0p),M[s]?=some A1q->f (M.set s X)=some (v,M1.set s X)
def A8C.same{f:Mem->Option (AV×Mem)}{M:Mem}{v:AV}{ws:List Nat}(h:∀(s:Nat) (X:A0p),M[s]?=some A1q->f (M.set s X)=some (v,M.set s X)):A8C f M v M ws:=⟨Z0u _,λ_ _ _=>rfl,λ_ h=>h,h⟩
def A8C.put{f:Mem->Option (AV×Mem)}{M:Mem}{v:AV}{b:Nat}{o ob:A0p}{ws:List Nat}(hb:M[b]?=some ob)(a:ob≠A1q)(hw:b∈ws)(h:∀(s:Nat) (X:A0p),M[s]?=some A1q->f (M.set s X)=some (v,(M.set s X).set b o)):A8C f M v (M.set b o) ws:=by
 have ne:∀s:Nat,M[s]?=some A1q->b≠s:=λs hs e=>by subst e;rw[hb]at hs;simp at hs;exact a hs
 refine⟨by simp,λi hi hn=>?_,λs hs=>?_,λs X hs=>?_⟩
 .rw[Z0g (λe:b=i=>hn (by rw[<-e];exact hw))]
 .rw[Z0g (ne s hs)];exact hs
 .rw[h s X hs,Z4x _ _ (ne s hs).symm]
def A8C.app{f:Mem->Option (AV×Mem)}{M Y:Mem}{v:AV}{ws:List Nat}(h:∀(s:Nat) (X:A0p),M[s]?=some A1q->f (M.set s X)=some (v,M.set s X++Y)):A8C f M v (M++Y) ws:=by refine⟨by simp,λi hi _=>by rw[Z0j hi],λs hs=>by rw[Z0j (A0r hs)];exact hs,λs X hs=>?_⟩;rw[h s X hs,List.set_append_left _ _ (A0r hs)]
def A1L{M:Mem}{s b:Nat}{X ob:A0p}(hs:M[s]?=some A1q)(hb:M[b]?=some ob)(a:ob≠A1q):(M.set s X)[b]?=some ob:=by rw[Z0g (λe=>by subst e;rw[hb]at hs;simp at hs;exact a hs)];exact hb
def A1s{e sz:Nat}{cs:List AV}{g h n:Nat}{a:List (Nat×Nat)}(hn:a.lookup h=some n):A0p.vec e sz cs g a≠A1q:=by intro e;simp only[A1q,A0p.vec.injEq]at e;rw[e.2.2.2.2]at hn;simp at hn
section
variable {M:Mem} {s:Nat} {X:A0p} (hs:M[s]?=some A1q)
include hs
def B3G{a:AV}{cs:List AV}(h:A3g M a=some cs):A3g (M.set s X) a=some cs:=by
 unfold A3g at h|-;split at h
 .exact h
 .rename_i b off;split at h;case h_2=>simp at h
  rename_i t cs' hb;rw[A1L hs hb (by simp[A1q])];exact h
 .rename_i f g off;split at h;case h_2=>simp at h
  rename_i e sz cs' g' hist hb;split at h;case h_2=>simp at h
  rename_i n hn;rw[A1L hs hb (A1s hn)];simp only[hn];exact h
 .simp at h
def A1M{sz:Nat}{a:AV}{r:List AV×Nat}(h:A0B M sz a=some r):A0B (M.set s X) sz a=some r:=by
 unfold A0B at h|-;split at h
 .exact h
 .exact h
 .exact h
 .rename_i f h' s' lo len;split at h;case h_2=>simp at h
  rename_i e sz' cs' g' hist hb;split at h;case h_2=>simp at h
  rename_i n hn;rw[A1L hs hb (A1s hn)];simp only[hn];exact h
 .simp at h
def B7I{a:AV}{es:List (AV×AV×Nat)}(h:A5b M a=some es):A5b (M.set s X) a=some es:=by
 unfold A5b at h|-;split at h
 .exact h
 .rename_i b;split at h;case h_2=>simp at h
  rename_i es' c hb;rw[A1L hs hb (by simp[A1q])];exact h
 .simp at h
def B4t{P:Program}{t:TypeId}{x:AV}{n:Nat}(h:A2U P t M x=some n):A2U P t (M.set s X) x=some n:=by
 unfold A2U at h|-;split at h
 .rename_i b;split at h;case h_2=>simp at h
  rename_i k e es c hu hb;rw[A1L hs hb (by simp[A1q]),hu];exact h
 .simp at h
end
def A1V(o:Oper)(ρ:Operand->AV):List Nat:=match o.op with
 |.store _ a _=>match ρ a with|.ptr b _=>[b]|.vptr f _ _=>[f]|_=>[]
 |.mapUpdate _ m _ _=>match ρ m with|.mapr b=>[b]|_=>[]
 |.insert _ m _ _=>match ρ m with|.mapr b=>[b]|_=>[]
 |.next x _=>match ρ x with|.ptr b _=>[b]|_=>[]
 |.call {callee:=.builtin _,args,..}=>match args.toList with
  |d::_=>match ρ d with|.vref f _ _ _ _=>[f]|.vptr f _ _=>[f]|_=>[]
  |[]=>[]
 |_=>[]
def C2u{C:Ctx}{h:A2I}{o:Oper}{ρ:Operand->AV}{M M':Mem}{v:AV}(he:A0W C h o ρ M=some (v,M')):A8C (A0W C h o ρ) M v M' (A1V o ρ):=by
 obtain⟨d,op,t,p,af,g⟩:=o;have c:=he;unfold A0W at he;simp only at he;split at he
 .rename_i ty x;split at he;case h_3=>simp at he
  all_goals
   rename_i hx
   simp only[Z0i,Z0b,Z1M]at he
   obtain⟨u,⟨cs,h1,h2⟩,rfl,rfl⟩:=he
   refine .same λs X hs=>?_
   simp only[A0W,hx,B3G hs h1,Z2j,h2,Z0M]
 .rename_i ty a x;split at he;case h_3=>simp at he
  .rename_i b off hb;split at he;(case h_2=>simp at he);rename_i bt cs hM;split at he;(case isFalse=>simp at he);rename_i hc;simp only[Z0a,Z0b]at he;obtain⟨rfl,rfl⟩:=he;refine .put hM (by simp[A1q]) (by simp[A1V,hb]) λs X hs=>?_;simp only[A0W,hb,A1L hs hM (by simp[A1q]),hc,Z0G]
  .rename_i f g' off hb;split at he;(case h_2=>simp at he);rename_i vt sz cs g2 hist hM;split at he;(case h_2=>simp at he);rename_i n hn;split at he;(case isFalse=>simp at he);rename_i hc;simp only[Z0a,Z0b]at he;obtain⟨rfl,rfl⟩:=he;refine .put hM (A1s hn) (by simp[A1V,hb]) λs X hs=>?_;simp only[A0W,hb,A1L hs hM (A1s hn),hn,hc,Z0G]
 .rename_i e;split at he;case h_2=>simp at he
  rename_i z hz;split at he;case isFalse=>simp at he
  rename_i hc;simp only[Z0a,Z0b]at he;obtain⟨rfl,rfl⟩:=he;refine .app λs X hs=>?_;simp only[A0W,hz,hc,Z0G,Z1C]
 .rename_i e x;split at he;case isFalse=>simp at he
  rename_i hc;simp only[Z0a,Z0b]at he;obtain⟨rfl,rfl⟩:=he;refine .app λs X hs=>?_;simp only[A0W,hc,Z0G,Z1C]
 .simp at he
def B2I{P:Program}{t:TypeId}{m k:AV}{ok:Bool}{M:Mem}{s:Nat}{X:A0p}(hs:M[s]?=some A1q){v:AV}(h:A1K P t M m k ok=some v):A1K P t (M.set s X) m k ok=some v:=by
 unfold A1K at h|-;cases he:A5b M m with
 |none=>rw[he]at h;cases hk:A9n P t<;>rw[hk]at h<;>simp at h
 |some es=>rw[B7I hs he];rw[he]at h;exact h
def B6h{P:Program}{t:TypeId}{m k x v0:AV}{M M':Mem}{ws:List Nat}(h:A1E P t M m k x=some M')(hw:∀b,m=.mapr b->b∈ws):A8C (λM=>(A1E P t M m k x).map λM'=>(v0,M')) M v0 M' ws:=by
 have key:∃b es c o,m=.mapr b/\M[b]?=some (.map es c)/\M'=M.set b o/\∀M2:Mem,M2[b]?=some (.map es c)->A1E P t M2 m k x=some (M2.set b o):=by
  unfold A1E at h;split at h;case h_2=>simp at h
  rename_i kt et b hkv;split at h;case h_2=>simp at h
  rename_i es clock hM;split at h;case isFalse=>simp at h
  rename_i hc;split at h
  .rename_i i e0 hf;split at h;(case h_2=>simp at h);rename_i ok e1 born hes;split at h;(case h_2=>simp at h);rename_i a c ha hc2;split at h;(case isFalse=>simp at h);rename_i hsb;simp only[Z0a]at h;subst h;exact⟨b,es,clock,_,rfl,hM,rfl,λM2 h2=>by simp only[A1E,hkv,h2,hc,Z0G,hf,hes,ha,hc2,hsb]⟩
  .rename_i hf;simp only[Z0a]at h;subst h;exact⟨b,es,clock,_,rfl,hM,rfl,λM2 h2=>by simp only[A1E,hkv,h2,hc,Z0G,hf]⟩
  .simp at h
 obtain⟨b,es,c,o,hm,hM,rfl,hf⟩:=key;refine .put hM (by simp[A1q]) (hw b hm) λs X hs=>?_;simp only[hf _ (A1L hs hM (by simp[A1q])),Z0M]
def D0b{P:Program}{t u:TypeId}{d s0 v:AV}{M M':Mem}{ws:List Nat}(h:A6z P t u M d s0=some (v,M'))(hw:∀f g sz lo len,d=.vref f g sz lo len->f∈ws):A8C (λM=>A6z P t u M d s0) M v M' ws:=by
 unfold A6z at h;split at h;case h_2=>simp at h
 rename_i e he;split at h;case h_2=>simp at h
 rename_i sz hsz;split at h;case h_2=>simp at h
 rename_i news m hsrc;split at h;case h_2=>simp at h
 rename_i f g sz' lo len;split at h;case h_2=>simp at h
 rename_i ety sz2 cs g' hist hM;split at h;case h_2=>simp at h
 rename_i n hn;split at h;case isFalse=>simp at h
 rename_i hc;split at h
 .rename_i h0;simp only[Z0a,Z0b]at h;obtain⟨rfl,rfl⟩:=h;refine .same λs X hs=>?_;simp only[A6z,he,hsz,A1M hs hsrc,A1L hs hM (A1s hn),hn,Z0d hc,Z0d h0]
 .rename_i h0;simp only[Z0a,Z0b]at h;obtain⟨rfl,rfl⟩:=h;refine .put hM (A1s hn) (hw _ _ _ _ _ rfl) λs X hs=>?_;simp only[A6z,he,hsz,A1M hs hsrc,A1L hs hM (A1s hn),hn,Z0d hc,Z0e h0]
def C5K{P}{t:TypeId}{n}{parts}{v}{M M'}{ws}(h:A1v P t n parts M=some (v,M')):A8C (A1v P t n parts) M v M' ws:=by
 unfold A1v at h;split at h;case h_2=>simp at h
 rename_i e he;split at h;case h_2=>simp at h
 rename_i sz z hs hz;split at h;case isFalse=>simp at h
 rename_i hc;simp only[Z0i,Z0b]at h;obtain⟨rows,hr,rfl,rfl⟩:=h;refine .app λs X hs'=>?_;simp only[A1v,he,hs,hz,Z0d hc,hr,Z0M,Z1C]
def C6F{P}{t:TypeId}{l c v}{M M'}{ws}(h:A4W P t l c M=some (v,M')):A8C (A4W P t l c) M v M' ws:=by
 unfold A4W at h;split at h;case h_2=>simp at h
 rename_i e kl l kc c he;split at h;case h_2=>simp at h
 rename_i sz z b hs hz hb;split at h;case isFalse=>simp at h
 rename_i hc;simp only[Z0a,Z0b]at h;obtain⟨rfl,rfl⟩:=h;refine .app λs X hs'=>?_;simp only[A4W,he,hs,hz,hb,Z0d hc,Z1C]
def B9L{C:Ctx}{h:A2I}{o:Oper}{ρ:Operand->AV}{M M':Mem}{v:AV}(he:A0R C h o ρ M=some (v,M')):A8C (A0R C h o ρ) M v M' (A1V o ρ):=by
 obtain⟨d,op,t,p,af,g⟩:=o;unfold A0R at he;simp only at he;split at he
 .rename_i ty n parts;split at he;case isFalse=>simp at he
  rename_i hv;have e:A0R C h ⟨d,.buildSlice ty n parts,t,p,af,g⟩ ρ=A1v C.P ty n (parts.toList.map λp=>(p.1,ρ p.2)):=by funext M2;simp only[A0R,hv,Z0G]
  rw[e];exact C5K he
 .rename_i ty l c;exact C6F he
 .rename_i ty;simp only[Z0a,Z0b]at he;obtain⟨rfl,rfl⟩:=he;refine .app λs X hs=>?_;simp only[A0R,Z1C]
 .rename_i ty m k ok;simp only[Z0i,Z0b]at he;obtain⟨v',hv,rfl,rfl⟩:=he;refine .same λs X hs=>?_;simp only[A0R,B2I hs hv,Z0M]
 .rename_i ty m k x;simp only[Z0i,Z0b]at he;obtain⟨M2,i,rfl,rfl⟩:=he;exact B6h i (λb hb=>by simp[A1V,hb])
 .rename_i ty m k x;simp only[Z0i,Z0b]at he;obtain⟨M2,i,rfl,rfl⟩:=he;exact B6h i (λb hb=>by simp[A1V,hb])
 .rename_i b args ts;have e:A0R C h ⟨d,.call {callee:=.builtin b,args:=args,argTypes:=ts},t,p,af,g⟩ ρ=A2d C.P b ts.toList (args.toList.map ρ):=rfl;rw[e];unfold A2d at he;split at he
  .rename_i t' x hts hargs;simp only[Z0i,Z0b]at he;obtain⟨n,hn,rfl,rfl⟩:=he;cases hl:A2U C.P t' M x with
   |none=>rw[hl]at hn;simp at hn
   |some m=>refine .same λs X hs=>?_;rw[hts,hargs];rw[hl]at hn;simp only[A2d,B4t hs hl];rw[hn];rfl
  .rename_i t' hts hargs;split at he
   .rename_i hu;simp only[Z0a,Z0b]at he;obtain⟨rfl,rfl⟩:=he;refine .same λs X hs=>?_;rw[hts,hargs];simp only[A2d,hu]
   .simp at he
  .rename_i t' u x s0 hts hargs;rw[hts,hargs];refine D0b he (λf g sz lo len hx=>?_);cases hl:args.toList with
   |nil=>rw[hl]at hargs;simp at hargs
   |cons a l=>rw[hl]at hargs;simp only[Z0C,Z1g]at hargs;simp only[A1V,hl];rw[hargs.1,hx];simp
  .simp at he
 .simp at he
def C5Z{C:Ctx}{o:Oper}{ρ:Operand->AV}{M M':Mem}{v:AV}(he:A2V C o ρ M=some (v,M')):A8C (A2V C o ρ) M v M' (A1V o ρ):=by
 obtain⟨d,op,t,p,af,g⟩:=o;unfold A2V at he;simp only at he;split at he
 .rename_i ty x;unfold A6D at he;split at he;case h_2=>simp at he
  rename_i str hu hx;simp only[Z0a,Z0b]at he;obtain⟨rfl,rfl⟩:=he;refine .app λs X hs=>?_;simp only[A2V,A6D,hu,hx,Z1C]
 .rename_i x;unfold A5K at he;split at he;case h_2=>simp at he
  rename_i b hx;split at he;case h_2=>simp at he
  rename_i str pos hM;split at he
  .rename_i hlt;simp only[Z0a,Z0b]at he;obtain⟨rfl,rfl⟩:=he;refine .put hM (by simp[A1q]) (by simp[A1V,hx]) λs X hs=>?_;simp only[A2V,hx,A5K,A1L hs hM (by simp[A1q]),Z0d hlt]
  .rename_i hlt;simp only[Z0a,Z0b]at he;obtain⟨rfl,rfl⟩:=he;refine .same λs X hs=>?_;simp only[A2V,hx,A5K,A1L hs hM (by simp[A1q]),Z0e hlt]
 .rename_i ty x lo hi mx;simp only[Z0i,Z0b]at he;obtain⟨v',hv,rfl,rfl⟩:=he;refine .same λs X hs=>?_;have key:A8b C.P ty (M.set s X) (ρ x) (lo.map ρ) (hi.map ρ) (mx.map ρ)=some v':=by unfold A8b at hv|-;split at hv;(case h_2=>simp at hv);rename_i f g' sz lo0 len;split at hv;(case h_2=>simp at hv);rename_i hA e1 s1 cs g1 hist hM hM2;split at hv;(case h_2=>simp at hv);rename_i n hn;simp only[hM,A1L hs hM2 (A1s hn),hn];exact hv
  simp only[A2V,key,Z0M]
 .rename_i a b x;split at he
  .rename_i v' hv;simp only[Z0a,Z0b]at he;obtain⟨rfl,rfl⟩:=he;refine .same λs X hs=>?_;simp only[A2V,hv]
  .rename_i hnone;simp only[Z0i,Z0b]at he;obtain⟨v',hv,rfl,rfl⟩:=he;refine .same λs X hs=>?_;have key:B6l C.P a b (M.set s X) (ρ x)=some v':=by
    unfold B6l at hv|-;split at hv
    .split at hv;(case h_2=>simp at hv);rename_i bt cs n hM hn;rw[A1L hs hM (by simp[A1q])];simp only[hn];exact hv
    .split at hv;(case h_2=>simp at hv);rename_i bt cs n hM hn;rw[A1L hs hM (by simp[A1q])];simp only[hn];exact hv
    .simp at hv
   simp only[A2V,hnone,key,Z0M]
 .rename_i b args ts;have e:A2V C ⟨d,.call {callee:=.builtin b,args:=args,argTypes:=ts},t,p,af,g⟩ ρ=A3t C.P b ts.toList (args.toList.map ρ):=rfl;rw[e];have hd:∀x l,args.toList.map ρ=x::l->∀f,(∃g' sz lo len,x=.vref f g' sz lo len)\/(∃g' off,x=.vptr f g' off)->f∈A1V ⟨d,.call {callee:=.builtin b,args:=args,argTypes:=ts},t,p,af,g⟩ ρ:=by
   intro x l hl f hf;cases ha:args.toList with
   |nil=>rw[ha]at hl;simp at hl
   |cons a l2=>rw[ha]at hl;simp only[Z0C,Z1g]at hl;simp only[A1V,ha];rw[hl.1];rcases hf with⟨_,_,_,_,rfl⟩|⟨_,_,rfl⟩<;>simp
  unfold A3t at he;split at he
  .rename_i ty x hts hargs;rw[hts,hargs];unfold A7U at he;split at he;(case h_2=>simp at he);rename_i f g' sz lo len;split at he;(case h_2=>simp at he);rename_i e0 hel;split at he;(case h_2=>simp at he);rename_i z ety sz2 cs g2 hist hz hM;split at he;(case h_2=>simp at he);rename_i n hn;split at he;(case isFalse=>simp at he);rename_i hc;split at he
   .rename_i h0;simp only[Z0a,Z0b]at he;obtain⟨rfl,rfl⟩:=he;refine .same λs X hs=>?_;simp only[A3t,A7U,hel,hz,A1L hs hM (A1s hn),hn,Z0d hc,Z0d h0]
   .rename_i h0;simp only[Z0a,Z0b]at he;obtain⟨rfl,rfl⟩:=he;refine .put hM (A1s hn) (hd _ _ hargs f (.inl ⟨_,_,_,_,rfl⟩)) λs X hs=>?_;simp only[A3t,A7U,hel,hz,A1L hs hM (A1s hn),hn,Z0d hc,Z0e h0]
  .rename_i x hargs;simp only[Z0i,Z0b]at he;obtain⟨v',hv,rfl,rfl⟩:=he;refine .same λs X hs=>?_;rw[hargs];have key:A3G (M.set s X) x=some v':=by
    unfold A3G at hv|-;split at hv
    .exact hv
    .split at hv;(case h_2=>simp at hv);rename_i ety sz2 cs g2 hist hM;split at hv;(case h_2=>simp at hv);rename_i n hn;simp only[A1L hs hM (A1s hn),hn];exact hv
    .simp at hv
   simp only[A3t,key,Z0M]
  .rename_i pt it pp nn hts hargs;rw[hts,hargs];unfold A2g at he;split at he;(case h_2=>simp at he);rename_i n;split at he
   .rename_i h0;subst h0;refine ?_;split at he
    .simp only[Z0a,Z0b]at he;obtain⟨rfl,rfl⟩:=he;exact .same λs X hs=>by simp only[A3t,A2g,Z0G]
    .simp only[Z0a,Z0b]at he;obtain⟨rfl,rfl⟩:=he;exact .same λs X hs=>by simp only[A3t,A2g,Z0G]
    .simp at he
   .rename_i h0;split at he;(case h_2=>simp at he);rename_i f g' off;split at he;(case h_2=>simp at he);rename_i e0 ety cs g2 hist hu hM;split at he;(case h_2=>simp at he);rename_i m hm;split at he;(case isFalse=>simp at he);rename_i hc;split at he;(case h_2=>simp at he);rename_i l hl;simp only[Z0a,Z0b]at he;obtain⟨rfl,rfl⟩:=he;refine .put hM (A1s hm) (hd _ _ hargs f (.inr ⟨_,_,rfl⟩)) λs X hs=>?_;simp only[A3t,A2g,Z0e h0,hu,A1L hs hM (A1s hm),hm,Z0d hc,hl]
  .simp at he
 .simp at he
def A8C.of{f g:Mem->Option (AV×Mem)}{M M1}{v}{ws}(h:A8C f M v M1 ws)(a:∀M2 v M',f M2=some (v,M')->g M2=some (v,M')):A8C g M v M1 ws:=⟨h.grow,h.old,h.keep,λs X hs=>a _ _ _ (h.fill s X hs)⟩
def C1V{C}{h}{o}{ρ:Operand->AV}{M}{r}(he:A0R C h o ρ M=some r):∀M2,A0W C h o ρ M2=none:=by obtain⟨d,op,t,p,af,g⟩:=o;intro M2;cases op<;>first|rfl|(simp[A0R]at he;done)
def C6D{C}{h}{o}{ρ:Operand->AV}{M}{r}(he:A2V C o ρ M=some r):∀M2,A0W C h o ρ M2=none/\A0R C h o ρ M2=none:=by
 obtain⟨d,op,t,p,af,g⟩:=o;intro M2;cases op<;>first|exact⟨rfl,rfl⟩|(simp[A2V]at he;done)|skip
 case call c=>
  obtain⟨callee,args,ts⟩:=c;cases callee with
  |builtin b=>refine⟨rfl,?_⟩;cases b<;>first|rfl|(simp[A2V,A3t]at he;done)
  |_=>simp[A2V]at he
def B1Q{C}{h}{o}{ρ:Operand->AV}{v}(he:A0E C o ρ=some v):∀M2,A0W C h o ρ M2=none/\A0R C h o ρ M2=none:=by obtain⟨d,op,t,p,af,g⟩:=o;intro M2;cases op<;>first|exact⟨rfl,rfl⟩|(simp[A0E]at he;done)
def B1t{C}{h}{o}{ρ:Operand->AV}{M M'}{v}(he:A0A C h o ρ M=some (v,M')):A8C (A0A C h o ρ) M v M' (A1V o ρ):=by
 unfold A0A at he;split at he
 .rename_i u hu;simp only[Z0a,Z0b]at he;obtain⟨rfl,rfl⟩:=he;exact .same λs X hs=>by simp only[A0A,hu]
 rename_i hp;split at he
 .rename_i r hr;simp only[Z0a]at he;subst he;exact(C2u hr).of λM2 v2 M3 h2=>by simp only[A0A,hp,h2]
 split at he
 .rename_i r hr;simp only[Z0a]at he;subst he;exact(B9L hr).of λM2 v2 M3 h2=>by simp only[A0A,hp,C1V hr,h2]
 split at he
 .rename_i u hu;simp only[Z0a,Z0b]at he;obtain⟨rfl,rfl⟩:=he;have h1:=B1Q (h:=h) hu;exact .same λs X hs=>by simp only[A0A,hp,(h1 _).1,(h1 _).2,hu]
 .rename_i hp1;have h1:=C6D (h:=h) he;exact(C5Z he).of λM2 v2 M3 h2=>by simp only[A0A,hp,(h1 _).1,(h1 _).2,hp1,h2]
end Go.Abs
