/- The texts AbsP, AbsQ, AbsT, AbsU2, AbsU3, AbsU, AbsV, AbsV2, AbsVo, AbsV3, AbsV4. -/
import Derived.Test.YtjmjekcaifkboaaGreatDoorQG11
import Derived.Orders
set_option linter.all false
namespace Go.Abs
def A3U(C:Ctx)(o:Oper)(ρ:Operand->AV)(M:Mem):Option AV:=
 match o.op with
 |.load t x=>A0E C.P t M (ρ x)
 |.lookup t m k ok=>A1Y C.P t M (ρ m) (ρ k) ok
 |.call {callee:=.builtin .len,args,argTypes}=>match args.toList,argTypes.toList with
  |[x],[t]=>((A3k C.P t (ρ x)).or (A4N C.P t M (ρ x))).map λ(n:Nat)=>AV.val (.int .i64 n)
  |_,_=>none
 |_=>none
def A1e(o:Oper)(ρ:Operand->AV):Option Nat:=match o.op with
 |.load _ x=>match ρ x with|.ptr b _=>some b|.vptr f _ _=>some f|_=>none
 |.lookup _ m _ _=>match ρ m with|.mapr b=>some b|_=>none
 |.call {callee:=.builtin .len,args,..}=>match args.toList with
  |[x]=>match ρ x with|.mapr b=>some b|_=>none
  |_=>none
 |_=>none
def A4a:A0m:=.vec 0 1 [] 0 []
def fill(M:Mem)(l:List (Nat×A0m)):Mem:=l.foldl (λM p=>M.set p.1 p.2) M
def B5B(M:Mem)(l:List (Nat×A0m)):Prop:=(∀p∈l,M[p.1]?=some A4a)/\(l.map (·.1)).Nodup
def B0l(M M':Mem):Prop:=∀s:Nat,M[s]?=some A4a->M'[s]?=some A4a
def D8q(f:Mem->Option (AV×Mem))(M:Mem)(v:AV)(M1:Mem):Prop:=B0l M M1/\∀l,B5B M l->f (fill M l)=some (v,fill M1 l)
def C7q(C:Ctx)(g:FuncId)(args:List AV)(M:Mem)(v:AV)(M1:Mem):Prop:=B0l M M1/\∀l,B5B M l->A2Z C g args (fill M l) (λr m=>r=v/\m=fill M1 l)
def A7v(fl:Bool)(f:Mem->Option (AV×Mem))(M:Mem)(K:AV->Mem->Prop):Prop:=match f M with
 |some (v,M1)=>(fl=true->D8q f M v M1)/\K v M1
 |none=>False
def B1W(P:Program)(e:TypeId):Option A0m:=match A0G P e with
 |some z=>if z.all (·.oneCell')then some (.vec e z.length (z.map .val) 1 [(1,1)])else none
 |none=>none
def A4q(o:Oper)(ρ:Operand->AV):Option Nat:=match o.op with
 |.store _ a _=>match ρ a with|.ptr b _=>some b|.vptr f _ _=>some f|_=>none
 |_=>none
def B4l{C}{h}{d}{st:TypeId}{a x}{t:TypeId}{p}{af}{g}{ρ:Operand->AV}{M}:A0W C h ⟨d,.store st a x,t,p,af,g⟩ ρ M=A1V C h ⟨d,.store st a x,t,p,af,g⟩ ρ M:=by
 simp only[A0W,A0J,A1X,A1c,A7I]
 cases A1V C h ⟨d,.store st a x,t,p,af,g⟩ ρ M<;>rfl
def B5E{C}{h}{o}{ρ:Operand->AV}{M M1}{v}{s}(hs:A4q o ρ=some s)(he:A0W C h o ρ M=some (v,M1)):∃X,M1=M.set s X/\s<M.length/\∀M2:Mem,M2[s]?=M[s]?->A0W C h o ρ M2=some (v,M2.set s X):=by
 obtain⟨d,op,t,p,af,g⟩:=o
 cases op<;>first|(simp[A4q]at hs;done)|skip
 case store st a x=>
  simp only[B4l]at he|-;simp only[A4q]at hs;split at hs
  .rename_i b off ha;simp only[Z0b]at hs;subst hs;simp only[A1V,ha]at he|-;split at he;(case h_2=>simp at he);rename_i bt cs hM;split at he;(case isFalse=>simp at he);rename_i hc;simp only[Z0b,Z0i]at he;obtain⟨rfl,rfl⟩:=he;refine⟨_,rfl,A0P hM,λM2 h2=>?_⟩;rw[h2,hM];simp only[Z0c hc]
  .rename_i f gg off ha;simp only[Z0b]at hs;subst hs;simp only[A1V,ha]at he|-;split at he;(case h_2=>simp at he);rename_i vt sz cs g' hist hM;split at he;(case h_2=>simp at he);rename_i n hn;split at he;(case isFalse=>simp at he);rename_i hc;simp only[Z0b,Z0i]at he;obtain⟨rfl,rfl⟩:=he;refine⟨_,rfl,A0P hM,λM2 h2=>?_⟩;rw[h2,hM];simp only[hn,Z0c hc]
  .simp at hs
def dOp(C:Ctx)(h:A2r)(fl:Bool)(cls rob slot:Nat)(o:Oper)(ρ:Operand->AV)(M:Mem)(K:AV->Mem->Prop):Prop:=
 match o.op with
 |.call {callee:=.value f,args,..}=>match ρ f with
  |.func (.func g) first captured=>
   if cls=0 then∃r,(∀M,A2Z C g (first++args.toList.map ρ++captured) M (λv M'=>v=r/\M'=M))/\K r M
   else∃r M1,cls=2/\A2Z C g (first++args.toList.map ρ++captured) M (λv M'=>v=r/\M'=M1)/\(fl=true->C7q C g (first++args.toList.map ρ++captured) M r M1)/\K r M1
  |_=>False
 |.call {callee:=.builtin .append,args,argTypes}=>match args.toList,argTypes.toList with
  |[s,x],[t,u]=>∃e sz bytes,B7B C.P t u sz bytes e/\cls=2/\A7v fl (A6L (A2e h.own o.dst) (A2e h.vec o.dst) e sz bytes (ρ s) (ρ x)) M K
  |_,_=>False
 |.alloc e=>if cls=4 then fl=true/\M[slot]?=some A4a/\A0T (B1W C.P e) (λX=>K (.vptr slot 1 0) (M.set slot X))else cls=2/\A7v fl (A0W C h o ρ) M K
 |_=>if cls=0 then A0T ((A0J C h o ρ).or (A1c C o ρ)) (λv=>K v M)else if cls=1 then A1e o ρ=some rob/\A0T (A3U C o ρ M) (λv=>K v M)
  else if cls=5 then A4q o ρ=some slot/\A0T (A0W C h o ρ M) (λr=>K r.1 r.2)
  else cls=2/\A7v fl (A0W C h o ρ) M K
structure B2o where
 cls:Nat->Nat
 rob:Nat->Nat:=λ_=>0
 slot:Nat->Nat:=λ_=>0
 /-- may the operation j turn what the look i looks at -/
 aff:Nat->Nat->Bool:=λ_ _=>true
 fl:Bool:=false
def C5m(L:B2o)(k:Nat)(M M':Mem):Prop:=∀i,L.cls i=1->L.aff i k=false->M'[L.rob i]?=M[L.rob i]?
def A1x(C:Ctx)(h:A2r)(ops:Array Oper)(L:B2o):Nat->List Oper->Env->Mem->(Env->Mem->Prop)->Prop
 |_,[],T,M,K=>K T M
 |k,o::rest,T,M,K=>A2A ops o T (dOp C h L.fl (L.cls k) (L.rob k) (L.slot k) o (T.ev C) M (λv M'=>C5m L k M M'/\A1x C h ops L (k+1) rest (T.put o.dst v) M' K)) (A1x C h ops L (k+1) rest (T.put o.dst (.val undef)) M K)
inductive Eff where
 |none
 |put (s:Nat) (X:A0m)
 |mem (M:Mem)
def Eff.app:Eff->Mem->Mem
 |.none,M=>M
 |.put s X,M=>M.set s X
 |.mem M1,_=>M1
def Eff.appF(l:List (Nat×A0m)):Eff->Mem->Mem
 |.none,M=>M
 |.put s X,M=>M.set s X
 |.mem M1,_=>fill M1 l
def Eff.ok(fl:Bool)(cls slot:Nat)(M:Mem):Eff->Prop
 |.none=>True
 |.put s X=>(cls=4\/cls=5)/\s=slot/\slot<M.length
 |.mem M1=>cls=2/\(fl=true->B0l M M1)
def B7t(fl:Bool)(cls rob slot:Nat)(M M2:Mem)(l:List (Nat×A0m)):Prop:=(cls=1->M2[rob]?=M[rob]?)/\(cls=2->M2=fill M l/\B5B M l/\(fl=false->l=[]))/\(cls=4->M2[slot]?=some A4a)/\(cls=5->M2[slot]?=M[slot]?)
def D8j(C:Ctx)(N:Nat)(ops:Array Oper)(fl:Bool)(cls rob slot:Nat)(o:Oper)(v:AV)(T:Env)(M:Mem)(eff:Eff):Prop:=
 eff.ok fl cls slot M/\∀T2 M2 l,(∀s∈o.looksAt ops,T2 s=T s)->B7t fl cls rob slot M M2 l->∀G w a,Inv C G M2 w->A3e G N T2 a->∀(next:Act->World->Prop) (Q:Exit->Act->World->Prop),
  (∀G' w' x,G.le G'->Inv C G' (eff.appF l M2) w'->Rep G' v x->Ext w w'->next (a.put o.dst x) w')->
  if Region.wanted o (yielded ops a.tmps)then o.wp C.P a w next Q\/(o.asks C.P a w/\LetsOut Q)else next (a.put o.dst undef) w
def C5V{C}{o}{ρ:Operand->AV}{A B}(h:∀r,A1e o ρ=some r->A[r]?=B[r]?):A3U C o ρ A=A3U C o ρ B:=by
 obtain⟨d,op,t,p,af,g⟩:=o;cases op<;>try rfl
 case load t x=>
  simp only[A3U,A0E];simp only[A1e]at h;have e:A2g A (ρ x)=A2g B (ρ x):=by
   cases hx:ρ x with
   |ptr b off=>rw[hx]at h;simp only[A2g];rw[h b rfl]
   |vptr f g off=>rw[hx]at h;simp only[A2g];rw[h f rfl]
   |_=>rfl
  rw[e]
 case lookup t m k ok=>
  simp only[A3U,A1Y];have e:A4I A (ρ m)=A4I B (ρ m):=by
   unfold A4I;simp only[A1e]at h;split
   .rfl
   .rename_i b hb;rw[hb]at h;simp only at h;rw[h b rfl]
   .rfl
  rw[e]
 case call c=>
  obtain⟨callee,args,ts⟩:=c;cases callee with
  |builtin b=>
   cases b<;>try rfl
   simp only[A3U];simp only[A1e]at h;split
   .rename_i x t' ha ht;rw[ha]at h;simp only at h;have e:A4N C.P t' A (ρ x)=A4N C.P t' B (ρ x):=by
     unfold A4N;split
     .rename_i b hb;rw[hb]at h;simp only at h;rw[h b rfl]
     .rfl
    rw[e]
   .rfl
  |_=>rfl
def D1x{C}{h}{o}{ρ:Operand->AV}{M}{v}(hr:A3U C o ρ M=some v){K:AV->Mem->Prop}(hk:K v M):A4L C h o K ρ M:=by
 obtain⟨d,op,t,p,af,g⟩:=o;unfold A3U at hr;simp only at hr;split at hr
 .rw[C0L,hr];exact hk
 .rw[B6e,hr];exact hk
 .rename_i args ts;split at hr
  .rename_i x t' ha ht;(have a:args=#[x]:=by apply Z1O;simpa using ha);(have b:ts=#[t']:=by apply Z1O;simpa using ht);subst a;subst b;simp only[Z0l]at hr;obtain⟨n,hn,rfl⟩:=hr;rw[D2E,hn];exact hk
  .simp at hr
 .simp at hr
def A8F{C:Ctx}{ops:Array Oper}{T T2:Env}{o:Oper}(h:∀s∈o.looksAt ops,T2 s=T s):∀x∈o.op.operands.toList,T2.ev C x=T.ev C x:=by
 intro x hx;cases x with
 |tmp t=>simp only[Env.ev];refine h t ?_;unfold Oper.looksAt;exact Z2A _ (List.mem_filterMap.2 ⟨.tmp t,ZDK,rfl⟩)
 |_=>rfl
def B1k{ops}{T T2}{o}(h:∀s∈o.looksAt ops,T2 s=T s)(run skip:Prop):A2A ops o T2 run skip=A2A ops o T run skip:=by
 unfold A2A;split
 .rfl
 .rename_i j want hg;split
  .rename_i d hd;have:T2 d=T d:=h d (by unfold Oper.looksAt;rw[hg];simp only[hd];simp);rw[this]
  .rfl
def B0r{ρ ρ':Operand->AV}{l:List Operand}(h:∀x∈l,ρ' x=ρ x):l.map ρ'=l.map ρ:=Z2n h
def B1E{C:Ctx}{hn:A2r}{o:Oper}{ρ ρ':Operand->AV}(h:∀x∈o.op.operands.toList,ρ' x=ρ x):A0J C hn o ρ'=A0J C hn o ρ:=by
 obtain⟨dst,op,type,pos,after,guard⟩:=o;simp only at h;cases op<;>simp only[Op.operands]at h;case call c=>
  obtain⟨callee,args,ts⟩:=c;cases callee<;>try rfl
  simp only[Call.operands]at h;simp only[A0J];rw[B0r (l:=args.toList) (λx hx=>h x ZDK)]
 case build t ps=>
  have e:(ps.toList.map λp=>(p.1,ρ' p.2))=ps.toList.map λp=>(p.1,ρ p.2):=Z2n λp hp=>by rw[h p.2 ZCR]
  simp only[A0J,e]
 case buildSlice t n ps=>
  have e:(ps.toList.map λp=>(p.1,ρ' p.2))=ps.toList.map λp=>(p.1,ρ p.2):=Z2n λp hp=>by rw[h p.2 ZCR]
  simp only[A0J,e]
 case makeFunc fn f c=>simp only[A0J];rw[B0r (l:=f.toList) (λx hx=>h x (by simp;simp at hx;simp[hx])),B0r (l:=c.toList) (λx hx=>h x (by simp;simp at hx;simp[hx]))]
 case slice t x lo hi mx=>
  have e:∀(y:Option Operand),(∀q,y=some q->ρ' q=ρ q)->y.map ρ'=y.map ρ:=λy hy=>by cases y with|none=>rfl|some q=>simp[hy q rfl]
  simp only[A0J];rw[h x Q1,e lo (λq hq=>h q ZBH),e hi (λq hq=>h q ZBH),e mx (λq hq=>h q ZBH)]
 case unOp op t x=>cases op<;>first|rfl|(simp only[A0J];rw[h x Q1])
 case move x=>simp only[A0J];rw[h x Q1]
 case assign x=>simp only[A0J];rw[h x Q1]
 case pick c a b=>simp only[A0J];rw[h c Q1,h a Q1,h b Q1]
 case box e x=>simp only[A0J];rw[h x Q1]
 case nilCheck x=>simp only[A0J];rw[h x Q1]
 case binOp op t x y u=>simp only[A0J];rw[h x Q1,h y Q1]
 case fieldAddr t x f=>simp only[A0J];rw[h x Q1]
 case field t x f=>simp only[A0J];rw[h x Q1]
 case indexAddr t x i=>simp only[A0J];rw[h x Q1,h i Q1]
 case index t x i=>simp only[A0J];rw[h x Q1,h i Q1]
 case load t x=>simp only[A0J];rw[h x Q1]
 case extract x i=>simp only[A0J];rw[h x Q1]
 case convert a b x=>simp only[A0J];rw[h x Q1]
 all_goals rfl
def C0h{C}{hn}{o}{ρ ρ':Operand->AV}{M}(h:∀x∈o.op.operands.toList,ρ' x=ρ x):A1V C hn o ρ' M=A1V C hn o ρ M:=by
 obtain⟨dst,op,type,pos,after,guard⟩:=o;simp only at h;cases op<;>simp only[Op.operands]at h;case load t x=>simp only[A1V];rw[h x Q1]
 case store t a x=>simp only[A1V];rw[h a Q1,h x Q1]
 case box e x=>simp only[A1V];rw[h x Q1]
 all_goals rfl
def B7A{C}{hn}{o}{ρ ρ':Operand->AV}{M}(h:∀x∈o.op.operands.toList,ρ' x=ρ x):A1X C hn o ρ' M=A1X C hn o ρ M:=by
 obtain⟨dst,op,type,pos,after,guard⟩:=o;simp only at h;cases op<;>simp only[Op.operands]at h;case buildSlice t n ps=>
  simp only[A1X];have:(ps.toList.map λp=>(p.1,ρ' p.2))=(ps.toList.map λp=>(p.1,ρ p.2)):=Z2n λp hp=>by rw[h p.2 (by simp;exact⟨_,ZDF⟩)]
  rw[this]
 case makeSlice t l c=>simp only[A1X];rw[h l Q1,h c Q1]
 case lookup t m k ok=>simp only[A1X];rw[h m Q1,h k Q1]
 case mapUpdate t m k x=>simp only[A1X];rw[h m Q1,h k Q1,h x Q1]
 case insert t m k x=>simp only[A1X];rw[h m Q1,h k Q1,h x Q1]
 case call c=>
  obtain⟨callee,args,ts⟩:=c;cases callee with
  |builtin b=>simp only[A1X];have:args.toList.map ρ'=args.toList.map ρ:=Z2n λx hx=>h x ZCW;rw[this]
  |_=>rfl
 case makeMap t r=>cases r<;>rfl
 all_goals rfl
def B0S{C}{o}{ρ ρ':Operand->AV}(h:∀x∈o.op.operands.toList,ρ' x=ρ x):A1c C o ρ'=A1c C o ρ:=by
 obtain⟨dst,op,type,pos,after,guard⟩:=o;simp only at h;cases op<;>simp only[Op.operands]at h;case indexAddr t x i=>simp only[A1c];rw[h x Q1,h i Q1]
 case index t x i=>simp only[A1c];rw[h x Q1,h i Q1]
 case build t ps=>
  have e:(ps.toList.map λp=>(p.1,ρ' p.2))=ps.toList.map λp=>(p.1,ρ p.2):=Z2n λp hp=>by rw[h p.2 ZCR]
  simp only[A1c,e]
 case binOp op t x y u=>cases op<;>first|rfl|(simp only[A1c];rw[h x Q1,h y Q1])
 case unOp op t x=>cases op<;>first|rfl|(simp only[A1c];rw[h x Q1])
 case convert a b x=>simp only[A1c];rw[h x Q1]
 all_goals rfl
def C4X{C}{o}{ρ ρ':Operand->AV}{M}(h:∀x∈o.op.operands.toList,ρ' x=ρ x):A7I C o ρ' M=A7I C o ρ M:=by
 obtain⟨dst,op,type,pos,after,guard⟩:=o;simp only at h;cases op<;>simp only[Op.operands]at h;case range t x=>simp only[A7I];rw[h x Q1]
 case next x b=>cases b<;>first|rfl|(simp only[A7I];rw[h x Q1])
 case slice t x lo hi mx=>
  have e:∀(y:Option Operand),(∀q,y=some q->ρ' q=ρ q)->y.map ρ'=y.map ρ:=λy hy=>by cases y with|none=>rfl|some q=>simp[hy q rfl]
  simp only[A7I];rw[h x Q1,e lo (λq hq=>h q ZBH),e hi (λq hq=>h q ZBH),e mx (λq hq=>h q ZBH)]
 case convert a b x=>simp only[A7I];rw[h x Q1]
 case call c=>
  obtain⟨callee,args,ts⟩:=c;cases callee with
  |builtin b=>simp only[A7I];have:args.toList.map ρ'=args.toList.map ρ:=Z2n λx hx=>h x ZCW;rw[this]
  |_=>rfl
 all_goals rfl
def C2S{C}{hn}{o}{ρ ρ':Operand->AV}{M}(h:∀x∈o.op.operands.toList,ρ' x=ρ x):A0W C hn o ρ' M=A0W C hn o ρ M:=by simp only[A0W,B1E h,C0h h,B7A h,B0S h,C4X h]
def C2v{C}{o}{ρ ρ':Operand->AV}{M}(h:∀x∈o.op.operands.toList,ρ' x=ρ x):A3U C o ρ' M=A3U C o ρ M:=by
 obtain⟨dst,op,type,pos,after,guard⟩:=o;simp only at h;cases op<;>simp only[Op.operands]at h;case load t x=>simp only[A3U];rw[h x Q1]
 case lookup t m k ok=>simp only[A3U];rw[h m Q1,h k Q1]
 case call c=>
  obtain⟨callee,args,ts⟩:=c;cases callee with
  |builtin b=>
   cases b<;>first|rfl|skip
   simp only[A3U];cases ha:args.toList with
   |nil=>rfl
   |cons x l=>
    cases l with
    |cons _ _=>rfl
    |nil=>
     cases ht:ts.toList with
     |nil=>rfl
     |cons t l2=>
      cases l2 with
      |cons _ _=>rfl
      |nil=>simp only;(have hx:x∈args.toList:=by rw[ha];simp);rw[h x ZCW]
  |_=>rfl
 all_goals rfl
def C6S{C}{G}{M}{w}(hi:Inv C G M w){s}(hM:M[s]?=some A4a){vs}{cs}(t:TypeId)(hr:A0v G cs vs.toList)(k:∀v∈vs.toList,v.oneCell'=true):∃G',G.le G'/\Inv C G' (M.set s (.vec t cs.length cs 1 [(1,1)])) (w.alloc (.cells vs t))/\Rep G' (.vptr s 1 0) (.pointer (some ⟨w.heap.size,0,none⟩)):=by
 obtain⟨p0,_,_⟩:=hi.obj s _ hM
 have d:=A0q.le_time (G:=G) (f:=s) (n:=1) (h:=(some (⟨w.heap.size,0,none⟩:Addr),1)) Q0
 have a:∀i,G.st w.heap.size i=none:=by
  intro i;cases e:G.st w.heap.size i with
  |none=>rfl
  |some v=>have:=Z2I w ⟨w.heap.size,i,none⟩ (hi.st _ _ _ e);simp at this
 have c:G.keep w.heap.size=none:=by
  cases e:G.keep w.heap.size with
  |none=>rfl
  |some o=>have:=A4x (hi.keep _ _ e);omega
 have g:cs.length=vs.size:=by rw[<-hr.length];simp
 refine⟨_,d,hi.step (G':=G.grow s 1 (some ⟨w.heap.size,0,none⟩,1) 0 0 []) (w':=w.alloc (.cells vs t)) (o':=.vec t cs.length cs 1 [(1,1)]) s w.heap.size hM (.inr (Z0j _)) d rfl (λ_=>rfl) (λj hj=>by simp[A0q.grow,hj])
  (λb i v hv=>by rw[A0q.time_st]at hv;exact .inl hv) (λ_=>rfl) (λb hb _=>A2N w _ b hb) (λi v hv=>by rw[a i]at hv;simp at hv) (λo ho=>by rw[c]at ho;simp at ho)
  ⟨ZBA,λh1 n1 hm=>?_,λh1 n1 h2 n2 a1 a2 c1' c2' m1 m2 e1 e2 e3=>?_⟩ (λb1 ⟨h1,n1,a1,hm,e1,e2⟩=>?_),?_⟩
 .simp only[Z0L,Z0i]at hm;obtain⟨rfl,rfl⟩:=hm;refine⟨ZBA,Q0,w.heap.size,0,1,vs,A0q.time_hdr _ _ _ _,Z0j _,ZAR,Z1Z w _,Q0,?_,?_,λi=>by rw[A0q.time_st];exact a i,c⟩
  .rw[Z1z,Nat.one_mul,Z0e (Z0j _),Z0e (by simp[g])];exact A0v.mono d _ _ hr
  .intro v hv;rw[Z1z]at hv;exact k v (Z1x hv)
 .simp only[Z0L,Z0i]at m1 m2;obtain⟨rfl,rfl⟩:=m1;obtain⟨rfl,rfl⟩:=m2;rw[e1]at e2;simp only[Z0i,Z0b]at e2;exact e2.1
 .simp only[Z0L,Z0i]at hm;obtain⟨rfl,rfl⟩:=hm;rw[A0q.time_hdr]at e1;simp only[Z0b]at e1;subst e1;exact .inl e2.symm
 .simp only[Rep];exact⟨by rw[show(G.grow s 1 (some ⟨w.heap.size,0,none⟩,1) 0 0 []).n=G.n from rfl,hi.n];exact A0P hM,ZBA,⟨w.heap.size,0,none⟩,1,A0q.time_hdr _ _ _ _,Q1⟩
def B9Z{C}{G}{M}{w}(hi:Inv C G M w){e:TypeId}{X}(hX:B1W C.P e=some X){slot}(hM:M[slot]?=some A4a){o}(ho:o.op=.alloc e)(a:Act):B0d C G w o a (λv m=>v=.vptr slot 1 0/\m=M.set slot X):=by
 unfold B1W at hX
 split at hX
 case h_2=>simp at hX
 rename_i z hz
 split at hX
 case isFalse=>simp at hX
 rename_i hall
 simp only[Z0b]at hX
 subst hX
 obtain⟨zv,hv,c,f⟩:=A9P (P:=C.P) hz G w
 have d:(z.map AV.val).length=z.length:=ZBG
 obtain⟨G',h1,h2,h3⟩:=C6S hi hM (vs:=zv.cells) e (by rw[c];exact f) (λy hy=>by rw[c]at hy;exact Z0D.1 hall y hy)
 intro next Q hK
 obtain⟨dst,op,type,pos,after,guard⟩:=o
 simp only at ho
 subst ho
 have b:(execOp a.eval ⟨dst,.alloc e,type,pos,after,guard⟩).run C.P w=.ok (.value (.pointer (some ⟨w.heap.size,0,none⟩))) (w.alloc (.cells zv.cells e)):=by refine A3L (v:=.pointer (some ⟨w.heap.size,0,none⟩)) ?_;simp only[Instr.alloc,Z0E,hv,Z0u,newVar,newRow,Z3T,Z0O];rfl
 unfold Oper.wp
 rw[b]
 rw[d]at h2
 exact hK _ _ G' _ _ ⟨rfl,rfl⟩ h1 h2 h3 (Ext.alloc _ _)
def D3n{fl}{f:Mem->Option (AV×Mem)}{M}{K:AV->Mem->Prop}(h:A7v fl f M K):∃v M1,K v M1/\(fl=true->B0l M M1)/\∀l,B5B M l->(fl=false->l=[])->f (fill M l)=some (v,fill M1 l):=by
 unfold A7v at h;split at h;case h_2=>exact h.elim
 rename_i v M1 hf;refine⟨v,M1,h.2,λe=>(h.1 e).1,λl hb hl=>?_⟩;cases fl with
 |true=>exact(h.1 rfl).2 l hb
 |false=>rw[hl rfl];exact hf
def D9u{C:Ctx}{N:Nat}{h:A2r}{ops:Array Oper}{fl:Bool}{cls rob b:Nat}{o:Oper}(j:Oper.inside N o=true){T:Env}{M:Mem}{K:AV->Mem->Prop}(hd:dOp C h fl cls rob b o (T.ev C) M K):∃(v:AV) (d:Eff),K v (d.app M)/\d.ok fl cls b M/\∀T2 M2 l,(∀s∈o.looksAt ops,T2 s=T s)->B7t fl cls rob b M M2 l->∀G w a,Inv C G M2 w->A3e G N T2 a->B0d C G w o a (λv' M3=>v'=v/\M3=d.appF l M2):=by
 have p:∀f,A7v fl f M K->cls=2->(∀T2 M2 v M',(∀s∈o.looksAt ops,T2 s=T s)->f M2=some (v,M')->∀G w a,Inv C G M2 w->A3e G N T2 a->B0d C G w o a (λv' M3=>v'=v/\M3=M'))->
  ∃(v:AV) (d:Eff),K v (Eff.app d M)/\d.ok fl cls b M/\∀T2 M2 l,(∀s∈o.looksAt ops,T2 s=T s)->B7t fl cls rob b M M2 l->∀G w a,Inv C G M2 w->A3e G N T2 a->
  B0d C G w o a (λv' M3=>v'=v/\M3=d.appF l M2):=by
  intro f hf hc hs
  obtain⟨v,M1,h1,h2,h3⟩:=D3n hf
  refine⟨v,.mem M1,h1,⟨hc,h2⟩,λT2 M2 l e1 e2 G w a hi hr=>?_⟩
  obtain⟨rfl,hb,hl⟩:=e2.2.1 hc
  exact hs T2 _ v _ e1 (h3 l hb hl) G w a hi hr
 have c:(∀ρ M2 v M',A0W C h o ρ M2=some (v,M')->∀K':AV->Mem->Prop,K' v M'->A4L C h o K' ρ M2)->∀T2 M2 v M',(∀s∈o.looksAt ops,T2 s=T s)->A0W C h o (T.ev C) M2=some (v,M')->∀G w a,Inv C G M2 w->A3e G N T2 a->B0d C G w o a (λv' M3=>v'=v/\M3=M'):=by intro hv T2 M2 v M' e1 he G w a hi hr;exact A5Y hi (A8R hi hr j) (hv (T2.ev C) M2 v M' (by rw[C2S (A8F e1)];exact he) _ ⟨rfl,rfl⟩)
 have k:(if cls=0 then A0T ((A0J C h o (T.ev C)).or (A1c C o (T.ev C))) (λv=>K v M)else if cls=1 then A1e o (T.ev C)=some rob/\A0T (A3U C o (T.ev C) M) (λv=>K v M)
  else if cls=5 then A4q o (T.ev C)=some b/\A0T (A0W C h o (T.ev C) M) (λr=>K r.1 r.2)
  else cls=2/\A7v fl (A0W C h o (T.ev C)) M K)->
  (∀ρ M2 v M',A0W C h o ρ M2=some (v,M')->∀K':AV->Mem->Prop,K' v M'->A4L C h o K' ρ M2)->
  ∃(v:AV) (d:Eff),K v (Eff.app d M)/\d.ok fl cls b M/\∀T2 M2 l,(∀s∈o.looksAt ops,T2 s=T s)->B7t fl cls rob b M M2 l->∀G w a,Inv C G M2 w->A3e G N T2 a->
  B0d C G w o a (λv' M3=>v'=v/\M3=d.appF l M2):=by
  intro hp hv
  split at hp
  .rename_i hc;cases he:(A0J C h o (T.ev C)).or (A1c C o (T.ev C))with
   |none=>rw[he]at hp;exact hp.elim
   |some v=>
    rw[he]at hp;refine⟨v,.none,hp,trivial,λT2 M2 l h1 h2 G w a hi hr=>?_⟩;(have n:(A0J C h o (T2.ev C)).or (A1c C o (T2.ev C))=some v:=by rw[B1E (A8F h1),B0S (A8F h1)];exact he);rcases Option.or_eq_some_iff.1 n with h3|⟨_,h3⟩
    .exact A5Y hi (A8R hi hr j) (hv (T2.ev C) M2 v M2 (by simp[A0W,h3]) _ ⟨rfl,rfl⟩)
    ·(intro next Q hK);obtain⟨nx,w',G',k1,k2,k3,k4,k5⟩:=B6u hi (A8R hi hr j) h3
     unfold Oper.wp;rw[k1];rcases k2 with⟨x,rfl,z⟩|⟨rfl,rfl⟩
     .exact hK v M2 G' w' x ⟨rfl,rfl⟩ k3 k4 z k5
     .exact hK _ M2 G' w' undef ⟨rfl,rfl⟩ k3 k4 ZAE k5
  .rename_i hc0;split at hp
   .rename_i hc;obtain⟨a1,hp⟩:=hp;cases he:A3U C o (T.ev C) M with
    |none=>rw[he]at hp;exact hp.elim
    |some v=>rw[he]at hp;refine⟨v,.none,hp,trivial,λT2 M2 l h1 h2 G w a hi hr=>?_⟩;(have n:A3U C o (T2.ev C) M2=some v:=by rw[C2v (A8F h1),<-he];exact C5V (λr hr=>by rw[a1]at hr;simp at hr;subst hr;exact h2.1 hc));exact A5Y hi (A8R hi hr j) (D1x (h:=h) n ⟨rfl,rfl⟩)
   .split at hp
    .rename_i hc;obtain⟨a0,hp⟩:=hp;cases he:A0W C h o (T.ev C) M with
     |none=>rw[he]at hp;exact hp.elim
     |some r=>obtain⟨v,M1⟩:=r;rw[he]at hp;obtain⟨X,rfl,hlt,hX⟩:=B5E a0 he;refine⟨v,.put b X,hp,⟨.inr hc,rfl,hlt⟩,λT2 M2 l h1 h2 G w a hi hr=>?_⟩;exact c hv T2 M2 v _ h1 (hX M2 (h2.2.2.2 hc)) G w a hi hr
    .exact p _ hp.2 hp.1 (c hv)
 obtain⟨dst,op,type,pos,after,guard⟩:=o
 unfold dOp at hd
 simp only at hd
 split at hd
 .rename_i f args ts;have a2:=@A8F C ops T;split at hd;case h_2=>exact hd.elim
  rename_i g first captured hf
  have same:∀T2:Env,(∀s∈Oper.looksAt ops ⟨dst,.call {callee:=.value f,args:=args,argTypes:=ts},type,pos,after,guard⟩,T2 s=T s)->T2.ev C f=.func (.func g) first captured/\args.toList.map (T2.ev C)=args.toList.map (T.ev C):=by intro T2 h1;have h2:=A8F (C:=C) h1;exact⟨by rw[h2 f ZCG];exact hf,B0r λx hx=>h2 x (by simp[Op.operands,Call.operands];simp at hx;simp[hx])⟩
  split at hd
  .rename_i hc;obtain⟨r,i,hk⟩:=hd;refine⟨r,.none,hk,trivial,λT2 M2 l h1 h2 G w a hi hr=>?_⟩;obtain⟨e1,e2⟩:=same T2 h1;refine A5Y (h:=h) hi (A8R hi hr j) ?_;simp only[A4L,e1,e2];exact i M2
  .rename_i hc;obtain⟨r,M1,q,i,m,hk⟩:=hd;refine⟨r,.mem M1,hk,⟨q,λe=>(m e).1⟩,λT2 M2 l h1 h2 G w a hi hr=>?_⟩;obtain⟨rfl,hb,hl⟩:=h2.2.1 q;obtain⟨e1,e2⟩:=same T2 h1;refine A5Y (h:=h) hi (A8R hi hr j) ?_;simp only[A4L,e1,e2];cases fl with
   |true=>exact(m rfl).2 l hb
   |false=>rw[hl rfl];exact i
 .rename_i args ts;split at hd;case h_2=>exact hd.elim
  rename_i s x t u ha ht;obtain⟨e,sz,bytes,y,hc,hm⟩:=hd;refine p _ hm hc (λT2 M2 v M' h1 hap G w a hi hr=>?_);have h3:=A8F (C:=C) h1;have es:T2.ev C s=T.ev C s:=h3 s (by(simp[Op.operands,Call.operands];have:s∈args.toList:=by rw[ha];simp);simpa using this);have ex:T2.ev C x=T.ev C x:=h3 x (by(simp[Op.operands,Call.operands];have:x∈args.toList:=by rw[ha];simp);simpa using this);refine A5Y (h:=h) hi (A8R hi hr j) ?_;simp only[A4L,ha,ht,es,ex];exact⟨e,sz,bytes,y,by rw[hap];exact⟨rfl,rfl⟩⟩
 .rename_i e;have hv:∀ρ M2 v M',A0W C h ⟨dst,.alloc e,type,pos,after,guard⟩ ρ M2=some (v,M')->∀K':AV->Mem->Prop,K' v M'->A4L C h ⟨dst,.alloc e,type,pos,after,guard⟩ K' ρ M2:=by intro ρ M2 v M' he K' hk;unfold A4L;simp only;rw[he];exact hk
  split at hd
  .rename_i hc;obtain⟨m,hM,hd⟩:=hd;cases hX:B1W C.P e with
   |none=>rw[hX]at hd;exact hd.elim
   |some X=>rw[hX]at hd;refine⟨_,.put b X,hd,⟨.inl hc,rfl,A0P hM⟩,λT2 M2 l h1 h2 G w a hi hr=>?_⟩;exact B9Z hi hX (h2.2.2.1 hc) rfl a
  .exact p _ hd.2 hd.1 (c hv)
 .rename_i hne1 hne2 hne3;refine k hd (λρ M2 v M' he K' hk=>?_);unfold A4L;split
  .rename_i heq;exact absurd heq (by intro e;exact hne1 _ _ _ e)
  .rename_i heq;exact absurd heq (by intro e;exact hne2 _ _ e)
  .rw[he];exact hk
structure A4R where
 o:Oper
 v:AV
 eff:Eff
def A5z:List A4R->Nat->(Nat->Bool)->Env->Env
 |[],_,_,T=>T
 |p::ps,k,S,T=>A5z ps (k+1) S (if S k then T.put p.o.dst p.v else T)
def A4m:List A4R->Nat->(Nat->Bool)->Mem->Mem
 |[],_,_,M=>M
 |p::ps,k,S,M=>A4m ps (k+1) S (if S k then p.eff.app M else M)
def A9G(C:Ctx)(N:Nat)(ops:Array Oper)(L:B2o):List A4R->Nat->Env->Mem->Prop
 |[],_,_,_=>True
 |p::ps,k,T,M=>D8j C N ops L.fl (L.cls k) (L.rob k) (L.slot k) p.o p.v T M p.eff/\C5m L k M (p.eff.app M)/\A9G C N ops L ps (k+1) (T.put p.o.dst p.v) (p.eff.app M)
def A4y:List A4R->Env->Env
 |[],T=>T
 |p::ps,T=>A4y ps (T.put p.o.dst p.v)
def A2I:List A4R->Mem->Mem
 |[],M=>M
 |p::ps,M=>A2I ps (p.eff.app M)
def B0K{C}{N}{h}{ops}{L}:∀(l:List Oper) (k:Nat) (T:Env) (M:Mem) (K:Env->Mem->Prop),A2F N ops l=true->A1x C h ops L k l T M K->
 ∃ps:List A4R,ps.map (·.o)=l/\A9G C N ops L ps k T M/\K (A4y ps T) (A2I ps M)
 |[],k,T,M,K,_,hd=>⟨[],rfl,trivial,hd⟩
 |o::l,k,T,M,K,hin,hd=>by
  simp only[A2F,Z2Q,Z0h]at hin;obtain⟨⟨ho,hg⟩,p⟩:=hin;have g:A2F N ops l=true:=by simpa[A2F]using p
  simp only[A1x]at hd;have t:=hd;unfold A2A at hd;have f:(∀T2,(∀s∈o.looksAt ops,T2 s=T s)->∀run skip:Prop,A2A ops o T2 run skip=run)->dOp C h L.fl (L.cls k) (L.rob k) (L.slot k) o (T.ev C) M (λv M'=>C5m L k M M'/\A1x C h ops L (k+1) l (T.put o.dst v) M' K)->
   ∃ps:List A4R,ps.map (·.o)=o::l/\A9G C N ops L ps k T M/\K (A4y ps T) (A2I ps M):=by
   intro m hr
   obtain⟨v,r,⟨hq,hk⟩,hw,q⟩:=D9u (ops:=ops) ho hr
   obtain⟨ps,h1,h2,h3⟩:=B0K l (k+1) _ _ K g hk
   refine⟨⟨o,v,r⟩::ps,by simp[h1],⟨⟨hw,λT2 M2 fl e1 e2 G w a hi he next Q hK=>?_⟩,hq,h2⟩,h3⟩
   have n:=B1v (C:=C) (M:=M2) (w:=w) he hg (run:=True) (skip:=False) (by rw[m T2 e1];trivial)
   rcases n with⟨i,_⟩|⟨_,hf⟩
   .simp only at i|-;rw[Z0c i];left;(refine q T2 M2 fl e1 e2 G w a hi he next Q ?_);rintro v' M3 G' w' x ⟨rfl,rfl⟩ q1 q2 q3 q4;exact hK G' w' x q1 q2 q3 q4
   .exact hf.elim
  have c:(∀T2,(∀s∈o.looksAt ops,T2 s=T s)->∀run skip:Prop,A2A ops o T2 run skip=skip)->A1x C h ops L (k+1) l (T.put o.dst (.val undef)) M K->
   ∃ps:List A4R,ps.map (·.o)=o::l/\A9G C N ops L ps k T M/\K (A4y ps T) (A2I ps M):=by
   intro m hr
   obtain⟨ps,h1,h2,h3⟩:=B0K l (k+1) _ _ K g hr
   refine⟨⟨o,.val undef,.none⟩::ps,by simp[h1],⟨⟨trivial,λT2 M2 fl e1 e2 G w a hi he next Q hK=>?_⟩,λ_ _ _=>rfl,h2⟩,h3⟩
   have n:=B1v (C:=C) (M:=M2) (w:=w) he hg (run:=False) (skip:=True) (by rw[m T2 e1];trivial)
   rcases n with⟨_,hf⟩|⟨i,_⟩
   .exact hf.elim
   .simp only at i|-;rw[Z0d (by simp[i])];exact hK G w undef (.refl _) hi ZAE (.refl _)
  split at hd
  .rename_i hn;exact f (λT2 _ run skip=>by unfold A2A;rw[hn]) hd
  .rename_i j want hs;split at hd;(case h_2=>exact hd.elim);rename_i d hdst;split at hd
   .rename_i b hb;by_cases e:b=want
    .rw[Z0c e]at hd;refine f (λT2 e1 run skip=>?_) hd;rw[B1k e1];unfold A2A;rw[hs];simp only[hdst,hb];rw[Z0c e]
    .rw[Z0d e]at hd;refine c (λT2 e1 run skip=>?_) hd;rw[B1k e1];unfold A2A;rw[hs];simp only[hdst,hb];rw[Z0d e]
   .rename_i vs hb;refine c (λT2 e1 run skip=>?_) hd;rw[B1k e1];unfold A2A;rw[hs];simp only[hdst,hb]
   .exact hd.elim
def C1q(ops:Array Oper):Nat->Nat->Nat->Bool
 |0,_,_=>false
 |fuel+1,j,i=>match ops[i]? with
  |some o=>o.after.any λe=>Region.binds .any e&&(e.on==j||C1q ops fuel j e.on)
  |none=>false
def A5H(ops:Array Oper)(x y:Oper):Bool:=
 (match x.dst with
  |some d=>(y.looksAt ops).contains d||y.dst==some d
  |none=>false)||
 (match y.dst with
  |some d=>(x.looksAt ops).contains d
  |none=>false)
def A6Q(c:Nat):Bool:=c==4||c==5
def A9I{c}:A6Q c=true<->c=4\/c=5:=by simp[A6Q]
def A2h(L:B2o)(j i:Nat):Bool:=
 (L.cls j==2&&L.cls i==2)||(A6Q (L.cls j)&&L.cls i==2)||(L.cls j==2&&L.cls i==5)||(L.cls j==1&&L.cls i==2&&L.aff j i)||(L.cls i==1&&L.cls j==2&&L.aff i j)||
 (L.cls j==1&&A6Q (L.cls i)&&L.rob j==L.slot i)||(L.cls i==1&&A6Q (L.cls j)&&L.rob i==L.slot j)
def A4K(ops:Array Oper)(L:B2o):Bool:=
 (List.range ops.size).all λi=>match ops[i]? with
  |some o=>(o.after.all λe=>!Region.binds .any e||decide (e.on<i))&&(L.cls i !=4||L.fl)&&
   (List.range i).all λj=>match ops[j]? with
    |some x=>(!(A5H ops x o||A2h L j i)||C1q ops ops.size j i)&&(!A6Q (L.cls i)||!A6Q (L.cls j)||L.slot j !=L.slot i)
    |none=>true
  |none=>true
def C8m(ops:Array Oper)(S:Nat->Bool):Prop:=∀i o,ops[i]?=some o->S i=true->∀e∈o.after.toList,Region.binds .any e=true->S e.on=true
def A7S{ops}{S:Nat->Bool}(hc:C8m ops S):∀(fuel j i:Nat),C1q ops fuel j i=true->(∀o,ops[i]?=some o->∀e∈o.after.toList,Region.binds .any e=true->S e.on=true)->S j=true
 |0,_,_,h,_=>by simp[C1q]at h
 |fuel+1,j,i,h,hp=>by
  simp only[C1q]at h;split at h;case h_2=>simp at h
  rename_i o ho;rw[<-Array.any_toList]at h;obtain⟨e,he,hb⟩:=Z3g.1 h;simp only[Z0h,Z1V,Z3t]at hb;have hs:=hp o ho e he hb.1;rcases hb.2 with h1|h1
  .rw[<-h1];exact hs
  .exact A7S hc fuel j e.on h1 (λo' ho' e' he' hb'=>hc e.on o' ho' hs e' he' hb')
def B2g{T:Env}{d:Option Tmp}{v:AV}{s:Nat}(h:d≠some s):T.put d v s=T s:=by
 cases d with
 |none=>rfl
 |some d=>rw[Env.put_some,Z0d (λe=>h (by rw[e]))]
def A5O(S:Nat->Bool)(s:Nat):∀(ps:List A4R) (k:Nat) (T:Env),(∀j p,ps[j]?=some p->S (k+j)=true->p.o.dst≠some s)->A5z ps k S T s=T s
 |[],k,T,_=>rfl
 |p::ps,k,T,h=>by
  simp only[A5z];rw[A5O S s ps (k+1) _ (λj q hq hs=>h (j+1) q (by simpa using hq) (by rw[show k+(j+1)=k+1+j from by omega];exact hs))];by_cases hs:S k=true
  .rw[Z0c hs];exact B2g (h 0 p rfl hs)
  .rw[Z0d hs]
def B1a(S:Nat->Bool)(s:Nat):∀(ps:List A4R) (k i:Nat) (T:Env),(∀j p,ps[j]?=some p->p.o.dst=some s->(S (k+j)=true<->j<i))->A5z ps k S T s=A4y (ps.take i) T s
 |[],k,i,T,_=>by simp[A5z,A4y]
 |p::ps,k,0,T,h=>by simp only[Z2c,A4y];exact A5O S s (p::ps) k T (λj q hq hs hd=>by have:=(h j q hq hd).1 hs;omega)
 |p::ps,k,i+1,T,h=>by
  simp only[A5z,Z1h,A4y];have step:=B1a S s ps (k+1) i (if S k=true then T.put p.o.dst p.v else T) (λj q hq hd=>by have:=h (j+1) q (by simpa using hq) hd;rw[show k+(j+1)=k+1+j from by omega]at this;rw[this];omega);rw[step];have e0:(if S k=true then T.put p.o.dst p.v else T) s=T.put p.o.dst p.v s:=by
   by_cases hd:p.o.dst=some s
   .have:=(h 0 p rfl hd).2 Q0;simp only[Z0Y]at this;rw[Z0c this]
   .by_cases hs:S k=true
    .rw[Z0c hs]
    .rw[Z0d hs,B2g hd]
  have a:∀(qs:List A4R) (A B:Env),A s=B s->A4y qs A s=A4y qs B s:=by
   intro qs;induction qs with
   |nil=>intro A B h;exact h
   |cons q qs ih=>
    intro A B h;simp only[A4y];refine ih _ _ ?_;cases q.o.dst with
    |none=>exact h
    |some d=>simp only[Env.put_some];split<;>simp_all
  exact a _ _ _ e0
def B7q(S:Nat->Bool)(i:Nat):∀(ps:List A4R) (k:Nat) (T:Env) (p:A4R),ps[i]?=some p->S (k+i)=false->(∀j q,ps[j]?=some q->i<j->S (k+j)=true->∀s,p.o.dst=some s->q.o.dst≠some s)->
 ∀s,A5z ps k (λx=>if x=k+i then true else S x) T s=(A5z ps k S T).put p.o.dst p.v s
 |[],k,T,p,hp,_,_=>by simp at hp
 |q::ps,k,T,p,hp,hS,hc=>by
  intro s;simp only[A5z];cases i with
  |zero=>
   simp at hp;subst hp;simp only[Z0Y]at hS|-;rw[Z0c Q1,Z0d (by simp[hS])];have same:∀(rs:List A4R) (m:Nat) (A:Env),k<m->A5z rs m (λx=>if x=k then true else S x) A=A5z rs m S A:=by
    intro rs;induction rs with
    |nil=>intro m A _;rfl
    |cons r rs ih=>intro m A hm;have a:¬m=k:=Q0;simp only[A5z,Z0d a];exact ih (m+1) _ Q0
   rw[same ps (k+1) _ Q0];by_cases hs:q.o.dst=some s
   .have un:∀A:Env,A5z ps (k+1) S A s=A s:=λA=>A5O S s ps (k+1) A (λj r hr hsj=>by exact hc (j+1) r (by simpa using hr) Q0 (by rw[show k+(j+1)=k+1+j from by omega];exact hsj) s hs);rw[un,hs,Env.put_some,Env.put_some,Z0c rfl,Z0c rfl]
   .rw[B2g hs];have b:∀(rs:List A4R) (m:Nat) (A B:Env),A s=B s->A5z rs m S A s=A5z rs m S B s:=by
     intro rs;induction rs with
     |nil=>intro m A B h;exact h
     |cons r rs ih=>
      intro m A B h;simp only[A5z];refine ih _ _ _ ?_;split
      .cases r.o.dst with
       |none=>exact h
       |some d=>simp only[Env.put_some];split<;>simp_all
      .exact h
    exact b ps (k+1) _ _ (B2g hs)
  |succ i=>have a:¬k=k+(i+1):=Q0;simp only[Z0d a];have:=B7q S i ps (k+1) (if S k=true then T.put q.o.dst q.v else T) p ZDF (by rw[show k+1+i=k+(i+1)from by omega];exact hS) (λj r hr hij hsj=>hc (j+1) r (by simpa using hr) Q0 (by rw[show k+(j+1)=k+1+j from by omega];exact hsj)) s;rw[show k+(i+1)=k+1+i from by omega];exact this
def A9G.at_{C}{N}{ops}{L}:∀(ps:List A4R) (k:Nat) (T:Env) (M:Mem),A9G C N ops L ps k T M->∀(i:Nat) (p:A4R),ps[i]?=some p->
 D8j C N ops L.fl (L.cls (k+i)) (L.rob (k+i)) (L.slot (k+i)) p.o p.v (A4y (ps.take i) T) (A2I (ps.take i) M) p.eff
 |[],_,_,_,_,i,p,hp=>by simp at hp
 |q::ps,k,T,M,h,0,p,hp=>by simp at hp;subst hp;exact h.1
 |q::ps,k,T,M,h,i+1,p,hp=>by have:=A9G.at_ ps (k+1) _ _ h.2.2 i p ZDF;rw[show k+(i+1)=k+1+i from by omega];exact this
def A9m(L:B2o):List A4R->Nat->Mem->Prop
 |[],_,_=>True
 |p::ps,k,M=>p.eff.ok L.fl (L.cls k) (L.slot k) M/\C5m L k M (p.eff.app M)/\A9m L ps (k+1) (p.eff.app M)
def A9G.effs{C}{N}{ops}{L}:∀(ps:List A4R) (k:Nat) (T:Env) (M:Mem),A9G C N ops L ps k T M->A9m L ps k M
 |[],_,_,_,_=>trivial
 |p::ps,k,T,M,h=>⟨h.1.1,h.2.1,A9G.effs ps (k+1) _ _ h.2.2⟩
def B6t(S:Nat->Bool):∀(a b:List A4R) (k:Nat) (M:Mem),A4m (a++b) k S M=A4m b (k+a.length) S (A4m a k S M)
 |[],b,k,M=>rfl
 |p::a,b,k,M=>by simp only[Z0Q,A4m,Z0r];rw[B6t S a b (k+1),show k+1+a.length=k+(a.length+1)from by omega]
def A9m.append{L}:∀(a b:List A4R) (k:Nat) (M:Mem),A9m L (a++b) k M<->A9m L a k M/\A9m L b (k+a.length) (A2I a M)
 |[],b,k,M=>by simp[A9m,A2I]
 |p::a,b,k,M=>by simp only[Z0Q,A9m,Z0r,A2I];rw[A9m.append a b (k+1),show k+1+a.length=k+(a.length+1)from by omega];simp only[and_assoc]
def B3w{S S':Nat->Bool}:∀(a:List A4R) (k:Nat) (M:Mem),(∀j,j<a.length->S (k+j)=S' (k+j))->A4m a k S M=A4m a k S' M
 |[],k,M,_=>rfl
 |p::a,k,M,h=>by simp only[A4m];have h0:=h 0 Q1;simp only[Z0Y]at h0;rw[h0];exact B3w a (k+1) _ (λj hj=>by have:=h (j+1) ZAP;rwa[show k+(j+1)=k+1+j from by omega]at this)
def Eff.app_none_of{fl:Bool}{cls b:Nat}{M:Mem}{a:Eff}(h:a.ok fl cls b M)(h2:cls≠2)(h4:¬(cls=4\/cls=5)):a=.none:=by
 cases a with
 |none=>rfl
 |put s X=>exact absurd h.1 h4
 |mem M1=>exact absurd h.1 h2
def B2j{L:B2o}{S:Nat->Bool}:∀(a:List A4R) (k:Nat) (M:Mem),A9m L a k M->(∀j,j<a.length->L.cls (k+j)=2\/(L.cls (k+j)=4\/L.cls (k+j)=5)->S (k+j)=true)->A4m a k S M=A2I a M
 |[],k,M,_,_=>rfl
 |p::a,k,M,he,h=>by
  simp only[A4m,A2I];have h':∀j,j<a.length->L.cls (k+1+j)=2\/(L.cls (k+1+j)=4\/L.cls (k+1+j)=5)->S (k+1+j)=true:=λj hj hc=>by have:=h (j+1) ZAP ZAF;rwa[show k+(j+1)=k+1+j from by omega]at this
  cases hs:S k with
  |true=>rw[Z0c rfl];exact B2j a (k+1) _ he.2.2 h'
  |false=>have hn:p.eff=.none:=Eff.app_none_of he.1 (λe=>by have:=h 0 Q1 (.inl e);simp only[Z0Y]at this;rw[hs]at this;simp at this) (λe=>by have:=h 0 Q1 (.inr e);simp only[Z0Y]at this;rw[hs]at this;simp at this);rw[hn];simp only[Eff.app];have b:=he.2.2;rw[hn]at b;exact B2j a (k+1) _ b h'
def A6J:List A4R->Nat->(Nat->Bool)->List (Nat×A0m)
 |[],_,_=>[]
 |p::ps,k,S=>match S k,p.eff with
  |true,.put s X=>(s,X)::A6J ps (k+1) S
  |_,_=>A6J ps (k+1) S
def A7j{L}{S:Nat->Bool}:∀(a:List A4R) (k:Nat) (M0 M:Mem),A9m L a k M0->(∀j,j<a.length->L.cls (k+j)=2->S (k+j)=false)->A4m a k S M=fill M (A6J a k S)
 |[],k,M0,M,_,_=>rfl
 |p::a,k,M0,M,he,h=>by
  simp only[A4m,A6J];have h':∀j,j<a.length->L.cls (k+1+j)=2->S (k+1+j)=false:=λj hj hc=>by have:=h (j+1) ZAP ZAF;rwa[show k+(j+1)=k+1+j from by omega]at this
  rw[A7j a (k+1) _ _ he.2.2 h'];cases hs:S k with
  |false=>rfl
  |true=>
   rw[Z0c rfl];cases hf:p.eff with
   |none=>rfl
   |put s X=>rfl
   |mem M1=>have h1:=he.1;rw[hf]at h1;have:=h 0 Q1 h1.1;simp only[Z0Y]at this;rw[hs]at this;simp at this
def A5U{L}{S:Nat->Bool}:∀(a:List A4R) (k:Nat) (M0:Mem),A9m L a k M0->∀q∈A6J a k S,∃j,j<a.length/\(L.cls (k+j)=4\/L.cls (k+j)=5)/\q.1=L.slot (k+j)/\S (k+j)=true
 |[],k,M0,_,q,hq=>by simp[A6J]at hq
 |p::a,k,M0,he,q,hq=>by
  have tl:q∈A6J a (k+1) S->∃j,j<(p::a).length/\(L.cls (k+j)=4\/L.cls (k+j)=5)/\q.1=L.slot (k+j)/\S (k+j)=true:=by intro hq;obtain⟨j,h1,h2,h3,h4⟩:=A5U a (k+1) _ he.2.2 q hq;exact⟨j+1,ZBF,ZAF,ZAF,ZAF⟩
  simp only[A6J]at hq;split at hq
  .rename_i s X hs hf;rcases Z0p.1 hq with rfl|hq
   .have h1:=he.1;rw[hf]at h1;exact⟨0,Q1,h1.1,h1.2.1,hs⟩
   .exact tl hq
  .exact tl hq
def B3x{L}{S:Nat->Bool}:∀(a:List A4R) (k:Nat) (M0:Mem),A9m L a k M0->(∀j m,j<m->m<a.length->(L.cls (k+j)=4\/L.cls (k+j)=5)->(L.cls (k+m)=4\/L.cls (k+m)=5)->L.slot (k+j)≠L.slot (k+m))->((A6J a k S).map (·.1)).Nodup
 |[],k,M0,_,_=>by simp[A6J]
 |p::a,k,M0,he,h=>by
  have ih:=B3x (S:=S) a (k+1) _ he.2.2 (λj m hj hm h1 h2=>by have:=h (j+1) (m+1) Q0 (by simpa using hm) ZAF (by rwa[show k+(m+1)=k+1+m from by omega]);rwa[show k+(j+1)=k+1+j from by omega,show k+(m+1)=k+1+m from by omega]at this);simp only[A6J];split
  .rename_i s X hs hf;simp only[Z0x,Z1B];refine⟨λhm=>?_,ih⟩;obtain⟨q,hq,b⟩:=Z0C.1 hm;obtain⟨j,h1,h2,h3,_⟩:=A5U a (k+1) _ he.2.2 q hq;have h0:=he.1;rw[hf]at h0;refine h 0 (j+1) Q0 ZBF h0.1 ZAF ?_;rw[show k+(j+1)=k+1+j from by omega,<-h3,b];exact h0.2.1.symm
  .exact ih
def B8t{L}{s}:∀(a:List A4R) (k:Nat) (M:Mem),A9m L a k M->L.fl=true->(∀j,j<a.length->(L.cls (k+j)=4\/L.cls (k+j)=5)->L.slot (k+j)≠s)->M[s]?=some A4a->(A2I a M)[s]?=some A4a
 |[],k,M,_,_,_,h=>h
 |p::a,k,M,he,hfl,hs,h=>by
  refine B8t a (k+1) _ he.2.2 hfl (λj hj hc=>by have:=hs (j+1) ZAP ZAF;rwa[show k+(j+1)=k+1+j from by omega]at this) ?_;have h0:=he.1;cases hf:p.eff with
  |none=>exact h
  |put s' X=>rw[hf]at h0;have:=hs 0 Q1 h0.1;simp only[Z0Y]at this;simp only[Eff.app];rw[Z0f (by rw[h0.2.1];exact this)];exact h
  |mem M1=>rw[hf]at h0;exact h0.2 hfl s h
def B8N{L}{S:Nat->Bool}{r i}(hr:r=L.rob i)(b:L.cls i=1):∀(a:List A4R) (k:Nat) (A M:Mem),A9m L a k M->(∀j,j<a.length->L.cls (k+j)=2->L.aff i (k+j)=true->S (k+j)=true)->
 (∀j,j<a.length->(L.cls (k+j)=4\/L.cls (k+j)=5)->L.slot (k+j)=r->S (k+j)=true)->A[r]?=M[r]?->(A4m a k S A)[r]?=(A2I a M)[r]?
 |[],k,A,M,_,_,_,h=>h
 |p::a,k,A,M,he,h2,h4,h=>by
  simp only[A4m,A2I];refine B8N hr b a (k+1) _ _ he.2.2 (λj hj hc c=>?_) (λj hj hc hsl=>?_) ?_
  .have:=h2 (j+1) ZAP ZAF ZAF;rwa[show k+(j+1)=k+1+j from by omega]at this
  .have:=h4 (j+1) ZAP ZAF ZAF;rwa[show k+(j+1)=k+1+j from by omega]at this
  .have h0:=he.1;cases hf:p.eff with
   |none=>simp only[Eff.app];split<;>exact h
   |mem M1=>
    rw[hf]at h0;simp only[Eff.app];split
    .rfl
    .rename_i hs;have c:L.aff i k=false:=by
      cases e:L.aff i k with
      |false=>rfl
      |true=>have:=h2 0 Q1 h0.1 e;exact absurd this hs
     have:=he.2.1 i b c;rw[hf]at this;rw[h,hr];exact this.symm
   |put s X=>
    rw[hf]at h0;simp only[Eff.app];by_cases e:s=r
    .subst e;have hs:=h4 0 Q1 h0.1 h0.2.1.symm;simp only[Z0Y]at hs;rw[Z0c hs];(have h1:s<M.length:=by rw[h0.2.1];exact h0.2.2);have h3:s<A.length:=A0P (by rw[h];exact Z0g h1);rw[Z2M h1,Z2M h3]
    .rw[Z0f e];split
     .rw[Z0f e];exact h
     .exact h
def B9w{L}{S:Nat->Bool}{r i}(hr:r=L.rob i)(c:L.cls i=1){V}:∀(a:List A4R) (k:Nat) (A M:Mem),A9m L a k M->(∀j,j<a.length->L.cls (k+j)=2->L.aff i (k+j)=true->S (k+j)=false)->
 (∀j,j<a.length->(L.cls (k+j)=4\/L.cls (k+j)=5)->L.slot (k+j)=r->S (k+j)=false)->(∀j m,j<m->m<a.length->(L.cls (k+j)=2\/(L.cls (k+j)=4\/L.cls (k+j)=5))->L.cls (k+m)=2->S (k+m)=true->S (k+j)=true)->
 A[r]?=V->(M[r]?=V\/∀j,j<a.length->L.cls (k+j)=2->S (k+j)=false)->(A4m a k S A)[r]?=V
 |[],k,A,M,_,_,_,_,h,_=>h
 |p::a,k,A,M,he,h2,h4,hp,h,hor=>by
  simp only[A4m];have sh:∀j,k+(j+1)=k+1+j:=λj=>by omega
  have b:(∀j,j<(p::a).length->L.cls (k+j)=2->S (k+j)=false)->∀j,j<a.length->L.cls (k+1+j)=2->S (k+1+j)=false:=λhx j hj hc=>by have:=hx (j+1) ZAP ZDH;rwa[sh]at this
  have later:(L.cls k=2\/(L.cls k=4\/L.cls k=5))->S k=false->∀j,j<a.length->L.cls (k+1+j)=2->S (k+1+j)=false:=λhc hs j hj hcj=>by
   cases e:S (k+1+j)with
   |false=>rfl
   |true=>have:=hp 0 (j+1) Q0 ZAP (by simpa using hc) (by rw[sh];exact hcj) (by rw[sh];exact e);simp only[Z0Y]at this;rw[hs]at this;simp at this
  have go:∀A',A'[r]?=V->((p.eff.app M)[r]?=V\/∀j,j<a.length->L.cls (k+1+j)=2->S (k+1+j)=false)->(A4m a (k+1) S A')[r]?=V:=λA' hA ho=>
   B9w hr c a (k+1) _ _ he.2.2 (λj hj hc haf=>by
    have:=h2 (j+1) ZAP ZDH (by rw[sh];exact haf);rwa[sh]at this) (λj hj hc hsl=>by
    have:=h4 (j+1) ZAP ZDH (by rw[sh];exact hsl);rwa[sh]at this) (λj m hj hm h1 h3 h5=>by
    have:=hp (j+1) (m+1) Q0 (by simpa using hm) (by rw[sh];exact h1) (by rw[sh];exact h3) (by rw[sh];exact h5);rwa[sh]at this) hA ho
  have h0:=he.1;cases hf:p.eff with
  |none=>
   (have g:(if S k=true then Eff.none.app A else A)=A:=by simp[Eff.app]);rw[g]
   refine go A h ?_;rw[hf];exact hor.imp id b
  |mem M1=>
   rw[hf]at h0;have hq:=he.2.1;rw[hf]at hq;simp only[Eff.app]at hq|-;by_cases haf:L.aff i k=true
   .have hs:=h2 0 Q1 h0.1 haf;simp only[Z0Y]at hs;rw[Z0d (by simp[hs])];exact go A h (.inr (later (.inl h0.1) hs))
   ·(have d:L.aff i k=false:=by simpa using haf);have e:=hq i c d
    rw[<-hr]at e;cases hs:S k with
    |true=>
     rw[Z0c rfl];have hM:M[r]?=V:=by
      rcases hor with hh|hh
      .exact hh
      .have:=hh 0 Q1 h0.1;simp only[Z0Y]at this;rw[hs]at this;simp at this
     refine go M1 (by rw[e];exact hM) (.inl ?_);rw[hf];simp only[Eff.app];rw[e];exact hM
    |false=>rw[Z0d Q1];exact go A h (.inr (later (.inl h0.1) hs))
  |put s X=>
   rw[hf]at h0;simp only[Eff.app];by_cases e:s=r
   .subst e;have hs:=h4 0 Q1 h0.1 h0.2.1.symm;simp only[Z0Y]at hs;rw[Z0d (by simp[hs])];exact go A h (.inr (later (.inr h0.1) hs))
   .have f:(if S k=true then A.set s X else A)[r]?=V:=by
     split
     .rw[Z0f e];exact h
     .exact h
    refine go _ f ?_;rw[hf];simp only[Eff.app];rw[Z0f e];exact hor.imp id b
def B7W{L}{S:Nat->Bool}{s}:∀(a:List A4R) (k:Nat) (A M:Mem),A9m L a k M->L.fl=true->(∀j,j<a.length->(L.cls (k+j)=4\/L.cls (k+j)=5)->L.slot (k+j)≠s)->M[s]?=some A4a->A[s]?=some A4a->(A4m a k S A)[s]?=some A4a
 |[],k,A,M,_,_,_,_,h=>h
 |p::a,k,A,M,he,hfl,hs,hM,hA=>by
  have sh:∀j,k+(j+1)=k+1+j:=λj=>by omega
  have h0:=he.1;have b:(p.eff.app M)[s]?=some A4a:=by
   cases hf:p.eff with
   |none=>exact hM
   |mem M1=>rw[hf]at h0;exact h0.2 hfl s hM
   |put s' X=>rw[hf]at h0;simp only[Eff.app];have:=hs 0 Q1 h0.1;simp only[Z0Y]at this;rw[Z0f (by rw[h0.2.1];exact this)];exact hM
  simp only[A4m];refine B7W a (k+1) _ _ he.2.2 hfl (λj hj hc=>by have:=hs (j+1) ZAP ZDH;rwa[sh]at this) b ?_;split
  .cases hf:p.eff with
   |none=>exact hA
   |mem M1=>rw[hf]at b;exact b
   |put s' X=>rw[hf]at h0;simp only[Eff.app];have:=hs 0 Q1 h0.1;simp only[Z0Y]at this;rw[Z0f (by rw[h0.2.1];exact this)];exact hA
  .exact hA
def B9e{L}{S:Nat->Bool}{s}:∀(a:List A4R) (k:Nat) (A M:Mem),A9m L a k M->(∀j,j<a.length->L.cls (k+j)=2->S (k+j)=true)->(∀j,j<a.length->(L.cls (k+j)=4\/L.cls (k+j)=5)->L.slot (k+j)≠s)->
 A[s]?=M[s]?->(A4m a k S A)[s]?=(A2I a M)[s]?
 |[],k,A,M,_,_,_,h=>h
 |p::a,k,A,M,he,h2,hs,h=>by
  have sh:∀j,k+(j+1)=k+1+j:=λj=>by omega
  have h0:=he.1;simp only[A4m,A2I];refine B9e a (k+1) _ _ he.2.2 (λj hj hc=>by
   have:=h2 (j+1) ZAP ZDH;rwa[sh]at this) (λj hj hc=>by
   have:=hs (j+1) ZAP ZDH;rwa[sh]at this) ?_
  cases hf:p.eff with
  |none=>simp only[Eff.app];split<;>exact h
  |mem M1=>rw[hf]at h0;have:=h2 0 Q1 h0.1;simp only[Z0Y]at this;rw[Z0c this];rfl
  |put s' X=>
   rw[hf]at h0;have:=hs 0 Q1 h0.1;simp only[Z0Y]at this;(have b:s'≠s:=by rw[h0.2.1];exact this);simp only[Eff.app];split
   .rw[Z0f b,Z0f b];exact h
   .rw[Z0f b];exact h
def B8b{s}:∀(l:List (Nat×A0m)) (M:Mem),(∀q∈l,q.1≠s)->(fill M l)[s]?=M[s]?
 |[],M,_=>rfl
 |q::l,M,h=>by simp only[fill,Z1U];have:=B8b l (M.set q.1 q.2) (λq' hq'=>h q' (Z1v _ hq'));simp only[fill]at this;rw[this,Z0f (h q Z3p)]
def C3y{s}{X}:∀(l:List (Nat×A0m)) (M:Mem),(∀q∈l,q.1≠s)->fill (M.set s X) l=(fill M l).set s X
 |[],M,_=>rfl
 |q::l,M,h=>by simp only[fill,Z1U];have:=C3y (s:=s) (X:=X) l (M.set q.1 q.2) (λq' hq'=>h q' (Z1v _ hq'));simp only[fill]at this;rw[List.set_comm _ _ (h q Z3p).symm,this]
def A5k{ops}{L}(h:A4K ops L=true){i}{o}(ho:ops[i]?=some o):(∀e∈o.after.toList,Region.binds .any e=true->e.on<i)/\(L.cls i=4->L.fl=true)/\∀j x,j<i->ops[j]?=some x->((A5H ops x o=true\/A2h L j i=true)->C1q ops ops.size j i=true)/\((L.cls i=4\/L.cls i=5)->(L.cls j=4\/L.cls j=5)->L.slot j≠L.slot i):=by
 have hi:i<ops.size:=(Z1L.1 ho).1
 have h1:=Z0D.1 h i (Z2d.2 hi)
 rw[ho]at h1
 simp only[Z0h]at h1
 obtain⟨⟨h1,h2⟩,h3⟩:=h1
 refine⟨λe he hb=>?_,λhc=>?_,λj x hj hx=>?_⟩
 .rw[<-Z4s]at h1;have:=Z0D.1 h1 e he;simp only[hb,Z3j,Z2G,Z0n]at this;exact this
 .simp only[hc,bne_self_eq_false,Z2G]at h2;exact h2
 .have h4:=Z0D.1 h3 j (Z2d.2 hj);rw[hx]at h4;simp only[Z0h,Z1V,Z2C,Z3V]at h4;obtain⟨h5,h6⟩:=h4;refine⟨λhc=>?_,λa b=>?_⟩
  .rcases h5 with h|h
   .rcases hc with hc|hc
    .rw[h.1]at hc;simp at hc
    .rw[h.2]at hc;simp at hc
   .exact h
  .rcases h6 with(h|h)|h
   .rw[A9I.2 a]at h;simp at h
   .rw[A9I.2 b]at h;simp at h
   .simpa using h
def C5L(L:B2o)(n:Nat)(M:Mem):Prop:=∀k,k<n->L.cls k=4->M[L.slot k]?=some A4a
def D0Q{C:Ctx}{N:Nat}{ops:Array Oper}{L:B2o}(af:A4K ops L=true){ps:List A4R}(b3:ps.map (·.o)=ops.toList){T:Env}{M:Mem}(b4:A9G C N ops L ps 0 T M)(al:C5L L ops.size M){Q:Exit->Act->World->Prop}
 {G0:A0q}{w0:World}(hQ:∀G w a,G0.le G->Ext w0 w->Inv C G (A2I ps M) w->A3e G N (A4y ps T) a->Q .normal a w):
 ∀(fuel:Nat) (b:Array Bool) (G:A0q) (w:World) (a:Act),b.size=ops.size->((List.range ops.size).filter λi=>!b.getD i true).length<=fuel->C8m ops (λi=>b.getD i false)->G0.le G->Ext w0 w->Inv C G (A4m ps 0 (λi=>b.getD i false) M) w->A3e G N (A5z ps 0 (λi=>b.getD i false) T) a->wpAny C.P .any ops Q fuel b a w:=by
 have ap:=A9G.effs ps 0 T M b4
 have bl:ps.length=ops.size:=by have:=congrArg List.length b3;simpa using this
 have ar:∀(i:Nat) (p:A4R),ps[i]?=some p->ops[i]?=some p.o:=by
  intro i p hp;have:(ps.map (·.o))[i]?=some p.o:=by simp[hp]
  rw[b3]at this;simpa using this
 have b2:∀(i:Nat) (o:Oper),ops[i]?=some o->∃p:A4R,ps[i]?=some p/\p.o=o:=by
  intro i o ho;have:(ps.map (·.o))[i]?=some o:=by rw[b3];simpa using ho
  simpa using this
 have done:∀(b:Array Bool),b.size=ops.size->Region.ready .any ops b=[]->∀i,i<ops.size->b.getD i false=true:=by
  intro b a7 hr i;induction i using Nat.strongRecOn with
  |_ i ih=>
   intro hi;cases hl:b.getD i false with
   |true=>rfl
   |false=>
    exfalso;obtain⟨o,ho⟩:∃o,ops[i]?=some o:=⟨ops[i],Z1g hi⟩;have az:i∈Region.ready .any ops b:=by
     unfold Region.ready;refine Z1o.2 ⟨Z2d.2 hi,?_⟩;(have bk:b.getD i true=false:=by have h1:i<b.size:=Q0;simp[Array.getD,h1]at hl|-;exact hl);rw[bk,ho];simp only[Z3v,Z0U,Z1T,Z1m];rw[<-Z4s];refine Z0D.2 (λe he=>?_);by_cases hb:Region.binds .any e=true
     .have hlt:=(A5k af ho).1 e he hb;simp[ih e.on hlt Q0]
     .simp[hb]
    rw[hr]at az;simp at az
 have b7:∀(b:Array Bool) (G:A0q) (w:World) (a:Act),b.size=ops.size->Region.ready .any ops b=[]->G0.le G->Ext w0 w->Inv C G (A4m ps 0 (λi=>b.getD i false) M) w->A3e G N (A5z ps 0 (λi=>b.getD i false) T) a->Q .normal a w:=by
  intro b G w a a7 hr ag a3 hi he;have ay:=done b a7 hr;have e1:A4m ps 0 (λi=>b.getD i false) M=A2I ps M:=B2j ps 0 M ap (λj hj _=>by simp only[Z0P];exact ay j Q0);have e2:∀s,A5z ps 0 (λi=>b.getD i false) T s=A4y ps T s:=by intro s;have:=B1a (λi=>b.getD i false) s ps 0 ps.length T (λj p hp _=>by have hj:=A0P hp;simp only[Z0P];exact⟨λ_=>hj,λ_=>ay j Q0⟩);simpa using this
  rw[e1]at hi;exact hQ G w a ag a3 hi ⟨he.defers,he.size,λi hi'=>by rw[<-e2 i];exact he.at_ i hi'⟩
 intro fuel
 induction fuel with
 |zero=>
  intro b G w a a7 ab aa ag a3 hi he
  simp only[wpAny]
  have aj:Region.ready .any ops b=[]:=by unfold Region.ready;refine Z2N.2 (λi hi'=>?_);have hz:=Z0w (Nat.le_zero.1 ab);have:=Z2N.1 hz i hi';intro hc;simp only[Z0h]at hc;exact this hc.1
  exact⟨aj,b7 b G w a a7 aj ag a3 hi he⟩
 |succ fuel ih=>
  intro b G w a a7 ab aa ag a3 hi he
  simp only[wpAny]
  refine⟨λhr=>b7 b G w a a7 hr ag a3 hi he,λi hir=>?_⟩
  unfold Region.ready at hir
  obtain⟨ad,a8⟩:=Z1o.1 hir
  have a0:=Z2d.1 ad
  obtain⟨o,ho⟩:∃o,ops[i]?=some o:=⟨ops[i],Z1g a0⟩
  rw[ho]at a8
  simp only[Z1T,Z1m,Z0h]at a8
  obtain⟨bd,av⟩:=a8
  have aq:i<b.size:=Q0
  have a5:b.getD i false=false:=by simpa[Array.getD,aq]using bd
  obtain⟨p,hp,ah⟩:=b2 i o ho
  have ax:i<ps.length:=A0P hp
  have ac:∀o',ops[i]?=some o'->∀e∈o'.after.toList,Region.binds .any e=true->b.getD e.on false=true:=by intro o' z e a6 hb;rw[ho]at z;simp at z;subst z;rw[<-Z4s]at av;have:=Z0D.1 av e a6;simpa[hb]using this
  have c:∀j,j<ops.size->∃x,ops[j]?=some x:=λj hj=>⟨ops[j],Z1g hj⟩
  have u:∀(j:Nat) (x:Oper),ops[j]?=some x->j<i->(A5H ops x o=true\/A2h L j i=true)->b.getD j false=true:=λj x hx hj hc=>A7S aa _ _ _ (((A5k af ho).2.2 j x hj hx).1 hc) ac
  have bb:∀(j m:Nat),j<m->m<ops.size->A2h L j m=true->b.getD m false=true->b.getD j false=true:=λj m hjm hm hc hs=>by obtain⟨x,hx⟩:=c j Q0;obtain⟨y,hy⟩:=c m hm;exact A7S aa _ _ _ (((A5k af hy).2.2 j x hjm hx).1 (.inr hc)) (λo' z e a6 hb=>aa m o' z hs e a6 hb)
  have f:∀(j:Nat) (x:Oper),ops[j]?=some x->i<j->(A5H ops o x=true\/A2h L i j=true)->b.getD j false=false:=λj x hx hj hc=>by
   cases hs:b.getD j false with
   |false=>rfl
   |true=>have:=A7S aa _ _ _ (((A5k af hx).2.2 i o hj ho).1 hc) (λo' z e a6 hb=>aa j o' z hs e a6 hb);rw[a5]at this;simp at this
  have ak:∀x y,A5H ops x y=true->A5H ops y x=true:=by
   intro x y h;unfold A5H at h|-;cases hxd:x.dst with
   |none=>
    cases hyd:y.dst with
    |none=>rw[hxd,hyd]at h;simp at h
    |some d=>rw[hxd,hyd]at h;simp at h|-;simp[h]
   |some d=>
    cases hyd:y.dst with
    |none=>rw[hxd,hyd]at h;simp at h|-;exact h
    |some d'=>
     rw[hxd,hyd]at h;simp at h|-;rcases h with(h|h)|h
     .simp[h]
     .simp[h]
     .simp[h]
  have au:∀(j:Nat) (x:Oper),ops[j]?=some x->j≠i->A5H ops x o=true->(b.getD j false=true<->j<i):=by
   intro j x hx bg hc;constructor
   .intro hj;rcases Nat.lt_or_gt_of_ne bg with h|h
    .exact h
    .rw[f j x hx h (.inl (ak _ _ hc))]at hj;simp at hj
   .intro hj;exact u j x hx hj (.inl hc)
  have b9:=A9G.at_ ps 0 T M b4 i p hp
  simp only[Z0P]at b9
  have b0:∀s∈p.o.looksAt ops,A5z ps 0 (λi=>b.getD i false) T s=A4y (ps.take i) T s:=by
   intro s hs;refine B1a _ s ps 0 i T (λj q hq hd=>?_);simp only[Z0P];by_cases e:j=i
   .subst e;simp[a5]
   .refine au j q.o (ar j q hq) e ?_;unfold A5H;rw[hd];rw[<-ah];simp[hs]
  have ae:ps=ps.take i++p::ps.drop (i+1):=by(have h1:ps.drop i=p::ps.drop (i+1):=by rw[Z0m ax];congr 1;rw[Z0g ax]at hp;simpa using hp);rw[<-h1,Z1j]
  have be:(ps.take i).length=i:=ZCJ
  have bp:(ps.drop (i+1)).length=ps.length-(i+1):=Z0G ..
  have b1:A9m L (ps.take i) 0 M/\p.eff.ok L.fl (L.cls i) (L.slot i) (A2I (ps.take i) M)/\C5m L i (A2I (ps.take i) M) (p.eff.app (A2I (ps.take i) M))/\A9m L (ps.drop (i+1)) (i+1) (p.eff.app (A2I (ps.take i) M)):=by have h1:=ap;rw[ae,A9m.append,be,Z0P]at h1;exact h1
  obtain⟨an,a9,bn,n⟩:=b1
  have t:∀S:Nat->Bool,A4m ps 0 S M=A4m (ps.drop (i+1)) (i+1) S (if S i=true then p.eff.app (A4m (ps.take i) 0 S M)else A4m (ps.take i) 0 S M):=by intro S;rw[show A4m ps 0 S M=A4m (ps.take i++p::ps.drop (i+1)) 0 S M from by rw[<-ae],B6t,be,Z0P];rfl
  have g:∀j k,j<k->k<ops.size->(L.cls j=4\/L.cls j=5)->(L.cls k=4\/L.cls k=5)->L.slot j≠L.slot k:=λj k hjk hk h1 h2=>by obtain⟨x,hx⟩:=c j Q0;obtain⟨y,hy⟩:=c k hk;exact((A5k af hy).2.2 j x hjk hx).2 h2 h1
  have ai:∀k,k<ops.size->L.cls k=4->L.fl=true:=λk hk hc=>by obtain⟨y,hy⟩:=c k hk;exact(A5k af hy).2.1 hc
  have am:∀k,i<=k->k<ops.size->L.cls k=4->(A2I (ps.take i) M)[L.slot k]?=some A4a:=λk hik hk hc=>B8t (ps.take i) 0 M an (ai k hk hc) (λj hj h4=>by simp only[Z0P]at h4|-;exact g j k Q0 hk h4 (.inl hc)) (al k hk hc)
  have sh:∀j,i+1+j=i+(j+1):=λj=>by omega
  have w2:L.cls i=2->(∀j,j<(ps.take i).length->L.cls (0+j)=2\/(L.cls (0+j)=4\/L.cls (0+j)=5)->b.getD (0+j) false=true)/\(∀j,j<(ps.drop (i+1)).length->L.cls (i+1+j)=2->b.getD (i+1+j) false=false):=by
   intro hc;refine⟨λj hj h=>?_,λj hj h=>?_⟩
   .simp only[Z0P]at h|-;obtain⟨x,hx⟩:=c j Q0;exact u j x hx Q0 (.inr (by unfold A2h;rcases h with h|h|h<;>simp[h,hc,A6Q]))
   .obtain⟨x,hx⟩:=c (i+1+j) Q0;exact f _ x hx Q0 (.inr (by unfold A2h;simp[h,hc]))
  have ao:B7t L.fl (L.cls i) (L.rob i) (L.slot i) (A2I (ps.take i) M) (A4m ps 0 (λi=>b.getD i false) M) (A6J (ps.drop (i+1)) (i+1) (λi=>b.getD i false)):=by
   refine⟨λhc=>?_,λhc=>⟨?_,⟨λq hq=>?_,?_⟩,λbj=>?_⟩,λhc=>?_,λhc=>?_⟩
   .rw[t];simp only[a5,Z1I,Z2f];have h1:=B8N (S:=λi=>b.getD i false) (r:=L.rob i) rfl hc (ps.take i) 0 M M an (λj hj h2 haf=>by
     simp only[Z0P]at h2 haf|-;obtain⟨x,hx⟩:=c j Q0;exact u j x hx Q0 (.inr (by unfold A2h;simp[h2,hc,haf]))) (λj hj h4 hsl=>by
     simp only[Z0P]at h4 hsl|-;obtain⟨x,hx⟩:=c j Q0;exact u j x hx Q0 (.inr (by unfold A2h;rcases h4 with h4|h4<;>simp[h4,hc,hsl,A6Q]))) rfl
    have bi:p.eff=.none:=Eff.app_none_of a9 Q0 Q0;refine B9w (S:=λi=>b.getD i false) (r:=L.rob i) (i:=i) rfl hc (ps.drop (i+1)) (i+1) _ _ n (λj hj h2 haf=>?_) (λj hj h4 hsl=>?_) (λj m hjm hm h2 h3 hs=>?_) h1 (.inl ?_)
    .obtain⟨x,hx⟩:=c (i+1+j) Q0;exact f _ x hx Q0 (.inr (by unfold A2h;simp[h2,hc,haf]))
    .obtain⟨x,hx⟩:=c (i+1+j) Q0;exact f _ x hx Q0 (.inr (by unfold A2h;rcases h4 with h4|h4<;>simp[h4,hc,hsl,A6Q]))
    .exact bb (i+1+j) (i+1+m) Q0 Q0 (by unfold A2h;rcases h2 with h|h|h<;>simp[h,h3,A6Q]) hs
    .rw[bi];rfl
   .rw[t];simp only[a5,Z1I,Z2f];rw[B2j (ps.take i) 0 M an (w2 hc).1];exact A7j _ _ _ _ n (w2 hc).2
   .obtain⟨j,h1,h2,h3,h5⟩:=A5U _ _ _ n q hq;rw[h3];rcases h2 with h2|h2
    .exact am (i+1+j) Q0 Q0 h2
    .obtain⟨x,hx⟩:=c (i+1+j) Q0;have:=f _ x hx Q0 (.inr (by unfold A2h;simp[h2,hc]));rw[this]at h5;simp at h5
   .exact B3x _ _ _ n (λj m hjm hm h1 h2=>g _ _ Q0 Q0 h1 h2)
   .cases hl:A6J (ps.drop (i+1)) (i+1) (λi=>b.getD i false)with
    |nil=>rfl
    |cons q l=>
     obtain⟨j,h1,h2,h3,h5⟩:=A5U (S:=λi=>b.getD i false) _ _ _ n q (by rw[hl];exact Z3p);rcases h2 with h2|h2
     .have:=ai (i+1+j) Q0 h2;rw[bj]at this;simp at this
     .obtain⟨x,hx⟩:=c (i+1+j) Q0;have:=f _ x hx Q0 (.inr (by unfold A2h;simp[h2,hc]));rw[this]at h5;simp at h5
   .rw[t];simp only[a5,Z1I,Z2f];have h1:(A4m (ps.take i) 0 (λi=>b.getD i false) M)[L.slot i]?=some A4a:=B7W (ps.take i) 0 M M an (ai i a0 hc) (λj hj h4=>by simp only[Z0P]at h4|-;exact g j i Q0 a0 h4 (.inl hc)) (al i a0 hc) (al i a0 hc);rw[A7j _ _ _ _ n (λj hj h2=>by obtain⟨x,hx⟩:=c (i+1+j) Q0;exact f _ x hx Q0 (.inr (by unfold A2h;simp[h2,hc,A6Q])))];rw[B8b _ _ (λq hq=>by obtain⟨j,h1,h2,h3,_⟩:=A5U _ _ _ n q hq;rw[h3];exact(g i (i+1+j) Q0 Q0 (.inl hc) h2).symm)];exact h1
   .rw[t];simp only[a5,Z1I,Z2f];have h1:(A4m (ps.take i) 0 (λi=>b.getD i false) M)[L.slot i]?=(A2I (ps.take i) M)[L.slot i]?:=
     B9e (ps.take i) 0 M M an (λj hj h2=>by
      simp only[Z0P]at h2|-;obtain⟨x,hx⟩:=c j Q0;exact u j x hx Q0 (.inr (by unfold A2h;simp[h2,hc]))) (λj hj h4=>by
      simp only[Z0P]at h4|-;exact g j i Q0 a0 h4 (.inr hc)) rfl
    rw[A7j _ _ _ _ n (λj hj h2=>by obtain⟨x,hx⟩:=c (i+1+j) Q0;exact f _ x hx Q0 (.inr (by unfold A2h;simp[h2,hc,A6Q])))];rw[B8b _ _ (λq hq=>by obtain⟨j,h1,h2,h3,_⟩:=A5U _ _ _ n q hq;rw[h3];exact(g i (i+1+j) Q0 Q0 (.inr hc) h2).symm)];exact h1
  have bh:A4m ps 0 (λx=>if x=i then true else b.getD x false) M=p.eff.appF (A6J (ps.drop (i+1)) (i+1) (λi=>b.getD i false)) (A4m ps 0 (λi=>b.getD i false) M):=by
   have a1:A4m (ps.take i) 0 (λx=>if x=i then true else b.getD x false) M=A4m (ps.take i) 0 (λi=>b.getD i false) M:=B3w _ _ _ (λj hj=>by simp only[Z0P];rw[Z0d Q0]);have a2:∀A,A4m (ps.drop (i+1)) (i+1) (λx=>if x=i then true else b.getD x false) A=A4m (ps.drop (i+1)) (i+1) (λi=>b.getD i false) A:=λA=>B3w _ _ _ (λj hj=>by rw[Z0d Q0]);rw[t,t,a1,a2];simp only[Z1e,a5,Z1I,Z2f];cases hf:p.eff with
   |none=>rfl
   |mem M1=>rw[hf]at a9;simp only[Eff.app,Eff.appF];exact A7j _ _ _ _ n (w2 a9.1).2
   |put s X=>rw[hf]at a9;(have aw:∀j,j<(ps.drop (i+1)).length->L.cls (i+1+j)=2->b.getD (i+1+j) false=false:=λj hj h2=>by obtain⟨x,hx⟩:=c (i+1+j) Q0;exact f _ x hx Q0 (.inr (by unfold A2h;rcases a9.1 with h|h<;>simp[h2,h,A6Q])));simp only[Eff.app,Eff.appF];rw[A7j _ _ _ _ n aw,A7j _ _ _ _ n aw];exact C3y _ _ (λq hq=>by obtain⟨j,h1,h2,h3,_⟩:=A5U _ _ _ n q hq;rw[h3,a9.2.1];exact(g i (i+1+j) Q0 Q0 a9.1 h2).symm)
  unfold wpOp
  rw[ho]
  simp only
  have bf:=b9.2 _ _ _ b0 ao G w a hi he (wpAny C.P .any ops Q fuel (b.setIfInBounds i true)) Q ?_
  .rw[ah]at bf;exact bf
  .intro G' w' x h1 h2 h3 h4;rw[ah];have bc:∀j,(b.setIfInBounds i true).getD j false=if j=i then true else b.getD j false:=by
    intro j;by_cases e:j=i
    .subst e;simp[Array.getD,aq]
    .have e':i≠j:=λh=>e h.symm;rw[Z0d e];by_cases hj:j<b.size
     .simp[Array.getD,hj,e']
     .simp[Array.getD,hj]
   have ba:(λj=>(b.setIfInBounds i true).getD j false)=λj=>if j=i then true else b.getD j false:=funext bc;refine ih _ G' w' _ (by simpa using a7) ?_ ?_ (ag.trans h1) (a3.trans h4) ?_ ?_
   ·-- one fewer is open
    have bm:((List.range ops.size).filter λj=>!(b.setIfInBounds i true).getD j true).length<((List.range ops.size).filter λj=>!b.getD j true).length:=by
     have b6:((List.range ops.size).filter λj=>!(b.setIfInBounds i true).getD j true)=(((List.range ops.size).filter λj=>!b.getD j true).filter λj=>j !=i):=by
      rw[List.filter_filter];refine List.filter_congr (λj hj=>?_);have bo:=Z2d.1 hj;have b8:j<b.size:=Q0;by_cases e:j=i
      .subst e;simp[Array.getD,b8]
      .have e':i≠j:=λh=>e h.symm;simp[Array.getD,b8,e,e']
     rw[b6];refine List.length_filter_lt_length_iff_exists.2 ⟨i,?_,Q1⟩;exact Z1o.2 ⟨ad,bd⟩
    omega
   ·-- still C8m
    intro k o' z hk e a6 hb;simp only[bc]at hk|-;by_cases ek:k=i
    .subst ek;rw[ac o' z e a6 hb];simp
    .rw[Z0d ek]at hk;have:=aa k o' z hk e a6 hb;simp only at this;rw[this];simp
   .rw[ba,bh];exact h2
   .have a4:A3e G' N ((A5z ps 0 (λi=>b.getD i false) T).put p.o.dst p.v) (a.put p.o.dst x):=(he.mono h1).put h3;rw[ah]at a4;refine⟨a4.defers,a4.size,λs hs=>?_⟩;have b5:=B7q (λi=>b.getD i false) i ps 0 T p hp (by simpa using a5) (λj q hq hij hsj s hd hqd=>by simp only[Z0P]at hsj;have:=(au j q.o (ar j q hq) Q0 (by unfold A5H;rw[hqd,<-ah,hd];simp)).1 hsj;omega) s;simp only[Z0P]at b5;rw[ba,b5,ah];exact a4.at_ s hs
def B0W{C:Ctx}{N:Nat}{h:A2r}{id:Nat}{ops:Array Oper}{Q:Exit->Env->Mem->Prop}{T:Env}{M:Mem}(b:C.P.follows .mixedOrders=true)(L:B2o)(f:A2F N ops ops.toList=true)(g:A4K ops L=true)(d:C5L L ops.size M) (hr:A1x C h ops L 0 ops.toList T M (λT M=>Q .normal T M)):AWp C N (.region id ops true) Q T M:=by
 intro G w a hi he
 obtain⟨ps,h1,h2,h3⟩:=B0K ops.toList 0 T M _ f hr
 refine wp_region_any b ?_
 have e0:∀j,(Array.replicate ops.size false).getD j false=false:=λj=>by simp[Array.getD]
 have c:(λj=>(Array.replicate ops.size false).getD j false)=λ_=>false:=funext e0
 have e:∀(a:List A4R) (k:Nat) (M:Mem),A4m a k (λ_=>false) M=M:=by
  intro a;induction a with
  |nil=>intro k M;rfl
  |cons p a ih=>intro k M;simp only[A4m,Z1I,Z2f];exact ih _ _
 refine D0Q g h1 h2 d (G0:=G) (w0:=w) ?_ ops.size (Array.replicate ops.size false) G _ a Q1 (by have:=Z1q (λi=>!(Array.replicate ops.size false).getD i true) (List.range ops.size);simpa using this) (λi o _ hs=>by simp only[e0]at hs;exact Bool.noConfusion hs) (.refl _) ⟨rfl,rfl,rfl,Z0j _⟩ ?_ ?_
 .intro G' w' a' q1 q2 q3 q4;exact⟨_,_,G',h3,q1,q3,q4,q2⟩
 .rw[c,e];exact hi.world rfl
 .refine⟨he.defers,he.size,λs hs=>?_⟩;rw[c,A5O _ s ps 0 T (λj p _ h=>by simp at h)];exact he.at_ s hs
def Inv.reserve1{C}{G}{M}{w}(hi:Inv C G M w):∃G',G.le G'/\Inv C G' (M++[A4a]) w:=by
 have hm:=hi.more w.heap.size (λ_=>(none,0)) 0;have hk:(M++[A0m.gone])[M.length]?=some .gone:=ZBG
 have ht:(G.more w.heap.size (λ_=>(none,0)) 0).top M.length=0:=ZAV
 have c:∀i,(G.more w.heap.size (λ_=>(none,0)) 0).st w.heap.size i=none:=by
  intro i;cases h:G.st w.heap.size i with
  |none=>exact h
  |some v=>have:=hi.st_lt h;omega
 have a:(G.more w.heap.size (λ_=>(none,0)) 0).keep w.heap.size=none:=by
  cases h:G.keep w.heap.size with
  |none=>exact h
  |some v=>have:=hi.keep_lt h;omega
 have:=hm.step (w':=w) (o':=A4a) M.length w.heap.size hk (.inr (Z0j _)) (.refl _) rfl (λ_=>rfl) (λ_ _=>⟨rfl,rfl⟩) (λ_ _ _ h=>.inl h) (λ_=>rfl)
  (λb hlt _=>rfl) (λi v h=>by rw[c]at h;simp at h) (λo h=>by rw[a]at h;simp at h)
  ⟨ht,λ_ _ h=>by simp at h,λ_ _ _ _ _ _ _ _ h=>by simp at h⟩ (λb ⟨_,_,_,h,_⟩=>by simp at h)
 exact⟨_,G.le_more w.heap.size (λ_=>(none,0)) 0,by simpa using this⟩
def Inv.reserve{C}:∀(n:Nat) {G:A0q} {M:Mem} {w:World},Inv C G M w->∃G',G.le G'/\Inv C G' (M++List.replicate n A4a) w
 |0,G,M,w,hi=>⟨G,.refl _,ZAS⟩
 |n+1,G,M,w,hi=>by obtain⟨G1,h1,h2⟩:=hi.reserve1;obtain⟨G2,h3,h4⟩:=Inv.reserve n h2;refine⟨G2,h1.trans h3,?_⟩;rw[Z0F]at h4;exact h4
def C6e{C}{N}{c}{Q:Exit->Env->Mem->Prop}{T}{M}(n:Nat)(h:AWp C N c Q T (M++List.replicate n A4a)):AWp C N c Q T M:=by intro G w a hi he;obtain⟨G',h1,h2⟩:=hi.reserve n;exact Z4E (h G' w a h2 (he.mono h1)) λ_ _ _ l=>B4Z.mono h1 (.refl _) l
mutual
def bdd(n:Nat):AV->Prop
 |.poison|.val _=>True
 |.ptr b _=>b<n
 |.cptr cs=>A1i n cs
 |.list _ rows own=>A4n n rows/\(match own with|.fam f=>f<n|_=>True)
 |.vref f _ _ _ _=>f<n
 |.vptr f _ _=>f<n
 |.mapr b=>b<n
 |.func _ f c=>A1i n f/\A1i n c
 |.iface _ v=>bdd n v
 |.agg cs=>A1i n cs
 |.tuple cs=>A1i n cs
def A1i(n:Nat):List AV->Prop
 |[]=>True
 |c::cs=>bdd n c/\A1i n cs
def A4n(n:Nat):List (List AV)->Prop
 |[]=>True
 |r::rs=>A1i n r/\A4n n rs
end
mutual
def B4R{G}:∀(a:AV) (x:Value),Rep G a x->bdd G.n a
 |.poison,_,_=>by simp[bdd]
 |.val v,x,k=>by simp[bdd]
 |.ptr b off,x,k=>by simp only[Rep]at k;simp only[bdd];exact k.1
 |.cptr cs,x,k=>by simp only[Rep]at k;simp only[bdd];obtain⟨b,i,_,hm⟩:=k;exact C2R cs b i hm
 |.list sz rows own,x,k=>by
  simp only[Rep]at k;simp only[bdd];obtain⟨base,cap,_,_,_,hb,ho⟩:=k;refine⟨?_,?_⟩
  .cases base with
   |none=>obtain⟨rfl,_⟩:=hb;simp[A4n]
   |some a=>exact C5k sz rows _ _ hb.2
  .cases own with
   |fam f=>exact ho.1
   |_=>trivial
 |.vref f g sz lo len,x,k=>by simp only[Rep]at k;simp only[bdd];exact k.1
 |.vptr f g off,x,k=>by simp only[Rep]at k;simp only[bdd];exact k.1
 |.mapr b,x,k=>by simp only[Rep]at k;simp only[bdd];exact k.1
 |.func fn f c,x,k=>by simp only[Rep]at k;simp only[bdd];obtain⟨fs,cs,_,h1,h2⟩:=k;exact⟨B9h f _ h1,B9h c _ h2⟩
 |.iface t v,x,k=>by simp only[Rep]at k;simp only[bdd];obtain⟨y,_,h1⟩:=k;exact B4R v y h1
 |.agg cs,x,k=>by simp only[Rep]at k;simp only[bdd];obtain⟨ys,_,h1,_⟩:=k;exact B9h cs _ h1
 |.tuple cs,x,k=>by simp only[Rep]at k;simp only[bdd];obtain⟨ys,_,h1⟩:=k;exact B9h cs _ h1
def B9h{G}:∀(cs:List AV) (ys:List Value),A0v G cs ys->A1i G.n cs
 |[],ys,k=>by simp[A1i]
 |c::cs,ys,k=>by simp only[A0v]at k;simp only[A1i];obtain⟨y,a,_,h1,h2⟩:=k;exact⟨B4R c y h1,B9h cs a h2⟩
def C2R{G}:∀(cs:List AV) (b i:Nat),A0S G cs b i->A1i G.n cs
 |[],_,_,_=>by simp[A1i]
 |c::cs,b,i,k=>by simp only[A0S]at k;simp only[A1i];obtain⟨⟨v,_,_,h1⟩,h2⟩:=k;exact⟨B4R c v h1,C2R cs b (i+1) h2⟩
def C5k{G}(sz:Nat):∀(rs:List (List AV)) (b i:Nat),A0F G sz rs b i->A4n G.n rs
 |[],_,_,_=>by simp[A4n]
 |r::rs,b,i,k=>by simp only[A0F]at k;simp only[A4n];exact⟨C2R r b i k.1.2,C5k sz rs b (i+sz) k.2⟩
end
def A0q.cut(G:A0q)(n:Nat):A0q:={G with n:=n}
mutual
def Rep.cut{G}{n}:∀(a:AV) (x:Value),Rep G a x->bdd n a->Rep (G.cut n) a x
 |.poison,_,_,_=>by simp[Rep]
 |.val v,x,k,_=>by simpa[Rep]using k
 |.ptr b off,x,k,h=>by simp only[Rep,bdd]at k h|-;exact⟨h,k.2⟩
 |.cptr cs,x,k,h=>by simp only[Rep,bdd]at k h|-;obtain⟨b,i,hx,hm⟩:=k;exact⟨b,i,hx,A0S.cut cs b i hm h⟩
 |.list sz rows own,x,k,h=>by
  simp only[Rep,bdd]at k h|-;obtain⟨base,cap,hx,hl,hm,hb,ho⟩:=k;refine⟨base,cap,hx,hl,hm,?_,?_⟩
  .cases base with
   |none=>exact hb
   |some a=>exact⟨hb.1,A0F.cut sz rows _ _ hb.2 h.1⟩
  .cases own with
   |fam f=>exact⟨h.2,ho.2⟩
   |full=>exact ho
   |no=>trivial
 |.vref f g sz lo len,x,k,h=>by simp only[Rep,bdd]at k h|-;exact⟨h,k.2⟩
 |.vptr f g off,x,k,h=>by simp only[Rep,bdd]at k h|-;exact⟨h,k.2⟩
 |.mapr b,x,k,h=>by simp only[Rep,bdd]at k h|-;exact⟨h,k.2⟩
 |.func fn f c,x,k,h=>by simp only[Rep,bdd]at k h|-;obtain⟨fs,cs,hx,h1,h2⟩:=k;exact⟨fs,cs,hx,A0v.cut f _ h1 h.1,A0v.cut c _ h2 h.2⟩
 |.iface t v,x,k,h=>by simp only[Rep,bdd]at k h|-;obtain⟨y,hx,h1⟩:=k;exact⟨y,hx,Rep.cut v y h1 h⟩
 |.agg cs,x,k,h=>by simp only[Rep,bdd]at k h|-;obtain⟨ys,hx,h1,h2⟩:=k;exact⟨ys,hx,A0v.cut cs _ h1 h,h2⟩
 |.tuple cs,x,k,h=>by simp only[Rep,bdd]at k h|-;obtain⟨ys,hx,h1⟩:=k;exact⟨ys,hx,A0v.cut cs _ h1 h⟩
def A0v.cut{G}{n}:∀(cs:List AV) (ys:List Value),A0v G cs ys->A1i n cs->A0v (G.cut n) cs ys
 |[],ys,k,_=>by simpa[A0v]using k
 |c::cs,ys,k,h=>by simp only[A0v,A1i]at k h|-;obtain⟨y,a,hy,h1,h2⟩:=k;exact⟨y,a,hy,Rep.cut c y h1 h.1,A0v.cut cs a h2 h.2⟩
def A0S.cut{G}{n}:∀(cs:List AV) (b i:Nat),A0S G cs b i->A1i n cs->A0S (G.cut n) cs b i
 |[],_,_,_,_=>by simp[A0S]
 |c::cs,b,i,k,h=>by simp only[A0S,A1i]at k h|-;obtain⟨⟨v,hv,ho,h1⟩,h2⟩:=k;exact⟨⟨v,hv,ho,Rep.cut c v h1 h.1⟩,A0S.cut cs b (i+1) h2 h.2⟩
def A0F.cut{G}{n}(sz:Nat):∀(rs:List (List AV)) (b i:Nat),A0F G sz rs b i->A4n n rs->A0F (G.cut n) sz rs b i
 |[],_,_,_,_=>by simp[A0F]
 |r::rs,b,i,k,h=>by simp only[A0F,A4n]at k h|-;exact⟨⟨k.1.1,A0S.cut r b i k.1.2 h.1⟩,A0F.cut sz rs b (i+sz) k.2 h.2⟩
end
def C3K{G}{es}{xs}(h:A1v G es xs):∀e∈es,bdd G.n e.1/\bdd G.n e.2.1:=by
 induction h with
 |nil=>simp
 |cons h1 _ ih=>
  intro e he;rcases Z0p.1 he with rfl|he
  .exact⟨B4R _ _ h1.1,B4R _ _ h1.2.1⟩
  .exact ih e he
def A1v.cut{G}{n}{es}{xs}(h:A1v G es xs):(∀e∈es,bdd n e.1/\bdd n e.2.1)->A1v (G.cut n) es xs:=by
 induction h with
 |nil=>intro _;exact .nil
 |cons h1 _ ih=>intro hb;exact .cons ⟨Rep.cut _ _ h1.1 (hb _ Q1).1,Rep.cut _ _ h1.2.1 (hb _ Q1).2,h1.2.2⟩ (ih λe he=>hb e (by simp[he]))
def D5s(n:Nat):A0m->Prop
 |.cells _ cs=>A1i n cs
 |.vec _ sz cs _ hist=>∀h m,(h,m)∈hist->A1i n (cs.take (m*sz))
 |.map es _=>∀e∈es,bdd n e.1/\bdd n e.2.1
 |.miter m _ _ _=>∀b∈m,b<n
 |_=>True
def A5y.bdd{G}{w}{k}{o}(h:A5y G w k o):D5s G.n o:=by
 cases o with
 |cells t cs=>obtain⟨vs,_,h2,_⟩:=h;exact B9h _ _ h2
 |vec e sz cs g hist=>intro h' m hm;obtain⟨_,_,b,o,cap,vs,_,_,_,_,_,q,_⟩:=h.2.1 h' m hm;exact B9h _ _ q
 |map es clock=>obtain⟨xs,_,h2,_⟩:=h;exact C3K h2
 |miter m since A2B stepped=>exact h.2.1
 |_=>trivial
def A5y.cut{G}{w}{k n}{o}(h:A5y G w k o)(hb:D5s n o):A5y (G.cut n) w k o:=by
 cases o with
 |gone=>trivial
 |fam m sz=>exact h
 |cells t cs=>obtain⟨vs,h1,h2,h3⟩:=h;exact⟨vs,h1,A0v.cut _ _ h2 hb,h3⟩
 |vec e sz cs g hist=>refine⟨h.1,λh' m hm=>?_,h.2.2⟩;obtain⟨p1,p2,b,o,cap,vs,q1,q2,q3,q4,q5,q6,q7⟩:=h.2.1 h' m hm;exact⟨p1,p2,b,o,cap,vs,q1,q2,q3,q4,q5,A0v.cut _ _ q6 (hb h' m hm),q7⟩
 |map es clock=>obtain⟨xs,h1,h2,h3⟩:=h;exact⟨xs,h1,h2.cut hb,h3⟩
 |siter s pos=>exact h
 |miter m since A2B stepped=>exact⟨h.1,hb,h.2.2⟩
def Inv.cut{C}{G G'}{M X}{w w'}(hi:Inv C G M w)(c:G.le G')(a:Inv C G' (M++X) w'):Inv C (G'.cut M.length) M w'/\G.le (G'.cut M.length):=by
 have hn:=hi.n;refine⟨⟨rfl,a.st,a.keep,λk o hk=>?_,λj k x y b hx hy ox oy=>?_,λg=>?_,a.tab⟩,⟨by simp[A0q.cut,hn],c.blk,c.st,c.keep,c.top,c.hdr⟩⟩
 .have h1:=a.obj k o (by rw[Z0o (A0P hk)];exact hk);have h2:=(hi.obj k o hk).bdd;rw[hn]at h2;exact h1.cut h2
 .refine a.apart j k x y b (by rw[Z0o (A0P hx)];exact hx) (by rw[Z0o (A0P hy)];exact hy) ?_ ?_
  .cases x<;>exact ox
  .cases y<;>exact oy
 .have h2:=B4R _ _ (hi.gl g);rw[hn]at h2;exact Rep.cut _ _ (a.gl g) h2
def A0c.cut{C}{f}{args}{M}{Q:AV->Mem->Prop}(h:A0c C f args M Q){Q':AV->Mem->Prop}(hq:∀r M',Q r M'->∃X,M'=M++X/\bdd M.length r/\Q' r M):A0c C f args M Q':=by intro G w vs hi hr;refine Z1E (h G w vs hi hr) ?_;rintro e w' ⟨r,M',G',v,rfl,h1,h2,h3,h4,h5⟩;obtain⟨X,rfl,hb,a⟩:=hq r M' h1;obtain⟨k1,k2⟩:=hi.cut h2 h3;exact⟨r,M,_,v,rfl,a,k2,k1,Rep.cut _ _ h4 hb,h5⟩
mutual
def flat:AV->Bool
 |.val _=>true
 |.agg cs=>D2F cs
 |.tuple cs=>D2F cs
 |.iface _ v=>flat v
 |_=>false
def D2F:List AV->Bool
 |[]=>true
 |c::cs=>flat c&&D2F cs
end
section
variable {M:Mem} {s:Nat} {X:A0m} (hs:M[s]?=some A4a)
include hs
end

inductive BT where
 |leaf (v:AV)
 |node (l r:BT)
def C5t{M}{p}{l}(hb:B5B M (p::l)):M[p.1]?=some A4a/\B5B (M.set p.1 p.2) l:=by obtain⟨h1,h2⟩:=hb;simp only[Z0x,Z1B]at h2;refine⟨h1 p Q1,λq hq=>?_,h2.2⟩;rw[Z0f (λe=>h2.1 (by rw[e];exact List.mem_map_of_mem hq))];exact h1 q ZBH


def A6A{ops}{o}{T}{r r' s s':Prop}(hr:r->r')(hs:s->s')(h:A2A ops o T r s):A2A ops o T r' s':=by
 unfold A2A at h|-;split at h
 .exact hr h
 .split at h
  .split at h
   .split at h
    .rename_i e;rw[Z0c e];exact hr h
    .rename_i e;rw[Z0d e];exact hs h
   .exact hs h
   .exact h.elim
  .exact h.elim
def D1Z{C}{h}{o}{K K':AV->Mem->Prop}{ρ:Operand->AV}{M}(hk:∀v m,K v m->K' v m)(hv:A4L C h o K ρ M):A4L C h o K' ρ M:=by
 unfold A4L at hv|-;split at hv
 .split at hv
  .exact hv.mono hk
  .exact hv.elim
 .split at hv
  .obtain⟨e,sz,bytes,h1,h2⟩:=hv;refine⟨e,sz,bytes,h1,?_⟩;split at h2
   .exact hk _ _ h2
   .exact h2.elim
  .exact hv.elim
 .split at hv
  .exact hk _ _ hv
  .exact⟨hv.1,λb=>hk _ _ (hv.2 b)⟩
def enters_of{P}{f}{fn}{c}(hf:P.funcs[f]?=some fn)(hb:fn.body=some c)(hn:(fn.name== "runtime.NumGoroutine")=false):D4p P f:=by
 intro args w;have a:¬fn.name= "runtime.NumGoroutine":=by simpa using hn
 simp[callFunc,hf,hb,a]
end Go.Abs
