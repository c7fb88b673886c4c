/- The texts AbsP, AbsQ. -/
import Derived.Test.YtmpdkagfplajjaaGreatDoorHG13
import Derived.Orders
set_option linter.all false
namespace Go.Abs
def A4j(C:Ctx)(o:Oper)(ρ:Operand->AV)(M:Mem):Option AV:=
 match o.op with
 |.load t x=>A1y C.P t M (ρ x)
 |.lookup t m k ok=>A1Y C.P t M (ρ m) (ρ k) ok
 |.call {callee:=.builtin .len,args,argTypes}=>match args.toList,argTypes.toList with
  |[x],[t]=>((A2y C.P t (ρ x)).or (A4A C.P t M (ρ x))).map λ(n:Nat)=>AV.val (.int .i64 n)
  |_,_=>none
 |_=>none
def A0F(o:Oper)(ρ:Operand->AV):Option Nat:=match o.op with
 |.load _ x=>match ρ x with|.ptr b _=>some b|.vptr f _ _=>some f|_=>none
 |.lookup _ m _ _=>match ρ m with|.mapr b=>some b|_=>none
 |.call {callee:=.builtin .len,args,..}=>match args.toList with
  |[x]=>match ρ x with|.mapr b=>some b|_=>none
  |_=>none
 |_=>none
def A4f:A0m:=.vec 0 1 [] 0 []
def fill(M:Mem)(l:List (Nat×A0m)):Mem:=l.foldl (λM p=>M.set p.1 p.2) M
def B6C(M:Mem)(l:List (Nat×A0m)):Prop:=(∀p∈l,M[p.1]?=some A4f)/\(l.map (·.1)).Nodup
def A8p(M M':Mem):Prop:=∀s:Nat,M[s]?=some A4f->M'[s]?=some A4f
def D9I(f:Mem->Option (AV×Mem))(M:Mem)(v:AV)(M1:Mem):Prop:=A8p M M1/\∀l,B6C M l->f (fill M l)=some (v,fill M1 l)
def C9k(C:Ctx)(g:FuncId)(args:List AV)(M:Mem)(v:AV)(M1:Mem):Prop:=A8p M M1/\∀l,B6C M l->A4r C g args (fill M l) (λr m=>r=v/\m=fill M1 l)
def A7w(fl:Bool)(f:Mem->Option (AV×Mem))(M:Mem)(K:AV->Mem->Prop):Prop:=match f M with
 |some (v,M1)=>(fl=true->D9I f M v M1)/\K v M1
 |none=>False
def B2I(P:Program)(e:TypeId):Option A0m:=match A0H P e with
 |some z=>if z.all (·.oneCell')then some (.vec e z.length (z.map .val) 1 [(1,1)])else none
 |none=>none
def A4I(o:Oper)(ρ:Operand->AV):Option Nat:=match o.op with
 |.store _ a _=>match ρ a with|.ptr b _=>some b|.vptr f _ _=>some f|_=>none
 |_=>none
def B5o{C}{h}{d}{st:TypeId}{a x}{t:TypeId}{p}{af}{g}{ρ:Operand->AV}{M}:A0U C h ⟨d,.store st a x,t,p,af,g⟩ ρ M=A2b C h ⟨d,.store st a x,t,p,af,g⟩ ρ M:=by
 simp only[A0U,A0I,A2c,A1d,A6T]
 cases A2b C h ⟨d,.store st a x,t,p,af,g⟩ ρ M<;>rfl
def B6E{C}{h}{o}{ρ:Operand->AV}{M M1}{v}{s}(hs:A4I o ρ=some s)(he:A0U C h o ρ M=some (v,M1)):∃X,M1=M.set s X/\s<M.length/\∀M2:Mem,M2[s]?=M[s]?->A0U C h o ρ M2=some (v,M2.set s X):=by
 obtain⟨d,op,t,p,af,g⟩:=o
 cases op<;>first|(simp[A4I]at hs;done)|skip
 case store st a x=>
  simp only[B5o]at he|-;simp only[A4I]at hs;split at hs
  .rename_i b off ha;simp only[Z0b]at hs;subst hs;simp only[A2b,ha]at he|-;split at he;(case h_2=>simp at he);rename_i bt cs hM;split at he;(case isFalse=>simp at he);rename_i hc;simp only[Z0b,Z0h]at he;obtain⟨rfl,rfl⟩:=he;refine⟨_,rfl,A0S hM,λM2 h2=>?_⟩;rw[h2,hM];simp only[Z0e hc]
  .rename_i f gg off ha;simp only[Z0b]at hs;subst hs;simp only[A2b,ha]at he|-;split at he;(case h_2=>simp at he);rename_i vt sz cs g' hist hM;split at he;(case h_2=>simp at he);rename_i n hn;split at he;(case isFalse=>simp at he);rename_i hc;simp only[Z0b,Z0h]at he;obtain⟨rfl,rfl⟩:=he;refine⟨_,rfl,A0S hM,λM2 h2=>?_⟩;rw[h2,hM];simp only[hn,Z0e hc]
  .simp at hs
def dOp(C:Ctx)(h:A2u)(fl:Bool)(cls rob slot:Nat)(o:Oper)(ρ:Operand->AV)(M:Mem)(K:AV->Mem->Prop):Prop:=
 match o.op with
 |.call {callee:=.value f,args,..}=>match ρ f with
  |.func (.func g) first captured=>
   if cls=0 then∃r,(∀M,A4r C g (first++args.toList.map ρ++captured) M (λv M'=>v=r/\M'=M))/\K r M
   else∃r M1,cls=2/\A4r C g (first++args.toList.map ρ++captured) M (λv M'=>v=r/\M'=M1)/\(fl=true->C9k C g (first++args.toList.map ρ++captured) M r M1)/\K r M1
  |_=>False
 |.call {callee:=.builtin .append,args,argTypes}=>match args.toList,argTypes.toList with
  |[s,x],[t,u]=>∃e sz bytes,B8v C.P t u sz bytes e/\cls=2/\A7w fl (A7e (A2t h.own o.dst) (A2t h.vec o.dst) e sz bytes (ρ s) (ρ x)) M K
  |_,_=>False
 |.alloc e=>if cls=4 then fl=true/\M[slot]?=some A4f/\A0X (B2I C.P e) (λX=>K (.vptr slot 1 0) (M.set slot X))else cls=2/\A7w fl (A0U C h o ρ) M K
 |_=>if cls=0 then A0X ((A0I C h o ρ).or (A1d C o ρ)) (λv=>K v M)else if cls=1 then A0F o ρ=some rob/\A0X (A4j C o ρ M) (λv=>K v M)
  else if cls=5 then A4I o ρ=some slot/\A0X (A0U C h o ρ M) (λr=>K r.1 r.2)
  else cls=2/\A7w fl (A0U C h o ρ) M K
structure B1D where
 cls:Nat->Nat
 rob:Nat->Nat:=λ_=>0
 slot:Nat->Nat:=λ_=>0
 /-- may the operation j turn what the look i looks at -/
 aff:Nat->Nat->Bool:=λ_ _=>true
 fl:Bool:=false
def C6X(L:B1D)(k:Nat)(M M':Mem):Prop:=∀i,L.cls i=1->L.aff i k=false->M'[L.rob i]?=M[L.rob i]?
def A1w(C:Ctx)(h:A2u)(ops:Array Oper)(L:B1D):Nat->List Oper->Env->Mem->(Env->Mem->Prop)->Prop
 |_,[],T,M,K=>K T M
 |k,o::rest,T,M,K=>A2F ops o T (dOp C h L.fl (L.cls k) (L.rob k) (L.slot k) o (T.ev C) M (λv M'=>C6X L k M M'/\A1w C h ops L (k+1) rest (T.put o.dst v) M' K)) (A1w C h ops L (k+1) rest (T.put o.dst (.val undef)) M K)
inductive Eff where
 |none
 |put (s:Nat) (X:A0m)
 |mem (M:Mem)
def Eff.app:Eff->Mem->Mem
 |.none,M=>M
 |.put s X,M=>M.set s X
 |.mem M1,_=>M1
def Eff.appF(l:List (Nat×A0m)):Eff->Mem->Mem
 |.none,M=>M
 |.put s X,M=>M.set s X
 |.mem M1,_=>fill M1 l
def Eff.ok(fl:Bool)(cls slot:Nat)(M:Mem):Eff->Prop
 |.none=>True
 |.put s X=>(cls=4\/cls=5)/\s=slot/\slot<M.length
 |.mem M1=>cls=2/\(fl=true->A8p M M1)
def B8p(fl:Bool)(cls rob slot:Nat)(M M2:Mem)(l:List (Nat×A0m)):Prop:=(cls=1->M2[rob]?=M[rob]?)/\(cls=2->M2=fill M l/\B6C M l/\(fl=false->l=[]))/\(cls=4->M2[slot]?=some A4f)/\(cls=5->M2[slot]?=M[slot]?)
def D9A(C:Ctx)(N:Nat)(ops:Array Oper)(fl:Bool)(cls rob slot:Nat)(o:Oper)(v:AV)(T:Env)(M:Mem)(eff:Eff):Prop:=
 eff.ok fl cls slot M/\∀T2 M2 l,(∀s∈o.looksAt ops,T2 s=T s)->B8p fl cls rob slot M M2 l->∀G w a,Inv C G M2 w->A1R G N T2 a->∀(next:Act->World->Prop) (Q:Exit->Act->World->Prop),
  (∀G' w' x,G.le G'->Inv C G' (eff.appF l M2) w'->Rep G' v x->Ext w w'->next (a.put o.dst x) w')->
  if Region.wanted o (yielded ops a.tmps)then o.wp C.P a w next Q\/(o.asks C.P a w/\LetsOut Q)else next (a.put o.dst undef) w
def C7J{C}{o}{ρ:Operand->AV}{A B}(h:∀r,A0F o ρ=some r->A[r]?=B[r]?):A4j C o ρ A=A4j C o ρ B:=by
 obtain⟨d,op,t,p,af,g⟩:=o;cases op<;>try rfl
 case load t x=>
  simp only[A4j,A1y];simp only[A0F]at h;have e:A3k A (ρ x)=A3k B (ρ x):=by
   cases hx:ρ x with
   |ptr b off=>rw[hx]at h;simp only[A3k];rw[h b rfl]
   |vptr f g off=>rw[hx]at h;simp only[A3k];rw[h f rfl]
   |_=>rfl
  rw[e]
 case lookup t m k ok=>
  simp only[A4j,A1Y];have e:A6W A (ρ m)=A6W B (ρ m):=by
   unfold A6W;simp only[A0F]at h;split
   .rfl
   .rename_i b hb;rw[hb]at h;simp only at h;rw[h b rfl]
   .rfl
  rw[e]
 case call c=>
  obtain⟨callee,args,ts⟩:=c;cases callee with
  |builtin b=>
   cases b<;>try rfl
   simp only[A4j];simp only[A0F]at h;split
   .rename_i x t' ha ht;rw[ha]at h;simp only at h;have e:A4A C.P t' A (ρ x)=A4A C.P t' B (ρ x):=by
     unfold A4A;split
     .rename_i b hb;rw[hb]at h;simp only at h;rw[h b rfl]
     .rfl
    rw[e]
   .rfl
  |_=>rfl
def D2W{C}{h}{o}{ρ:Operand->AV}{M}{v}(hr:A4j C o ρ M=some v){K:AV->Mem->Prop}(hk:K v M):A4z C h o K ρ M:=by
 obtain⟨d,op,t,p,af,g⟩:=o;unfold A4j at hr;simp only at hr;split at hr
 .rw[C1Y,hr];exact hk
 .rw[B6Y,hr];exact hk
 .rename_i args ts;split at hr
  .rename_i x t' ha ht;(have a:args=#[x]:=by apply Z1E;simpa using ha);(have b:ts=#[t']:=by apply Z1E;simpa using ht);subst a;subst b;simp only[Z0m]at hr;obtain⟨n,hn,rfl⟩:=hr;rw[D3T,hn];exact hk
  .simp at hr
 .simp at hr
def A8C{C:Ctx}{ops:Array Oper}{T T2:Env}{o:Oper}(h:∀s∈o.looksAt ops,T2 s=T s):∀x∈o.op.operands.toList,T2.ev C x=T.ev C x:=by
 intro x hx;cases x with
 |tmp t=>simp only[Env.ev];refine h t ?_;unfold Oper.looksAt;exact Z1P _ (List.mem_filterMap.2 ⟨.tmp t,by simpa using hx,rfl⟩)
 |_=>rfl
def B1W{ops}{T T2}{o}(h:∀s∈o.looksAt ops,T2 s=T s)(run skip:Prop):A2F ops o T2 run skip=A2F ops o T run skip:=by
 unfold A2F;split
 .rfl
 .rename_i j want hg;split
  .rename_i d hd;have:T2 d=T d:=h d (by unfold Oper.looksAt;rw[hg];simp only[hd];simp);rw[this]
  .rfl
def B0R{ρ ρ':Operand->AV}{l:List Operand}(h:∀x∈l,ρ' x=ρ x):l.map ρ'=l.map ρ:=Z2p h
def B2t{C:Ctx}{hn:A2u}{o:Oper}{ρ ρ':Operand->AV}(h:∀x∈o.op.operands.toList,ρ' x=ρ x):A0I C hn o ρ'=A0I C hn o ρ:=by
 obtain⟨dst,op,type,pos,after,guard⟩:=o;simp only at h;cases op<;>simp only[Op.operands]at h;case call c=>
  obtain⟨callee,args,ts⟩:=c;cases callee<;>try rfl
  simp only[Call.operands]at h;simp only[A0I];rw[B0R (l:=args.toList) (λx hx=>h x (by simpa using hx))]
 case build t ps=>
  have e:(ps.toList.map λp=>(p.1,ρ' p.2))=ps.toList.map λp=>(p.1,ρ p.2):=Z2p λp hp=>by rw[h p.2 (by simp;exact⟨p.1,by simpa using hp⟩)]
  simp only[A0I,e]
 case buildSlice t n ps=>
  have e:(ps.toList.map λp=>(p.1,ρ' p.2))=ps.toList.map λp=>(p.1,ρ p.2):=Z2p λp hp=>by rw[h p.2 (by simp;exact⟨p.1,by simpa using hp⟩)]
  simp only[A0I,e]
 case makeFunc fn f c=>simp only[A0I];rw[B0R (l:=f.toList) (λx hx=>h x (by simp;simp at hx;simp[hx])),B0R (l:=c.toList) (λx hx=>h x (by simp;simp at hx;simp[hx]))]
 case slice t x lo hi mx=>
  have e:∀(y:Option Operand),(∀q,y=some q->ρ' q=ρ q)->y.map ρ'=y.map ρ:=λy hy=>by cases y with|none=>rfl|some q=>simp[hy q rfl]
  simp only[A0I];rw[h x (by simp),e lo (λq hq=>h q (by simp[hq])),e hi (λq hq=>h q (by simp[hq])),e mx (λq hq=>h q (by simp[hq]))]
 case unOp op t x=>cases op<;>first|rfl|(simp only[A0I];rw[h x (by simp)])
 case move x=>simp only[A0I];rw[h x (by simp)]
 case assign x=>simp only[A0I];rw[h x (by simp)]
 case pick c a b=>simp only[A0I];rw[h c (by simp),h a (by simp),h b (by simp)]
 case box e x=>simp only[A0I];rw[h x (by simp)]
 case nilCheck x=>simp only[A0I];rw[h x (by simp)]
 case binOp op t x y u=>simp only[A0I];rw[h x (by simp),h y (by simp)]
 case fieldAddr t x f=>simp only[A0I];rw[h x (by simp)]
 case field t x f=>simp only[A0I];rw[h x (by simp)]
 case indexAddr t x i=>simp only[A0I];rw[h x (by simp),h i (by simp)]
 case index t x i=>simp only[A0I];rw[h x (by simp),h i (by simp)]
 case load t x=>simp only[A0I];rw[h x (by simp)]
 case extract x i=>simp only[A0I];rw[h x (by simp)]
 case convert a b x=>simp only[A0I];rw[h x (by simp)]
 all_goals rfl
def C0S{C}{hn}{o}{ρ ρ':Operand->AV}{M}(h:∀x∈o.op.operands.toList,ρ' x=ρ x):A2b C hn o ρ' M=A2b C hn o ρ M:=by
 obtain⟨dst,op,type,pos,after,guard⟩:=o;simp only at h;cases op<;>simp only[Op.operands]at h;case load t x=>simp only[A2b];rw[h x (by simp)]
 case store t a x=>simp only[A2b];rw[h a (by simp),h x (by simp)]
 case box e x=>simp only[A2b];rw[h x (by simp)]
 all_goals rfl
def B8u{C}{hn}{o}{ρ ρ':Operand->AV}{M}(h:∀x∈o.op.operands.toList,ρ' x=ρ x):A2c C hn o ρ' M=A2c C hn o ρ M:=by
 obtain⟨dst,op,type,pos,after,guard⟩:=o;simp only at h;cases op<;>simp only[Op.operands]at h;case buildSlice t n ps=>
  simp only[A2c];have:(ps.toList.map λp=>(p.1,ρ' p.2))=(ps.toList.map λp=>(p.1,ρ p.2)):=Z2p λp hp=>by rw[h p.2 (by simp;exact⟨_,by simpa using hp⟩)]
  rw[this]
 case makeSlice t l c=>simp only[A2c];rw[h l (by simp),h c (by simp)]
 case lookup t m k ok=>simp only[A2c];rw[h m (by simp),h k (by simp)]
 case mapUpdate t m k x=>simp only[A2c];rw[h m (by simp),h k (by simp),h x (by simp)]
 case insert t m k x=>simp only[A2c];rw[h m (by simp),h k (by simp),h x (by simp)]
 case call c=>
  obtain⟨callee,args,ts⟩:=c;cases callee with
  |builtin b=>simp only[A2c];have:args.toList.map ρ'=args.toList.map ρ:=Z2p λx hx=>h x (by simp[Call.operands];simpa using hx);rw[this]
  |_=>rfl
 case makeMap t r=>cases r<;>rfl
 all_goals rfl
def B1z{C}{o}{ρ ρ':Operand->AV}(h:∀x∈o.op.operands.toList,ρ' x=ρ x):A1d C o ρ'=A1d C o ρ:=by
 obtain⟨dst,op,type,pos,after,guard⟩:=o;simp only at h;cases op<;>simp only[Op.operands]at h;case indexAddr t x i=>simp only[A1d];rw[h x (by simp),h i (by simp)]
 case index t x i=>simp only[A1d];rw[h x (by simp),h i (by simp)]
 case build t ps=>
  have e:(ps.toList.map λp=>(p.1,ρ' p.2))=ps.toList.map λp=>(p.1,ρ p.2):=Z2p λp hp=>by rw[h p.2 (by simp;exact⟨p.1,by simpa using hp⟩)]
  simp only[A1d,e]
 case binOp op t x y u=>cases op<;>first|rfl|(simp only[A1d];rw[h x (by simp),h y (by simp)])
 case unOp op t x=>cases op<;>first|rfl|(simp only[A1d];rw[h x (by simp)])
 case convert a b x=>simp only[A1d];rw[h x (by simp)]
 all_goals rfl
def C6J{C}{o}{ρ ρ':Operand->AV}{M}(h:∀x∈o.op.operands.toList,ρ' x=ρ x):A6T C o ρ' M=A6T C o ρ M:=by
 obtain⟨dst,op,type,pos,after,guard⟩:=o;simp only at h;cases op<;>simp only[Op.operands]at h;case range t x=>simp only[A6T];rw[h x (by simp)]
 case next x b=>cases b<;>first|rfl|(simp only[A6T];rw[h x (by simp)])
 case slice t x lo hi mx=>
  have e:∀(y:Option Operand),(∀q,y=some q->ρ' q=ρ q)->y.map ρ'=y.map ρ:=λy hy=>by cases y with|none=>rfl|some q=>simp[hy q rfl]
  simp only[A6T];rw[h x (by simp),e lo (λq hq=>h q (by simp[hq])),e hi (λq hq=>h q (by simp[hq])),e mx (λq hq=>h q (by simp[hq]))]
 case convert a b x=>simp only[A6T];rw[h x (by simp)]
 case call c=>
  obtain⟨callee,args,ts⟩:=c;cases callee with
  |builtin b=>simp only[A6T];have:args.toList.map ρ'=args.toList.map ρ:=Z2p λx hx=>h x (by simp[Call.operands];simpa using hx);rw[this]
  |_=>rfl
 all_goals rfl
def C4k{C}{hn}{o}{ρ ρ':Operand->AV}{M}(h:∀x∈o.op.operands.toList,ρ' x=ρ x):A0U C hn o ρ' M=A0U C hn o ρ M:=by simp only[A0U,B2t h,C0S h,B8u h,B1z h,C6J h]
def C3I{C}{o}{ρ ρ':Operand->AV}{M}(h:∀x∈o.op.operands.toList,ρ' x=ρ x):A4j C o ρ' M=A4j C o ρ M:=by
 obtain⟨dst,op,type,pos,after,guard⟩:=o;simp only at h;cases op<;>simp only[Op.operands]at h;case load t x=>simp only[A4j];rw[h x (by simp)]
 case lookup t m k ok=>simp only[A4j];rw[h m (by simp),h k (by simp)]
 case call c=>
  obtain⟨callee,args,ts⟩:=c;cases callee with
  |builtin b=>
   cases b<;>first|rfl|skip
   simp only[A4j];cases ha:args.toList with
   |nil=>rfl
   |cons x l=>
    cases l with
    |cons _ _=>rfl
    |nil=>
     cases ht:ts.toList with
     |nil=>rfl
     |cons t l2=>
      cases l2 with
      |cons _ _=>rfl
      |nil=>simp only;(have hx:x∈args.toList:=by rw[ha];simp);rw[h x (by simp[Call.operands];simpa using hx)]
  |_=>rfl
 all_goals rfl
def C8I{C}{G}{M}{w}(hi:Inv C G M w){s}(hM:M[s]?=some A4f){vs}{cs}(t:TypeId)(hr:A0t G cs vs.toList)(k:∀v∈vs.toList,v.oneCell'=true):∃G',G.le G'/\Inv C G' (M.set s (.vec t cs.length cs 1 [(1,1)])) (w.alloc (.cells vs t))/\Rep G' (.vptr s 1 0) (.pointer (some ⟨w.heap.size,0,none⟩)):=by
 obtain⟨p0,_,_⟩:=hi.obj s _ hM
 have d:=A0o.le_time (G:=G) (f:=s) (n:=1) (h:=(some (⟨w.heap.size,0,none⟩:Addr),1)) (by omega)
 have a:∀i,G.st w.heap.size i=none:=by
  intro i;cases e:G.st w.heap.size i with
  |none=>rfl
  |some v=>have:=Z2j w ⟨w.heap.size,i,none⟩ (hi.st _ _ _ e);simp at this
 have c:G.keep w.heap.size=none:=by
  cases e:G.keep w.heap.size with
  |none=>rfl
  |some o=>have:=A3z (hi.keep _ _ e);omega
 have g:cs.length=vs.size:=by rw[<-hr.length];simp
 refine⟨_,d,hi.step (G':=G.grow s 1 (some ⟨w.heap.size,0,none⟩,1) 0 0 []) (w':=w.alloc (.cells vs t)) (o':=.vec t cs.length cs 1 [(1,1)]) s w.heap.size hM (.inr (Z0n _)) d rfl (λ_=>rfl) (λj hj=>by simp[A0o.grow,hj])
  (λb i v hv=>by rw[A0o.time_st]at hv;exact .inl hv) (λ_=>rfl) (λb hb _=>A3X w _ b hb) (λi v hv=>by rw[a i]at hv;simp at hv) (λo ho=>by rw[c]at ho;simp at ho)
  ⟨by simp[A0o.grow],λh1 n1 hm=>?_,λh1 n1 h2 n2 a1 a2 c1' c2' m1 m2 e1 e2 e3=>?_⟩ (λb1 ⟨h1,n1,a1,hm,e1,e2⟩=>?_),?_⟩
 .simp only[Z0I,Z0h]at hm;obtain⟨rfl,rfl⟩:=hm;refine⟨by simp[A0o.grow],by omega,w.heap.size,0,1,vs,A0o.time_hdr _ _ _ _,Z0n _,by decide,Z2h w _,by omega,?_,?_,λi=>by rw[A0o.time_st];exact a i,c⟩
  .rw[Z1h,Nat.one_mul,Z0g (Z0n _),Z0g (by simp[g])];exact A0t.mono d _ _ hr
  .intro v hv;rw[Z1h]at hv;exact k v (Z1k hv)
 .simp only[Z0I,Z0h]at m1 m2;obtain⟨rfl,rfl⟩:=m1;obtain⟨rfl,rfl⟩:=m2;rw[e1]at e2;simp only[Z0h,Z0b]at e2;exact e2.1
 .simp only[Z0I,Z0h]at hm;obtain⟨rfl,rfl⟩:=hm;rw[A0o.time_hdr]at e1;simp only[Z0b]at e1;subst e1;exact .inl e2.symm
 .simp only[Rep];exact⟨by rw[show(G.grow s 1 (some ⟨w.heap.size,0,none⟩,1) 0 0 []).n=G.n from rfl,hi.n];exact A0S hM,by simp[A0o.grow],⟨w.heap.size,0,none⟩,1,A0o.time_hdr _ _ _ _,by simp⟩
def C0J{C}{G}{M}{w}(hi:Inv C G M w){e:TypeId}{X}(hX:B2I C.P e=some X){slot}(hM:M[slot]?=some A4f){o}(ho:o.op=.alloc e)(a:Act):B0z C G w o a (λv m=>v=.vptr slot 1 0/\m=M.set slot X):=by
 unfold B2I at hX
 split at hX
 case h_2=>simp at hX
 rename_i z hz
 split at hX
 case isFalse=>simp at hX
 rename_i hall
 simp only[Z0b]at hX
 subst hX
 obtain⟨zv,hv,c,f⟩:=B0m (P:=C.P) hz G w
 have d:(z.map AV.val).length=z.length:=by simp
 obtain⟨G',h1,h2,h3⟩:=C8I hi hM (vs:=zv.cells) e (by rw[c];exact f) (λy hy=>by rw[c]at hy;exact Z0p.1 hall y hy)
 intro next Q hK
 obtain⟨dst,op,type,pos,after,guard⟩:=o
 simp only at ho
 subst ho
 have b:(execOp a.eval ⟨dst,.alloc e,type,pos,after,guard⟩).run C.P w=.ok (.value (.pointer (some ⟨w.heap.size,0,none⟩))) (w.alloc (.cells zv.cells e)):=by refine A3W (v:=.pointer (some ⟨w.heap.size,0,none⟩)) ?_;simp only[Instr.alloc,Z0E,hv,Z0u,newVar,newRow,Z3J,Z0K];rfl
 unfold Oper.wp
 rw[b]
 rw[d]at h2
 exact hK _ _ G' _ _ ⟨rfl,rfl⟩ h1 h2 h3 (Ext.alloc _ _)
def D4z{fl}{f:Mem->Option (AV×Mem)}{M}{K:AV->Mem->Prop}(h:A7w fl f M K):∃v M1,K v M1/\(fl=true->A8p M M1)/\∀l,B6C M l->(fl=false->l=[])->f (fill M l)=some (v,fill M1 l):=by
 unfold A7w at h;split at h;case h_2=>exact h.elim
 rename_i v M1 hf;refine⟨v,M1,h.2,λe=>(h.1 e).1,λl hb hl=>?_⟩;cases fl with
 |true=>exact(h.1 rfl).2 l hb
 |false=>rw[hl rfl];exact hf
def E0L{C:Ctx}{N:Nat}{h:A2u}{ops:Array Oper}{fl:Bool}{cls rob b:Nat}{o:Oper}(i:Oper.inside N o=true){T:Env}{M:Mem}{K:AV->Mem->Prop}(hd:dOp C h fl cls rob b o (T.ev C) M K):∃(v:AV) (eff:Eff),K v (eff.app M)/\eff.ok fl cls b M/\∀T2 M2 l,(∀s∈o.looksAt ops,T2 s=T s)->B8p fl cls rob b M M2 l->∀G w a,Inv C G M2 w->A1R G N T2 a->B0z C G w o a (λv' M3=>v'=v/\M3=eff.appF l M2):=by
 have n:∀f,A7w fl f M K->cls=2->(∀T2 M2 v M',(∀s∈o.looksAt ops,T2 s=T s)->f M2=some (v,M')->∀G w a,Inv C G M2 w->A1R G N T2 a->B0z C G w o a (λv' M3=>v'=v/\M3=M'))->
  ∃(v:AV) (eff:Eff),K v (Eff.app eff M)/\eff.ok fl cls b M/\∀T2 M2 l,(∀s∈o.looksAt ops,T2 s=T s)->B8p fl cls rob b M M2 l->∀G w a,Inv C G M2 w->A1R G N T2 a->
  B0z C G w o a (λv' M3=>v'=v/\M3=eff.appF l M2):=by
  intro f hf hc hs
  obtain⟨v,M1,h1,h2,h3⟩:=D4z hf
  refine⟨v,.mem M1,h1,⟨hc,h2⟩,λT2 M2 l e1 e2 G w a hi hr=>?_⟩
  obtain⟨rfl,hb,hl⟩:=e2.2.1 hc
  exact hs T2 _ v _ e1 (h3 l hb hl) G w a hi hr
 have c:(∀ρ M2 v M',A0U C h o ρ M2=some (v,M')->∀K':AV->Mem->Prop,K' v M'->A4z C h o K' ρ M2)->∀T2 M2 v M',(∀s∈o.looksAt ops,T2 s=T s)->A0U C h o (T.ev C) M2=some (v,M')->∀G w a,Inv C G M2 w->A1R G N T2 a->B0z C G w o a (λv' M3=>v'=v/\M3=M'):=by intro hv T2 M2 v M' e1 he G w a hi hr;exact A5n hi (A7Q hi hr i) (hv (T2.ev C) M2 v M' (by rw[C4k (A8C e1)];exact he) _ ⟨rfl,rfl⟩)
 have j:(if cls=0 then A0X ((A0I C h o (T.ev C)).or (A1d C o (T.ev C))) (λv=>K v M)else if cls=1 then A0F o (T.ev C)=some rob/\A0X (A4j C o (T.ev C) M) (λv=>K v M)
  else if cls=5 then A4I o (T.ev C)=some b/\A0X (A0U C h o (T.ev C) M) (λr=>K r.1 r.2)
  else cls=2/\A7w fl (A0U C h o (T.ev C)) M K)->
  (∀ρ M2 v M',A0U C h o ρ M2=some (v,M')->∀K':AV->Mem->Prop,K' v M'->A4z C h o K' ρ M2)->
  ∃(v:AV) (eff:Eff),K v (Eff.app eff M)/\eff.ok fl cls b M/\∀T2 M2 l,(∀s∈o.looksAt ops,T2 s=T s)->B8p fl cls rob b M M2 l->∀G w a,Inv C G M2 w->A1R G N T2 a->
  B0z C G w o a (λv' M3=>v'=v/\M3=eff.appF l M2):=by
  intro hp hv
  split at hp
  .rename_i hc;cases he:(A0I C h o (T.ev C)).or (A1d C o (T.ev C))with
   |none=>rw[he]at hp;exact hp.elim
   |some v=>
    rw[he]at hp;refine⟨v,.none,hp,trivial,λT2 M2 l h1 h2 G w a hi hr=>?_⟩;(have m:(A0I C h o (T2.ev C)).or (A1d C o (T2.ev C))=some v:=by rw[B2t (A8C h1),B1z (A8C h1)];exact he);rcases Option.or_eq_some_iff.1 m with h3|⟨_,h3⟩
    .exact A5n hi (A7Q hi hr i) (hv (T2.ev C) M2 v M2 (by simp[A0U,h3]) _ ⟨rfl,rfl⟩)
    ·(intro next Q hK);obtain⟨nx,w',G',k1,k2,k3,k4,k5⟩:=B7k hi (A7Q hi hr i) h3
     unfold Oper.wp;rw[k1];rcases k2 with⟨x,rfl,y⟩|⟨rfl,rfl⟩
     .exact hK v M2 G' w' x ⟨rfl,rfl⟩ k3 k4 y k5
     .exact hK _ M2 G' w' undef ⟨rfl,rfl⟩ k3 k4 (by simp[Rep]) k5
  .rename_i hc0;split at hp
   .rename_i hc;obtain⟨a1,hp⟩:=hp;cases he:A4j C o (T.ev C) M with
    |none=>rw[he]at hp;exact hp.elim
    |some v=>rw[he]at hp;refine⟨v,.none,hp,trivial,λT2 M2 l h1 h2 G w a hi hr=>?_⟩;(have m:A4j C o (T2.ev C) M2=some v:=by rw[C3I (A8C h1),<-he];exact C7J (λr hr=>by rw[a1]at hr;simp at hr;subst hr;exact h2.1 hc));exact A5n hi (A7Q hi hr i) (D2W (h:=h) m ⟨rfl,rfl⟩)
   .split at hp
    .rename_i hc;obtain⟨z,hp⟩:=hp;cases he:A0U C h o (T.ev C) M with
     |none=>rw[he]at hp;exact hp.elim
     |some r=>obtain⟨v,M1⟩:=r;rw[he]at hp;obtain⟨X,rfl,a0,hX⟩:=B6E z he;refine⟨v,.put b X,hp,⟨.inr hc,rfl,a0⟩,λT2 M2 l h1 h2 G w a hi hr=>?_⟩;exact c hv T2 M2 v _ h1 (hX M2 (h2.2.2.2 hc)) G w a hi hr
    .exact n _ hp.2 hp.1 (c hv)
 obtain⟨dst,op,type,pos,after,guard⟩:=o
 unfold dOp at hd
 simp only at hd
 split at hd
 .rename_i f args ts;have a2:=@A8C C ops T;split at hd;case h_2=>exact hd.elim
  rename_i g first captured hf
  have same:∀T2:Env,(∀s∈Oper.looksAt ops ⟨dst,.call {callee:=.value f,args:=args,argTypes:=ts},type,pos,after,guard⟩,T2 s=T s)->T2.ev C f=.func (.func g) first captured/\args.toList.map (T2.ev C)=args.toList.map (T.ev C):=by intro T2 h1;have h2:=A8C (C:=C) h1;exact⟨by rw[h2 f (by simp[Op.operands,Call.operands])];exact hf,B0R λx hx=>h2 x (by simp[Op.operands,Call.operands];simp at hx;simp[hx])⟩
  split at hd
  .rename_i hc;obtain⟨r,d,hk⟩:=hd;refine⟨r,.none,hk,trivial,λT2 M2 l h1 h2 G w a hi hr=>?_⟩;obtain⟨e1,e2⟩:=same T2 h1;refine A5n (h:=h) hi (A7Q hi hr i) ?_;simp only[A4z,e1,e2];exact d M2
  .rename_i hc;obtain⟨r,M1,p,d,k,hk⟩:=hd;refine⟨r,.mem M1,hk,⟨p,λe=>(k e).1⟩,λT2 M2 l h1 h2 G w a hi hr=>?_⟩;obtain⟨rfl,hb,hl⟩:=h2.2.1 p;obtain⟨e1,e2⟩:=same T2 h1;refine A5n (h:=h) hi (A7Q hi hr i) ?_;simp only[A4z,e1,e2];cases fl with
   |true=>exact(k rfl).2 l hb
   |false=>rw[hl rfl];exact d
 .rename_i args ts;split at hd;case h_2=>exact hd.elim
  rename_i s x t u ha ht;obtain⟨e,sz,bytes,q,hc,hm⟩:=hd;refine n _ hm hc (λT2 M2 v M' h1 hap G w a hi hr=>?_);have h3:=A8C (C:=C) h1;have es:T2.ev C s=T.ev C s:=h3 s (by(simp[Op.operands,Call.operands];have:s∈args.toList:=by rw[ha];simp);simpa using this);have ex:T2.ev C x=T.ev C x:=h3 x (by(simp[Op.operands,Call.operands];have:x∈args.toList:=by rw[ha];simp);simpa using this);refine A5n (h:=h) hi (A7Q hi hr i) ?_;simp only[A4z,ha,ht,es,ex];exact⟨e,sz,bytes,q,by rw[hap];exact⟨rfl,rfl⟩⟩
 .rename_i e;have hv:∀ρ M2 v M',A0U C h ⟨dst,.alloc e,type,pos,after,guard⟩ ρ M2=some (v,M')->∀K':AV->Mem->Prop,K' v M'->A4z C h ⟨dst,.alloc e,type,pos,after,guard⟩ K' ρ M2:=by intro ρ M2 v M' he K' hk;unfold A4z;simp only;rw[he];exact hk
  split at hd
  .rename_i hc;obtain⟨k,hM,hd⟩:=hd;cases hX:B2I C.P e with
   |none=>rw[hX]at hd;exact hd.elim
   |some X=>rw[hX]at hd;refine⟨_,.put b X,hd,⟨.inl hc,rfl,A0S hM⟩,λT2 M2 l h1 h2 G w a hi hr=>?_⟩;exact C0J hi hX (h2.2.2.1 hc) rfl a
  .exact n _ hd.2 hd.1 (c hv)
 .rename_i hne1 hne2 hne3;refine j hd (λρ M2 v M' he K' hk=>?_);unfold A4z;split
  .rename_i heq;exact absurd heq (by intro e;exact hne1 _ _ _ e)
  .rename_i heq;exact absurd heq (by intro e;exact hne2 _ _ e)
  .rw[he];exact hk
structure A5a where
 o:Oper
 v:AV
 eff:Eff
def A5L:List A5a->Nat->(Nat->Bool)->Env->Env
 |[],_,_,T=>T
 |p::ps,k,S,T=>A5L ps (k+1) S (if S k then T.put p.o.dst p.v else T)
def A4u:List A5a->Nat->(Nat->Bool)->Mem->Mem
 |[],_,_,M=>M
 |p::ps,k,S,M=>A4u ps (k+1) S (if S k then p.eff.app M else M)
def B0f(C:Ctx)(N:Nat)(ops:Array Oper)(L:B1D):List A5a->Nat->Env->Mem->Prop
 |[],_,_,_=>True
 |p::ps,k,T,M=>D9A C N ops L.fl (L.cls k) (L.rob k) (L.slot k) p.o p.v T M p.eff/\C6X L k M (p.eff.app M)/\B0f C N ops L ps (k+1) (T.put p.o.dst p.v) (p.eff.app M)
def A4R:List A5a->Env->Env
 |[],T=>T
 |p::ps,T=>A4R ps (T.put p.o.dst p.v)
def A3b:List A5a->Mem->Mem
 |[],M=>M
 |p::ps,M=>A3b ps (p.eff.app M)
def A7X{C}{N}{h}{ops}{L}:∀(l:List Oper) (k:Nat) (T:Env) (M:Mem) (K:Env->Mem->Prop),A1P N ops l=true->A1w C h ops L k l T M K->
 ∃ps:List A5a,ps.map (·.o)=l/\B0f C N ops L ps k T M/\K (A4R ps T) (A3b ps M)
 |[],k,T,M,K,_,hd=>⟨[],rfl,trivial,hd⟩
 |o::l,k,T,M,K,hin,hd=>by
  simp only[A1P,Z1n,Z0f]at hin;obtain⟨⟨ho,hg⟩,p⟩:=hin;have g:A1P N ops l=true:=by simpa[A1P]using p
  simp only[A1w]at hd;have r:=hd;unfold A2F at hd;have f:(∀T2,(∀s∈o.looksAt ops,T2 s=T s)->∀run skip:Prop,A2F ops o T2 run skip=run)->dOp C h L.fl (L.cls k) (L.rob k) (L.slot k) o (T.ev C) M (λv M'=>C6X L k M M'/\A1w C h ops L (k+1) l (T.put o.dst v) M' K)->
   ∃ps:List A5a,ps.map (·.o)=o::l/\B0f C N ops L ps k T M/\K (A4R ps T) (A3b ps M):=by
   intro m hr
   obtain⟨v,eff,⟨hq,hk⟩,hw,q⟩:=E0L (ops:=ops) ho hr
   obtain⟨ps,h1,h2,h3⟩:=A7X l (k+1) _ _ K g hk
   refine⟨⟨o,v,eff⟩::ps,by simp[h1],⟨⟨hw,λT2 M2 fl e1 e2 G w a hi he next Q hK=>?_⟩,hq,h2⟩,h3⟩
   have n:=A9c (C:=C) (M:=M2) (w:=w) he hg (run:=True) (skip:=False) (by rw[m T2 e1];trivial)
   rcases n with⟨i,_⟩|⟨_,hf⟩
   .simp only at i|-;rw[Z0e i];left;(refine q T2 M2 fl e1 e2 G w a hi he next Q ?_);rintro v' M3 G' w' x ⟨rfl,rfl⟩ q1 q2 q3 q4;exact hK G' w' x q1 q2 q3 q4
   .exact hf.elim
  have c:(∀T2,(∀s∈o.looksAt ops,T2 s=T s)->∀run skip:Prop,A2F ops o T2 run skip=skip)->A1w C h ops L (k+1) l (T.put o.dst (.val undef)) M K->
   ∃ps:List A5a,ps.map (·.o)=o::l/\B0f C N ops L ps k T M/\K (A4R ps T) (A3b ps M):=by
   intro m hr
   obtain⟨ps,h1,h2,h3⟩:=A7X l (k+1) _ _ K g hr
   refine⟨⟨o,.val undef,.none⟩::ps,by simp[h1],⟨⟨trivial,λT2 M2 fl e1 e2 G w a hi he next Q hK=>?_⟩,λ_ _ _=>rfl,h2⟩,h3⟩
   have n:=A9c (C:=C) (M:=M2) (w:=w) he hg (run:=False) (skip:=True) (by rw[m T2 e1];trivial)
   rcases n with⟨_,hf⟩|⟨i,_⟩
   .exact hf.elim
   .simp only at i|-;rw[Z0d (by simp[i])];exact hK G w undef (.refl _) hi (by simp[Rep]) (.refl _)
  split at hd
  .rename_i hn;exact f (λT2 _ run skip=>by unfold A2F;rw[hn]) hd
  .rename_i j want hs;split at hd;(case h_2=>exact hd.elim);rename_i d hdst;split at hd
   .rename_i b hb;by_cases e:b=want
    .rw[Z0e e]at hd;refine f (λT2 e1 run skip=>?_) hd;rw[B1W e1];unfold A2F;rw[hs];simp only[hdst,hb];rw[Z0e e]
    .rw[Z0d e]at hd;refine c (λT2 e1 run skip=>?_) hd;rw[B1W e1];unfold A2F;rw[hs];simp only[hdst,hb];rw[Z0d e]
   .rename_i vs hb;refine c (λT2 e1 run skip=>?_) hd;rw[B1W e1];unfold A2F;rw[hs];simp only[hdst,hb]
   .exact hd.elim
def C2F(ops:Array Oper):Nat->Nat->Nat->Bool
 |0,_,_=>false
 |fuel+1,j,i=>match ops[i]? with
  |some o=>o.after.any λe=>Region.binds .any e&&(e.on==j||C2F ops fuel j e.on)
  |none=>false
def A5S(ops:Array Oper)(x y:Oper):Bool:=
 (match x.dst with
  |some d=>(y.looksAt ops).contains d||y.dst==some d
  |none=>false)||
 (match y.dst with
  |some d=>(x.looksAt ops).contains d
  |none=>false)
def A6l(c:Nat):Bool:=c==4||c==5
def A8b{c}:A6l c=true<->c=4\/c=5:=by simp[A6l]
def A2h(L:B1D)(j i:Nat):Bool:=
 (L.cls j==2&&L.cls i==2)||(A6l (L.cls j)&&L.cls i==2)||(L.cls j==2&&L.cls i==5)||(L.cls j==1&&L.cls i==2&&L.aff j i)||(L.cls i==1&&L.cls j==2&&L.aff i j)||
 (L.cls j==1&&A6l (L.cls i)&&L.rob j==L.slot i)||(L.cls i==1&&A6l (L.cls j)&&L.rob i==L.slot j)
def A4e(ops:Array Oper)(L:B1D):Bool:=
 (List.range ops.size).all λi=>match ops[i]? with
  |some o=>(o.after.all λe=>!Region.binds .any e||decide (e.on<i))&&(L.cls i !=4||L.fl)&&
   (List.range i).all λj=>match ops[j]? with
    |some x=>(!(A5S ops x o||A2h L j i)||C2F ops ops.size j i)&&(!A6l (L.cls i)||!A6l (L.cls j)||L.slot j !=L.slot i)
    |none=>true
  |none=>true
def D0g(ops:Array Oper)(S:Nat->Bool):Prop:=∀i o,ops[i]?=some o->S i=true->∀e∈o.after.toList,Region.binds .any e=true->S e.on=true
def A7U{ops}{S:Nat->Bool}(hc:D0g ops S):∀(fuel j i:Nat),C2F ops fuel j i=true->(∀o,ops[i]?=some o->∀e∈o.after.toList,Region.binds .any e=true->S e.on=true)->S j=true
 |0,_,_,h,_=>by simp[C2F]at h
 |fuel+1,j,i,h,hp=>by
  simp only[C2F]at h;split at h;case h_2=>simp at h
  rename_i o ho;rw[<-Array.any_toList]at h;obtain⟨e,he,hb⟩:=Z2U.1 h;simp only[Z0f,Z1I,Z3h]at hb;have hs:=hp o ho e he hb.1;rcases hb.2 with h1|h1
  .rw[<-h1];exact hs
  .exact A7U hc fuel j e.on h1 (λo' ho' e' he' hb'=>hc e.on o' ho' hs e' he' hb')
def B2R{T:Env}{d:Option Tmp}{v:AV}{s:Nat}(h:d≠some s):T.put d v s=T s:=by
 cases d with
 |none=>rfl
 |some d=>rw[Env.put_some,Z0d (λe=>h (by rw[e]))]
def A4V(S:Nat->Bool)(s:Nat):∀(ps:List A5a) (k:Nat) (T:Env),(∀j p,ps[j]?=some p->S (k+j)=true->p.o.dst≠some s)->A5L ps k S T s=T s
 |[],k,T,_=>rfl
 |p::ps,k,T,h=>by
  simp only[A5L];rw[A4V S s ps (k+1) _ (λj q hq hs=>h (j+1) q (by simpa using hq) (by rw[show k+(j+1)=k+1+j from by omega];exact hs))];by_cases hs:S k=true
  .rw[Z0e hs];exact B2R (h 0 p rfl hs)
  .rw[Z0d hs]
def B1K(S:Nat->Bool)(s:Nat):∀(ps:List A5a) (k i:Nat) (T:Env),(∀j p,ps[j]?=some p->p.o.dst=some s->(S (k+j)=true<->j<i))->A5L ps k S T s=A4R (ps.take i) T s
 |[],k,i,T,_=>by simp[A5L,A4R]
 |p::ps,k,0,T,h=>by simp only[Z2w,A4R];exact A4V S s (p::ps) k T (λj q hq hs hd=>by have:=(h j q hq hd).1 hs;omega)
 |p::ps,k,i+1,T,h=>by
  simp only[A5L,Z0B,A4R];have step:=B1K S s ps (k+1) i (if S k=true then T.put p.o.dst p.v else T) (λj q hq hd=>by have:=h (j+1) q (by simpa using hq) hd;rw[show k+(j+1)=k+1+j from by omega]at this;rw[this];omega);rw[step];have e0:(if S k=true then T.put p.o.dst p.v else T) s=T.put p.o.dst p.v s:=by
   by_cases hd:p.o.dst=some s
   .have:=(h 0 p rfl hd).2 (by omega);simp only[Z0Z]at this;rw[Z0e this]
   .by_cases hs:S k=true
    .rw[Z0e hs]
    .rw[Z0d hs,B2R hd]
  have a:∀(qs:List A5a) (A B:Env),A s=B s->A4R qs A s=A4R qs B s:=by
   intro qs;induction qs with
   |nil=>intro A B h;exact h
   |cons q qs ih=>
    intro A B h;simp only[A4R];refine ih _ _ ?_;cases q.o.dst with
    |none=>exact h
    |some d=>simp only[Env.put_some];split<;>simp_all
  exact a _ _ _ e0
def B8j(S:Nat->Bool)(i:Nat):∀(ps:List A5a) (k:Nat) (T:Env) (p:A5a),ps[i]?=some p->S (k+i)=false->(∀j q,ps[j]?=some q->i<j->S (k+j)=true->∀s,p.o.dst=some s->q.o.dst≠some s)->
 ∀s,A5L ps k (λx=>if x=k+i then true else S x) T s=(A5L ps k S T).put p.o.dst p.v s
 |[],k,T,p,hp,_,_=>by simp at hp
 |q::ps,k,T,p,hp,hS,hc=>by
  intro s;simp only[A5L];cases i with
  |zero=>
   simp at hp;subst hp;simp only[Z0Z]at hS|-;rw[Z0e (by simp),Z0d (by simp[hS])];have same:∀(rs:List A5a) (m:Nat) (A:Env),k<m->A5L rs m (λx=>if x=k then true else S x) A=A5L rs m S A:=by
    intro rs;induction rs with
    |nil=>intro m A _;rfl
    |cons r rs ih=>intro m A hm;(have a:¬m=k:=by omega);simp only[A5L,Z0d a];exact ih (m+1) _ (by omega)
   rw[same ps (k+1) _ (by omega)];by_cases hs:q.o.dst=some s
   .have un:∀A:Env,A5L ps (k+1) S A s=A s:=λA=>A4V S s ps (k+1) A (λj r hr hsj=>by exact hc (j+1) r (by simpa using hr) (by omega) (by rw[show k+(j+1)=k+1+j from by omega];exact hsj) s hs);rw[un,hs,Env.put_some,Env.put_some,Z0e rfl,Z0e rfl]
   .rw[B2R hs];have b:∀(rs:List A5a) (m:Nat) (A B:Env),A s=B s->A5L rs m S A s=A5L rs m S B s:=by
     intro rs;induction rs with
     |nil=>intro m A B h;exact h
     |cons r rs ih=>
      intro m A B h;simp only[A5L];refine ih _ _ _ ?_;split
      .cases r.o.dst with
       |none=>exact h
       |some d=>simp only[Env.put_some];split<;>simp_all
      .exact h
    exact b ps (k+1) _ _ (B2R hs)
  |succ i=>
   (have a:¬k=k+(i+1):=by omega);simp only[Z0d a]
   have:=B8j S i ps (k+1) (if S k=true then T.put q.o.dst q.v else T) p (by simpa using hp) (by rw[show k+1+i=k+(i+1)from by omega];exact hS) (λj r hr hij hsj=>hc (j+1) r (by simpa using hr) (by omega) (by rw[show k+(j+1)=k+1+j from by omega];exact hsj)) s;rw[show k+(i+1)=k+1+i from by omega];exact this
def B0f.at_{C}{N}{ops}{L}:∀(ps:List A5a) (k:Nat) (T:Env) (M:Mem),B0f C N ops L ps k T M->∀(i:Nat) (p:A5a),ps[i]?=some p->
 D9A C N ops L.fl (L.cls (k+i)) (L.rob (k+i)) (L.slot (k+i)) p.o p.v (A4R (ps.take i) T) (A3b (ps.take i) M) p.eff
 |[],_,_,_,_,i,p,hp=>by simp at hp
 |q::ps,k,T,M,h,0,p,hp=>by simp at hp;subst hp;exact h.1
 |q::ps,k,T,M,h,i+1,p,hp=>by have:=B0f.at_ ps (k+1) _ _ h.2.2 i p (by simpa using hp);rw[show k+(i+1)=k+1+i from by omega];exact this
def A9H(L:B1D):List A5a->Nat->Mem->Prop
 |[],_,_=>True
 |p::ps,k,M=>p.eff.ok L.fl (L.cls k) (L.slot k) M/\C6X L k M (p.eff.app M)/\A9H L ps (k+1) (p.eff.app M)
def B0f.effs{C}{N}{ops}{L}:∀(ps:List A5a) (k:Nat) (T:Env) (M:Mem),B0f C N ops L ps k T M->A9H L ps k M
 |[],_,_,_,_=>trivial
 |p::ps,k,T,M,h=>⟨h.1.1,h.2.1,B0f.effs ps (k+1) _ _ h.2.2⟩
def B7j(S:Nat->Bool):∀(a b:List A5a) (k:Nat) (M:Mem),A4u (a++b) k S M=A4u b (k+a.length) S (A4u a k S M)
 |[],b,k,M=>rfl
 |p::a,b,k,M=>by simp only[Z0V,A4u,Z0x];rw[B7j S a b (k+1),show k+1+a.length=k+(a.length+1)from by omega]
def A9H.append{L}:∀(a b:List A5a) (k:Nat) (M:Mem),A9H L (a++b) k M<->A9H L a k M/\A9H L b (k+a.length) (A3b a M)
 |[],b,k,M=>by simp[A9H,A3b]
 |p::a,b,k,M=>by simp only[Z0V,A9H,Z0x,A3b];rw[A9H.append a b (k+1),show k+1+a.length=k+(a.length+1)from by omega];simp only[and_assoc]
def B4p{S S':Nat->Bool}:∀(a:List A5a) (k:Nat) (M:Mem),(∀j,j<a.length->S (k+j)=S' (k+j))->A4u a k S M=A4u a k S' M
 |[],k,M,_=>rfl
 |p::a,k,M,h=>by simp only[A4u];have h0:=h 0 (by simp);simp only[Z0Z]at h0;rw[h0];exact B4p a (k+1) _ (λj hj=>by have:=h (j+1) (by simpa using hj);rwa[show k+(j+1)=k+1+j from by omega]at this)
def Eff.app_none_of{fl:Bool}{cls a:Nat}{M:Mem}{eff:Eff}(h:eff.ok fl cls a M)(h2:cls≠2)(h4:¬(cls=4\/cls=5)):eff=.none:=by
 cases eff with
 |none=>rfl
 |put s X=>exact absurd h.1 h4
 |mem M1=>exact absurd h.1 h2
def B2V{L:B1D}{S:Nat->Bool}:∀(a:List A5a) (k:Nat) (M:Mem),A9H L a k M->(∀j,j<a.length->L.cls (k+j)=2\/(L.cls (k+j)=4\/L.cls (k+j)=5)->S (k+j)=true)->A4u a k S M=A3b a M
 |[],k,M,_,_=>rfl
 |p::a,k,M,he,h=>by
  simp only[A4u,A3b];have h':∀j,j<a.length->L.cls (k+1+j)=2\/(L.cls (k+1+j)=4\/L.cls (k+1+j)=5)->S (k+1+j)=true:=λj hj hc=>by have:=h (j+1) (by simpa using hj) (by rwa[show k+(j+1)=k+1+j from by omega]);rwa[show k+(j+1)=k+1+j from by omega]at this
  cases hs:S k with
  |true=>rw[Z0e rfl];exact B2V a (k+1) _ he.2.2 h'
  |false=>have hn:p.eff=.none:=Eff.app_none_of he.1 (λe=>by have:=h 0 (by simp) (.inl e);simp only[Z0Z]at this;rw[hs]at this;simp at this) (λe=>by have:=h 0 (by simp) (.inr e);simp only[Z0Z]at this;rw[hs]at this;simp at this);rw[hn];simp only[Eff.app];have b:=he.2.2;rw[hn]at b;exact B2V a (k+1) _ b h'
def A6K:List A5a->Nat->(Nat->Bool)->List (Nat×A0m)
 |[],_,_=>[]
 |p::ps,k,S=>match S k,p.eff with
  |true,.put s X=>(s,X)::A6K ps (k+1) S
  |_,_=>A6K ps (k+1) S
def A7c{L}{S:Nat->Bool}:∀(a:List A5a) (k:Nat) (M0 M:Mem),A9H L a k M0->(∀j,j<a.length->L.cls (k+j)=2->S (k+j)=false)->A4u a k S M=fill M (A6K a k S)
 |[],k,M0,M,_,_=>rfl
 |p::a,k,M0,M,he,h=>by
  simp only[A4u,A6K];have h':∀j,j<a.length->L.cls (k+1+j)=2->S (k+1+j)=false:=λj hj hc=>by have:=h (j+1) (by simpa using hj) (by rwa[show k+(j+1)=k+1+j from by omega]);rwa[show k+(j+1)=k+1+j from by omega]at this
  rw[A7c a (k+1) _ _ he.2.2 h'];cases hs:S k with
  |false=>rfl
  |true=>
   rw[Z0e rfl];cases hf:p.eff with
   |none=>rfl
   |put s X=>rfl
   |mem M1=>have h1:=he.1;rw[hf]at h1;have:=h 0 (by simp) h1.1;simp only[Z0Z]at this;rw[hs]at this;simp at this
def A5Z{L}{S:Nat->Bool}:∀(a:List A5a) (k:Nat) (M0:Mem),A9H L a k M0->∀q∈A6K a k S,∃j,j<a.length/\(L.cls (k+j)=4\/L.cls (k+j)=5)/\q.1=L.slot (k+j)/\S (k+j)=true
 |[],k,M0,_,q,hq=>by simp[A6K]at hq
 |p::a,k,M0,he,q,hq=>by
  have tl:q∈A6K a (k+1) S->∃j,j<(p::a).length/\(L.cls (k+j)=4\/L.cls (k+j)=5)/\q.1=L.slot (k+j)/\S (k+j)=true:=by intro hq;obtain⟨j,h1,h2,h3,h4⟩:=A5Z a (k+1) _ he.2.2 q hq;exact⟨j+1,by simpa using h1,by rwa[show k+(j+1)=k+1+j from by omega],by rwa[show k+(j+1)=k+1+j from by omega],by rwa[show k+(j+1)=k+1+j from by omega]⟩
  simp only[A6K]at hq;split at hq
  .rename_i s X hs hf;rcases Z0s.1 hq with rfl|hq
   .have h1:=he.1;rw[hf]at h1;exact⟨0,by simp,h1.1,h1.2.1,hs⟩
   .exact tl hq
  .exact tl hq
def B4r{L}{S:Nat->Bool}:∀(a:List A5a) (k:Nat) (M0:Mem),A9H L a k M0->(∀j m,j<m->m<a.length->(L.cls (k+j)=4\/L.cls (k+j)=5)->(L.cls (k+m)=4\/L.cls (k+m)=5)->L.slot (k+j)≠L.slot (k+m))->((A6K a k S).map (·.1)).Nodup
 |[],k,M0,_,_=>by simp[A6K]
 |p::a,k,M0,he,h=>by
  have ih:=B4r (S:=S) a (k+1) _ he.2.2 (λj m hj hm h1 h2=>by have:=h (j+1) (m+1) (by omega) (by simpa using hm) (by rwa[show k+(j+1)=k+1+j from by omega]) (by rwa[show k+(m+1)=k+1+m from by omega]);rwa[show k+(j+1)=k+1+j from by omega,show k+(m+1)=k+1+m from by omega]at this);simp only[A6K];split
  .rename_i s X hs hf;simp only[Z0z,Z1q];refine⟨λhm=>?_,ih⟩;obtain⟨q,hq,b⟩:=Z0C.1 hm;obtain⟨j,h1,h2,h3,_⟩:=A5Z a (k+1) _ he.2.2 q hq;have h0:=he.1;rw[hf]at h0;refine h 0 (j+1) (by omega) (by simpa using h1) h0.1 (by rwa[show k+(j+1)=k+1+j from by omega]) ?_;rw[show k+(j+1)=k+1+j from by omega,<-h3,b];exact h0.2.1.symm
  .exact ih
def B9u{L}{s}:∀(a:List A5a) (k:Nat) (M:Mem),A9H L a k M->L.fl=true->(∀j,j<a.length->(L.cls (k+j)=4\/L.cls (k+j)=5)->L.slot (k+j)≠s)->M[s]?=some A4f->(A3b a M)[s]?=some A4f
 |[],k,M,_,_,_,h=>h
 |p::a,k,M,he,hfl,hs,h=>by
  refine B9u a (k+1) _ he.2.2 hfl (λj hj hc=>by have:=hs (j+1) (by simpa using hj) (by rwa[show k+(j+1)=k+1+j from by omega]);rwa[show k+(j+1)=k+1+j from by omega]at this) ?_;have h0:=he.1;cases hf:p.eff with
  |none=>exact h
  |put s' X=>rw[hf]at h0;have:=hs 0 (by simp) h0.1;simp only[Z0Z]at this;simp only[Eff.app];rw[Z0c (by rw[h0.2.1];exact this)];exact h
  |mem M1=>rw[hf]at h0;exact h0.2 hfl s h
def B9F{L}{S:Nat->Bool}{r i}(hr:r=L.rob i)(b:L.cls i=1):∀(a:List A5a) (k:Nat) (A M:Mem),A9H L a k M->(∀j,j<a.length->L.cls (k+j)=2->L.aff i (k+j)=true->S (k+j)=true)->
 (∀j,j<a.length->(L.cls (k+j)=4\/L.cls (k+j)=5)->L.slot (k+j)=r->S (k+j)=true)->A[r]?=M[r]?->(A4u a k S A)[r]?=(A3b a M)[r]?
 |[],k,A,M,_,_,_,h=>h
 |p::a,k,A,M,he,h2,h4,h=>by
  simp only[A4u,A3b];refine B9F hr b a (k+1) _ _ he.2.2 (λj hj hc c=>?_) (λj hj hc hsl=>?_) ?_
  .have:=h2 (j+1) (by simpa using hj) (by rwa[show k+(j+1)=k+1+j from by omega]) (by rwa[show k+(j+1)=k+1+j from by omega]);rwa[show k+(j+1)=k+1+j from by omega]at this
  .have:=h4 (j+1) (by simpa using hj) (by rwa[show k+(j+1)=k+1+j from by omega]) (by rwa[show k+(j+1)=k+1+j from by omega]);rwa[show k+(j+1)=k+1+j from by omega]at this
  .have h0:=he.1;cases hf:p.eff with
   |none=>simp only[Eff.app];split<;>exact h
   |mem M1=>
    rw[hf]at h0;simp only[Eff.app];split
    .rfl
    .rename_i hs;have c:L.aff i k=false:=by
      cases e:L.aff i k with
      |false=>rfl
      |true=>have:=h2 0 (by simp) h0.1 e;exact absurd this hs
     have:=he.2.1 i b c;rw[hf]at this;rw[h,hr];exact this.symm
   |put s X=>
    rw[hf]at h0;simp only[Eff.app];by_cases e:s=r
    .subst e;have hs:=h4 0 (by simp) h0.1 h0.2.1.symm;simp only[Z0Z]at hs;rw[Z0e hs];(have h1:s<M.length:=by rw[h0.2.1];exact h0.2.2);have h3:s<A.length:=A0S (by rw[h];exact Z0l h1);rw[Z2H h1,Z2H h3]
    .rw[Z0c e];split
     .rw[Z0c e];exact h
     .exact h
def C0f{L}{S:Nat->Bool}{r i}(hr:r=L.rob i)(c:L.cls i=1){V}:∀(a:List A5a) (k:Nat) (A M:Mem),A9H L a k M->(∀j,j<a.length->L.cls (k+j)=2->L.aff i (k+j)=true->S (k+j)=false)->
 (∀j,j<a.length->(L.cls (k+j)=4\/L.cls (k+j)=5)->L.slot (k+j)=r->S (k+j)=false)->(∀j m,j<m->m<a.length->(L.cls (k+j)=2\/(L.cls (k+j)=4\/L.cls (k+j)=5))->L.cls (k+m)=2->S (k+m)=true->S (k+j)=true)->
 A[r]?=V->(M[r]?=V\/∀j,j<a.length->L.cls (k+j)=2->S (k+j)=false)->(A4u a k S A)[r]?=V
 |[],k,A,M,_,_,_,_,h,_=>h
 |p::a,k,A,M,he,h2,h4,hp,h,hor=>by
  simp only[A4u];have sh:∀j,k+(j+1)=k+1+j:=λj=>by omega
  have b:(∀j,j<(p::a).length->L.cls (k+j)=2->S (k+j)=false)->∀j,j<a.length->L.cls (k+1+j)=2->S (k+1+j)=false:=λhx j hj hc=>by have:=hx (j+1) (by simpa using hj) (by rw[sh];exact hc);rwa[sh]at this
  have later:(L.cls k=2\/(L.cls k=4\/L.cls k=5))->S k=false->∀j,j<a.length->L.cls (k+1+j)=2->S (k+1+j)=false:=λhc hs j hj hcj=>by
   cases e:S (k+1+j)with
   |false=>rfl
   |true=>have:=hp 0 (j+1) (by omega) (by simpa using hj) (by simpa using hc) (by rw[sh];exact hcj) (by rw[sh];exact e);simp only[Z0Z]at this;rw[hs]at this;simp at this
  have go:∀A',A'[r]?=V->((p.eff.app M)[r]?=V\/∀j,j<a.length->L.cls (k+1+j)=2->S (k+1+j)=false)->(A4u a (k+1) S A')[r]?=V:=λA' hA ho=>
   C0f hr c a (k+1) _ _ he.2.2 (λj hj hc haf=>by
    have:=h2 (j+1) (by simpa using hj) (by rw[sh];exact hc) (by rw[sh];exact haf);rwa[sh]at this) (λj hj hc hsl=>by
    have:=h4 (j+1) (by simpa using hj) (by rw[sh];exact hc) (by rw[sh];exact hsl);rwa[sh]at this) (λj m hj hm h1 h3 h5=>by
    have:=hp (j+1) (m+1) (by omega) (by simpa using hm) (by rw[sh];exact h1) (by rw[sh];exact h3) (by rw[sh];exact h5);rwa[sh]at this) hA ho
  have h0:=he.1;cases hf:p.eff with
  |none=>
   (have g:(if S k=true then Eff.none.app A else A)=A:=by simp[Eff.app]);rw[g]
   refine go A h ?_;rw[hf];exact hor.imp id b
  |mem M1=>
   rw[hf]at h0;have hq:=he.2.1;rw[hf]at hq;simp only[Eff.app]at hq|-;by_cases haf:L.aff i k=true
   .have hs:=h2 0 (by simp) h0.1 haf;simp only[Z0Z]at hs;rw[Z0d (by simp[hs])];exact go A h (.inr (later (.inl h0.1) hs))
   ·(have d:L.aff i k=false:=by simpa using haf);have e:=hq i c d
    rw[<-hr]at e;cases hs:S k with
    |true=>
     rw[Z0e rfl];have hM:M[r]?=V:=by
      rcases hor with hh|hh
      .exact hh
      .have:=hh 0 (by simp) h0.1;simp only[Z0Z]at this;rw[hs]at this;simp at this
     refine go M1 (by rw[e];exact hM) (.inl ?_);rw[hf];simp only[Eff.app];rw[e];exact hM
    |false=>rw[Z0d (by simp)];exact go A h (.inr (later (.inl h0.1) hs))
  |put s X=>
   rw[hf]at h0;simp only[Eff.app];by_cases e:s=r
   .subst e;have hs:=h4 0 (by simp) h0.1 h0.2.1.symm;simp only[Z0Z]at hs;rw[Z0d (by simp[hs])];exact go A h (.inr (later (.inr h0.1) hs))
   .have f:(if S k=true then A.set s X else A)[r]?=V:=by
     split
     .rw[Z0c e];exact h
     .exact h
    refine go _ f ?_;rw[hf];simp only[Eff.app];rw[Z0c e];exact hor.imp id b
def B8T{L}{S:Nat->Bool}{s}:∀(a:List A5a) (k:Nat) (A M:Mem),A9H L a k M->L.fl=true->(∀j,j<a.length->(L.cls (k+j)=4\/L.cls (k+j)=5)->L.slot (k+j)≠s)->M[s]?=some A4f->A[s]?=some A4f->(A4u a k S A)[s]?=some A4f
 |[],k,A,M,_,_,_,_,h=>h
 |p::a,k,A,M,he,hfl,hs,hM,hA=>by
  have sh:∀j,k+(j+1)=k+1+j:=λj=>by omega
  have h0:=he.1;have b:(p.eff.app M)[s]?=some A4f:=by
   cases hf:p.eff with
   |none=>exact hM
   |mem M1=>rw[hf]at h0;exact h0.2 hfl s hM
   |put s' X=>rw[hf]at h0;simp only[Eff.app];have:=hs 0 (by simp) h0.1;simp only[Z0Z]at this;rw[Z0c (by rw[h0.2.1];exact this)];exact hM
  simp only[A4u];refine B8T a (k+1) _ _ he.2.2 hfl (λj hj hc=>by have:=hs (j+1) (by simpa using hj) (by rw[sh];exact hc);rwa[sh]at this) b ?_;split
  .cases hf:p.eff with
   |none=>exact hA
   |mem M1=>rw[hf]at b;exact b
   |put s' X=>rw[hf]at h0;simp only[Eff.app];have:=hs 0 (by simp) h0.1;simp only[Z0Z]at this;rw[Z0c (by rw[h0.2.1];exact this)];exact hA
  .exact hA
def B9Q{L}{S:Nat->Bool}{s}:∀(a:List A5a) (k:Nat) (A M:Mem),A9H L a k M->(∀j,j<a.length->L.cls (k+j)=2->S (k+j)=true)->(∀j,j<a.length->(L.cls (k+j)=4\/L.cls (k+j)=5)->L.slot (k+j)≠s)->
 A[s]?=M[s]?->(A4u a k S A)[s]?=(A3b a M)[s]?
 |[],k,A,M,_,_,_,h=>h
 |p::a,k,A,M,he,h2,hs,h=>by
  have sh:∀j,k+(j+1)=k+1+j:=λj=>by omega
  have h0:=he.1;simp only[A4u,A3b];refine B9Q a (k+1) _ _ he.2.2 (λj hj hc=>by
   have:=h2 (j+1) (by simpa using hj) (by rw[sh];exact hc);rwa[sh]at this) (λj hj hc=>by
   have:=hs (j+1) (by simpa using hj) (by rw[sh];exact hc);rwa[sh]at this) ?_
  cases hf:p.eff with
  |none=>simp only[Eff.app];split<;>exact h
  |mem M1=>rw[hf]at h0;have:=h2 0 (by simp) h0.1;simp only[Z0Z]at this;rw[Z0e this];rfl
  |put s' X=>
   rw[hf]at h0;have:=hs 0 (by simp) h0.1;simp only[Z0Z]at this;(have b:s'≠s:=by rw[h0.2.1];exact this);simp only[Eff.app];split
   .rw[Z0c b,Z0c b];exact h
   .rw[Z0c b];exact h
def B8Z{s}:∀(l:List (Nat×A0m)) (M:Mem),(∀q∈l,q.1≠s)->(fill M l)[s]?=M[s]?
 |[],M,_=>rfl
 |q::l,M,h=>by simp only[fill,Z3l];have:=B8Z l (M.set q.1 q.2) (λq' hq'=>h q' (Z1v _ hq'));simp only[fill]at this;rw[this,Z0c (h q Z3q)]
def C4W{s}{X}:∀(l:List (Nat×A0m)) (M:Mem),(∀q∈l,q.1≠s)->fill (M.set s X) l=(fill M l).set s X
 |[],M,_=>rfl
 |q::l,M,h=>by simp only[fill,Z3l];have:=C4W (s:=s) (X:=X) l (M.set q.1 q.2) (λq' hq'=>h q' (Z1v _ hq'));simp only[fill]at this;rw[List.set_comm _ _ (h q Z3q).symm,this]
def A4D{ops}{L}(h:A4e ops L=true){i}{o}(ho:ops[i]?=some o):(∀e∈o.after.toList,Region.binds .any e=true->e.on<i)/\(L.cls i=4->L.fl=true)/\∀j x,j<i->ops[j]?=some x->((A5S ops x o=true\/A2h L j i=true)->C2F ops ops.size j i=true)/\((L.cls i=4\/L.cls i=5)->(L.cls j=4\/L.cls j=5)->L.slot j≠L.slot i):=by
 have hi:i<ops.size:=(Z2a.1 ho).1
 have h1:=Z0p.1 h i (Z1o.2 hi)
 rw[ho]at h1
 simp only[Z0f]at h1
 obtain⟨⟨h1,h2⟩,h3⟩:=h1
 refine⟨λe he hb=>?_,λhc=>?_,λj x hj hx=>?_⟩
 .rw[<-Z4d]at h1;have:=Z0p.1 h1 e he;simp only[hb,Z2t,Z1J,Z0k]at this;exact this
 .simp only[hc,bne_self_eq_false,Z1J]at h2;exact h2
 .have h4:=Z0p.1 h3 j (Z1o.2 hj);rw[hx]at h4;simp only[Z0f,Z1I,Z2E,Z1Y]at h4;obtain⟨h5,h6⟩:=h4;refine⟨λhc=>?_,λa b=>?_⟩
  .rcases h5 with h|h
   .rcases hc with hc|hc
    .rw[h.1]at hc;simp at hc
    .rw[h.2]at hc;simp at hc
   .exact h
  .rcases h6 with(h|h)|h
   .rw[A8b.2 a]at h;simp at h
   .rw[A8b.2 b]at h;simp at h
   .simpa using h
def C0m(L:B1D)(n:Nat)(M:Mem):Prop:=∀k,k<n->L.cls k=4->M[L.slot k]?=some A4f
def C2i{C:Ctx}{N:Nat}{ops:Array Oper}{L:B1D}(af:A4e ops L=true){ps:List A5a}(b3:ps.map (·.o)=ops.toList){T:Env}{M:Mem}(b4:B0f C N ops L ps 0 T M)(al:C0m L ops.size M){Q:Exit->Act->World->Prop}
 {G0:A0o}{w0:World}(hQ:∀G w a,G0.le G->Ext w0 w->Inv C G (A3b ps M) w->A1R G N (A4R ps T) a->Q .normal a w):
 ∀(fuel:Nat) (b:Array Bool) (G:A0o) (w:World) (a:Act),b.size=ops.size->((List.range ops.size).filter λi=>!b.getD i true).length<=fuel->D0g ops (λi=>b.getD i false)->G0.le G->Ext w0 w->Inv C G (A4u ps 0 (λi=>b.getD i false) M) w->A1R G N (A5L ps 0 (λi=>b.getD i false) T) a->wpAny C.P .any ops Q fuel b a w:=by
 have ap:=B0f.effs ps 0 T M b4
 have bm:ps.length=ops.size:=by have:=congrArg List.length b3;simpa using this
 have ar:∀(i:Nat) (p:A5a),ps[i]?=some p->ops[i]?=some p.o:=by
  intro i p hp;have:(ps.map (·.o))[i]?=some p.o:=by simp[hp]
  rw[b3]at this;simpa using this
 have b2:∀(i:Nat) (o:Oper),ops[i]?=some o->∃p:A5a,ps[i]?=some p/\p.o=o:=by
  intro i o ho;have:(ps.map (·.o))[i]?=some o:=by rw[b3];simpa using ho
  simpa using this
 have done:∀(b:Array Bool),b.size=ops.size->Region.ready .any ops b=[]->∀i,i<ops.size->b.getD i false=true:=by
  intro b a7 hr i;induction i using Nat.strongRecOn with
  |_ i ih=>
   intro hi;cases hl:b.getD i false with
   |true=>rfl
   |false=>
    exfalso;obtain⟨o,ho⟩:∃o,ops[i]?=some o:=⟨ops[i],Z0Q hi⟩;have az:i∈Region.ready .any ops b:=by
     unfold Region.ready;refine Z1p.2 ⟨Z1o.2 hi,?_⟩;have bk:b.getD i true=false:=by
      (have h1:i<b.size:=by omega);simp[Array.getD,h1]at hl|-
      exact hl
     rw[bk,ho];simp only[Z2i,Z0L,Z1C,Z1w];rw[<-Z4d];refine Z0p.2 (λe he=>?_);by_cases hb:Region.binds .any e=true
     .have bi:=(A4D af ho).1 e he hb;simp[ih e.on bi (by omega)]
     .simp[hb]
    rw[hr]at az;simp at az
 have fin:∀(b:Array Bool) (G:A0o) (w:World) (a:Act),b.size=ops.size->Region.ready .any ops b=[]->G0.le G->Ext w0 w->Inv C G (A4u ps 0 (λi=>b.getD i false) M) w->A1R G N (A5L ps 0 (λi=>b.getD i false) T) a->Q .normal a w:=by
  intro b G w a a7 hr ag a3 hi he;have ay:=done b a7 hr;have e1:A4u ps 0 (λi=>b.getD i false) M=A3b ps M:=B2V ps 0 M ap (λj hj _=>by simp only[Z0N];exact ay j (by omega));have e2:∀s,A5L ps 0 (λi=>b.getD i false) T s=A4R ps T s:=by intro s;have:=B1K (λi=>b.getD i false) s ps 0 ps.length T (λj p hp _=>by have hj:=A0S hp;simp only[Z0N];exact⟨λ_=>hj,λ_=>ay j (by omega)⟩);simpa using this
  rw[e1]at hi;exact hQ G w a ag a3 hi ⟨he.defers,he.size,λi hi'=>by rw[<-e2 i];exact he.at_ i hi'⟩
 intro fuel
 induction fuel with
 |zero=>
  intro b G w a a7 ab aa ag a3 hi he
  simp only[wpAny]
  have aj:Region.ready .any ops b=[]:=by unfold Region.ready;refine Z3b.2 (λi hi'=>?_);have hz:=Z0y (Nat.le_zero.1 ab);have:=Z3b.1 hz i hi';intro hc;simp only[Z0f]at hc;exact this hc.1
  exact⟨aj,fin b G w a a7 aj ag a3 hi he⟩
 |succ fuel ih=>
  intro b G w a a7 ab aa ag a3 hi he
  simp only[wpAny]
  refine⟨λhr=>fin b G w a a7 hr ag a3 hi he,λi hir=>?_⟩
  unfold Region.ready at hir
  obtain⟨ad,a8⟩:=Z1p.1 hir
  have a0:=Z1o.1 ad
  obtain⟨o,ho⟩:∃o,ops[i]?=some o:=⟨ops[i],Z0Q a0⟩
  rw[ho]at a8
  simp only[Z1C,Z1w,Z0f]at a8
  obtain⟨bc,av⟩:=a8
  have aq:i<b.size:=by omega
  have a5:b.getD i false=false:=by simpa[Array.getD,aq]using bc
  obtain⟨p,hp,ah⟩:=b2 i o ho
  have ax:i<ps.length:=A0S hp
  have ac:∀o',ops[i]?=some o'->∀e∈o'.after.toList,Region.binds .any e=true->b.getD e.on false=true:=by intro o' z e a6 hb;rw[ho]at z;simp at z;subst z;rw[<-Z4d]at av;have:=Z0p.1 av e a6;simpa[hb]using this
  have c:∀j,j<ops.size->∃x,ops[j]?=some x:=λj hj=>⟨ops[j],Z0Q hj⟩
  have u:∀(j:Nat) (x:Oper),ops[j]?=some x->j<i->(A5S ops x o=true\/A2h L j i=true)->b.getD j false=true:=λj x hx hj hc=>A7U aa _ _ _ (((A4D af ho).2.2 j x hj hx).1 hc) ac
  have ba:∀(j m:Nat),j<m->m<ops.size->A2h L j m=true->b.getD m false=true->b.getD j false=true:=λj m hjm hm hc hs=>by obtain⟨x,hx⟩:=c j (by omega);obtain⟨y,hy⟩:=c m hm;exact A7U aa _ _ _ (((A4D af hy).2.2 j x hjm hx).1 (.inr hc)) (λo' z e a6 hb=>aa m o' z hs e a6 hb)
  have f:∀(j:Nat) (x:Oper),ops[j]?=some x->i<j->(A5S ops o x=true\/A2h L i j=true)->b.getD j false=false:=λj x hx hj hc=>by
   cases hs:b.getD j false with
   |false=>rfl
   |true=>have:=A7U aa _ _ _ (((A4D af hx).2.2 i o hj ho).1 hc) (λo' z e a6 hb=>aa j o' z hs e a6 hb);rw[a5]at this;simp at this
  have ak:∀x y,A5S ops x y=true->A5S ops y x=true:=by
   intro x y h;unfold A5S at h|-;cases hxd:x.dst with
   |none=>
    cases hyd:y.dst with
    |none=>rw[hxd,hyd]at h;simp at h
    |some d=>rw[hxd,hyd]at h;simp at h|-;simp[h]
   |some d=>
    cases hyd:y.dst with
    |none=>rw[hxd,hyd]at h;simp at h|-;exact h
    |some d'=>
     rw[hxd,hyd]at h;simp at h|-;rcases h with(h|h)|h
     .simp[h]
     .simp[h]
     .simp[h]
  have au:∀(j:Nat) (x:Oper),ops[j]?=some x->j≠i->A5S ops x o=true->(b.getD j false=true<->j<i):=by
   intro j x hx bf hc;constructor
   .intro hj;rcases Nat.lt_or_gt_of_ne bf with h|h
    .exact h
    .rw[f j x hx h (.inl (ak _ _ hc))]at hj;simp at hj
   .intro hj;exact u j x hx hj (.inl hc)
  have b8:=B0f.at_ ps 0 T M b4 i p hp
  simp only[Z0N]at b8
  have b0:∀s∈p.o.looksAt ops,A5L ps 0 (λi=>b.getD i false) T s=A4R (ps.take i) T s:=by
   intro s hs;refine B1K _ s ps 0 i T (λj q hq hd=>?_);simp only[Z0N];by_cases e:j=i
   .subst e;simp[a5]
   .refine au j q.o (ar j q hq) e ?_;unfold A5S;rw[hd];rw[<-ah];simp[hs]
  have ae:ps=ps.take i++p::ps.drop (i+1):=by(have h1:ps.drop i=p::ps.drop (i+1):=by rw[Z0j ax];congr 1;rw[Z0l ax]at hp;simpa using hp);rw[<-h1,Z1b]
  have bd:(ps.take i).length=i:=by rw[Z0D];omega
  have bq:(ps.drop (i+1)).length=ps.length-(i+1):=Z1c ..
  have b1:A9H L (ps.take i) 0 M/\p.eff.ok L.fl (L.cls i) (L.slot i) (A3b (ps.take i) M)/\C6X L i (A3b (ps.take i) M) (p.eff.app (A3b (ps.take i) M))/\A9H L (ps.drop (i+1)) (i+1) (p.eff.app (A3b (ps.take i) M)):=by have h1:=ap;rw[ae,A9H.append,bd,Z0N]at h1;exact h1
  obtain⟨an,a9,bo,n⟩:=b1
  have t:∀S:Nat->Bool,A4u ps 0 S M=A4u (ps.drop (i+1)) (i+1) S (if S i=true then p.eff.app (A4u (ps.take i) 0 S M)else A4u (ps.take i) 0 S M):=by intro S;rw[show A4u ps 0 S M=A4u (ps.take i++p::ps.drop (i+1)) 0 S M from by rw[<-ae],B7j,bd,Z0N];rfl
  have g:∀j k,j<k->k<ops.size->(L.cls j=4\/L.cls j=5)->(L.cls k=4\/L.cls k=5)->L.slot j≠L.slot k:=λj k hjk hk h1 h2=>by obtain⟨x,hx⟩:=c j (by omega);obtain⟨y,hy⟩:=c k hk;exact((A4D af hy).2.2 j x hjk hx).2 h2 h1
  have ai:∀k,k<ops.size->L.cls k=4->L.fl=true:=λk hk hc=>by obtain⟨y,hy⟩:=c k hk;exact(A4D af hy).2.1 hc
  have am:∀k,i<=k->k<ops.size->L.cls k=4->(A3b (ps.take i) M)[L.slot k]?=some A4f:=λk hik hk hc=>B9u (ps.take i) 0 M an (ai k hk hc) (λj hj h4=>by simp only[Z0N]at h4|-;exact g j k (by omega) hk h4 (.inl hc)) (al k hk hc)
  have sh:∀j,i+1+j=i+(j+1):=λj=>by omega
  have w2:L.cls i=2->(∀j,j<(ps.take i).length->L.cls (0+j)=2\/(L.cls (0+j)=4\/L.cls (0+j)=5)->b.getD (0+j) false=true)/\(∀j,j<(ps.drop (i+1)).length->L.cls (i+1+j)=2->b.getD (i+1+j) false=false):=by
   intro hc;refine⟨λj hj h=>?_,λj hj h=>?_⟩
   .simp only[Z0N]at h|-;obtain⟨x,hx⟩:=c j (by omega);exact u j x hx (by omega) (.inr (by unfold A2h;rcases h with h|h|h<;>simp[h,hc,A6l]))
   .obtain⟨x,hx⟩:=c (i+1+j) (by omega);exact f _ x hx (by omega) (.inr (by unfold A2h;simp[h,hc]))
  have ao:B8p L.fl (L.cls i) (L.rob i) (L.slot i) (A3b (ps.take i) M) (A4u ps 0 (λi=>b.getD i false) M) (A6K (ps.drop (i+1)) (i+1) (λi=>b.getD i false)):=by
   refine⟨λhc=>?_,λhc=>⟨?_,⟨λq hq=>?_,?_⟩,λbj=>?_⟩,λhc=>?_,λhc=>?_⟩
   .rw[t];simp only[a5,Z0H,Z1i];have h1:=B9F (S:=λi=>b.getD i false) (r:=L.rob i) rfl hc (ps.take i) 0 M M an (λj hj h2 haf=>by
     simp only[Z0N]at h2 haf|-;obtain⟨x,hx⟩:=c j (by omega);exact u j x hx (by omega) (.inr (by unfold A2h;simp[h2,hc,haf]))) (λj hj h4 hsl=>by
     simp only[Z0N]at h4 hsl|-;obtain⟨x,hx⟩:=c j (by omega);exact u j x hx (by omega) (.inr (by unfold A2h;rcases h4 with h4|h4<;>simp[h4,hc,hsl,A6l]))) rfl
    have bh:p.eff=.none:=Eff.app_none_of a9 (by omega) (by omega);refine C0f (S:=λi=>b.getD i false) (r:=L.rob i) (i:=i) rfl hc (ps.drop (i+1)) (i+1) _ _ n (λj hj h2 haf=>?_) (λj hj h4 hsl=>?_) (λj m hjm hm h2 h3 hs=>?_) h1 (.inl ?_)
    .obtain⟨x,hx⟩:=c (i+1+j) (by omega);exact f _ x hx (by omega) (.inr (by unfold A2h;simp[h2,hc,haf]))
    .obtain⟨x,hx⟩:=c (i+1+j) (by omega);exact f _ x hx (by omega) (.inr (by unfold A2h;rcases h4 with h4|h4<;>simp[h4,hc,hsl,A6l]))
    .exact ba (i+1+j) (i+1+m) (by omega) (by omega) (by unfold A2h;rcases h2 with h|h|h<;>simp[h,h3,A6l]) hs
    .rw[bh];rfl
   .rw[t];simp only[a5,Z0H,Z1i];rw[B2V (ps.take i) 0 M an (w2 hc).1];exact A7c _ _ _ _ n (w2 hc).2
   .obtain⟨j,h1,h2,h3,h5⟩:=A5Z _ _ _ n q hq;rw[h3];rcases h2 with h2|h2
    .exact am (i+1+j) (by omega) (by omega) h2
    .obtain⟨x,hx⟩:=c (i+1+j) (by omega);have:=f _ x hx (by omega) (.inr (by unfold A2h;simp[h2,hc]));rw[this]at h5;simp at h5
   .exact B4r _ _ _ n (λj m hjm hm h1 h2=>g _ _ (by omega) (by omega) h1 h2)
   .cases hl:A6K (ps.drop (i+1)) (i+1) (λi=>b.getD i false)with
    |nil=>rfl
    |cons q l=>
     obtain⟨j,h1,h2,h3,h5⟩:=A5Z (S:=λi=>b.getD i false) _ _ _ n q (by rw[hl];exact Z3q);rcases h2 with h2|h2
     .have:=ai (i+1+j) (by omega) h2;rw[bj]at this;simp at this
     .obtain⟨x,hx⟩:=c (i+1+j) (by omega);have:=f _ x hx (by omega) (.inr (by unfold A2h;simp[h2,hc]));rw[this]at h5;simp at h5
   .rw[t];simp only[a5,Z0H,Z1i];have h1:(A4u (ps.take i) 0 (λi=>b.getD i false) M)[L.slot i]?=some A4f:=B8T (ps.take i) 0 M M an (ai i a0 hc) (λj hj h4=>by simp only[Z0N]at h4|-;exact g j i (by omega) a0 h4 (.inl hc)) (al i a0 hc) (al i a0 hc);rw[A7c _ _ _ _ n (λj hj h2=>by obtain⟨x,hx⟩:=c (i+1+j) (by omega);exact f _ x hx (by omega) (.inr (by unfold A2h;simp[h2,hc,A6l])))];rw[B8Z _ _ (λq hq=>by obtain⟨j,h1,h2,h3,_⟩:=A5Z _ _ _ n q hq;rw[h3];exact(g i (i+1+j) (by omega) (by omega) (.inl hc) h2).symm)];exact h1
   .rw[t];simp only[a5,Z0H,Z1i];have h1:(A4u (ps.take i) 0 (λi=>b.getD i false) M)[L.slot i]?=(A3b (ps.take i) M)[L.slot i]?:=
     B9Q (ps.take i) 0 M M an (λj hj h2=>by
      simp only[Z0N]at h2|-;obtain⟨x,hx⟩:=c j (by omega);exact u j x hx (by omega) (.inr (by unfold A2h;simp[h2,hc]))) (λj hj h4=>by
      simp only[Z0N]at h4|-;exact g j i (by omega) a0 h4 (.inr hc)) rfl
    rw[A7c _ _ _ _ n (λj hj h2=>by obtain⟨x,hx⟩:=c (i+1+j) (by omega);exact f _ x hx (by omega) (.inr (by unfold A2h;simp[h2,hc,A6l])))];rw[B8Z _ _ (λq hq=>by obtain⟨j,h1,h2,h3,_⟩:=A5Z _ _ _ n q hq;rw[h3];exact(g i (i+1+j) (by omega) (by omega) (.inr hc) h2).symm)];exact h1
  have bg:A4u ps 0 (λx=>if x=i then true else b.getD x false) M=p.eff.appF (A6K (ps.drop (i+1)) (i+1) (λi=>b.getD i false)) (A4u ps 0 (λi=>b.getD i false) M):=by
   have a1:A4u (ps.take i) 0 (λx=>if x=i then true else b.getD x false) M=A4u (ps.take i) 0 (λi=>b.getD i false) M:=B4p _ _ _ (λj hj=>by simp only[Z0N];rw[Z0d (by omega)]);have a2:∀A,A4u (ps.drop (i+1)) (i+1) (λx=>if x=i then true else b.getD x false) A=A4u (ps.drop (i+1)) (i+1) (λi=>b.getD i false) A:=λA=>B4p _ _ _ (λj hj=>by rw[Z0d (by omega)]);rw[t,t,a1,a2];simp only[Z0T,a5,Z0H,Z1i];cases hf:p.eff with
   |none=>rfl
   |mem M1=>rw[hf]at a9;simp only[Eff.app,Eff.appF];exact A7c _ _ _ _ n (w2 a9.1).2
   |put s X=>rw[hf]at a9;(have aw:∀j,j<(ps.drop (i+1)).length->L.cls (i+1+j)=2->b.getD (i+1+j) false=false:=λj hj h2=>by obtain⟨x,hx⟩:=c (i+1+j) (by omega);exact f _ x hx (by omega) (.inr (by unfold A2h;rcases a9.1 with h|h<;>simp[h2,h,A6l])));simp only[Eff.app,Eff.appF];rw[A7c _ _ _ _ n aw,A7c _ _ _ _ n aw];exact C4W _ _ (λq hq=>by obtain⟨j,h1,h2,h3,_⟩:=A5Z _ _ _ n q hq;rw[h3,a9.2.1];exact(g i (i+1+j) (by omega) (by omega) a9.1 h2).symm)
  unfold wpOp
  rw[ho]
  simp only
  have be:=b8.2 _ _ _ b0 ao G w a hi he (wpAny C.P .any ops Q fuel (b.setIfInBounds i true)) Q ?_
  .rw[ah]at be;exact be
  .intro G' w' x h1 h2 h3 h4;rw[ah];have bb:∀j,(b.setIfInBounds i true).getD j false=if j=i then true else b.getD j false:=by
    intro j;by_cases e:j=i
    .subst e;simp[Array.getD,aq]
    .have e':i≠j:=λh=>e h.symm;rw[Z0d e];by_cases hj:j<b.size
     .simp[Array.getD,hj,e']
     .simp[Array.getD,hj]
   have b9:(λj=>(b.setIfInBounds i true).getD j false)=λj=>if j=i then true else b.getD j false:=funext bb;refine ih _ G' w' _ (by simpa using a7) ?_ ?_ (ag.trans h1) (a3.trans h4) ?_ ?_
   ·-- one fewer is open
    have bn:((List.range ops.size).filter λj=>!(b.setIfInBounds i true).getD j true).length<((List.range ops.size).filter λj=>!b.getD j true).length:=by
     have b6:((List.range ops.size).filter λj=>!(b.setIfInBounds i true).getD j true)=(((List.range ops.size).filter λj=>!b.getD j true).filter λj=>j !=i):=by
      rw[List.filter_filter];refine List.filter_congr (λj hj=>?_);have bp:=Z1o.1 hj;(have b7:j<b.size:=by omega);by_cases e:j=i
      .subst e;simp[Array.getD,b7]
      .have e':i≠j:=λh=>e h.symm;simp[Array.getD,b7,e,e']
     rw[b6];refine List.length_filter_lt_length_iff_exists.2 ⟨i,?_,by simp⟩;exact Z1p.2 ⟨ad,bc⟩
    omega
   ·-- still D0g
    intro k o' z hk e a6 hb;simp only[bb]at hk|-;by_cases ek:k=i
    .subst ek;rw[ac o' z e a6 hb];simp
    .rw[Z0d ek]at hk;have:=aa k o' z hk e a6 hb;simp only at this;rw[this];simp
   .rw[b9,bg];exact h2
   .have a4:A1R G' N ((A5L ps 0 (λi=>b.getD i false) T).put p.o.dst p.v) (a.put p.o.dst x):=(he.mono h1).put h3;rw[ah]at a4;refine⟨a4.defers,a4.size,λs hs=>?_⟩;have b5:=B8j (λi=>b.getD i false) i ps 0 T p hp (by simpa using a5) (λj q hq hij hsj s hd hqd=>by simp only[Z0N]at hsj;have:=(au j q.o (ar j q hq) (by omega) (by unfold A5S;rw[hqd,<-ah,hd];simp)).1 hsj;omega) s;simp only[Z0N]at b5;rw[b9,b5,ah];exact a4.at_ s hs
def A9J{C:Ctx}{N:Nat}{h:A2u}{id:Nat}{ops:Array Oper}{Q:Exit->Env->Mem->Prop}{T:Env}{M:Mem}(b:C.P.follows .mixedOrders=true)(L:B1D)(f:A1P N ops ops.toList=true)(g:A4e ops L=true)(d:C0m L ops.size M) (hr:A1w C h ops L 0 ops.toList T M (λT M=>Q .normal T M)):AWp C N (.region id ops true) Q T M:=by
 intro G w a hi he
 obtain⟨ps,h1,h2,h3⟩:=A7X ops.toList 0 T M _ f hr
 refine wp_region_any b ?_
 have e0:∀j,(Array.replicate ops.size false).getD j false=false:=λj=>by simp[Array.getD]
 have c:(λj=>(Array.replicate ops.size false).getD j false)=λ_=>false:=funext e0
 have e:∀(a:List A5a) (k:Nat) (M:Mem),A4u a k (λ_=>false) M=M:=by
  intro a;induction a with
  |nil=>intro k M;rfl
  |cons p a ih=>intro k M;simp only[A4u,Z0H,Z1i];exact ih _ _
 refine C2i g h1 h2 d (G0:=G) (w0:=w) ?_ ops.size (Array.replicate ops.size false) G _ a (by simp) (by have:=Z1V (λi=>!(Array.replicate ops.size false).getD i true) (List.range ops.size);simpa using this) (λi o _ hs=>by simp only[e0]at hs;exact Bool.noConfusion hs) (.refl _) ⟨rfl,rfl,rfl,Z0n _⟩ ?_ ?_
 .intro G' w' a' q1 q2 q3 q4;exact⟨_,_,G',h3,q1,q3,q4,q2⟩
 .rw[c,e];exact hi.world rfl
 .refine⟨he.defers,he.size,λs hs=>?_⟩;rw[c,A4V _ s ps 0 T (λj p _ h=>by simp at h)];exact he.at_ s hs
def Inv.reserve1{C}{G}{M}{w}(hi:Inv C G M w):∃G',G.le G'/\Inv C G' (M++[A4f]) w:=by
 have hm:=hi.more w.heap.size (λ_=>(none,0)) 0;have hk:(M++[A0m.gone])[M.length]?=some .gone:=by simp
 have ht:(G.more w.heap.size (λ_=>(none,0)) 0).top M.length=0:=by simp[A0o.more,hi.n]
 have c:∀i,(G.more w.heap.size (λ_=>(none,0)) 0).st w.heap.size i=none:=by
  intro i;cases h:G.st w.heap.size i with
  |none=>exact h
  |some v=>have:=hi.st_lt h;omega
 have a:(G.more w.heap.size (λ_=>(none,0)) 0).keep w.heap.size=none:=by
  cases h:G.keep w.heap.size with
  |none=>exact h
  |some v=>have:=hi.keep_lt h;omega
 have:=hm.step (w':=w) (o':=A4f) M.length w.heap.size hk (.inr (Z0n _)) (.refl _) rfl (λ_=>rfl) (λ_ _=>⟨rfl,rfl⟩) (λ_ _ _ h=>.inl h) (λ_=>rfl)
  (λb hlt _=>rfl) (λi v h=>by rw[c]at h;simp at h) (λo h=>by rw[a]at h;simp at h)
  ⟨ht,λ_ _ h=>by simp at h,λ_ _ _ _ _ _ _ _ h=>by simp at h⟩ (λb ⟨_,_,_,h,_⟩=>by simp at h)
 exact⟨_,G.le_more w.heap.size (λ_=>(none,0)) 0,by simpa using this⟩
def Inv.reserve{C}:∀(n:Nat) {G:A0o} {M:Mem} {w:World},Inv C G M w->∃G',G.le G'/\Inv C G' (M++List.replicate n A4f) w
 |0,G,M,w,hi=>⟨G,.refl _,by simpa using hi⟩
 |n+1,G,M,w,hi=>by obtain⟨G1,h1,h2⟩:=hi.reserve1;obtain⟨G2,h3,h4⟩:=Inv.reserve n h2;refine⟨G2,h1.trans h3,?_⟩;rw[Z0F]at h4;exact h4
def C7W{C}{N}{c}{Q:Exit->Env->Mem->Prop}{T}{M}(n:Nat)(h:AWp C N c Q T (M++List.replicate n A4f)):AWp C N c Q T M:=by intro G w a hi he;obtain⟨G',h1,h2⟩:=hi.reserve n;exact Z4q (h G' w a h2 (he.mono h1)) λ_ _ _ l=>B1E.mono h1 (.refl _) l
end Go.Abs
