/- The texts AbsW, AbsW2. -/
import Derived.Test.YtmpdkagfplajjaaGreatDoorAG14
import Derived.KernelRfl
set_option linter.all false
namespace Go.Abs
section
universe u
structure Tag {α:Sort u} (a:α):Type where
def A1k{α:Type}(o:Option α)(f:α->Prop)(_:Tag f):Prop:=A0N o f
@[simp] def B3I{α:Type}{v}{f:α->Prop}{t}:A1k (some v) f t=f v:=rfl
@[simp] def D5J{α:Type}{f:α->Prop}{t}:A1k none f t=False:=rfl
@[simp] def D8c{α:Type}{c:Prop}[Decidable c]{v}{f:α->Prop}{t}:A1k (if c then some v else none) f t=(c/\f v):=C7i v f
abbrev Post:=Exit->Env->Mem->Prop
def A5V(C:Ctx)(h:A2I)(N:Nat)(c:Code)(Q:Post)(T:Env)(M:Mem)(_:Tag (c,Q)):Prop:=A5H C h N c Q T M
def B9O(C:Ctx)(h:A2I)(ops:Array Oper)(l:List Oper)(K:Env->Mem->Prop)(T:Env)(M:Mem)(_:Tag (ops,l,K)):Prop:=B4n C h ops l K T M
def wOp(C:Ctx)(h:A2I)(o:Oper)(K:AV->Mem->Prop)(ρ:Operand->AV)(M:Mem)(_:Tag (o,K)):Prop:=C6V C h o K ρ M
def B0Y(ops:Array Oper)(o:Oper)(T:Env)(run skip:Prop)(_:Tag (ops,o,run,skip)):Prop:=A2n ops o T run skip
def D5o(d:Option Tmp)(want:Bool)(T:Env)(run skip:Prop)(_:Tag (run,skip)):Prop:=C6k d want T run skip
def wGv(v:AV)(want:Bool)(run skip:Prop)(_:Tag (run,skip)):Prop:=C7o v want run skip
def D5r(v:AV)(x y:Prop)(_:Tag (x,y)):Prop:=C8a v x y
def B6w(K:Env->Mem->Prop)(Q:Post)(e:Exit)(T:Env)(M:Mem)(_:Tag (K,Q)):Prop:=C3i K Q e T M
def C2I(id:Nat)(Q:Post)(e:Exit)(T:Env)(M:Mem)(_:Tag Q):Prop:=A7y id Q e T M
def C8m(C:Ctx)(rs:List ResultVar)(Q:AV->Mem->Prop)(e:Exit)(T:Env)(M:Mem)(_:Tag Q):Prop:=B4K C rs Q e T M
def wWp(C:Ctx)(N:Nat)(c:Code)(Q:Post)(T:Env)(M:Mem)(_:Tag (c,Q)):Prop:=AWp C N c Q T M
def B8x(C:Ctx)(f:FuncId)(args:List AV)(M:Mem)(Q:AV->Mem->Prop)(_:Tag Q):Prop:=A5q C f args M Q
def B9X(P:Program)(op:BinOp)(t:TypeId)(x y:AV)(f:AV->Prop)(_:Tag f):Prop:=C4i P op t x y f
def D5t(C:Ctx)(f:AV)(args:List AV)(M:Mem)(K:AV->Mem->Prop)(_:Tag K):Prop:=D2o C f args M K
def A7o(C:Ctx)(own vec:Bool)(t u:TypeId)(s x:AV)(M:Mem)(K:AV->Mem->Prop)(_:Tag K):Prop:=B3Z C own vec t u s x M K
def wD(C:Ctx)(h:A2I)(c r:Nat)(o:Oper)(ρ:Operand->AV)(M:Mem)(K:AV->Mem->Prop)(_:Tag (o,K)):Prop:=wsD C h c r o ρ M K
def C5G(C:Ctx)(h:A2I)(ops:Array Oper)(cls rob:Nat->Nat)(k:Nat)(l:List Oper)(T:Env)(M:Mem)(K:Env->Mem->Prop)(_:Tag (ops,l,K)):Prop:=B5d C h ops cls rob k l T M K
def C7O(C:Ctx)(f:AV)(args:List AV)(M:Mem)(K:AV->Mem->Prop)(_:Tag K):Prop:=D2X C f args M K
def C7Q(C:Ctx)(f:AV)(args:List AV)(M:Mem)(K:AV->Mem->Prop)(_:Tag K):Prop:=D1b C f args M K
def C7j(C:Ctx)(g:FuncId)(args:List AV)(M:Mem)(K:AV->Mem->Prop)(_:Tag K):Prop:=∃r,(∀M,A5q C g args M (λv M'=>v=r/\M'=M))/\K r M
def D1f(C:Ctx)(g:FuncId)(args:List AV)(M:Mem)(K:AV->Mem->Prop)(_:Tag K):Prop:=∃r M1,A5q C g args M (λv M'=>v=r/\M'=M1)/\K r M1
def wAt(o:Option Nat)(rob:Nat)(X:Prop)(_:Tag X):Prop:=o=some rob/\X
@[simp] def D8t{b r}{X:Prop}{t}:wAt (some b) r X t=(b=r/\X):=by simp[wAt]
def A4e:AV->Option Nat
 |.ptr b _=>some b
 |.vptr f _ _=>some f
 |.mapr b=>some b
 |_=>none
@[simp] def D9K{b o}:A4e (.ptr b o)=some b:=rfl
@[simp] def D7W{f g o}:A4e (.vptr f g o)=some f:=rfl
@[simp] def D7y{b}:A4e (.mapr b)=some b:=rfl
section
variable {C:Ctx} {h:A2I} {N:Nat} {Q:Post} {T:Env} {M:Mem} {K:AV->Mem->Prop} {ρ:Operand->AV}
@[simp] def E1I{t}:A5V C h N .skip Q T M t=Q .normal T M:=rfl
@[simp] def E0o{l}{t}:A5V C h N (.label l) Q T M t=Q .normal T M:=rfl
@[simp] def D9H{id}{l}{t}:A5V C h N (.region id l.toArray false) Q T M t=B9O C h l.toArray l (λT M=>Q .normal T M) T M ⟨⟩:=rfl
@[simp] def E2C{id}{ops}{t}:A5V C h N (.region id ops true) Q T M t=wWp C N (.region id ops true) Q T M ⟨⟩:=rfl
@[simp] def A4b{x y}{t}:A5V C h N (.seq x y) Q T M t=A5V C h N x (λe T M=>B6w (λT M=>A5V C h N y Q T M ⟨⟩) Q e T M ⟨⟩) T M ⟨⟩:=rfl
@[simp] def E2z{c}{x y}{t}:A5V C h N (.cond c x y) Q T M t=D5r (T.ev C c) (A5V C h N x Q T M ⟨⟩) (A5V C h N y Q T M ⟨⟩) ⟨⟩:=rfl
@[simp] def E0T{id}{c}{t}:A5V C h N (.block id c) Q T M t=A5V C h N c (λe T M=>C2I id Q e T M ⟨⟩) T M ⟨⟩:=rfl
@[simp] def E2K{id}{t}:A5V C h N (.exit id) Q T M t=Q (.exit id) T M:=rfl
@[simp] def E3B{t}:A5V C h N .ret Q T M t=Q .ret T M:=rfl
@[simp] def E2U{c}{t}:A5V C h N (.loop c) Q T M t=wWp C N (.loop c) Q T M ⟨⟩:=rfl
@[simp] def D4D{K:Env->Mem->Prop}{t}:B6w K Q .normal T M t=K T M:=rfl
@[simp] def D6h{K:Env->Mem->Prop}{id}{t}:B6w K Q (.exit id) T M t=Q (.exit id) T M:=rfl
@[simp] def D7k{K:Env->Mem->Prop}{t}:B6w K Q .ret T M t=Q .ret T M:=rfl
@[simp] def D3k{id}{t}:C2I id Q .normal T M t=Q .normal T M:=rfl
@[simp] def D6G{id}{t}:C2I id Q .ret T M t=Q .ret T M:=rfl
@[simp] def D5h{id id'}{t}:C2I id Q (.exit id') T M t=if id'=id then Q .normal T M else Q (.exit id') T M:=rfl
@[simp] def D7h{rs}{Q:AV->Mem->Prop}{t}:C8m C rs Q .ret T M t=A1k (A3x C rs T M) (λr=>Q r M) ⟨⟩:=C9q
@[simp] def D4o{rs}{Q:AV->Mem->Prop}{t}:C8m C rs Q .normal T M t=A1k (A3x C rs T M) (λr=>Q r M) ⟨⟩:=C2x
@[simp] def D6O{b}{x y:Prop}{t}:D5r (.val (.bool b)) x y t=if b=true then x else y:=rfl
@[simp] def D8Z{b want}{run skip:Prop}{t}:wGv (.val (.bool b)) want run skip t=if b=want then run else skip:=rfl
@[simp] def D8j{want}{run skip:Prop}{t}:wGv (.val undef) want run skip t=skip:=rfl
@[simp] def D6e{d}{want}{run skip:Prop}{t}:D5o (some d) want T run skip t=wGv (T d) want run skip ⟨⟩:=rfl
variable {d:Option Tmp} {t:TypeId} {p:String} {af:Array Edge} {g:Option (Nat×Bool)}
@[simp] def D5e{ops}{op}{run skip:Prop}{tg}:B0Y ops ⟨d,op,t,p,af,none⟩ T run skip tg=run:=rfl
@[simp] def D5A{ops}{op}{run skip:Prop}{j}{want}{tg}:B0Y ops ⟨d,op,t,p,af,some (j,want)⟩ T run skip tg=D5o ((ops[j]?).bind (·.dst)) want T run skip ⟨⟩:=C9S
@[simp] def D8K{ops}{K:Env->Mem->Prop}{tg}:B9O C h ops [] K T M tg=K T M:=rfl
@[simp] def D7C{ops}{o}{rest}{K:Env->Mem->Prop}{tg}:B9O C h ops (o::rest) K T M tg=B0Y ops o T (wOp C h o (λv M'=>B9O C h ops rest K (T.put o.dst v) M' ⟨⟩) (T.ev C) M ⟨⟩) (B9O C h ops rest K (T.put o.dst (.val undef)) M ⟨⟩) ⟨⟩:=rfl
@[simp] def D8O{x}{tg}:wOp C h ⟨d,.move x,t,p,af,g⟩ K ρ M tg=K (ρ x) M:=rfl
@[simp] def E1A{x}{r}{tg}:wD C h 0 r ⟨d,.move x,t,p,af,g⟩ ρ M K tg=K (ρ x) M:=rfl
@[simp] def D6X{x}{tg}:wOp C h ⟨d,.assign x,t,p,af,g⟩ K ρ M tg=K (ρ x) M:=rfl
@[simp] def D7K{x}{r}{tg}:wD C h 0 r ⟨d,.assign x,t,p,af,g⟩ ρ M K tg=K (ρ x) M:=rfl
@[simp] def D8T{c a b}{tg}:wOp C h ⟨d,.pick c a b,t,p,af,g⟩ K ρ M tg=A1k (B9m (ρ c) (ρ a) (ρ b)) (λv=>K v M) ⟨⟩:=by show A0N ((B9m (ρ c) (ρ a) (ρ b)).map λv=>(v,M)) (λr=>K r.1 r.2)=_;rw[A1Q];rfl
@[simp] def E1v{c a b}{r}{tg}:wD C h 0 r ⟨d,.pick c a b,t,p,af,g⟩ ρ M K tg=A1k (B9m (ρ c) (ρ a) (ρ b)) (λv=>K v M) ⟨⟩:=rfl
@[simp] def D4W{x}{tg}:wOp C h ⟨d,.nilCheck x,t,p,af,g⟩ K ρ M tg=A1k (B4r (ρ x)) (λv=>K v M) ⟨⟩:=by show A0N ((B4r (ρ x)).map λv=>(v,M)) (λr=>K r.1 r.2)=_;rw[A1Q];rfl
@[simp] def D5w{x}{r}{tg}:wD C h 0 r ⟨d,.nilCheck x,t,p,af,g⟩ ρ M K tg=A1k (B4r (ρ x)) (λv=>K v M) ⟨⟩:=rfl
@[simp] def E0Y{xt:TypeId}{x}{tg}:wOp C h ⟨d,.unOp .not xt x,t,p,af,g⟩ K ρ M tg=A1k (C1C (ρ x)) (λv=>K v M) ⟨⟩:=by show A0N ((C1C (ρ x)).map λv=>(v,M)) (λr=>K r.1 r.2)=_;rw[A1Q];rfl
@[simp] def E2h{xt:TypeId}{x}{r}{tg}:wD C h 0 r ⟨d,.unOp .not xt x,t,p,af,g⟩ ρ M K tg=A1k (C1C (ρ x)) (λv=>K v M) ⟨⟩:=rfl
@[simp] def E2L{xt:TypeId}{x}{r}{tg}:wD C h 0 r ⟨d,.unOp .neg xt x,t,p,af,g⟩ ρ M K tg=A1k (D1s (ρ x)) (λv=>K v M) ⟨⟩:=rfl
@[simp] def D3i{xt:TypeId}{x}{f}{tg}:wOp C h ⟨d,.fieldAddr xt x f,t,p,af,g⟩ K ρ M tg=A1k (A8Z (A1D C.P xt f) (ρ x)) (λv=>K v M) ⟨⟩:=by show A0N ((A8Z (A1D C.P xt f) (ρ x)).map λv=>(v,M)) (λr=>K r.1 r.2)=_;rw[A1Q];rfl
@[simp] def D4T{xt:TypeId}{x}{f}{r}{tg}:wD C h 0 r ⟨d,.fieldAddr xt x f,t,p,af,g⟩ ρ M K tg=A1k (A8Z (A1D C.P xt f) (ρ x)) (λv=>K v M) ⟨⟩:=rfl
@[simp] def D9P{xt:TypeId}{x}{f}{r}{tg}:wD C h 0 r ⟨d,.field xt x f,t,p,af,g⟩ ρ M K tg=A1k (C2y C.P (A1g C.P xt f) (ρ x)) (λv=>K v M) ⟨⟩:=rfl
@[simp] def D5x{x}{i}{tg}:wOp C h ⟨d,.extract x i,t,p,af,g⟩ K ρ M tg=A1k (A8f (ρ x) i) (λv=>K v M) ⟨⟩:=by show A0N ((A8f (ρ x) i).map λv=>(v,M)) (λr=>K r.1 r.2)=_;rw[A1Q];rfl
@[simp] def D6Z{x}{i}{r}{tg}:wD C h 0 r ⟨d,.extract x i,t,p,af,g⟩ ρ M K tg=A1k (A8f (ρ x) i) (λv=>K v M) ⟨⟩:=rfl
@[simp] def D3m{xt:TypeId}{x i}{tg}:wOp C h ⟨d,.indexAddr xt x i,t,p,af,g⟩ K ρ M tg=A1k (match A5O ((A0S C.P xt).map (A1e C.P)) (ρ x) (ρ i)with|some v=>some (v,M)|none=>A0A C h ⟨d,.indexAddr xt x i,t,p,af,g⟩ ρ M) (λr=>K r.1 r.2) ⟨⟩:=rfl
@[simp] def D3S{xt:TypeId}{x i}{r}{tg}:wD C h 0 r ⟨d,.indexAddr xt x i,t,p,af,g⟩ ρ M K tg=A1k (A5O ((A0S C.P xt).map (A1e C.P)) (ρ x) (ρ i)) (λv=>K v M) ⟨⟩:=rfl
@[simp] def D8m{xt:TypeId}{x i}{tg}:wOp C h ⟨d,.index xt x i,t,p,af,g⟩ K ρ M tg=A1k (B8S (C.P.underlying xt) (ρ x) (ρ i)) (λv=>K v M) ⟨⟩:=by show A0N ((B8S (C.P.underlying xt) (ρ x) (ρ i)).map λv=>(v,M)) (λr=>K r.1 r.2)=_;rw[A1Q];rfl
@[simp] def D8Y{xt:TypeId}{x i}{r}{tg}:wD C h 0 r ⟨d,.index xt x i,t,p,af,g⟩ ρ M K tg=A1k (B8S (C.P.underlying xt) (ρ x) (ρ i)) (λv=>K v M) ⟨⟩:=rfl
@[simp] def D3T{fn}{f c}{tg}:wOp C h ⟨d,.makeFunc fn f c,t,p,af,g⟩ K ρ M tg=K (.func fn (f.toList.map ρ) (c.toList.map ρ)) M:=rfl
@[simp] def D5B{fn}{f c}{r}{tg}:wD C h 0 r ⟨d,.makeFunc fn f c,t,p,af,g⟩ ρ M K tg=K (.func fn (f.toList.map ρ) (c.toList.map ρ)) M:=rfl
@[simp] def D7s{st:TypeId}{x}{lo hi mx}{tg}:wOp C h ⟨d,.slice st x lo hi mx,t,p,af,g⟩ K ρ M tg=A1k (A4C C.P st (ρ x) (lo.map ρ) (hi.map ρ) (mx.map ρ)) (λv=>K v M) ⟨⟩:=by show A0N ((A4C C.P st (ρ x) (lo.map ρ) (hi.map ρ) (mx.map ρ)).map λv=>(v,M)) (λr=>K r.1 r.2)=_;rw[A1Q];rfl
@[simp] def D9S{st:TypeId}{x}{lo hi mx}{r}{tg}:wD C h 0 r ⟨d,.slice st x lo hi mx,t,p,af,g⟩ ρ M K tg=A1k (A4C C.P st (ρ x) (lo.map ρ) (hi.map ρ) (mx.map ρ)) (λv=>K v M) ⟨⟩:=rfl
@[simp] def D8i{bt:TypeId}{ps:List (Nat×Operand)}{tg}:wOp C h ⟨d,.build bt ps.toArray,t,p,af,g⟩ K ρ M tg=A1k (match A0Q C.P bt (ps.map λx=>(x.1,ρ x.2))with|some v=>some (v,M)|none=>A0A C h ⟨d,.build bt ps.toArray,t,p,af,g⟩ ρ M) (λr=>K r.1 r.2) ⟨⟩:=rfl
@[simp] def D8C{bt:TypeId}{ps:List (Nat×Operand)}{r:Nat}{tg}:wD C h 0 r ⟨d,.build bt ps.toArray,t,p,af,g⟩ ρ M K tg=A1k (A0Q C.P bt (ps.map λx=>(x.1,ρ x.2))) (λv=>K v M) ⟨⟩:=rfl
@[simp] def D5D{a b:TypeId}{x}{tg}:wOp C h ⟨d,.convert a b x,t,p,af,g⟩ K ρ M tg=A1k (match A6X C.P a b (ρ x)with|some v=>some (v,M)|none=>A0A C h ⟨d,.convert a b x,t,p,af,g⟩ ρ M) (λr=>K r.1 r.2) ⟨⟩:=rfl
@[simp] def D6Q{a b:TypeId}{x}{r}{tg}:wD C h 0 r ⟨d,.convert a b x,t,p,af,g⟩ ρ M K tg=A1k (A6X C.P a b (ρ x)) (λv=>K v M) ⟨⟩:=rfl
@[simp] def D7j{op}{xt yt:TypeId}{x y}{tg}:wOp C h ⟨d,.binOp op xt x y yt,t,p,af,g⟩ K ρ M tg=B9X C.P op xt (ρ x) (ρ y) (λv=>K v M) ⟨⟩:=rfl
@[simp] def D9W{op}{xt yt:TypeId}{x y}{r}{tg}:wD C h 0 r ⟨d,.binOp op xt x y yt,t,p,af,g⟩ ρ M K tg=A1k (A1C C.P op xt (ρ x) (ρ y)) (λv=>K v M) ⟨⟩:=rfl
@[simp] def D9s{lt:TypeId}{x}{tg}:wOp C h ⟨d,.load lt x,t,p,af,g⟩ K ρ M tg=A1k (A2u C.P lt M (ρ x)) (λv=>K v M) ⟨⟩:=A1Q _ _ _
@[simp] def D7g{lt:TypeId}{x y}{tg}:wOp C h ⟨d,.store lt x y,t,p,af,g⟩ K ρ M tg=A1k (A0l (A1e C.P lt) M (ρ x) (ρ y)) (λM'=>K (.val undef) M') ⟨⟩:=A1Q _ _ _
@[simp] def D7p{lt:TypeId}{x y}{r}{tg}:wD C h 2 r ⟨d,.store lt x y,t,p,af,g⟩ ρ M K tg=A1k (A0l (A1e C.P lt) M (ρ x) (ρ y)) (λM'=>K (.val undef) M') ⟨⟩:=A1Q _ _ _
@[simp] def D7l{e:TypeId}{tg}:wOp C h ⟨d,.alloc e,t,p,af,g⟩ K ρ M tg=A1k (A0o C.P e M) (λx=>K x.1 x.2) ⟨⟩:=rfl
@[simp] def D7m{e:TypeId}{r}{tg}:wD C h 2 r ⟨d,.alloc e,t,p,af,g⟩ ρ M K tg=A1k (A0o C.P e M) (λx=>K x.1 x.2) ⟨⟩:=rfl
@[simp] def E0z{e:TypeId}{x}{tg}:wOp C h ⟨d,.box e x,t,p,af,g⟩ K ρ M tg=A1k (C1B (A1R h.imm d) e M (ρ x)) (λx=>K x.1 x.2) ⟨⟩:=rfl
@[simp] def E1b{e:TypeId}{x}{r}{tg}:wD C h 2 r ⟨d,.box e x,t,p,af,g⟩ ρ M K tg=A1k (C1B (A1R h.imm d) e M (ρ x)) (λx=>K x.1 x.2) ⟨⟩:=rfl
@[simp] def D5a{mt:TypeId}{tg}:wOp C h ⟨d,.makeMap mt none,t,p,af,g⟩ K ρ M tg=K (.mapr M.length) (M++[.map [] 0]):=rfl
@[simp] def D5f{mt:TypeId}{r}{tg}:wD C h 2 r ⟨d,.makeMap mt none,t,p,af,g⟩ ρ M K tg=K (.mapr M.length) (M++[.map [] 0]):=rfl
@[simp] def D7c{mt:TypeId}{m k}{ok}{tg}:wOp C h ⟨d,.lookup mt m k ok,t,p,af,g⟩ K ρ M tg=A1k (A1K C.P mt M (ρ m) (ρ k) ok) (λv=>K v M) ⟨⟩:=A1Q _ _ _
@[simp] def D3w{mt:TypeId}{m k x}{tg}:wOp C h ⟨d,.mapUpdate mt m k x,t,p,af,g⟩ K ρ M tg=A1k (A1E C.P mt M (ρ m) (ρ k) (ρ x)) (λM'=>K (.val undef) M') ⟨⟩:=A1Q _ _ _
@[simp] def D3o{mt:TypeId}{m k x}{r}{tg}:wD C h 2 r ⟨d,.mapUpdate mt m k x,t,p,af,g⟩ ρ M K tg=A1k (A1E C.P mt M (ρ m) (ρ k) (ρ x)) (λM'=>K (.val undef) M') ⟨⟩:=A1Q _ _ _
@[simp] def D3v{st:TypeId}{l c}{tg}:wOp C h ⟨d,.makeSlice st l c,t,p,af,g⟩ K ρ M tg=A1k (A4W C.P st (ρ l) (ρ c) M) (λr=>K r.1 r.2) ⟨⟩:=rfl
@[simp] def D3q{st:TypeId}{l c}{r}{tg}:wD C h 2 r ⟨d,.makeSlice st l c,t,p,af,g⟩ ρ M K tg=A1k (A4W C.P st (ρ l) (ρ c) M) (λr=>K r.1 r.2) ⟨⟩:=rfl
@[simp] def D7H{st:TypeId}{x}{tg}:wOp C h ⟨d,.range st x,t,p,af,g⟩ K ρ M tg=A1k (A6D C.P st (ρ x) M) (λr=>K r.1 r.2) ⟨⟩:=rfl
@[simp] def D8f{st:TypeId}{x}{r}{tg}:wD C h 2 r ⟨d,.range st x,t,p,af,g⟩ ρ M K tg=A1k (A6D C.P st (ρ x) M) (λr=>K r.1 r.2) ⟨⟩:=rfl
@[simp] def D9b{x}{tg}:wOp C h ⟨d,.next x true,t,p,af,g⟩ K ρ M tg=A1k (A5K (ρ x) M) (λr=>K r.1 r.2) ⟨⟩:=rfl
@[simp] def D8W{x}{r}{tg}:wD C h 2 r ⟨d,.next x true,t,p,af,g⟩ ρ M K tg=A1k (A5K (ρ x) M) (λr=>K r.1 r.2) ⟨⟩:=rfl
@[simp] def E1g{x}{xt:TypeId}{tg}:wOp C h ⟨d,.call {callee:=.builtin .len,args:=#[x],argTypes:=#[xt]},t,p,af,g⟩ K ρ M tg=A1k ((A1H C.P xt (ρ x)).or (A2U C.P xt M (ρ x))) (λn=>K (.val (.int .i64 n)) M) ⟨⟩:=A1Q _ _ _
@[simp] def E0e{x}{xt:TypeId}{r}{tg}:wD C h 2 r ⟨d,.call {callee:=.builtin .len,args:=#[x],argTypes:=#[xt]},t,p,af,g⟩ ρ M K tg=A1k ((A1H C.P xt (ρ x)).or (A2U C.P xt M (ρ x))) (λn=>K (.val (.int .i64 n)) M) ⟨⟩:=A1Q _ _ _
@[simp] def D9r{x y}{xt yt:TypeId}{tg}:wOp C h ⟨d,.call {callee:=.builtin .copy,args:=#[x,y],argTypes:=#[xt,yt]},t,p,af,g⟩ K ρ M tg=A1k (A6z C.P xt yt M (ρ x) (ρ y)) (λr=>K r.1 r.2) ⟨⟩:=rfl
@[simp] def D9C{x y}{xt yt:TypeId}{r}{tg}:wD C h 2 r ⟨d,.call {callee:=.builtin .copy,args:=#[x,y],argTypes:=#[xt,yt]},t,p,af,g⟩ ρ M K tg=A1k (A6z C.P xt yt M (ρ x) (ρ y)) (λr=>K r.1 r.2) ⟨⟩:=rfl
@[simp] def E1i{C}{h}{t:TypeId}{d}:B2C C h t d=(A1R h.vec d&&!C.data t):=rfl
@[simp] def D1G{bt:TypeId}{n:Nat}{ps:List (Nat×Operand)}{tg}:wOp C h ⟨d,.buildSlice bt n ps.toArray,t,p,af,g⟩ K ρ M tg=if B2C C h bt d=true then A1k (A1v C.P bt n (ps.map λx=>(x.1,ρ x.2)) M) (λr=>K r.1 r.2) ⟨⟩else A1k (A0h C.P bt n (ps.map λx=>(x.1,ρ x.2))) (λv=>K v M) ⟨⟩:=by
 show A0N (if B2C C h bt d=true then A1v C.P bt n (ps.map λp=>(p.1,ρ p.2)) M else(A0h C.P bt n (ps.map λp=>(p.1,ρ p.2))).map λv=>(v,M)) (λr=>K r.1 r.2)=_;split
 .rfl
 .exact A1Q _ _ _
@[simp] def D2z{bt:TypeId}{n:Nat}{ps:List (Nat×Operand)}{r:Nat}{tg}:wD C h 2 r ⟨d,.buildSlice bt n ps.toArray,t,p,af,g⟩ ρ M K tg=if B2C C h bt d=true then A1k (A1v C.P bt n (ps.map λx=>(x.1,ρ x.2)) M) (λr=>K r.1 r.2) ⟨⟩else A1k (A0h C.P bt n (ps.map λx=>(x.1,ρ x.2))) (λv=>K v M) ⟨⟩:=by
 show A0N (if B2C C h bt d=true then A1v C.P bt n (ps.map λp=>(p.1,ρ p.2)) M else(A0h C.P bt n (ps.map λp=>(p.1,ρ p.2))).map λv=>(v,M)) (λr=>K r.1 r.2)=_;split
 .rfl
 .exact A1Q _ _ _
@[simp] def D3t{bt:TypeId}{n:Nat}{ps:List (Nat×Operand)}{r:Nat}{tg}:wD C h 0 r ⟨d,.buildSlice bt n ps.toArray,t,p,af,g⟩ ρ M K tg=A1k (if B2C C h bt d=true then none else A0h C.P bt n (ps.map λx=>(x.1,ρ x.2))) (λv=>K v M) ⟨⟩:=rfl
@[simp] def E0p{x y}{ts}{tg}:wOp C h ⟨d,.call {callee:=.builtin .max,args:=#[x,y],argTypes:=ts},t,p,af,g⟩ K ρ M tg=A1k (A7P true (ρ x) (ρ y)) (λv=>K v M) ⟨⟩:=by show A0N ((A7P true (ρ x) (ρ y)).map λv=>(v,M)) (λr=>K r.1 r.2)=_;rw[A1Q];rfl
@[simp] def E2X{x y}{ts}{r}{tg}:wD C h 0 r ⟨d,.call {callee:=.builtin .max,args:=#[x,y],argTypes:=ts},t,p,af,g⟩ ρ M K tg=A1k (A7P true (ρ x) (ρ y)) (λv=>K v M) ⟨⟩:=rfl
@[simp] def E1Q{x y}{ts}{r}{tg}:wD C h 0 r ⟨d,.call {callee:=.builtin .min,args:=#[x,y],argTypes:=ts},t,p,af,g⟩ ρ M K tg=A1k (A7P false (ρ x) (ρ y)) (λv=>K v M) ⟨⟩:=rfl
@[simp] def E2x{x}{xt:TypeId}{r}{tg}:wD C h 0 r ⟨d,.call {callee:=.builtin .len,args:=#[x],argTypes:=#[xt]},t,p,af,g⟩ ρ M K tg=A1k (A1H C.P xt (ρ x)) (λ(n:Nat)=>K (.val (.int .i64 n)) M) ⟨⟩:=A1Q _ _ _
@[simp] def D9w{lt:TypeId}{x}{r}{tg}:wD C h 0 r ⟨d,.load lt x,t,p,af,g⟩ ρ M K tg=A1k (D2Q C.P lt (ρ x)) (λv=>K v M) ⟨⟩:=rfl
@[simp] def E1E{e:TypeId}{x}{r}{tg}:wD C h 0 r ⟨d,.box e x,t,p,af,g⟩ ρ M K tg=A1k (D9q (A1R h.imm d) (ρ x)) (λv=>K v M) ⟨⟩:=rfl
@[simp] def D9Y{lt:TypeId}{x}{r}{tg}:wD C h 1 r ⟨d,.load lt x,t,p,af,g⟩ ρ M K tg=wAt (A4e (ρ x)) r (A1k (A2u C.P lt M (ρ x)) (λv=>K v M) ⟨⟩) ⟨⟩:=by
 show(A0y _ ρ=some r/\A0N (A2u C.P lt M (ρ x)) (λv=>K v M))=(A4e (ρ x)=some r/\A0N (A2u C.P lt M (ρ x)) (λv=>K v M));have e:A0y ⟨d,.load lt x,t,p,af,g⟩ ρ=some r/\A0N (A2u C.P lt M (ρ x)) (λv=>K v M)<->A4e (ρ x)=some r/\A0N (A2u C.P lt M (ρ x)) (λv=>K v M):=by simp only[A0y,A4e];cases ρ x<;>simp[A2u,A3g]
 exact propext e
@[simp] def D6z{mt:TypeId}{m k}{ok}{r}{tg}:wD C h 1 r ⟨d,.lookup mt m k ok,t,p,af,g⟩ ρ M K tg=(A0y ⟨d,.lookup mt m k ok,t,p,af,g⟩ ρ=some r/\A1k (A1K C.P mt M (ρ m) (ρ k) ok) (λv=>K v M) ⟨⟩):=rfl
@[simp] def D9l{f:Operand}{args:List Operand}{ts:Array TypeId}{tg}:wOp C h ⟨d,.call {callee:=.value f,args:=args.toArray,argTypes:=ts},t,p,af,g⟩ K ρ M tg=D5t C (ρ f) (args.map ρ) M K ⟨⟩:=rfl
@[simp] def D6Y{f}{first captured args}{tg}:D5t C (.func (.func f) first captured) args M K tg=B8x C f (first++args++captured) M K ⟨⟩:=rfl
@[simp] def D9t{f:Operand}{args:List Operand}{ts:Array TypeId}{r:Nat}{tg}:wD C h 0 r ⟨d,.call {callee:=.value f,args:=args.toArray,argTypes:=ts},t,p,af,g⟩ ρ M K tg=C7O C (ρ f) (args.map ρ) M K ⟨⟩:=rfl
@[simp] def E0c{f:Operand}{args:List Operand}{ts:Array TypeId}{r:Nat}{tg}:wD C h 2 r ⟨d,.call {callee:=.value f,args:=args.toArray,argTypes:=ts},t,p,af,g⟩ ρ M K tg=C7Q C (ρ f) (args.map ρ) M K ⟨⟩:=rfl
@[simp] def D4w{f}{first captured args}{tg}:C7O C (.func (.func f) first captured) args M K tg=C7j C f (first++args++captured) M K ⟨⟩:=rfl
@[simp] def D4m{f}{first captured args}{tg}:C7Q C (.func (.func f) first captured) args M K tg=D1f C f (first++args++captured) M K ⟨⟩:=rfl
@[simp] def D5Y{s x}{st xt:TypeId}{tg}:wOp C h ⟨d,.call {callee:=.builtin .append,args:=#[s,x],argTypes:=#[st,xt]},t,p,af,g⟩ K ρ M tg=A7o C (A1R h.own d) (A1R h.vec d) st xt (ρ s) (ρ x) M K ⟨⟩:=rfl
@[simp] def D8l{s x}{st xt:TypeId}{r}{tg}:wD C h 2 r ⟨d,.call {callee:=.builtin .append,args:=#[s,x],argTypes:=#[st,xt]},t,p,af,g⟩ ρ M K tg=A7o C (A1R h.own d) (A1R h.vec d) st xt (ρ s) (ρ x) M K ⟨⟩:=rfl
@[simp] def D9F{P}{op}{k}{a b}{f:AV->Prop}{tg}:B9X P op t (.val (.int k a)) (.val (.int k b)) f tg=A1k ((A9d op k a b).map .val) f ⟨⟩:=D2C
@[simp] def D9A{P}{op}{a b}{f:AV->Prop}{tg}:B9X P op t (.val (.string a)) (.val (.string b)) f tg=A1k ((B9j op a b).map .val) f ⟨⟩:=D2W
@[simp] def D7u{P}{op}{a b}{f:AV->Prop}{tg}:B9X P op t (.val (.bool a)) (.val (.bool b)) f tg=A1k (A1C P op t (.val (.bool a)) (.val (.bool b))) f ⟨⟩:=C9O
@[simp] def D9D{P}{op}{b o}{y}{f:AV->Prop}{tg}:B9X P op t (.ptr b o) (.val y) f tg=A1k (A1C P op t (.ptr b o) (.val y)) f ⟨⟩:=D0Z
@[simp] def E1t{P}{op}{b o b2 o2}{f:AV->Prop}{tg}:B9X P op t (.ptr b o) (.ptr b2 o2) f tg=A1k ((B1j P op t b o b2 o2).map λb=>.val (.bool b)) f ⟨⟩:=rfl
@[simp] def D7w{P}{op}{sz}{r}{rows}{own}{y}{f:AV->Prop}{tg}:B9X P op t (.list sz (r::rows) own) y f tg=A1k (A1C P op t (.list sz (r::rows) own) y) f ⟨⟩:=C9i
@[simp] def E0a{P}{op}{cs}{y}{f:AV->Prop}{tg}:B9X P op t (.agg cs) y f tg=A1k (A1C P op t (.agg cs) y) f ⟨⟩:=A6c rfl
def B2T{P}{op}{e:TypeId}{sz}{own}{f:AV->Prop}{tg}(a:op=.eql\/op=.neq)(ht:P.underlying t=some (.slice e)):B9X P op t (.list sz [] own) (.val (.slice none 0 0)) f tg=∀b,f (.val (.bool b)):=C0e a ht
variable {cls rob:Nat->Nat}
@[simp] def D7x{ops}{k}{K:Env->Mem->Prop}{tg}:C5G C h ops cls rob k [] T M K tg=K T M:=rfl
@[simp] def D5T{ops}{k}{o}{rest}{K:Env->Mem->Prop}{tg}:C5G C h ops cls rob k (o::rest) T M K tg=B0Y ops o T (wD C h (cls k) (rob k) o (T.ev C) M (λv M'=>C5G C h ops cls rob (k+1) rest (T.put o.dst v) M' K ⟨⟩) ⟨⟩) (C5G C h ops cls rob (k+1) rest (T.put o.dst (.val undef)) M K ⟨⟩) ⟨⟩:=rfl
@[simp] def D3n{x}{xt:TypeId}{d}{t:TypeId}{p}{af}{g}{tg}:wOp C h ⟨d,.call {callee:=.builtin .unsafeSliceData,args:=#[x],argTypes:=#[xt]},t,p,af,g⟩ K ρ M tg=A1k ((A3G M (ρ x)).map λv=>(v,M)) (λr=>K r.1 r.2) ⟨⟩:=rfl
@[simp] def D3p{x y}{xt yt:TypeId}{d}{t:TypeId}{p}{af}{g}{tg}:wOp C h ⟨d,.call {callee:=.builtin .unsafeString,args:=#[x,y],argTypes:=#[xt,yt]},t,p,af,g⟩ K ρ M tg=A1k (A2g C.P xt M (ρ x) (ρ y)) (λr=>K r.1 r.2) ⟨⟩:=rfl
@[simp] def D3l{x}{xt:TypeId}{r}{d}{t:TypeId}{p}{af}{g}{tg}:wD C h 2 r ⟨d,.call {callee:=.builtin .unsafeSliceData,args:=#[x],argTypes:=#[xt]},t,p,af,g⟩ ρ M K tg=A1k ((A3G M (ρ x)).map λv=>(v,M)) (λr=>K r.1 r.2) ⟨⟩:=rfl
@[simp] def D3x{x y}{xt yt:TypeId}{r}{d}{t:TypeId}{p}{af}{g}{tg}:wD C h 2 r ⟨d,.call {callee:=.builtin .unsafeString,args:=#[x,y],argTypes:=#[xt,yt]},t,p,af,g⟩ ρ M K tg=A1k (A2g C.P xt M (ρ x) (ρ y)) (λr=>K r.1 r.2) ⟨⟩:=rfl
def A6P{f}{args}{Q':AV->Mem->Prop}{tg}(hc:A5q C f args M Q')(hk:∀r M',Q' r M'->K r M'):B8x C f args M K tg:=hc.mono hk
def B0m{f}{args}{r}{tg}(hc:∀M,A5q C f args M (λv M'=>v=r/\M'=M))(hk:K r M):C7j C f args M K tg:=⟨r,hc,hk⟩
def A6x{f}{args}{r}{M1}{tg}(hc:A5q C f args M (λv M'=>v=r/\M'=M1))(hk:K r M1):D1f C f args M K tg:=⟨r,M1,hc,hk⟩
def B9c{own vec}{st xt e:TypeId}{sz bytes}{s x}{tg}(h1:A0S C.P st=some e)(h2:A4v C.P xt)(h3:A3O C.P e sz bytes)(h4:B0v sz s)(h5:B0v sz x)(h6:(A8M s+A8M x)*bytes<=140737488355328)
 (hk:A1k (A7r own sz s x M) (λr=>K r.1 r.2) ⟨⟩)(hv:B0c vec s=false:=by rfl):A7o C own vec st xt s x M K tg:=by
 refine⟨e,sz,bytes,⟨h1,h2,h3⟩,?_⟩
 have e1:A3B own vec e sz bytes s x M=A7r own sz s x M:=by unfold A3B;rw[Z0e (by simp only[hv];simp),Z0d (by rw[B1F.2 h4,B1F.2 h5,Z0p h6];rfl)]
 rw[e1];exact hk
def B2n{own vec}{st xt e:TypeId}{sz bytes k m}{s x}{cs news}{tg}(h1:A0S C.P st=some e)(h2:A4v C.P xt)(h3:A3O C.P e sz bytes)(h4:A0B M sz s=some (cs,k))(h5:A0B M sz x=some (news,m))(h6:(k+m)*bytes<=140737488355328)
 (hi:A4I e sz s x M=none)(hk:A1k (A3e e sz s x M) (λr=>K r.1 r.2) ⟨⟩)(hv:B0c vec s=true:=by rfl):A7o C own vec st xt s x M K tg:=by
 refine⟨e,sz,bytes,⟨h1,h2,h3⟩,?_⟩
 have e1:A3B own vec e sz bytes s x M=A3e e sz s x M:=by simp[A3B,hv,h4,h5,h6,hi]
 rw[e1];exact hk
def A1h{id}{l}{tg}(h:A2I)(a:C.P.follows .mixedOrders=true)(cls rob:Nat->Nat)(b:A2b N l.toArray l=true)(c:A5y l.toArray (A6I cls λ_=>0)=true) (hr:C5G C h l.toArray cls rob 0 l T M (λT M=>Q .normal T M) ⟨⟩):wWp C N (.region id l.toArray true) Q T M tg:=C6f a cls rob b c hr
def D7b{f}{fn}{c}{args}{Q:AV->Mem->Prop}{rs}(h:A2I)(hf:C.P.funcs[f]?=some fn)(hb:fn.body=some c)(hN:fn.ntmps=N)(b:fn.results=rs.toArray) (hn:decide (args.length<=N)=true)(a:A5D N rs=true)(d:A2L N c=true)(hw:A5V C h N c (λe T M=>C8m C rs Q e T M ⟨⟩) (Env.of args) M ⟨⟩):A0e C f args M Q:=B1R hf hb hN b hn a (A4Q (h:=h) c _ _ _ d hw)
def A2o{c}{tg}(h:A2I)(I:Env->Mem->Prop)(μ:Env->Mem->Nat)(b:A2L N c=true)(h0:I T M) (a:∀T M,I T M->A5V C h N c (λe T' M'=>B6w (λT' M'=>I T' M'/\μ T' M'<μ T M) Q e T' M' ⟨⟩) T M ⟨⟩):wWp C N (.loop c) Q T M tg:=D2M I μ h0 λT M hI=>A4Q (h:=h) c _ T M b (a T M hI)
end
section
variable {C:Ctx} {N:Nat} {Q:Post} {T:Env} {M:Mem} {K:AV->Mem->Prop}
def A0j{f}{fn}{c}{args}{Q':AV->Mem->Prop}{tg}(hf:C.P.funcs[f]?=some fn)(hc:A0e C f args M Q')(hk:∀r M',Q' r M'->K r M')(hb:fn.body=some c:=by exact rfl) (hn:(fn.name== "runtime.NumGoroutine")=false:=by exact rfl):B8x C f args M K tg:=A6P (.inl ⟨A9G hf hb hn,hc⟩) hk
def A0i{f}{fn}{c}{args}{v}{tg}(hf:C.P.funcs[f]?=some fn)(hc:A0e C f args M (λr M'=>r=v/\M'=M))(hk:K v M)(hb:fn.body=some c:=by exact rfl) (hn:(fn.name== "runtime.NumGoroutine")=false:=by exact rfl):B8x C f args M K tg:=A6P (.inl ⟨A9G hf hb hn,hc⟩) λ_ _ ⟨h1,h2⟩=>h1▸h2▸hk
def A1j{f}{fn}{c}{args}{v}{tg}(hf:C.P.funcs[f]?=some fn)(hc:∀M,A0e C f args M (λr M'=>r=v/\M'=M))(hk:K v M)(hb:fn.body=some c:=by exact rfl) (hn:(fn.name== "runtime.NumGoroutine")=false:=by exact rfl):C7j C f args M K tg:=B0m (λM=>.inl ⟨A9G hf hb hn,hc M⟩) hk
def A0k{f}{fn}{c}{args}{Q:AV->Mem->Prop}{rs}(h:A2I)(hf:C.P.funcs[f]?=some fn)(hw:A5V C h N c (λe T M=>C8m C rs Q e T M ⟨⟩) (Env.of args) M ⟨⟩)(hb:fn.body=some c:=by exact rfl)(hN:fn.ntmps=N:=by exact rfl) (b:fn.results=rs.toArray:=by exact rfl)(hn:decide (args.length<=N)=true:=by exact rfl)(a:A5D N rs=true:=by exact rfl)(d:A2L N c=true:=by exact rfl):A0e C f args M Q:=D7b h hf hb hN b hn a d hw
def C8r:AV->Nat
 |.val (.int _ i)=>i.toNat
 |_=>0
@[simp] def D7P{k}{i}:C8r (.val (.int k i))=i.toNat:=rfl
def A0s{c}{tg}(h:A2I)(n k:Nat)(I:Env->Mem->Prop)(h0:I T M)(a:∀T M,I T M->A5V C h N c (λe T' M'=>B6w (λT' M'=>I T' M'/\n-C8r (T' k)<n-C8r (T k)) Q e T' M' ⟨⟩) T M ⟨⟩) (b:A2L N c=true:=by kernel_rfl):wWp C N (.loop c) Q T M tg:=A2o h I (λT _=>n-C8r (T k)) b h0 a
end
@[simp] def D7G{P}{t:TypeId}{s}(h:P.underlying t=some .string):A1H P t (.val (.string s))=some s.size:=by simp[A1H,h]
@[simp] def D6m{P}{t e:TypeId}{sz}{rows}{own}(h:P.underlying t=some (.slice e)):A1H P t (.list sz rows own)=some rows.length:=by simp[A1H,h]
@[simp] def D5X{P}{t e:TypeId}{a b c f l}(h:P.underlying t=some (.slice e)):A1H P t (.vref a b c f l)=some l:=by simp[A1H,h]
@[simp] def D7t{P}{t e:TypeId}(h:P.underlying t=some (.slice e)):A1H P t (.val (.slice none 0 0))=some 0:=by simp[A1H,h]
end
def B3F{α:Type}{o}{f g:α->Prop}(h:∀x,f x->g x)(k:A0N o f):A0N o g:=by
 cases o with
 |none=>exact k
 |some v=>exact h v k
def D0r{C}{h}{o}{K K':AV->Mem->Prop}{ρ:Operand->AV}{M}(hk:∀v m,K v m->K' v m)(hw:C6V C h o K ρ M):C6V C h o K' ρ M:=by
 unfold C6V at hw|-;split at hw
 .rename_i bop bt x y yt heq;unfold C4i at hw|-;split at hw
  .exact B3F (λv=>hk v M) hw
  .rename_i hne;unfold B4R at hw|-;cases hb:A1C C.P bop bt (ρ x) (ρ y)with
   |some v=>rw[hb]at hw;exact hk _ _ hw
   |none=>rw[hb]at hw;exact⟨hw.1,λb=>hk _ _ (hw.2 b)⟩
 .unfold D2o at hw|-;split at hw
  .exact A5q.mono hw hk
  .exact hw
 .split at hw
  .obtain⟨e,sz,a,h1,h2⟩:=hw;exact⟨e,sz,a,h1,B3F (λr=>hk r.1 r.2) h2⟩
  .exact hw
 .exact B3F (λr=>hk r.1 r.2) hw
def B3t{C}{h}{ops}{K K':Env->Mem->Prop}(hk:∀T M,K T M->K' T M):∀(l:List Oper) (T:Env) (M:Mem),B4n C h ops l K T M->B4n C h ops l K' T M
 |[],T,M,hw=>hk _ _ hw
 |o::rest,T,M,hw=>by simp only[B4n]at hw|-;exact A4h (D0r λv m h2=>B3t hk rest _ _ h2) (B3t hk rest _ _) hw
def A6q{C}{h}{N}:∀(c:Code) (Q Q':Exit->Env->Mem->Prop) (T:Env) (M:Mem),(∀e T M,Q e T M->Q' e T M)->A5H C h N c Q T M->A5H C h N c Q' T M
 |.skip,Q,Q',T,M,hq,hv=>hq _ _ _ hv
 |.label _,Q,Q',T,M,hq,hv=>hq _ _ _ hv
 |.region id ops draw,Q,Q',T,M,hq,hv=>by
  simp only[A5H]at hv|-;cases draw with
  |true=>exact AWp.mono (by simpa using hv) hq
  |false=>simpa using B3t (λT M=>hq _ T M) _ _ _ (by simpa using hv)
 |.seq x y,Q,Q',T,M,hq,hv=>by
  simp only[A5H]at hv|-;refine A6q x _ _ T M (λe T M hx=>?_) hv;cases e with
  |normal=>exact A6q y _ _ T M hq hx
  |_=>exact hq _ _ _ hx
 |.cond c x y,Q,Q',T,M,hq,hv=>by
  simp only[A5H]at hv|-;unfold C8a at hv|-;split at hv
  .split at hv
   .rename_i e;rw[Z0d e];exact A6q x _ _ T M hq hv
   .rename_i e;rw[Z0e e];exact A6q y _ _ T M hq hv
  .exact hv
 |.block id c,Q,Q',T,M,hq,hv=>by
  simp only[A5H]at hv|-;refine A6q c _ _ T M (λe T M hx=>?_) hv;cases e with
  |exit i=>
   simp only[A7y]at hx|-;split at hx
   .rename_i e;rw[Z0d e];exact hq _ _ _ hx
   .rename_i e;rw[Z0e e];exact hq _ _ _ hx
  |_=>exact hq _ _ _ hx
 |.exit id,Q,Q',T,M,hq,hv=>hq _ _ _ hv
 |.ret,Q,Q',T,M,hq,hv=>hq _ _ _ hv
 |.loop c,Q,Q',T,M,hq,hv=>AWp.mono (show AWp C N (.loop c) Q T M from hv) hq
 |.rangeFunc ..,Q,Q',T,M,hq,hv=>AWp.mono (show AWp C N _ Q T M from hv) hq
 |.scope ..,Q,Q',T,M,hq,hv=>AWp.mono (show AWp C N _ Q T M from hv) hq
 |.goto ..,Q,Q',T,M,hq,hv=>AWp.mono (show AWp C N _ Q T M from hv) hq
 |.refuse ..,Q,Q',T,M,hq,hv=>AWp.mono (show AWp C N _ Q T M from hv) hq
def A8h{C}{h}{N}{c}{Q}{T}{M}{tg}(I:Env->Mem->Prop)(h1:A5V C h N c (λe T' M'=>B6w (λT M=>I T M) (λ_ _ _=>False) e T' M' ⟨⟩) T M ⟨⟩)
 (h2:∀T M,I T M->Q .normal T M):A5V C h N c Q T M tg:=
 A6q c _ _ T M (λe T M hx=>by cases e<;>first|exact h2 T M hx|exact hx.elim) h1
def D2t(x:Exit)(I:Env->Mem->Prop)(e:Exit)(T:Env)(M:Mem)(_:Tag I):Prop:=e=x/\I T M
@[simp] def D9x{x e}{I:Env->Mem->Prop}{T}{M}{t}:D2t x I e T M t=(e=x/\I T M):=rfl
def A7i{C}{N}{c}{Q}{T}{M}{tg}(x:Exit)(I:Env->Mem->Prop)(h1:wWp C N c (λe T' M'=>D2t x I e T' M' ⟨⟩) T M ⟨⟩)(h2:∀T M,I T M->Q x T M):wWp C N c Q T M tg:=AWp.mono h1 λe T M h=>by obtain⟨rfl,h⟩:=h;exact h2 T M h
end Go.Abs
