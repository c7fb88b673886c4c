/- The texts AbsW, AbsW2. -/
import Derived.Test.YtmpdkagfplajjaaGreatDoorHG16
import Derived.KernelRfl
set_option linter.all false
namespace Go.Abs
section
universe u
structure Tag {α:Sort u} (a:α):Type where
def A1s{α:Type}(o:Option α)(f:α->Prop)(_:Tag f):Prop:=A0X o f
@[simp] def B3y{α:Type}{v}{f:α->Prop}{t}:A1s (some v) f t=f v:=(rfl)
@[simp] def E0y{α:Type}{f:α->Prop}{t}:A1s none f t=False:=(rfl)
@[simp] def E1A{α:Type}{c:Prop}[Decidable c]{v}{f:α->Prop}{t}:A1s (if c then some v else none) f t=(c/\f v):=C9U v f
abbrev Post:=Exit->Env->Mem->Prop
def A5e(C:Ctx)(h:A2u)(N:Nat)(c:Code)(Q:Post)(T:Env)(M:Mem)(_:Tag (c,Q)):Prop:=A5G C h N c Q T M
def C5H(C:Ctx)(h:A2u)(ops:Array Oper)(l:List Oper)(K:Env->Mem->Prop)(T:Env)(M:Mem)(_:Tag (ops,l,K)):Prop:=B4X C h ops l K T M
def wOp(C:Ctx)(h:A2u)(o:Oper)(K:AV->Mem->Prop)(ρ:Operand->AV)(M:Mem)(_:Tag (o,K)):Prop:=C9z C h o K ρ M
def B4e(ops:Array Oper)(o:Oper)(T:Env)(run skip:Prop)(_:Tag (ops,o,run,skip)):Prop:=A2F ops o T run skip
def D9l(d:Option Tmp)(want:Bool)(T:Env)(run skip:Prop)(_:Tag (run,skip)):Prop:=C8h d want T run skip
def wGv(v:AV)(want:Bool)(run skip:Prop)(_:Tag (run,skip)):Prop:=D0n v want run skip
def D9K(v:AV)(x y:Prop)(_:Tag (x,y)):Prop:=D0r v x y
def B6O(K:Env->Mem->Prop)(Q:Post)(e:Exit)(T:Env)(M:Mem)(_:Tag (K,Q)):Prop:=A7v K Q e T M
def C3K(id:Nat)(Q:Post)(e:Exit)(T:Env)(M:Mem)(_:Tag Q):Prop:=A5l id Q e T M
def C6T(C:Ctx)(rs:List ResultVar)(Q:AV->Mem->Prop)(e:Exit)(T:Env)(M:Mem)(_:Tag Q):Prop:=B4P C rs Q e T M
def wWp(C:Ctx)(N:Nat)(c:Code)(Q:Post)(T:Env)(M:Mem)(_:Tag (c,Q)):Prop:=AWp C N c Q T M
def B8g(C:Ctx)(f:FuncId)(args:List AV)(M:Mem)(Q:AV->Mem->Prop)(_:Tag Q):Prop:=A4r C f args M Q
def C0c(P:Program)(op:BinOp)(t:TypeId)(x y:AV)(f:AV->Prop)(_:Tag f):Prop:=C7T P op t x y f
def D9L(C:Ctx)(f:AV)(args:List AV)(M:Mem)(K:AV->Mem->Prop)(_:Tag K):Prop:=D4e C f args M K
def A4Q(C:Ctx)(own vec:Bool)(t u:TypeId)(s x:AV)(M:Mem)(K:AV->Mem->Prop)(_:Tag K):Prop:=B4y C own vec t u s x M K
def wD(C:Ctx)(h:A2u)(c r:Nat)(o:Oper)(ρ:Operand->AV)(M:Mem)(K:AV->Mem->Prop)(_:Tag (o,K)):Prop:=wsD C h c r o ρ M K
def C1C(C:Ctx)(h:A2u)(ops:Array Oper)(cls rob:Nat->Nat)(k:Nat)(l:List Oper)(T:Env)(M:Mem)(K:Env->Mem->Prop)(_:Tag (ops,l,K)):Prop:=B6A C h ops cls rob k l T M K
def D1i(C:Ctx)(f:AV)(args:List AV)(M:Mem)(K:AV->Mem->Prop)(_:Tag K):Prop:=D4G C f args M K
def D0D(C:Ctx)(f:AV)(args:List AV)(M:Mem)(K:AV->Mem->Prop)(_:Tag K):Prop:=D3K C f args M K
def C8i(C:Ctx)(g:FuncId)(args:List AV)(M:Mem)(K:AV->Mem->Prop)(_:Tag K):Prop:=∃r,(∀M,A4r C g args M (λv M'=>v=r/\M'=M))/\K r M
def D4P(C:Ctx)(g:FuncId)(args:List AV)(M:Mem)(K:AV->Mem->Prop)(_:Tag K):Prop:=∃r M1,A4r C g args M (λv M'=>v=r/\M'=M1)/\K r M1
def wAt(o:Option Nat)(rob:Nat)(X:Prop)(_:Tag X):Prop:=o=some rob/\X
@[simp] def E4M{b r}{X:Prop}{t}:wAt (some b) r X t=(b=r/\X):=by simp[wAt]
def A2Y:AV->Option Nat
 |.ptr b _=>some b
 |.vptr f _ _=>some f
 |.mapr b=>some b
 |_=>none
@[simp] def E3o{b o}:A2Y (.ptr b o)=some b:=(rfl)
@[simp] def E1y{f g o}:A2Y (.vptr f g o)=some f:=(rfl)
@[simp] def E1Z{b}:A2Y (.mapr b)=some b:=(rfl)
section
variable {C:Ctx} {h:A2u} {N:Nat} {Q:Post} {T:Env} {M:Mem} {K:AV->Mem->Prop} {ρ:Operand->AV}
@[simp] def E7Z{t}:A5e C h N .skip Q T M t=Q .normal T M:=(rfl)
@[simp] def E6Y{l}{t}:A5e C h N (.label l) Q T M t=Q .normal T M:=(rfl)
@[simp] def E3B{id}{l}{t}:A5e C h N (.region id l.toArray false) Q T M t=C5H C h l.toArray l (λT M=>Q .normal T M) T M ⟨⟩:=(rfl)
@[simp] def E8h{id}{ops}{t}:A5e C h N (.region id ops true) Q T M t=wWp C N (.region id ops true) Q T M ⟨⟩:=(rfl)
@[simp] def A4U{x y}{t}:A5e C h N (.seq x y) Q T M t=A5e C h N x (λe T M=>B6O (λT M=>A5e C h N y Q T M ⟨⟩) Q e T M ⟨⟩) T M ⟨⟩:=(rfl)
@[simp] def E7P{c}{x y}{t}:A5e C h N (.cond c x y) Q T M t=D9K (T.ev C c) (A5e C h N x Q T M ⟨⟩) (A5e C h N y Q T M ⟨⟩) ⟨⟩:=(rfl)
@[simp] def E6C{id}{c}{t}:A5e C h N (.block id c) Q T M t=A5e C h N c (λe T M=>C3K id Q e T M ⟨⟩) T M ⟨⟩:=(rfl)
@[simp] def E8m{id}{t}:A5e C h N (.exit id) Q T M t=Q (.exit id) T M:=(rfl)
@[simp] def E9F{t}:A5e C h N .ret Q T M t=Q .ret T M:=(rfl)
@[simp] def E8a{c}{t}:A5e C h N (.loop c) Q T M t=wWp C N (.loop c) Q T M ⟨⟩:=(rfl)
@[simp] def D7O{K:Env->Mem->Prop}{t}:B6O K Q .normal T M t=K T M:=(rfl)
@[simp] def E1c{K:Env->Mem->Prop}{id}{t}:B6O K Q (.exit id) T M t=Q (.exit id) T M:=(rfl)
@[simp] def E1B{K:Env->Mem->Prop}{t}:B6O K Q .ret T M t=Q .ret T M:=(rfl)
@[simp] def D6R{id}{t}:C3K id Q .normal T M t=Q .normal T M:=(rfl)
@[simp] def E1h{id}{t}:C3K id Q .ret T M t=Q .ret T M:=(rfl)
@[simp] def D9k{id id'}{t}:C3K id Q (.exit id') T M t=if id'=id then Q .normal T M else Q (.exit id') T M:=(rfl)
@[simp] def E2a{rs}{Q:AV->Mem->Prop}{t}:C6T C rs Q .ret T M t=A1s (A3P C rs T M) (λr=>Q r M) ⟨⟩:=C3d
@[simp] def D7U{rs}{Q:AV->Mem->Prop}{t}:C6T C rs Q .normal T M t=A1s (A3P C rs T M) (λr=>Q r M) ⟨⟩:=C4m
@[simp] def E0P{b}{x y:Prop}{t}:D9K (.val (.bool b)) x y t=if b=true then x else y:=(rfl)
@[simp] def E4P{b want}{run skip:Prop}{t}:wGv (.val (.bool b)) want run skip t=if b=want then run else skip:=(rfl)
@[simp] def E2E{want}{run skip:Prop}{t}:wGv (.val undef) want run skip t=skip:=(rfl)
@[simp] def E0n{d}{want}{run skip:Prop}{t}:D9l (some d) want T run skip t=wGv (T d) want run skip ⟨⟩:=(rfl)
variable {d:Option Tmp} {t:TypeId} {p:String} {af:Array Edge} {g:Option (Nat×Bool)}
@[simp] def D9m{ops}{op}{run skip:Prop}{tg}:B4e ops ⟨d,op,t,p,af,none⟩ T run skip tg=run:=(rfl)
@[simp] def D9u{ops}{op}{run skip:Prop}{j}{want}{tg}:B4e ops ⟨d,op,t,p,af,some (j,want)⟩ T run skip tg=D9l ((ops[j]?).bind (·.dst)) want T run skip ⟨⟩:=D2G
@[simp] def E3D{ops}{K:Env->Mem->Prop}{tg}:C5H C h ops [] K T M tg=K T M:=(rfl)
@[simp] def E1Q{ops}{o}{rest}{K:Env->Mem->Prop}{tg}:C5H C h ops (o::rest) K T M tg=B4e ops o T (wOp C h o (λv M'=>C5H C h ops rest K (T.put o.dst v) M' ⟨⟩) (T.ev C) M ⟨⟩) (C5H C h ops rest K (T.put o.dst (.val undef)) M ⟨⟩) ⟨⟩:=rfl
@[simp] def E2T{x}{tg}:wOp C h ⟨d,.move x,t,p,af,g⟩ K ρ M tg=K (ρ x) M:=(rfl)
@[simp] def E6E{x}{r}{tg}:wD C h 0 r ⟨d,.move x,t,p,af,g⟩ ρ M K tg=K (ρ x) M:=(rfl)
@[simp] def D9V{x}{tg}:wOp C h ⟨d,.assign x,t,p,af,g⟩ K ρ M tg=K (ρ x) M:=(rfl)
@[simp] def E1D{x}{r}{tg}:wD C h 0 r ⟨d,.assign x,t,p,af,g⟩ ρ M K tg=K (ρ x) M:=(rfl)
@[simp] def E4l{c a b}{tg}:wOp C h ⟨d,.pick c a b,t,p,af,g⟩ K ρ M tg=A1s (B7V (ρ c) (ρ a) (ρ b)) (λv=>K v M) ⟨⟩:=by show A0X ((B7V (ρ c) (ρ a) (ρ b)).map λv=>(v,M)) (λr=>K r.1 r.2)=_;rw[A2n];rfl
@[simp] def E6b{c a b}{r}{tg}:wD C h 0 r ⟨d,.pick c a b,t,p,af,g⟩ ρ M K tg=A1s (B7V (ρ c) (ρ a) (ρ b)) (λv=>K v M) ⟨⟩:=(rfl)
@[simp] def D8F{x}{tg}:wOp C h ⟨d,.nilCheck x,t,p,af,g⟩ K ρ M tg=A1s (B7q (ρ x)) (λv=>K v M) ⟨⟩:=by show A0X ((B7q (ρ x)).map λv=>(v,M)) (λr=>K r.1 r.2)=_;rw[A2n];rfl
@[simp] def D9r{x}{r}{tg}:wD C h 0 r ⟨d,.nilCheck x,t,p,af,g⟩ ρ M K tg=A1s (B7q (ρ x)) (λv=>K v M) ⟨⟩:=(rfl)
@[simp] def E7f{xt:TypeId}{x}{tg}:wOp C h ⟨d,.unOp .not xt x,t,p,af,g⟩ K ρ M tg=A1s (C7A (ρ x)) (λv=>K v M) ⟨⟩:=by show A0X ((C7A (ρ x)).map λv=>(v,M)) (λr=>K r.1 r.2)=_;rw[A2n];rfl
@[simp] def E8Q{xt:TypeId}{x}{r}{tg}:wD C h 0 r ⟨d,.unOp .not xt x,t,p,af,g⟩ ρ M K tg=A1s (C7A (ρ x)) (λv=>K v M) ⟨⟩:=(rfl)
@[simp] def E7s{xt:TypeId}{x}{r}{tg}:wD C h 0 r ⟨d,.unOp .neg xt x,t,p,af,g⟩ ρ M K tg=A1s (D4i (ρ x)) (λv=>K v M) ⟨⟩:=(rfl)
@[simp] def D6U{xt:TypeId}{x}{f}{tg}:wOp C h ⟨d,.fieldAddr xt x f,t,p,af,g⟩ K ρ M tg=A1s (B1b (A1t C.P xt f) (ρ x)) (λv=>K v M) ⟨⟩:=by show A0X ((B1b (A1t C.P xt f) (ρ x)).map λv=>(v,M)) (λr=>K r.1 r.2)=_;rw[A2n];rfl
@[simp] def D8J{xt:TypeId}{x}{f}{r}{tg}:wD C h 0 r ⟨d,.fieldAddr xt x f,t,p,af,g⟩ ρ M K tg=A1s (B1b (A1t C.P xt f) (ρ x)) (λv=>K v M) ⟨⟩:=(rfl)
@[simp] def E4o{xt:TypeId}{x}{f}{r}{tg}:wD C h 0 r ⟨d,.field xt x f,t,p,af,g⟩ ρ M K tg=A1s (C3H C.P (A0K C.P xt f) (ρ x)) (λv=>K v M) ⟨⟩:=(rfl)
@[simp] def D9H{x}{i}{tg}:wOp C h ⟨d,.extract x i,t,p,af,g⟩ K ρ M tg=A1s (B0k (ρ x) i) (λv=>K v M) ⟨⟩:=by show A0X ((B0k (ρ x) i).map λv=>(v,M)) (λr=>K r.1 r.2)=_;rw[A2n];rfl
@[simp] def E0g{x}{i}{r}{tg}:wD C h 0 r ⟨d,.extract x i,t,p,af,g⟩ ρ M K tg=A1s (B0k (ρ x) i) (λv=>K v M) ⟨⟩:=(rfl)
@[simp] def D6Q{xt:TypeId}{x i}{tg}:wOp C h ⟨d,.indexAddr xt x i,t,p,af,g⟩ K ρ M tg=A1s (match A6q ((A1f C.P xt).map (A1u C.P)) (ρ x) (ρ i)with|some v=>some (v,M)|none=>A0U C h ⟨d,.indexAddr xt x i,t,p,af,g⟩ ρ M) (λr=>K r.1 r.2) ⟨⟩:=(rfl)
@[simp] def D7F{xt:TypeId}{x i}{r}{tg}:wD C h 0 r ⟨d,.indexAddr xt x i,t,p,af,g⟩ ρ M K tg=A1s (A6q ((A1f C.P xt).map (A1u C.P)) (ρ x) (ρ i)) (λv=>K v M) ⟨⟩:=(rfl)
@[simp] def E2y{xt:TypeId}{x i}{tg}:wOp C h ⟨d,.index xt x i,t,p,af,g⟩ K ρ M tg=A1s (B5L (C.P.underlying xt) (ρ x) (ρ i)) (λv=>K v M) ⟨⟩:=by show A0X ((B5L (C.P.underlying xt) (ρ x) (ρ i)).map λv=>(v,M)) (λr=>K r.1 r.2)=_;rw[A2n];rfl
@[simp] def E3w{xt:TypeId}{x i:Operand}{r:Nat}{tg:Tag ((⟨d,.index xt x i,t,p,af,g⟩:Oper),K)}:wD C h 0 r ⟨d,.index xt x i,t,p,af,g⟩ ρ M K tg=A1s (C8F C.P (C.P.underlying xt) (ρ x) (ρ i)) (λv=>K v M) ⟨⟩:=(rfl)
@[simp] def D7S{fn}{f c}{tg}:wOp C h ⟨d,.makeFunc fn f c,t,p,af,g⟩ K ρ M tg=K (.func fn (f.toList.map ρ) (c.toList.map ρ)) M:=(rfl)
@[simp] def D9M{fn}{f c}{r}{tg}:wD C h 0 r ⟨d,.makeFunc fn f c,t,p,af,g⟩ ρ M K tg=K (.func fn (f.toList.map ρ) (c.toList.map ρ)) M:=(rfl)
@[simp] def D4W{P:Program}{t:TypeId}{M:Mem}{sz:Nat}{rows:List (List AV)}{o:Own}{lo hi mx:Option AV}:A4l P t M (.list sz rows o) lo hi mx=none:=(rfl)
@[simp] def D6Y{P:Program}{t:TypeId}{M:Mem}{v:Value}{lo hi mx:Option AV}:A4l P t M (.val v) lo hi mx=none:=(rfl)
@[simp] def E1O{st:TypeId}{x:Operand}{lo hi mx:Option Operand}{tg:Tag ((⟨d,.slice st x lo hi mx,t,p,af,g⟩:Oper),K)}:wOp C h ⟨d,.slice st x lo hi mx,t,p,af,g⟩ K ρ M tg=A1s ((A2E C.P st (ρ x) (lo.map ρ) (hi.map ρ) (mx.map ρ)).or (A4l C.P st M (ρ x) (lo.map ρ) (hi.map ρ) (mx.map ρ))) (λv=>K v M) ⟨⟩:=by
 show A0X (match A2E C.P st (ρ x) (lo.map ρ) (hi.map ρ) (mx.map ρ)with|some v=>some (v,M)|none=>A0U C h ⟨d,.slice st x lo hi mx,t,p,af,g⟩ ρ M) (λr=>K r.1 r.2)=A0X ((A2E C.P st (ρ x) (lo.map ρ) (hi.map ρ) (mx.map ρ)).or (A4l C.P st M (ρ x) (lo.map ρ) (hi.map ρ) (mx.map ρ))) (λv=>K v M);cases hs:A2E C.P st (ρ x) (lo.map ρ) (hi.map ρ) (mx.map ρ)with
 |some v=>rfl
 |none=>have e1:A0I C h ⟨d,.slice st x lo hi mx,t,p,af,g⟩ ρ=none:=hs;simp only[A0U,e1,A2b,A2c,A1d,A6T,Z3d];cases A4l C.P st M (ρ x) (lo.map ρ) (hi.map ρ) (mx.map ρ)<;>rfl
@[simp] def E1R{x:Operand}{xt:TypeId}{tg:Tag ((⟨d,.call {callee:=.builtin .clear,args:=#[x],argTypes:=#[xt]},t,p,af,g⟩:Oper),K)}:wOp C h ⟨d,.call {callee:=.builtin .clear,args:=#[x],argTypes:=#[xt]},t,p,af,g⟩ K ρ M tg=A1s (B0x C.P xt M (ρ x)) (λr=>K r.1 r.2) ⟨⟩:=by
 show A0X (A0U C h ⟨d,.call {callee:=.builtin .clear,args:=#[x],argTypes:=#[xt]},t,p,af,g⟩ ρ M) (λr=>K r.1 r.2)=A0X (B0x C.P xt M (ρ x)) (λr=>K r.1 r.2);simp[A0U,A0I,A8z,A2b,A2c,A5x,A1d,A6T,B1V]
@[simp] def E4r{st:TypeId}{x}{lo hi mx}{r}{tg}:wD C h 0 r ⟨d,.slice st x lo hi mx,t,p,af,g⟩ ρ M K tg=A1s (A2E C.P st (ρ x) (lo.map ρ) (hi.map ρ) (mx.map ρ)) (λv=>K v M) ⟨⟩:=(rfl)
@[simp] def E2G{bt:TypeId}{ps:List (Nat×Operand)}{tg}:wOp C h ⟨d,.build bt ps.toArray,t,p,af,g⟩ K ρ M tg=A1s (match A0x C.P bt (ps.map λx=>(x.1,ρ x.2))with|some v=>some (v,M)|none=>A0U C h ⟨d,.build bt ps.toArray,t,p,af,g⟩ ρ M) (λr=>K r.1 r.2) ⟨⟩:=(rfl)
@[simp] def E3y{bt:TypeId}{ps:List (Nat×Operand)}{r:Nat}{tg}:wD C h 0 r ⟨d,.build bt ps.toArray,t,p,af,g⟩ ρ M K tg=A1s (A0x C.P bt (ps.map λx=>(x.1,ρ x.2))) (λv=>K v M) ⟨⟩:=(rfl)
@[simp] def D9G{a b:TypeId}{x}{tg}:wOp C h ⟨d,.convert a b x,t,p,af,g⟩ K ρ M tg=A1s (match A6d C.P a b (ρ x)with|some v=>some (v,M)|none=>A0U C h ⟨d,.convert a b x,t,p,af,g⟩ ρ M) (λr=>K r.1 r.2) ⟨⟩:=(rfl)
@[simp] def E0H{a b:TypeId}{x}{r}{tg}:wD C h 0 r ⟨d,.convert a b x,t,p,af,g⟩ ρ M K tg=A1s (A6d C.P a b (ρ x)) (λv=>K v M) ⟨⟩:=(rfl)
@[simp] def E2C{op}{xt yt:TypeId}{x y}{tg}:wOp C h ⟨d,.binOp op xt x y yt,t,p,af,g⟩ K ρ M tg=C0c C.P op xt (ρ x) (ρ y) (λv=>K v M) ⟨⟩:=(rfl)
@[simp] def E5e{op}{xt yt:TypeId}{x y}{r}{tg}:wD C h 0 r ⟨d,.binOp op xt x y yt,t,p,af,g⟩ ρ M K tg=A1s (A1B C.P op xt (ρ x) (ρ y)) (λv=>K v M) ⟨⟩:=(rfl)
@[simp] def E4S{lt:TypeId}{x}{tg}:wOp C h ⟨d,.load lt x,t,p,af,g⟩ K ρ M tg=A1s (A1y C.P lt M (ρ x)) (λv=>K v M) ⟨⟩:=A2n _ _ _
@[simp] def E2h{lt:TypeId}{x y}{tg}:wOp C h ⟨d,.store lt x y,t,p,af,g⟩ K ρ M tg=A1s (A0i (A1u C.P lt) M (ρ x) (ρ y)) (λM'=>K (.val undef) M') ⟨⟩:=A2n _ _ _
@[simp] def E1P{lt:TypeId}{x y}{r}{tg}:wD C h 2 r ⟨d,.store lt x y,t,p,af,g⟩ ρ M K tg=A1s (A0i (A1u C.P lt) M (ρ x) (ρ y)) (λM'=>K (.val undef) M') ⟨⟩:=A2n _ _ _
@[simp] def E1N{e:TypeId}{tg}:wOp C h ⟨d,.alloc e,t,p,af,g⟩ K ρ M tg=A1s (A0k C.P e M) (λx=>K x.1 x.2) ⟨⟩:=(rfl)
@[simp] def E2J{e:TypeId}{r}{tg}:wD C h 2 r ⟨d,.alloc e,t,p,af,g⟩ ρ M K tg=A1s (A0k C.P e M) (λx=>K x.1 x.2) ⟨⟩:=(rfl)
@[simp] def E6B{e:TypeId}{x}{tg}:wOp C h ⟨d,.box e x,t,p,af,g⟩ K ρ M tg=A1s (C2a (A2t h.imm d) e M (ρ x)) (λx=>K x.1 x.2) ⟨⟩:=(rfl)
@[simp] def E7e{e:TypeId}{x}{r}{tg}:wD C h 2 r ⟨d,.box e x,t,p,af,g⟩ ρ M K tg=A1s (C2a (A2t h.imm d) e M (ρ x)) (λx=>K x.1 x.2) ⟨⟩:=(rfl)
@[simp] def D9o{mt:TypeId}{tg}:wOp C h ⟨d,.makeMap mt none,t,p,af,g⟩ K ρ M tg=K (.mapr M.length) (M++[.map [] 0]):=(rfl)
@[simp] def D9C{mt:TypeId}{r}{tg}:wD C h 2 r ⟨d,.makeMap mt none,t,p,af,g⟩ ρ M K tg=K (.mapr M.length) (M++[.map [] 0]):=(rfl)
@[simp] def E0l{mt:TypeId}{m k}{ok}{tg}:wOp C h ⟨d,.lookup mt m k ok,t,p,af,g⟩ K ρ M tg=A1s (A1Y C.P mt M (ρ m) (ρ k) ok) (λv=>K v M) ⟨⟩:=A2n _ _ _
@[simp] def D6N{mt:TypeId}{m k x}{tg}:wOp C h ⟨d,.mapUpdate mt m k x,t,p,af,g⟩ K ρ M tg=A1s (A2g C.P mt M (ρ m) (ρ k) (ρ x)) (λM'=>K (.val undef) M') ⟨⟩:=A2n _ _ _
@[simp] def D6T{mt:TypeId}{m k x}{r}{tg}:wD C h 2 r ⟨d,.mapUpdate mt m k x,t,p,af,g⟩ ρ M K tg=A1s (A2g C.P mt M (ρ m) (ρ k) (ρ x)) (λM'=>K (.val undef) M') ⟨⟩:=A2n _ _ _
@[simp] def E1r{mt:TypeId}{m k x:Operand}{tg:Tag ((⟨d,.insert mt m k x,t,p,af,g⟩:Oper),K)}:wOp C h ⟨d,.insert mt m k x,t,p,af,g⟩ K ρ M tg=A1s (A2g C.P mt M (ρ m) (ρ k) (ρ x)) (λM'=>K (.val undef) M') ⟨⟩:=A2n _ _ _
@[simp] def D6W{st:TypeId}{l c}{tg}:wOp C h ⟨d,.makeSlice st l c,t,p,af,g⟩ K ρ M tg=A1s (A6E C.P st (ρ l) (ρ c) M) (λr=>K r.1 r.2) ⟨⟩:=(rfl)
@[simp] def D6P{st:TypeId}{l c}{r}{tg}:wD C h 2 r ⟨d,.makeSlice st l c,t,p,af,g⟩ ρ M K tg=A1s (A6E C.P st (ρ l) (ρ c) M) (λr=>K r.1 r.2) ⟨⟩:=(rfl)
@[simp] def E2r{st:TypeId}{x}{tg}:wOp C h ⟨d,.range st x,t,p,af,g⟩ K ρ M tg=A1s (B0y C.P st (ρ x) M) (λr=>K r.1 r.2) ⟨⟩:=(rfl)
@[simp] def E1T{st:TypeId}{x}{r}{tg}:wD C h 2 r ⟨d,.range st x,t,p,af,g⟩ ρ M K tg=A1s (B0y C.P st (ρ x) M) (λr=>K r.1 r.2) ⟨⟩:=(rfl)
@[simp] def E4t{x}{tg}:wOp C h ⟨d,.next x true,t,p,af,g⟩ K ρ M tg=A1s (A9o (ρ x) M) (λr=>K r.1 r.2) ⟨⟩:=(rfl)
@[simp] def E5a{x}{r}{tg}:wD C h 2 r ⟨d,.next x true,t,p,af,g⟩ ρ M K tg=A1s (A9o (ρ x) M) (λr=>K r.1 r.2) ⟨⟩:=(rfl)
@[simp] def E6M{x}{xt:TypeId}{tg}:wOp C h ⟨d,.call {callee:=.builtin .len,args:=#[x],argTypes:=#[xt]},t,p,af,g⟩ K ρ M tg=A1s ((A2y C.P xt (ρ x)).or (A4A C.P xt M (ρ x))) (λn=>K (.val (.int .i64 n)) M) ⟨⟩:=A2n _ _ _
@[simp] def E5O{x}{xt:TypeId}{r}{tg}:wD C h 2 r ⟨d,.call {callee:=.builtin .len,args:=#[x],argTypes:=#[xt]},t,p,af,g⟩ ρ M K tg=A1s ((A2y C.P xt (ρ x)).or (A4A C.P xt M (ρ x))) (λn=>K (.val (.int .i64 n)) M) ⟨⟩:=A2n _ _ _
@[simp] def E3k{x y}{xt yt:TypeId}{tg}:wOp C h ⟨d,.call {callee:=.builtin .copy,args:=#[x,y],argTypes:=#[xt,yt]},t,p,af,g⟩ K ρ M tg=A1s (B2p C.P xt yt M (ρ x) (ρ y)) (λr=>K r.1 r.2) ⟨⟩:=(rfl)
@[simp] def E4p{x y}{xt yt:TypeId}{r}{tg}:wD C h 2 r ⟨d,.call {callee:=.builtin .copy,args:=#[x,y],argTypes:=#[xt,yt]},t,p,af,g⟩ ρ M K tg=A1s (B2p C.P xt yt M (ρ x) (ρ y)) (λr=>K r.1 r.2) ⟨⟩:=(rfl)
@[simp] def E6x{C}{h}{t:TypeId}{d}:B7s C h t d=(A2t h.vec d&&!C.data t):=(rfl)
@[simp] def D4O{bt:TypeId}{n:Nat}{ps:List (Nat×Operand)}{tg}:wOp C h ⟨d,.buildSlice bt n ps.toArray,t,p,af,g⟩ K ρ M tg=if B7s C h bt d=true then A1s (A2m C.P bt n (ps.map λx=>(x.1,ρ x.2)) M) (λr=>K r.1 r.2) ⟨⟩else A1s (A0l C.P bt n (ps.map λx=>(x.1,ρ x.2))) (λv=>K v M) ⟨⟩:=by
 show A0X (if B7s C h bt d=true then A2m C.P bt n (ps.map λp=>(p.1,ρ p.2)) M else(A0l C.P bt n (ps.map λp=>(p.1,ρ p.2))).map λv=>(v,M)) (λr=>K r.1 r.2)=_;split
 .rfl
 .exact A2n _ _ _
@[simp] def D6a{bt:TypeId}{n:Nat}{ps:List (Nat×Operand)}{r:Nat}{tg}:wD C h 2 r ⟨d,.buildSlice bt n ps.toArray,t,p,af,g⟩ ρ M K tg=if B7s C h bt d=true then A1s (A2m C.P bt n (ps.map λx=>(x.1,ρ x.2)) M) (λr=>K r.1 r.2) ⟨⟩else A1s (A0l C.P bt n (ps.map λx=>(x.1,ρ x.2))) (λv=>K v M) ⟨⟩:=by
 show A0X (if B7s C h bt d=true then A2m C.P bt n (ps.map λp=>(p.1,ρ p.2)) M else(A0l C.P bt n (ps.map λp=>(p.1,ρ p.2))).map λv=>(v,M)) (λr=>K r.1 r.2)=_;split
 .rfl
 .exact A2n _ _ _
@[simp] def D6L{bt:TypeId}{n:Nat}{ps:List (Nat×Operand)}{r:Nat}{tg}:wD C h 0 r ⟨d,.buildSlice bt n ps.toArray,t,p,af,g⟩ ρ M K tg=A1s (if B7s C h bt d=true then none else A0l C.P bt n (ps.map λx=>(x.1,ρ x.2))) (λv=>K v M) ⟨⟩:=(rfl)
@[simp] def E5z{x y}{ts}{tg}:wOp C h ⟨d,.call {callee:=.builtin .max,args:=#[x,y],argTypes:=ts},t,p,af,g⟩ K ρ M tg=A1s (A8W true (ρ x) (ρ y)) (λv=>K v M) ⟨⟩:=by show A0X ((A8W true (ρ x) (ρ y)).map λv=>(v,M)) (λr=>K r.1 r.2)=_;rw[A2n];rfl
@[simp] def E7Q{x y}{ts}{r}{tg}:wD C h 0 r ⟨d,.call {callee:=.builtin .max,args:=#[x,y],argTypes:=ts},t,p,af,g⟩ ρ M K tg=A1s (A8W true (ρ x) (ρ y)) (λv=>K v M) ⟨⟩:=(rfl)
@[simp] def E8J{x y}{ts}{r}{tg}:wD C h 0 r ⟨d,.call {callee:=.builtin .min,args:=#[x,y],argTypes:=ts},t,p,af,g⟩ ρ M K tg=A1s (A8W false (ρ x) (ρ y)) (λv=>K v M) ⟨⟩:=(rfl)
@[simp] def E7T{x}{xt:TypeId}{r}{tg}:wD C h 0 r ⟨d,.call {callee:=.builtin .len,args:=#[x],argTypes:=#[xt]},t,p,af,g⟩ ρ M K tg=A1s (A2y C.P xt (ρ x)) (λ(n:Nat)=>K (.val (.int .i64 n)) M) ⟨⟩:=A2n _ _ _
@[simp] def E2K{lt:TypeId}{x}{r}{tg}:wD C h 0 r ⟨d,.load lt x,t,p,af,g⟩ ρ M K tg=A1s (D4q C.P lt (ρ x)) (λv=>K v M) ⟨⟩:=(rfl)
@[simp] def E5P{e:TypeId}{x}{r}{tg}:wD C h 0 r ⟨d,.box e x,t,p,af,g⟩ ρ M K tg=A1s (E3E (A2t h.imm d) (ρ x)) (λv=>K v M) ⟨⟩:=(rfl)
@[simp] def E5i{lt:TypeId}{x}{r}{tg}:wD C h 1 r ⟨d,.load lt x,t,p,af,g⟩ ρ M K tg=wAt (A2Y (ρ x)) r (A1s (A1y C.P lt M (ρ x)) (λv=>K v M) ⟨⟩) ⟨⟩:=by
 show(A0F _ ρ=some r/\A0X (A1y C.P lt M (ρ x)) (λv=>K v M))=(A2Y (ρ x)=some r/\A0X (A1y C.P lt M (ρ x)) (λv=>K v M));have e:A0F ⟨d,.load lt x,t,p,af,g⟩ ρ=some r/\A0X (A1y C.P lt M (ρ x)) (λv=>K v M)<->A2Y (ρ x)=some r/\A0X (A1y C.P lt M (ρ x)) (λv=>K v M):=by simp only[A0F,A2Y];cases ρ x<;>simp[A1y,A3k]
 exact propext e
@[simp] def E0J{mt:TypeId}{m k}{ok}{r}{tg}:wD C h 1 r ⟨d,.lookup mt m k ok,t,p,af,g⟩ ρ M K tg=(A0F ⟨d,.lookup mt m k ok,t,p,af,g⟩ ρ=some r/\A1s (A1Y C.P mt M (ρ m) (ρ k) ok) (λv=>K v M) ⟨⟩):=(rfl)
@[simp] def E4U{f:Operand}{args:List Operand}{ts:Array TypeId}{tg}:wOp C h ⟨d,.call {callee:=.value f,args:=args.toArray,argTypes:=ts},t,p,af,g⟩ K ρ M tg=D9L C (ρ f) (args.map ρ) M K ⟨⟩:=(rfl)
@[simp] def E0j{f}{first captured args}{tg}:D9L C (.func (.func f) first captured) args M K tg=B8g C f (first++args++captured) M K ⟨⟩:=(rfl)
@[simp] def E3T{f:Operand}{args:List Operand}{ts:Array TypeId}{r:Nat}{tg}:wD C h 0 r ⟨d,.call {callee:=.value f,args:=args.toArray,argTypes:=ts},t,p,af,g⟩ ρ M K tg=D1i C (ρ f) (args.map ρ) M K ⟨⟩:=(rfl)
@[simp] def E4Y{f:Operand}{args:List Operand}{ts:Array TypeId}{r:Nat}{tg}:wD C h 2 r ⟨d,.call {callee:=.value f,args:=args.toArray,argTypes:=ts},t,p,af,g⟩ ρ M K tg=D0D C (ρ f) (args.map ρ) M K ⟨⟩:=(rfl)
@[simp] def D7o{f}{first captured args}{tg}:D1i C (.func (.func f) first captured) args M K tg=C8i C f (first++args++captured) M K ⟨⟩:=(rfl)
@[simp] def D8B{f}{first captured args}{tg}:D0D C (.func (.func f) first captured) args M K tg=D4P C f (first++args++captured) M K ⟨⟩:=(rfl)
@[simp] def E0r{s x}{st xt:TypeId}{tg}:wOp C h ⟨d,.call {callee:=.builtin .append,args:=#[s,x],argTypes:=#[st,xt]},t,p,af,g⟩ K ρ M tg=A4Q C (A2t h.own d) (A2t h.vec d) st xt (ρ s) (ρ x) M K ⟨⟩:=(rfl)
@[simp] def E1K{s x}{st xt:TypeId}{r}{tg}:wD C h 2 r ⟨d,.call {callee:=.builtin .append,args:=#[s,x],argTypes:=#[st,xt]},t,p,af,g⟩ ρ M K tg=A4Q C (A2t h.own d) (A2t h.vec d) st xt (ρ s) (ρ x) M K ⟨⟩:=(rfl)
@[simp] def E4s{P}{op}{k}{a b}{f:AV->Prop}{tg}:C0c P op t (.val (.int k a)) (.val (.int k b)) f tg=A1s ((B0s op k a b).map .val) f ⟨⟩:=D4l
@[simp] def E5d{P}{op}{a b}{f:AV->Prop}{tg}:C0c P op t (.val (.string a)) (.val (.string b)) f tg=A1s ((B5A op a b).map .val) f ⟨⟩:=D3Q
@[simp] def E2m{P}{op}{a b}{f:AV->Prop}{tg}:C0c P op t (.val (.bool a)) (.val (.bool b)) f tg=A1s (A1B P op t (.val (.bool a)) (.val (.bool b))) f ⟨⟩:=D1F
@[simp] def E4d{P}{op}{b o}{y}{f:AV->Prop}{tg}:C0c P op t (.ptr b o) (.val y) f tg=A1s (A1B P op t (.ptr b o) (.val y)) f ⟨⟩:=D5E
@[simp] def E7k{P}{op}{b o b2 o2}{f:AV->Prop}{tg}:C0c P op t (.ptr b o) (.ptr b2 o2) f tg=A1s ((B1N P op t b o b2 o2).map λb=>.val (.bool b)) f ⟨⟩:=(rfl)
@[simp] def E3C{P:Program}{op:BinOp}{y:AV}{f:AV->Prop}{tg:Tag f}:C0c P op t (.val (.slice none 0 0)) y f tg=A1s (A1B P op t (.val (.slice none 0 0)) y) f ⟨⟩:=C5l
@[simp] def E1X{P}{op}{sz}{r}{rows}{own}{y}{f:AV->Prop}{tg}:C0c P op t (.list sz (r::rows) own) y f tg=A1s (A1B P op t (.list sz (r::rows) own) y) f ⟨⟩:=D3u
@[simp] def E4z{P}{op}{cs}{y}{f:AV->Prop}{tg}:C0c P op t (.agg cs) y f tg=A1s (A1B P op t (.agg cs) y) f ⟨⟩:=A6g rfl
def A7j{P}{op}{e:TypeId}{sz}{own}{f:AV->Prop}{tg}(a:op=.eql\/op=.neq)(ht:P.underlying t=some (.slice e)):C0c P op t (.list sz [] own) (.val (.slice none 0 0)) f tg=∀b,f (.val (.bool b)):=C0K a ht
variable {cls rob:Nat->Nat}
@[simp] def E1z{ops}{k}{K:Env->Mem->Prop}{tg}:C1C C h ops cls rob k [] T M K tg=K T M:=(rfl)
@[simp] def E0T{ops}{k}{o}{rest}{K:Env->Mem->Prop}{tg}:C1C C h ops cls rob k (o::rest) T M K tg=B4e ops o T (wD C h (cls k) (rob k) o (T.ev C) M (λv M'=>C1C C h ops cls rob (k+1) rest (T.put o.dst v) M' K ⟨⟩) ⟨⟩) (C1C C h ops cls rob (k+1) rest (T.put o.dst (.val undef)) M K ⟨⟩) ⟨⟩:=rfl
@[simp] def D6X{x}{xt:TypeId}{d}{t:TypeId}{p}{af}{g}{tg}:wOp C h ⟨d,.call {callee:=.builtin .unsafeSliceData,args:=#[x],argTypes:=#[xt]},t,p,af,g⟩ K ρ M tg=A1s ((A5u M (ρ x)).map λv=>(v,M)) (λr=>K r.1 r.2) ⟨⟩:=(rfl)
@[simp] def D6V{x y}{xt yt:TypeId}{d}{t:TypeId}{p}{af}{g}{tg}:wOp C h ⟨d,.call {callee:=.builtin .unsafeString,args:=#[x,y],argTypes:=#[xt,yt]},t,p,af,g⟩ K ρ M tg=A1s (A5m C.P xt M (ρ x) (ρ y)) (λr=>K r.1 r.2) ⟨⟩:=(rfl)
@[simp] def D7b{x}{xt:TypeId}{r}{d}{t:TypeId}{p}{af}{g}{tg}:wD C h 2 r ⟨d,.call {callee:=.builtin .unsafeSliceData,args:=#[x],argTypes:=#[xt]},t,p,af,g⟩ ρ M K tg=A1s ((A5u M (ρ x)).map λv=>(v,M)) (λr=>K r.1 r.2) ⟨⟩:=(rfl)
@[simp] def D7c{x y}{xt yt:TypeId}{r}{d}{t:TypeId}{p}{af}{g}{tg}:wD C h 2 r ⟨d,.call {callee:=.builtin .unsafeString,args:=#[x,y],argTypes:=#[xt,yt]},t,p,af,g⟩ ρ M K tg=A1s (A5m C.P xt M (ρ x) (ρ y)) (λr=>K r.1 r.2) ⟨⟩:=(rfl)
def A1W{f}{args}{Q':AV->Mem->Prop}{tg}(hc:A4r C f args M Q')(hk:∀r M',Q' r M'->K r M'):B8g C f args M K tg:=hc.mono hk
def A7l{f}{args}{r}{tg}(hc:∀M,A4r C f args M (λv M'=>v=r/\M'=M))(hk:K r M):C8i C f args M K tg:=⟨r,hc,hk⟩
def A4S{f}{args}{r}{M1}{tg}(hc:A4r C f args M (λv M'=>v=r/\M'=M1))(hk:K r M1):D4P C f args M K tg:=⟨r,M1,hc,hk⟩
def B8C{own vec}{st xt e:TypeId}{sz bytes}{s x}{tg}(h1:A1f C.P st=some e)(h2:A3V C.P xt)(h3:A3s C.P e sz bytes)(h4:B0X sz s)(h5:B0X sz x)(h6:(A9b s+A9b x)*bytes<=140737488355328)
 (hk:A1s (A7z own sz s x M) (λr=>K r.1 r.2) ⟨⟩)(hv:B7J vec s=false:=by rfl):A4Q C own vec st xt s x M K tg:=by
 refine⟨e,sz,bytes,⟨h1,h2,h3⟩,?_⟩
 have e1:A7e own vec e sz bytes s x M=A7z own sz s x M:=by unfold A7e;rw[Z0d (by simp only[hv];simp),Z0e (by rw[B2w.2 h4,B2w.2 h5,Z0w h6];rfl)]
 rw[e1];exact hk
def A5D{own vec}{st xt e:TypeId}{sz bytes k m}{s x}{cs news}{tg}(h1:A1f C.P st=some e)(h2:A3V C.P xt)(h3:A3s C.P e sz bytes)(h4:A0D M sz s=some (cs,k))(h5:A0D M sz x=some (news,m))(h6:(k+m)*bytes<=140737488355328)
 (hi:A5H e sz s x M=none)(hk:A1s (A6w e sz s x M) (λr=>K r.1 r.2) ⟨⟩)(hv:B7J vec s=true:=by rfl):A4Q C own vec st xt s x M K tg:=by
 refine⟨e,sz,bytes,⟨h1,h2,h3⟩,?_⟩
 have e1:A7e own vec e sz bytes s x M=A6w e sz s x M:=by simp[A7e,hv,h4,h5,h6,hi]
 rw[e1];exact hk
def E3O{own vec:Bool}{st xt e:TypeId}{sz bytes k m:Nat}{s x:AV}{cs news:List AV}{r:AV×Mem}{tg:Tag K}(h1:A1f C.P st=some e)(h2:A3V C.P xt)(h3:A3s C.P e sz bytes)(h4:A0D M sz s=some (cs,k))(h5:A0D M sz x=some (news,m))(h6:(k+m)*bytes<=140737488355328)
 (hi:A5H e sz s x M=some r)(hk:K r.1 r.2)(hv:B7J vec s=true:=by rfl):A4Q C own vec st xt s x M K tg:=by
 refine⟨e,sz,bytes,⟨h1,h2,h3⟩,?_⟩
 have e1:A7e own vec e sz bytes s x M=some r:=by simp[A7e,hv,h4,h5,h6,hi]
 rw[e1];exact hk
def A0Z{id}{l}{tg}(h:A2u)(a:C.P.follows .mixedOrders=true)(cls rob:Nat->Nat)(c:A1P N l.toArray l=true)(b:A4e l.toArray (A5p cls λ_=>0)=true) (hr:C1C C h l.toArray cls rob 0 l T M (λT M=>Q .normal T M) ⟨⟩):wWp C N (.region id l.toArray true) Q T M tg:=C8C a cls rob c b hr
def A6D{f}{fn}{c}{args}{Q:AV->Mem->Prop}{rs}(h:A2u)(hf:C.P.funcs[f]?=some fn)(hb:fn.body=some c)(hN:fn.ntmps=N)(a:fn.results=rs.toArray) (hn:decide (args.length<=N)=true)(b:A4X N rs=true)(d:A1V N c=true)(hw:A5e C h N c (λe T M=>C6T C rs Q e T M ⟨⟩) (Env.of args) M ⟨⟩):A0e C f args M Q:=A8v hf hb hN a hn b (A3y (h:=h) c _ _ _ d hw)
def A2P{c}{tg}(h:A2u)(I:Env->Mem->Prop)(μ:Env->Mem->Nat)(b:A1V N c=true)(h0:I T M) (a:∀T M,I T M->A5e C h N c (λe T' M'=>B6O (λT' M'=>I T' M'/\μ T' M'<μ T M) Q e T' M' ⟨⟩) T M ⟨⟩):wWp C N (.loop c) Q T M tg:=D5I I μ h0 λT M hI=>A3y (h:=h) c _ T M b (a T M hI)
end
section
variable {C:Ctx} {N:Nat} {Q:Post} {T:Env} {M:Mem} {K:AV->Mem->Prop}
def A0q{f}{fn}{c}{args}{Q':AV->Mem->Prop}{tg}(hf:C.P.funcs[f]?=some fn)(hc:A0e C f args M Q')(hk:∀r M',Q' r M'->K r M')(hb:fn.body=some c:=by exact rfl) (hn:(fn.name== "runtime.NumGoroutine")=false:=by exact rfl):B8g C f args M K tg:=A1W (.inl ⟨A9R hf hb hn,hc⟩) hk
def A0h{f}{fn}{c}{args}{v}{tg}(hf:C.P.funcs[f]?=some fn)(hc:A0e C f args M (λr M'=>r=v/\M'=M))(hk:K v M)(hb:fn.body=some c:=by exact rfl) (hn:(fn.name== "runtime.NumGoroutine")=false:=by exact rfl):B8g C f args M K tg:=A1W (.inl ⟨A9R hf hb hn,hc⟩) λ_ _ ⟨h1,h2⟩=>h1▸h2▸hk
def A1p{f}{fn}{c}{args}{v}{tg}(hf:C.P.funcs[f]?=some fn)(hc:∀M,A0e C f args M (λr M'=>r=v/\M'=M))(hk:K v M)(hb:fn.body=some c:=by exact rfl) (hn:(fn.name== "runtime.NumGoroutine")=false:=by exact rfl):C8i C f args M K tg:=A7l (λM=>.inl ⟨A9R hf hb hn,hc M⟩) hk
def A0n{f}{fn}{c}{args}{Q:AV->Mem->Prop}{rs}(h:A2u)(hf:C.P.funcs[f]?=some fn)(hw:A5e C h N c (λe T M=>C6T C rs Q e T M ⟨⟩) (Env.of args) M ⟨⟩)(hb:fn.body=some c:=by exact rfl)(hN:fn.ntmps=N:=by exact rfl) (a:fn.results=rs.toArray:=by exact rfl)(hn:decide (args.length<=N)=true:=by exact rfl)(b:A4X N rs=true:=by exact rfl)(d:A1V N c=true:=by exact rfl):A0e C f args M Q:=A6D h hf hb hN a hn b d hw
def D1e:AV->Nat
 |.val (.int _ i)=>i.toNat
 |_=>0
@[simp] def E1E{k}{i}:D1e (.val (.int k i))=i.toNat:=(rfl)
def A0B{c}{tg}(h:A2u)(n k:Nat)(I:Env->Mem->Prop)(h0:I T M)(a:∀T M,I T M->A5e C h N c (λe T' M'=>B6O (λT' M'=>I T' M'/\n-D1e (T' k)<n-D1e (T k)) Q e T' M' ⟨⟩) T M ⟨⟩) (b:A1V N c=true:=by kernel_rfl):wWp C N (.loop c) Q T M tg:=A2P h I (λT _=>n-D1e (T k)) b h0 a
end
@[simp] def E2z{P}{t:TypeId}{s}(h:P.underlying t=some .string):A2y P t (.val (.string s))=some s.size:=by simp[A2y,h]
@[simp] def E0z{P}{t e:TypeId}{sz}{rows}{own}(h:P.underlying t=some (.slice e)):A2y P t (.list sz rows own)=some rows.length:=by simp[A2y,h]
@[simp] def E0C{P}{t e:TypeId}{a b c f l}(h:P.underlying t=some (.slice e)):A2y P t (.vref a b c f l)=some l:=by simp[A2y,h]
@[simp] def E2f{P}{t e:TypeId}(h:P.underlying t=some (.slice e)):A2y P t (.val (.slice none 0 0))=some 0:=by simp[A2y,h]
end
def B3B{α:Type}{o}{f g:α->Prop}(h:∀x,f x->g x)(k:A0X o f):A0X o g:=by
 cases o with
 |none=>exact k
 |some v=>exact h v k
def D2t{C}{h}{o}{K K':AV->Mem->Prop}{ρ:Operand->AV}{M}(hk:∀v m,K v m->K' v m)(hw:C9z C h o K ρ M):C9z C h o K' ρ M:=by
 unfold C9z at hw|-;split at hw
 .rename_i bop bt x y yt heq;unfold C7T at hw|-;split at hw
  .exact B3B (λv=>hk v M) hw
  .rename_i hne;unfold B5h at hw|-;cases hb:A1B C.P bop bt (ρ x) (ρ y)with
   |some v=>rw[hb]at hw;exact hk _ _ hw
   |none=>rw[hb]at hw;exact⟨hw.1,λb=>hk _ _ (hw.2 b)⟩
 .unfold D4e at hw|-;split at hw
  .exact A4r.mono hw hk
  .exact hw
 .split at hw
  .obtain⟨e,sz,bytes,h1,h2⟩:=hw;exact⟨e,sz,bytes,h1,B3B (λr=>hk r.1 r.2) h2⟩
  .exact hw
 .exact B3B (λr=>hk r.1 r.2) hw
def B3v{C}{h}{ops}{K K':Env->Mem->Prop}(hk:∀T M,K T M->K' T M):∀(l:List Oper) (T:Env) (M:Mem),B4X C h ops l K T M->B4X C h ops l K' T M
 |[],T,M,hw=>hk _ _ hw
 |o::rest,T,M,hw=>by simp only[B4X]at hw|-;exact A5A (D2t λv m h2=>B3v hk rest _ _ h2) (B3v hk rest _ _) hw
def A6p{C}{h}{N}:∀(c:Code) (Q Q':Exit->Env->Mem->Prop) (T:Env) (M:Mem),(∀e T M,Q e T M->Q' e T M)->A5G C h N c Q T M->A5G C h N c Q' T M
 |.skip,Q,Q',T,M,hq,hv=>hq _ _ _ hv
 |.label _,Q,Q',T,M,hq,hv=>hq _ _ _ hv
 |.region id ops draw,Q,Q',T,M,hq,hv=>by
  simp only[A5G]at hv|-;cases draw with
  |true=>exact AWp.mono (by simpa using hv) hq
  |false=>simpa using B3v (λT M=>hq _ T M) _ _ _ (by simpa using hv)
 |.seq x y,Q,Q',T,M,hq,hv=>by
  simp only[A5G]at hv|-;refine A6p x _ _ T M (λe T M hx=>?_) hv;cases e with
  |normal=>exact A6p y _ _ T M hq hx
  |_=>exact hq _ _ _ hx
 |.cond c x y,Q,Q',T,M,hq,hv=>by
  simp only[A5G]at hv|-;unfold D0r at hv|-;split at hv
  .split at hv
   .rename_i e;rw[Z0e e];exact A6p x _ _ T M hq hv
   .rename_i e;rw[Z0d e];exact A6p y _ _ T M hq hv
  .exact hv
 |.block id c,Q,Q',T,M,hq,hv=>by
  simp only[A5G]at hv|-;refine A6p c _ _ T M (λe T M hx=>?_) hv;cases e with
  |exit i=>
   simp only[A5l]at hx|-;split at hx
   .rename_i e;rw[Z0e e];exact hq _ _ _ hx
   .rename_i e;rw[Z0d e];exact hq _ _ _ hx
  |_=>exact hq _ _ _ hx
 |.exit id,Q,Q',T,M,hq,hv=>hq _ _ _ hv
 |.ret,Q,Q',T,M,hq,hv=>hq _ _ _ hv
 |.loop c,Q,Q',T,M,hq,hv=>AWp.mono (show AWp C N (.loop c) Q T M from hv) hq
 |.rangeFunc ..,Q,Q',T,M,hq,hv=>AWp.mono (show AWp C N _ Q T M from hv) hq
 |.scope ..,Q,Q',T,M,hq,hv=>AWp.mono (show AWp C N _ Q T M from hv) hq
 |.goto ..,Q,Q',T,M,hq,hv=>AWp.mono (show AWp C N _ Q T M from hv) hq
 |.refuse ..,Q,Q',T,M,hq,hv=>AWp.mono (show AWp C N _ Q T M from hv) hq
def B1L{C}{h}{N}{c}{Q}{T}{M}{tg}(I:Env->Mem->Prop)(h1:A5e C h N c (λe T' M'=>B6O (λT M=>I T M) (λ_ _ _=>False) e T' M' ⟨⟩) T M ⟨⟩)
 (h2:∀T M,I T M->Q .normal T M):A5e C h N c Q T M tg:=
 A6p c _ _ T M (λe T M hx=>by cases e<;>first|exact h2 T M hx|exact hx.elim) h1
def C5m(x:Exit)(I:Env->Mem->Prop)(e:Exit)(T:Env)(M:Mem)(_:Tag I):Prop:=e=x/\I T M
@[simp] def E3e{x e}{I:Env->Mem->Prop}{T}{M}{t}:C5m x I e T M t=(e=x/\I T M):=(rfl)
def A4B{C}{N}{c}{Q}{T}{M}{tg}(x:Exit)(I:Env->Mem->Prop)(h1:wWp C N c (λe T' M'=>C5m x I e T' M' ⟨⟩) T M ⟨⟩)(h2:∀T M,I T M->Q x T M):wWp C N c Q T M tg:=AWp.mono h1 λe T M h=>by obtain⟨rfl,h⟩:=h;exact h2 T M h
end Go.Abs
