/- The texts AbsW, AbsW2. -/
import Derived.Test.YtmpdkagfplajjaaGreatDoorFG17
import Derived.KernelRfl
set_option linter.all false
namespace Go.Abs
section
universe u
structure Tag {α:Sort u} (a:α):Type where
def A1p{α:Type}(o:Option α)(f:α->Prop)(_:Tag f):Prop:=A0L o f
@[simp] def B3b{α:Type}{v}{f:α->Prop}{t}:A1p (some v) f t=f v:=rfl
@[simp] def E0c{α:Type}{f:α->Prop}{t}:A1p none f t=False:=rfl
@[simp] def E1e{α:Type}{c:Prop}[Decidable c]{v}{f:α->Prop}{t}:A1p (if c then some v else none) f t=(c/\f v):=C9H v f
abbrev Post:=Exit->Env->Mem->Prop
def A5T(C:Ctx)(h:A2x)(N:Nat)(c:Code)(Q:Post)(T:Env)(M:Mem)(_:Tag (c,Q)):Prop:=A5E C h N c Q T M
def C0K(C:Ctx)(h:A2x)(ops:Array Oper)(l:List Oper)(K:Env->Mem->Prop)(T:Env)(M:Mem)(_:Tag (ops,l,K)):Prop:=B4q C h ops l K T M
def wOp(C:Ctx)(h:A2x)(o:Oper)(K:AV->Mem->Prop)(ρ:Operand->AV)(M:Mem)(_:Tag (o,K)):Prop:=C9h C h o K ρ M
def B1L(ops:Array Oper)(o:Oper)(T:Env)(run skip:Prop)(_:Tag (ops,o,run,skip)):Prop:=A2o ops o T run skip
def D8I(d:Option Tmp)(want:Bool)(T:Env)(run skip:Prop)(_:Tag (run,skip)):Prop:=C7T d want T run skip
def wGv(v:AV)(want:Bool)(run skip:Prop)(_:Tag (run,skip)):Prop:=D0b v want run skip
def D9m(v:AV)(x y:Prop)(_:Tag (x,y)):Prop:=D0h v x y
def B6r(K:Env->Mem->Prop)(Q:Post)(e:Exit)(T:Env)(M:Mem)(_:Tag (K,Q)):Prop:=C5U K Q e T M
def C3s(id:Nat)(Q:Post)(e:Exit)(T:Env)(M:Mem)(_:Tag Q):Prop:=A7w id Q e T M
def D0Q(C:Ctx)(rs:List ResultVar)(Q:AV->Mem->Prop)(e:Exit)(T:Env)(M:Mem)(_:Tag Q):Prop:=B4m C rs Q e T M
def wWp(C:Ctx)(N:Nat)(c:Code)(Q:Post)(T:Env)(M:Mem)(_:Tag (c,Q)):Prop:=AWp C N c Q T M
def B7L(C:Ctx)(f:FuncId)(args:List AV)(M:Mem)(Q:AV->Mem->Prop)(_:Tag Q):Prop:=A4d C f args M Q
def B9Z(P:Program)(op:BinOp)(t:TypeId)(x y:AV)(f:AV->Prop)(_:Tag f):Prop:=C7M P op t x y f
def D9o(C:Ctx)(f:AV)(args:List AV)(M:Mem)(K:AV->Mem->Prop)(_:Tag K):Prop:=D3Y C f args M K
def A6a(C:Ctx)(own vec:Bool)(t u:TypeId)(s x:AV)(M:Mem)(K:AV->Mem->Prop)(_:Tag K):Prop:=B3U C own vec t u s x M K
def wD(C:Ctx)(h:A2x)(c r:Nat)(o:Oper)(ρ:Operand->AV)(M:Mem)(K:AV->Mem->Prop)(_:Tag (o,K)):Prop:=wsD C h c r o ρ M K
def C5w(C:Ctx)(h:A2x)(ops:Array Oper)(cls rob:Nat->Nat)(k:Nat)(l:List Oper)(T:Env)(M:Mem)(K:Env->Mem->Prop)(_:Tag (ops,l,K)):Prop:=B5V C h ops cls rob k l T M K
def D1h(C:Ctx)(f:AV)(args:List AV)(M:Mem)(K:AV->Mem->Prop)(_:Tag K):Prop:=D4B C f args M K
def D0t(C:Ctx)(f:AV)(args:List AV)(M:Mem)(K:AV->Mem->Prop)(_:Tag K):Prop:=D3J C f args M K
def C7U(C:Ctx)(g:FuncId)(args:List AV)(M:Mem)(K:AV->Mem->Prop)(_:Tag K):Prop:=∃r,(∀M,A4d C g args M (λv M'=>v=r/\M'=M))/\K r M
def D4J(C:Ctx)(g:FuncId)(args:List AV)(M:Mem)(K:AV->Mem->Prop)(_:Tag K):Prop:=∃r M1,A4d C g args M (λv M'=>v=r/\M'=M1)/\K r M1
def wAt(o:Option Nat)(rob:Nat)(X:Prop)(_:Tag X):Prop:=o=some rob/\X
@[simp] def E4i{b r}{X:Prop}{t}:wAt (some b) r X t=(b=r/\X):=by simp[wAt]
def A6w:AV->Option Nat
 |.ptr b _=>some b
 |.vptr f _ _=>some f
 |.mapr b=>some b
 |_=>none
@[simp] def E2L{b o}:A6w (.ptr b o)=some b:=rfl
@[simp] def E1c{f g o}:A6w (.vptr f g o)=some f:=rfl
@[simp] def E1C{b}:A6w (.mapr b)=some b:=rfl
section
variable {C:Ctx} {h:A2x} {N:Nat} {Q:Post} {T:Env} {M:Mem} {K:AV->Mem->Prop} {ρ:Operand->AV}
@[simp] def E7h{t}:A5T C h N .skip Q T M t=Q .normal T M:=rfl
@[simp] def E6i{l}{t}:A5T C h N (.label l) Q T M t=Q .normal T M:=rfl
@[simp] def E2Z{id}{l}{t}:A5T C h N (.region id l.toArray false) Q T M t=C0K C h l.toArray l (λT M=>Q .normal T M) T M ⟨⟩:=rfl
@[simp] def E7o{id}{ops}{t}:A5T C h N (.region id ops true) Q T M t=wWp C N (.region id ops true) Q T M ⟨⟩:=rfl
@[simp] def B3S{x y}{t}:A5T C h N (.seq x y) Q T M t=A5T C h N x (λe T M=>B6r (λT M=>A5T C h N y Q T M ⟨⟩) Q e T M ⟨⟩) T M ⟨⟩:=rfl
@[simp] def E6X{c}{x y}{t}:A5T C h N (.cond c x y) Q T M t=D9m (T.ev C c) (A5T C h N x Q T M ⟨⟩) (A5T C h N y Q T M ⟨⟩) ⟨⟩:=rfl
@[simp] def E5P{id}{c}{t}:A5T C h N (.block id c) Q T M t=A5T C h N c (λe T M=>C3s id Q e T M ⟨⟩) T M ⟨⟩:=rfl
@[simp] def E7t{id}{t}:A5T C h N (.exit id) Q T M t=Q (.exit id) T M:=rfl
@[simp] def E8J{t}:A5T C h N .ret Q T M t=Q .ret T M:=rfl
@[simp] def E7i{c}{t}:A5T C h N (.loop c) Q T M t=wWp C N (.loop c) Q T M ⟨⟩:=rfl
@[simp] def D7q{K:Env->Mem->Prop}{t}:B6r K Q .normal T M t=K T M:=rfl
@[simp] def E0E{K:Env->Mem->Prop}{id}{t}:B6r K Q (.exit id) T M t=Q (.exit id) T M:=rfl
@[simp] def E1f{K:Env->Mem->Prop}{t}:B6r K Q .ret T M t=Q .ret T M:=rfl
@[simp] def D6x{id}{t}:C3s id Q .normal T M t=Q .normal T M:=rfl
@[simp] def E0J{id}{t}:C3s id Q .ret T M t=Q .ret T M:=rfl
@[simp] def D8G{id id'}{t}:C3s id Q (.exit id') T M t=if id'=id then Q .normal T M else Q (.exit id') T M:=rfl
@[simp] def E1D{rs}{Q:AV->Mem->Prop}{t}:D0Q C rs Q .ret T M t=A1p (A3D C rs T M) (λr=>Q r M) ⟨⟩:=D3y
@[simp] def D7w{rs}{Q:AV->Mem->Prop}{t}:D0Q C rs Q .normal T M t=A1p (A3D C rs T M) (λr=>Q r M) ⟨⟩:=C3Y
@[simp] def E0u{b}{x y:Prop}{t}:D9m (.val (.bool b)) x y t=if b=true then x else y:=rfl
@[simp] def E4l{b want}{run skip:Prop}{t}:wGv (.val (.bool b)) want run skip t=if b=want then run else skip:=rfl
@[simp] def E2e{want}{run skip:Prop}{t}:wGv (.val undef) want run skip t=skip:=rfl
@[simp] def D9Q{d}{want}{run skip:Prop}{t}:D8I (some d) want T run skip t=wGv (T d) want run skip ⟨⟩:=rfl
variable {d:Option Tmp} {t:TypeId} {p:String} {af:Array Edge} {g:Option (Nat×Bool)}
@[simp] def D8J{ops}{op}{run skip:Prop}{tg}:B1L ops ⟨d,op,t,p,af,none⟩ T run skip tg=run:=rfl
@[simp] def D8S{ops}{op}{run skip:Prop}{j}{want}{tg}:B1L ops ⟨d,op,t,p,af,some (j,want)⟩ T run skip tg=D8I ((ops[j]?).bind (·.dst)) want T run skip ⟨⟩:=D2F
@[simp] def E3c{ops}{K:Env->Mem->Prop}{tg}:C0K C h ops [] K T M tg=K T M:=rfl
@[simp] def E1u{ops}{o}{rest}{K:Env->Mem->Prop}{tg}:C0K C h ops (o::rest) K T M tg=B1L ops o T (wOp C h o (λv M'=>C0K C h ops rest K (T.put o.dst v) M' ⟨⟩) (T.ev C) M ⟨⟩) (C0K C h ops rest K (T.put o.dst (.val undef)) M ⟨⟩) ⟨⟩:=rfl
@[simp] def E2q{x}{tg}:wOp C h ⟨d,.move x,t,p,af,g⟩ K ρ M tg=K (ρ x) M:=rfl
@[simp] def E5R{x}{r}{tg}:wD C h 0 r ⟨d,.move x,t,p,af,g⟩ ρ M K tg=K (ρ x) M:=rfl
@[simp] def D9A{x}{tg}:wOp C h ⟨d,.assign x,t,p,af,g⟩ K ρ M tg=K (ρ x) M:=rfl
@[simp] def E1h{x}{r}{tg}:wD C h 0 r ⟨d,.assign x,t,p,af,g⟩ ρ M K tg=K (ρ x) M:=rfl
@[simp] def E3J{c a b}{tg}:wOp C h ⟨d,.pick c a b,t,p,af,g⟩ K ρ M tg=A1p (B7z (ρ c) (ρ a) (ρ b)) (λv=>K v M) ⟨⟩:=by show A0L ((B7z (ρ c) (ρ a) (ρ b)).map λv=>(v,M)) (λr=>K r.1 r.2)=_;rw[A2f];rfl
@[simp] def E5s{c a b}{r}{tg}:wD C h 0 r ⟨d,.pick c a b,t,p,af,g⟩ ρ M K tg=A1p (B7z (ρ c) (ρ a) (ρ b)) (λv=>K v M) ⟨⟩:=rfl
@[simp] def D8e{x}{tg}:wOp C h ⟨d,.nilCheck x,t,p,af,g⟩ K ρ M tg=A1p (B4X (ρ x)) (λv=>K v M) ⟨⟩:=by show A0L ((B4X (ρ x)).map λv=>(v,M)) (λr=>K r.1 r.2)=_;rw[A2f];rfl
@[simp] def D8P{x}{r}{tg}:wD C h 0 r ⟨d,.nilCheck x,t,p,af,g⟩ ρ M K tg=A1p (B4X (ρ x)) (λv=>K v M) ⟨⟩:=rfl
@[simp] def E6o{xt:TypeId}{x}{tg}:wOp C h ⟨d,.unOp .not xt x,t,p,af,g⟩ K ρ M tg=A1p (C2z (ρ x)) (λv=>K v M) ⟨⟩:=by show A0L ((C2z (ρ x)).map λv=>(v,M)) (λr=>K r.1 r.2)=_;rw[A2f];rfl
@[simp] def E7X{xt:TypeId}{x}{r}{tg}:wD C h 0 r ⟨d,.unOp .not xt x,t,p,af,g⟩ ρ M K tg=A1p (C2z (ρ x)) (λv=>K v M) ⟨⟩:=rfl
@[simp] def E6z{xt:TypeId}{x}{r}{tg}:wD C h 0 r ⟨d,.unOp .neg xt x,t,p,af,g⟩ ρ M K tg=A1p (D4d (ρ x)) (λv=>K v M) ⟨⟩:=rfl
@[simp] def D6A{xt:TypeId}{x}{f}{tg}:wOp C h ⟨d,.fieldAddr xt x f,t,p,af,g⟩ K ρ M tg=A1p (A8Y (A1q C.P xt f) (ρ x)) (λv=>K v M) ⟨⟩:=by show A0L ((A8Y (A1q C.P xt f) (ρ x)).map λv=>(v,M)) (λr=>K r.1 r.2)=_;rw[A2f];rfl
@[simp] def D8h{xt:TypeId}{x}{f}{r}{tg}:wD C h 0 r ⟨d,.fieldAddr xt x f,t,p,af,g⟩ ρ M K tg=A1p (A8Y (A1q C.P xt f) (ρ x)) (λv=>K v M) ⟨⟩:=rfl
@[simp] def E3M{xt:TypeId}{x}{f}{r}{tg}:wD C h 0 r ⟨d,.field xt x f,t,p,af,g⟩ ρ M K tg=A1p (C3o C.P (A0O C.P xt f) (ρ x)) (λv=>K v M) ⟨⟩:=rfl
@[simp] def D9i{x}{i}{tg}:wOp C h ⟨d,.extract x i,t,p,af,g⟩ K ρ M tg=A1p (A7Z (ρ x) i) (λv=>K v M) ⟨⟩:=by show A0L ((A7Z (ρ x) i).map λv=>(v,M)) (λr=>K r.1 r.2)=_;rw[A2f];rfl
@[simp] def D9I{x}{i}{r}{tg}:wD C h 0 r ⟨d,.extract x i,t,p,af,g⟩ ρ M K tg=A1p (A7Z (ρ x) i) (λv=>K v M) ⟨⟩:=rfl
@[simp] def D6w{xt:TypeId}{x i}{tg}:wOp C h ⟨d,.indexAddr xt x i,t,p,af,g⟩ K ρ M tg=A1p (match A6s ((A0R C.P xt).map (A1h C.P)) (ρ x) (ρ i)with|some v=>some (v,M)|none=>A0A C h ⟨d,.indexAddr xt x i,t,p,af,g⟩ ρ M) (λr=>K r.1 r.2) ⟨⟩:=rfl
@[simp] def D7j{xt:TypeId}{x i}{r}{tg}:wD C h 0 r ⟨d,.indexAddr xt x i,t,p,af,g⟩ ρ M K tg=A1p (A6s ((A0R C.P xt).map (A1h C.P)) (ρ x) (ρ i)) (λv=>K v M) ⟨⟩:=rfl
@[simp] def E1Y{xt:TypeId}{x i}{tg}:wOp C h ⟨d,.index xt x i,t,p,af,g⟩ K ρ M tg=A1p (B5d (C.P.underlying xt) (ρ x) (ρ i)) (λv=>K v M) ⟨⟩:=by show A0L ((B5d (C.P.underlying xt) (ρ x) (ρ i)).map λv=>(v,M)) (λr=>K r.1 r.2)=_;rw[A2f];rfl
@[simp] def E2T{xt:TypeId}{x i:Operand}{r:Nat}{tg:Tag ((⟨d,.index xt x i,t,p,af,g⟩:Oper),K)}:wD C h 0 r ⟨d,.index xt x i,t,p,af,g⟩ ρ M K tg=A1p (C8m C.P (C.P.underlying xt) (ρ x) (ρ i)) (λv=>K v M) ⟨⟩:=rfl
@[simp] def D7u{fn}{f c}{tg}:wOp C h ⟨d,.makeFunc fn f c,t,p,af,g⟩ K ρ M tg=K (.func fn (f.toList.map ρ) (c.toList.map ρ)) M:=rfl
@[simp] def D9p{fn}{f c}{r}{tg}:wD C h 0 r ⟨d,.makeFunc fn f c,t,p,af,g⟩ ρ M K tg=K (.func fn (f.toList.map ρ) (c.toList.map ρ)) M:=rfl
@[simp] def D4Q{P:Program}{t:TypeId}{M:Mem}{sz:Nat}{rows:List (List AV)}{o:Own}{lo hi mx:Option AV}:A3j P t M (.list sz rows o) lo hi mx=none:=rfl
@[simp] def D6E{P:Program}{t:TypeId}{M:Mem}{v:Value}{lo hi mx:Option AV}:A3j P t M (.val v) lo hi mx=none:=rfl
@[simp] def E1s{st:TypeId}{x:Operand}{lo hi mx:Option Operand}{tg:Tag ((⟨d,.slice st x lo hi mx,t,p,af,g⟩:Oper),K)}:wOp C h ⟨d,.slice st x lo hi mx,t,p,af,g⟩ K ρ M tg=A1p ((A2r C.P st (ρ x) (lo.map ρ) (hi.map ρ) (mx.map ρ)).or (A3j C.P st M (ρ x) (lo.map ρ) (hi.map ρ) (mx.map ρ))) (λv=>K v M) ⟨⟩:=by
 show A0L (match A2r C.P st (ρ x) (lo.map ρ) (hi.map ρ) (mx.map ρ)with|some v=>some (v,M)|none=>A0A C h ⟨d,.slice st x lo hi mx,t,p,af,g⟩ ρ M) (λr=>K r.1 r.2)=A0L ((A2r C.P st (ρ x) (lo.map ρ) (hi.map ρ) (mx.map ρ)).or (A3j C.P st M (ρ x) (lo.map ρ) (hi.map ρ) (mx.map ρ))) (λv=>K v M);cases hs:A2r C.P st (ρ x) (lo.map ρ) (hi.map ρ) (mx.map ρ)with
 |some v=>rfl
 |none=>have e1:A0q C h ⟨d,.slice st x lo hi mx,t,p,af,g⟩ ρ=none:=hs;simp only[A0A,e1,A0U,A0Q,A0E,A2Q,Z2M];cases A3j C.P st M (ρ x) (lo.map ρ) (hi.map ρ) (mx.map ρ)<;>rfl
@[simp] def E1v{x:Operand}{xt:TypeId}{tg:Tag ((⟨d,.call {callee:=.builtin .clear,args:=#[x],argTypes:=#[xt]},t,p,af,g⟩:Oper),K)}:wOp C h ⟨d,.call {callee:=.builtin .clear,args:=#[x],argTypes:=#[xt]},t,p,af,g⟩ K ρ M tg=A1p (A5u C.P xt M (ρ x)) (λr=>K r.1 r.2) ⟨⟩:=by
 show A0L (A0A C h ⟨d,.call {callee:=.builtin .clear,args:=#[x],argTypes:=#[xt]},t,p,af,g⟩ ρ M) (λr=>K r.1 r.2)=A0L (A5u C.P xt M (ρ x)) (λr=>K r.1 r.2);simp[A0A,A0q,A6M,A0U,A0Q,A2e,A0E,A2Q,A3n]
@[simp] def E3P{st:TypeId}{x}{lo hi mx}{r}{tg}:wD C h 0 r ⟨d,.slice st x lo hi mx,t,p,af,g⟩ ρ M K tg=A1p (A2r C.P st (ρ x) (lo.map ρ) (hi.map ρ) (mx.map ρ)) (λv=>K v M) ⟨⟩:=rfl
@[simp] def E2g{bt:TypeId}{ps:List (Nat×Operand)}{tg}:wOp C h ⟨d,.build bt ps.toArray,t,p,af,g⟩ K ρ M tg=A1p (match A0D C.P bt (ps.map λx=>(x.1,ρ x.2))with|some v=>some (v,M)|none=>A0A C h ⟨d,.build bt ps.toArray,t,p,af,g⟩ ρ M) (λr=>K r.1 r.2) ⟨⟩:=rfl
@[simp] def E2W{bt:TypeId}{ps:List (Nat×Operand)}{r:Nat}{tg}:wD C h 0 r ⟨d,.build bt ps.toArray,t,p,af,g⟩ ρ M K tg=A1p (A0D C.P bt (ps.map λx=>(x.1,ρ x.2))) (λv=>K v M) ⟨⟩:=rfl
@[simp] def D9h{a b:TypeId}{x}{tg}:wOp C h ⟨d,.convert a b x,t,p,af,g⟩ K ρ M tg=A1p (match A7e C.P a b (ρ x)with|some v=>some (v,M)|none=>A0A C h ⟨d,.convert a b x,t,p,af,g⟩ ρ M) (λr=>K r.1 r.2) ⟨⟩:=rfl
@[simp] def E0k{a b:TypeId}{x}{r}{tg}:wD C h 0 r ⟨d,.convert a b x,t,p,af,g⟩ ρ M K tg=A1p (A7e C.P a b (ρ x)) (λv=>K v M) ⟨⟩:=rfl
@[simp] def E2c{op}{xt yt:TypeId}{x y}{tg}:wOp C h ⟨d,.binOp op xt x y yt,t,p,af,g⟩ K ρ M tg=B9Z C.P op xt (ρ x) (ρ y) (λv=>K v M) ⟨⟩:=rfl
@[simp] def E4A{op}{xt yt:TypeId}{x y}{r}{tg}:wD C h 0 r ⟨d,.binOp op xt x y yt,t,p,af,g⟩ ρ M K tg=A1p (A1s C.P op xt (ρ x) (ρ y)) (λv=>K v M) ⟨⟩:=rfl
@[simp] def E4o{lt:TypeId}{x}{tg}:wOp C h ⟨d,.load lt x,t,p,af,g⟩ K ρ M tg=A1p (A1D C.P lt M (ρ x)) (λv=>K v M) ⟨⟩:=A2f _ _ _
@[simp] def E1J{lt:TypeId}{x y}{tg}:wOp C h ⟨d,.store lt x y,t,p,af,g⟩ K ρ M tg=A1p (A0n (A1h C.P lt) M (ρ x) (ρ y)) (λM'=>K (.val undef) M') ⟨⟩:=A2f _ _ _
@[simp] def E1t{lt:TypeId}{x y}{r}{tg}:wD C h 2 r ⟨d,.store lt x y,t,p,af,g⟩ ρ M K tg=A1p (A0n (A1h C.P lt) M (ρ x) (ρ y)) (λM'=>K (.val undef) M') ⟨⟩:=A2f _ _ _
@[simp] def E1r{e:TypeId}{tg}:wOp C h ⟨d,.alloc e,t,p,af,g⟩ K ρ M tg=A1p (A0m C.P e M) (λx=>K x.1 x.2) ⟨⟩:=rfl
@[simp] def E2j{e:TypeId}{r}{tg}:wD C h 2 r ⟨d,.alloc e,t,p,af,g⟩ ρ M K tg=A1p (A0m C.P e M) (λx=>K x.1 x.2) ⟨⟩:=rfl
@[simp] def E5O{e:TypeId}{x}{tg}:wOp C h ⟨d,.box e x,t,p,af,g⟩ K ρ M tg=A1p (C1J (A1V h.imm d) e M (ρ x)) (λx=>K x.1 x.2) ⟨⟩:=rfl
@[simp] def E6n{e:TypeId}{x}{r}{tg}:wD C h 2 r ⟨d,.box e x,t,p,af,g⟩ ρ M K tg=A1p (C1J (A1V h.imm d) e M (ρ x)) (λx=>K x.1 x.2) ⟨⟩:=rfl
@[simp] def D8L{mt:TypeId}{tg}:wOp C h ⟨d,.makeMap mt none,t,p,af,g⟩ K ρ M tg=K (.mapr M.length) (M++[.map [] 0]):=rfl
@[simp] def D9d{mt:TypeId}{r}{tg}:wD C h 2 r ⟨d,.makeMap mt none,t,p,af,g⟩ ρ M K tg=K (.mapr M.length) (M++[.map [] 0]):=rfl
@[simp] def D9O{mt:TypeId}{m k}{ok}{tg}:wOp C h ⟨d,.lookup mt m k ok,t,p,af,g⟩ K ρ M tg=A1p (A1J C.P mt M (ρ m) (ρ k) ok) (λv=>K v M) ⟨⟩:=A2f _ _ _
@[simp] def D6t{mt:TypeId}{m k x}{tg}:wOp C h ⟨d,.mapUpdate mt m k x,t,p,af,g⟩ K ρ M tg=A1p (A1u C.P mt M (ρ m) (ρ k) (ρ x)) (λM'=>K (.val undef) M') ⟨⟩:=A2f _ _ _
@[simp] def D6z{mt:TypeId}{m k x}{r}{tg}:wD C h 2 r ⟨d,.mapUpdate mt m k x,t,p,af,g⟩ ρ M K tg=A1p (A1u C.P mt M (ρ m) (ρ k) (ρ x)) (λM'=>K (.val undef) M') ⟨⟩:=A2f _ _ _
@[simp] def E0T{mt:TypeId}{m k x:Operand}{tg:Tag ((⟨d,.insert mt m k x,t,p,af,g⟩:Oper),K)}:wOp C h ⟨d,.insert mt m k x,t,p,af,g⟩ K ρ M tg=A1p (A1u C.P mt M (ρ m) (ρ k) (ρ x)) (λM'=>K (.val undef) M') ⟨⟩:=A2f _ _ _
@[simp] def D6C{st:TypeId}{l c}{tg}:wOp C h ⟨d,.makeSlice st l c,t,p,af,g⟩ K ρ M tg=A1p (A4r C.P st (ρ l) (ρ c) M) (λr=>K r.1 r.2) ⟨⟩:=rfl
@[simp] def D6v{st:TypeId}{l c}{r}{tg}:wD C h 2 r ⟨d,.makeSlice st l c,t,p,af,g⟩ ρ M K tg=A1p (A4r C.P st (ρ l) (ρ c) M) (λr=>K r.1 r.2) ⟨⟩:=rfl
@[simp] def E1R{st:TypeId}{x}{tg}:wOp C h ⟨d,.range st x,t,p,af,g⟩ K ρ M tg=A1p (A6z C.P st (ρ x) M) (λr=>K r.1 r.2) ⟨⟩:=rfl
@[simp] def E1w{st:TypeId}{x}{r}{tg}:wD C h 2 r ⟨d,.range st x,t,p,af,g⟩ ρ M K tg=A1p (A6z C.P st (ρ x) M) (λr=>K r.1 r.2) ⟨⟩:=rfl
@[simp] def E3R{x}{tg}:wOp C h ⟨d,.next x true,t,p,af,g⟩ K ρ M tg=A1p (A5D (ρ x) M) (λr=>K r.1 r.2) ⟨⟩:=rfl
@[simp] def E4w{x}{r}{tg}:wD C h 2 r ⟨d,.next x true,t,p,af,g⟩ ρ M K tg=A1p (A5D (ρ x) M) (λr=>K r.1 r.2) ⟨⟩:=rfl
@[simp] def E5Y{x}{xt:TypeId}{tg}:wOp C h ⟨d,.call {callee:=.builtin .len,args:=#[x],argTypes:=#[xt]},t,p,af,g⟩ K ρ M tg=A1p ((A1Z C.P xt (ρ x)).or (A3d C.P xt M (ρ x))) (λn=>K (.val (.int .i64 n)) M) ⟨⟩:=A2f _ _ _
@[simp] def E5i{x}{xt:TypeId}{r}{tg}:wD C h 2 r ⟨d,.call {callee:=.builtin .len,args:=#[x],argTypes:=#[xt]},t,p,af,g⟩ ρ M K tg=A1p ((A1Z C.P xt (ρ x)).or (A3d C.P xt M (ρ x))) (λn=>K (.val (.int .i64 n)) M) ⟨⟩:=A2f _ _ _
@[simp] def E2I{x y}{xt yt:TypeId}{tg}:wOp C h ⟨d,.call {callee:=.builtin .copy,args:=#[x,y],argTypes:=#[xt,yt]},t,p,af,g⟩ K ρ M tg=A1p (A5H C.P xt yt M (ρ x) (ρ y)) (λr=>K r.1 r.2) ⟨⟩:=rfl
@[simp] def E3N{x y}{xt yt:TypeId}{r}{tg}:wD C h 2 r ⟨d,.call {callee:=.builtin .copy,args:=#[x,y],argTypes:=#[xt,yt]},t,p,af,g⟩ ρ M K tg=A1p (A5H C.P xt yt M (ρ x) (ρ y)) (λr=>K r.1 r.2) ⟨⟩:=rfl
@[simp] def E5K{C}{h}{t:TypeId}{d}:B3L C h t d=(A1V h.vec d&&!C.data t):=rfl
@[simp] def D4H{bt:TypeId}{n:Nat}{ps:List (Nat×Operand)}{tg}:wOp C h ⟨d,.buildSlice bt n ps.toArray,t,p,af,g⟩ K ρ M tg=if B3L C h bt d=true then A1p (A1C C.P bt n (ps.map λx=>(x.1,ρ x.2)) M) (λr=>K r.1 r.2) ⟨⟩else A1p (A0p C.P bt n (ps.map λx=>(x.1,ρ x.2))) (λv=>K v M) ⟨⟩:=by
 show A0L (if B3L C h bt d=true then A1C C.P bt n (ps.map λp=>(p.1,ρ p.2)) M else(A0p C.P bt n (ps.map λp=>(p.1,ρ p.2))).map λv=>(v,M)) (λr=>K r.1 r.2)=_;split
 .rfl
 .exact A2f _ _ _
@[simp] def D6r{bt:TypeId}{n:Nat}{ps:List (Nat×Operand)}{r:Nat}{tg}:wD C h 0 r ⟨d,.buildSlice bt n ps.toArray,t,p,af,g⟩ ρ M K tg=A1p (if B3L C h bt d=true then none else A0p C.P bt n (ps.map λx=>(x.1,ρ x.2))) (λv=>K v M) ⟨⟩:=rfl
@[simp] def E4U{x y}{ts}{tg}:wOp C h ⟨d,.call {callee:=.builtin .max,args:=#[x,y],argTypes:=ts},t,p,af,g⟩ K ρ M tg=A1p (A7L true (ρ x) (ρ y)) (λv=>K v M) ⟨⟩:=by show A0L ((A7L true (ρ x) (ρ y)).map λv=>(v,M)) (λr=>K r.1 r.2)=_;rw[A2f];rfl
@[simp] def E6Y{x y}{ts}{r}{tg}:wD C h 0 r ⟨d,.call {callee:=.builtin .max,args:=#[x,y],argTypes:=ts},t,p,af,g⟩ ρ M K tg=A1p (A7L true (ρ x) (ρ y)) (λv=>K v M) ⟨⟩:=rfl
@[simp] def E7P{x y}{ts}{r}{tg}:wD C h 0 r ⟨d,.call {callee:=.builtin .min,args:=#[x,y],argTypes:=ts},t,p,af,g⟩ ρ M K tg=A1p (A7L false (ρ x) (ρ y)) (λv=>K v M) ⟨⟩:=rfl
@[simp] def E7b{x}{xt:TypeId}{r}{tg}:wD C h 0 r ⟨d,.call {callee:=.builtin .len,args:=#[x],argTypes:=#[xt]},t,p,af,g⟩ ρ M K tg=A1p (A1Z C.P xt (ρ x)) (λ(n:Nat)=>K (.val (.int .i64 n)) M) ⟨⟩:=A2f _ _ _
@[simp] def E2k{lt:TypeId}{x}{r}{tg}:wD C h 0 r ⟨d,.load lt x,t,p,af,g⟩ ρ M K tg=A1p (D4m C.P lt (ρ x)) (λv=>K v M) ⟨⟩:=rfl
@[simp] def E5j{e:TypeId}{x}{r}{tg}:wD C h 0 r ⟨d,.box e x,t,p,af,g⟩ ρ M K tg=A1p (E3d (A1V h.imm d) (ρ x)) (λv=>K v M) ⟨⟩:=rfl
@[simp] def E4F{lt:TypeId}{x}{r}{tg}:wD C h 1 r ⟨d,.load lt x,t,p,af,g⟩ ρ M K tg=wAt (A6w (ρ x)) r (A1p (A1D C.P lt M (ρ x)) (λv=>K v M) ⟨⟩) ⟨⟩:=by
 show(A0M _ ρ=some r/\A0L (A1D C.P lt M (ρ x)) (λv=>K v M))=(A6w (ρ x)=some r/\A0L (A1D C.P lt M (ρ x)) (λv=>K v M));have e:A0M ⟨d,.load lt x,t,p,af,g⟩ ρ=some r/\A0L (A1D C.P lt M (ρ x)) (λv=>K v M)<->A6w (ρ x)=some r/\A0L (A1D C.P lt M (ρ x)) (λv=>K v M):=by simp only[A0M,A6w];cases ρ x<;>simp[A1D,A3b]
 exact propext e
@[simp] def E0n{mt:TypeId}{m k}{ok}{r}{tg}:wD C h 1 r ⟨d,.lookup mt m k ok,t,p,af,g⟩ ρ M K tg=(A0M ⟨d,.lookup mt m k ok,t,p,af,g⟩ ρ=some r/\A1p (A1J C.P mt M (ρ m) (ρ k) ok) (λv=>K v M) ⟨⟩):=rfl
@[simp] def E4p{f:Operand}{args:List Operand}{ts:Array TypeId}{tg}:wOp C h ⟨d,.call {callee:=.value f,args:=args.toArray,argTypes:=ts},t,p,af,g⟩ K ρ M tg=D9o C (ρ f) (args.map ρ) M K ⟨⟩:=rfl
@[simp] def D9M{f}{first captured args}{tg}:D9o C (.func (.func f) first captured) args M K tg=B7L C f (first++args++captured) M K ⟨⟩:=rfl
@[simp] def E3r{f:Operand}{args:List Operand}{ts:Array TypeId}{r:Nat}{tg}:wD C h 0 r ⟨d,.call {callee:=.value f,args:=args.toArray,argTypes:=ts},t,p,af,g⟩ ρ M K tg=D1h C (ρ f) (args.map ρ) M K ⟨⟩:=rfl
@[simp] def E4u{f:Operand}{args:List Operand}{ts:Array TypeId}{r:Nat}{tg}:wD C h 2 r ⟨d,.call {callee:=.value f,args:=args.toArray,argTypes:=ts},t,p,af,g⟩ ρ M K tg=D0t C (ρ f) (args.map ρ) M K ⟨⟩:=rfl
@[simp] def D6R{f}{first captured args}{tg}:D1h C (.func (.func f) first captured) args M K tg=C7U C f (first++args++captured) M K ⟨⟩:=rfl
@[simp] def D8b{f}{first captured args}{tg}:D0t C (.func (.func f) first captured) args M K tg=D4J C f (first++args++captured) M K ⟨⟩:=rfl
@[simp] def D9W{s x}{st xt:TypeId}{tg}:wOp C h ⟨d,.call {callee:=.builtin .append,args:=#[s,x],argTypes:=#[st,xt]},t,p,af,g⟩ K ρ M tg=A6a C (A1V h.own d) (A1V h.vec d) st xt (ρ s) (ρ x) M K ⟨⟩:=rfl
@[simp] def E1o{s x}{st xt:TypeId}{r}{tg}:wD C h 2 r ⟨d,.call {callee:=.builtin .append,args:=#[s,x],argTypes:=#[st,xt]},t,p,af,g⟩ ρ M K tg=A6a C (A1V h.own d) (A1V h.vec d) st xt (ρ s) (ρ x) M K ⟨⟩:=rfl
@[simp] def E3Q{P}{op}{k}{a b}{f:AV->Prop}{tg}:B9Z P op t (.val (.int k a)) (.val (.int k b)) f tg=A1p ((A9x op k a b).map .val) f ⟨⟩:=D4j
@[simp] def E4z{P}{op}{a b}{f:AV->Prop}{tg}:B9Z P op t (.val (.string a)) (.val (.string b)) f tg=A1p ((C0q op a b).map .val) f ⟨⟩:=D3N
@[simp] def E1N{P}{op}{a b}{f:AV->Prop}{tg}:B9Z P op t (.val (.bool a)) (.val (.bool b)) f tg=A1p (A1s P op t (.val (.bool a)) (.val (.bool b))) f ⟨⟩:=D1F
@[simp] def E3C{P}{op}{b o}{y}{f:AV->Prop}{tg}:B9Z P op t (.ptr b o) (.val y) f tg=A1p (A1s P op t (.ptr b o) (.val y)) f ⟨⟩:=D5u
@[simp] def E6s{P}{op}{b o b2 o2}{f:AV->Prop}{tg}:B9Z P op t (.ptr b o) (.ptr b2 o2) f tg=A1p ((B1j P op t b o b2 o2).map λb=>.val (.bool b)) f ⟨⟩:=rfl
@[simp] def E3a{P:Program}{op:BinOp}{y:AV}{f:AV->Prop}{tg:Tag f}:B9Z P op t (.val (.slice none 0 0)) y f tg=A1p (A1s P op t (.val (.slice none 0 0)) y) f ⟨⟩:=C5d
@[simp] def E1A{P}{op}{sz}{r}{rows}{own}{y}{f:AV->Prop}{tg}:B9Z P op t (.list sz (r::rows) own) y f tg=A1p (A1s P op t (.list sz (r::rows) own) y) f ⟨⟩:=D3w
@[simp] def E3V{P}{op}{cs}{y}{f:AV->Prop}{tg}:B9Z P op t (.agg cs) y f tg=A1p (A1s P op t (.agg cs) y) f ⟨⟩:=A6l rfl
def A9i{P}{op}{e:TypeId}{sz}{own}{f:AV->Prop}{tg}(a:op=.eql\/op=.neq)(ht:P.underlying t=some (.slice e)):B9Z P op t (.list sz [] own) (.val (.slice none 0 0)) f tg=∀b,f (.val (.bool b)):=C0F a ht
variable {cls rob:Nat->Nat}
@[simp] def E1d{ops}{k}{K:Env->Mem->Prop}{tg}:C5w C h ops cls rob k [] T M K tg=K T M:=rfl
@[simp] def E0x{ops}{k}{o}{rest}{K:Env->Mem->Prop}{tg}:C5w C h ops cls rob k (o::rest) T M K tg=B1L ops o T (wD C h (cls k) (rob k) o (T.ev C) M (λv M'=>C5w C h ops cls rob (k+1) rest (T.put o.dst v) M' K ⟨⟩) ⟨⟩) (C5w C h ops cls rob (k+1) rest (T.put o.dst (.val undef)) M K ⟨⟩) ⟨⟩:=rfl
@[simp] def D6D{x}{xt:TypeId}{d}{t:TypeId}{p}{af}{g}{tg}:wOp C h ⟨d,.call {callee:=.builtin .unsafeSliceData,args:=#[x],argTypes:=#[xt]},t,p,af,g⟩ K ρ M tg=A1p ((A3K M (ρ x)).map λv=>(v,M)) (λr=>K r.1 r.2) ⟨⟩:=rfl
@[simp] def D6B{x y}{xt yt:TypeId}{d}{t:TypeId}{p}{af}{g}{tg}:wOp C h ⟨d,.call {callee:=.builtin .unsafeString,args:=#[x,y],argTypes:=#[xt,yt]},t,p,af,g⟩ K ρ M tg=A1p (A2q C.P xt M (ρ x) (ρ y)) (λr=>K r.1 r.2) ⟨⟩:=rfl
@[simp] def D6H{x}{xt:TypeId}{r}{d}{t:TypeId}{p}{af}{g}{tg}:wD C h 2 r ⟨d,.call {callee:=.builtin .unsafeSliceData,args:=#[x],argTypes:=#[xt]},t,p,af,g⟩ ρ M K tg=A1p ((A3K M (ρ x)).map λv=>(v,M)) (λr=>K r.1 r.2) ⟨⟩:=rfl
@[simp] def D6I{x y}{xt yt:TypeId}{r}{d}{t:TypeId}{p}{af}{g}{tg}:wD C h 2 r ⟨d,.call {callee:=.builtin .unsafeString,args:=#[x,y],argTypes:=#[xt,yt]},t,p,af,g⟩ ρ M K tg=A1p (A2q C.P xt M (ρ x) (ρ y)) (λr=>K r.1 r.2) ⟨⟩:=rfl
def A4A{f}{args}{Q':AV->Mem->Prop}{tg}(hc:A4d C f args M Q')(hk:∀r M',Q' r M'->K r M'):B7L C f args M K tg:=hc.mono hk
def C3u{f}{args}{r}{tg}(hc:∀M,A4d C f args M (λv M'=>v=r/\M'=M))(hk:K r M):C7U C f args M K tg:=⟨r,hc,hk⟩
def A5f{f}{args}{r}{M1}{tg}(hc:A4d C f args M (λv M'=>v=r/\M'=M1))(hk:K r M1):D4J C f args M K tg:=⟨r,M1,hc,hk⟩
def B8i{own vec}{st xt e:TypeId}{sz bytes}{s x}{tg}(h1:A0R C.P st=some e)(h2:A4f C.P xt)(h3:A3x C.P e sz bytes)(h4:B0x sz s)(h5:B0x sz x)(h6:(A8X s+A8X x)*bytes<=140737488355328)
 (hk:A1p (A7E own sz s x M) (λr=>K r.1 r.2) ⟨⟩)(hv:A8R vec s=false:=by rfl):A6a C own vec st xt s x M K tg:=by
 refine⟨e,sz,bytes,⟨h1,h2,h3⟩,?_⟩
 have e1:A3u own vec e sz bytes s x M=A7E own sz s x M:=by unfold A3u;rw[Z0e (by simp only[hv];simp),Z0d (by rw[B1M.2 h4,B1M.2 h5,Z0s h6];rfl)]
 rw[e1];exact hk
def A6u{own vec}{st xt e:TypeId}{sz bytes k m}{s x}{cs news}{tg}(h1:A0R C.P st=some e)(h2:A4f C.P xt)(h3:A3x C.P e sz bytes)(h4:A0z M sz s=some (cs,k))(h5:A0z M sz x=some (news,m))(h6:(k+m)*bytes<=140737488355328)
 (hi:A3g e sz s x M=none)(hk:A1p (A2L e sz s x M) (λr=>K r.1 r.2) ⟨⟩)(hv:A8R vec s=true:=by rfl):A6a C own vec st xt s x M K tg:=by
 refine⟨e,sz,bytes,⟨h1,h2,h3⟩,?_⟩
 have e1:A3u own vec e sz bytes s x M=A2L e sz s x M:=by simp[A3u,hv,h4,h5,h6,hi]
 rw[e1];exact hk
def E3m{own vec:Bool}{st xt e:TypeId}{sz bytes k m:Nat}{s x:AV}{cs news:List AV}{r:AV×Mem}{tg:Tag K}(h1:A0R C.P st=some e)(h2:A4f C.P xt)(h3:A3x C.P e sz bytes)(h4:A0z M sz s=some (cs,k))(h5:A0z M sz x=some (news,m))(h6:(k+m)*bytes<=140737488355328)
 (hi:A3g e sz s x M=some r)(hk:K r.1 r.2)(hv:A8R vec s=true:=by rfl):A6a C own vec st xt s x M K tg:=by
 refine⟨e,sz,bytes,⟨h1,h2,h3⟩,?_⟩
 have e1:A3u own vec e sz bytes s x M=some r:=by simp[A3u,hv,h4,h5,h6,hi]
 rw[e1];exact hk
def A1i{id}{l}{tg}(h:A2x)(a:C.P.follows .mixedOrders=true)(cls rob:Nat->Nat)(c:A2m N l.toArray l=true)(b:A4H l.toArray (A6I cls λ_=>0)=true) (hr:C5w C h l.toArray cls rob 0 l T M (λT M=>Q .normal T M) ⟨⟩):wWp C N (.region id l.toArray true) Q T M tg:=C8i a cls rob c b hr
def E0i{f}{fn}{c}{args}{Q:AV->Mem->Prop}{rs}(h:A2x)(hf:C.P.funcs[f]?=some fn)(hb:fn.body=some c)(hN:fn.ntmps=N)(a:fn.results=rs.toArray) (hn:decide (args.length<=N)=true)(b:A5v N rs=true)(d:A2X N c=true)(hw:A5T C h N c (λe T M=>D0Q C rs Q e T M ⟨⟩) (Env.of args) M ⟨⟩):A0d C f args M Q:=B1I hf hb hN a hn b (A4Q (h:=h) c _ _ _ d hw)
def A3e{c}{tg}(h:A2x)(I:Env->Mem->Prop)(μ:Env->Mem->Nat)(b:A2X N c=true)(h0:I T M) (a:∀T M,I T M->A5T C h N c (λe T' M'=>B6r (λT' M'=>I T' M'/\μ T' M'<μ T M) Q e T' M' ⟨⟩) T M ⟨⟩):wWp C N (.loop c) Q T M tg:=D5x I μ h0 λT M hI=>A4Q (h:=h) c _ T M b (a T M hI)
end
section
variable {C:Ctx} {N:Nat} {Q:Post} {T:Env} {M:Mem} {K:AV->Mem->Prop}
def A0s{f}{fn}{c}{args}{Q':AV->Mem->Prop}{tg}(hf:C.P.funcs[f]?=some fn)(hc:A0d C f args M Q')(hk:∀r M',Q' r M'->K r M')(hb:fn.body=some c:=by exact rfl) (hn:(fn.name== "runtime.NumGoroutine")=false:=by exact rfl):B7L C f args M K tg:=A4A (.inl ⟨A9I hf hb hn,hc⟩) hk
def A0f{f}{fn}{c}{args}{v}{tg}(hf:C.P.funcs[f]?=some fn)(hc:A0d C f args M (λr M'=>r=v/\M'=M))(hk:K v M)(hb:fn.body=some c:=by exact rfl) (hn:(fn.name== "runtime.NumGoroutine")=false:=by exact rfl):B7L C f args M K tg:=A4A (.inl ⟨A9I hf hb hn,hc⟩) λ_ _ ⟨h1,h2⟩=>h1▸h2▸hk
def A1M{f}{fn}{c}{args}{v}{tg}(hf:C.P.funcs[f]?=some fn)(hc:∀M,A0d C f args M (λr M'=>r=v/\M'=M))(hk:K v M)(hb:fn.body=some c:=by exact rfl) (hn:(fn.name== "runtime.NumGoroutine")=false:=by exact rfl):C7U C f args M K tg:=C3u (λM=>.inl ⟨A9I hf hb hn,hc M⟩) hk
def A0j{f}{fn}{c}{args}{Q:AV->Mem->Prop}{rs}(h:A2x)(hf:C.P.funcs[f]?=some fn)(hw:A5T C h N c (λe T M=>D0Q C rs Q e T M ⟨⟩) (Env.of args) M ⟨⟩)(hb:fn.body=some c:=by exact rfl)(hN:fn.ntmps=N:=by exact rfl) (a:fn.results=rs.toArray:=by exact rfl)(hn:decide (args.length<=N)=true:=by exact rfl)(b:A5v N rs=true:=by exact rfl)(d:A2X N c=true:=by exact rfl):A0d C f args M Q:=E0i h hf hb hN a hn b d hw
def D1d:AV->Nat
 |.val (.int _ i)=>i.toNat
 |_=>0
@[simp] def E1i{k}{i}:D1d (.val (.int k i))=i.toNat:=rfl
def A0v{c}{tg}(h:A2x)(n k:Nat)(I:Env->Mem->Prop)(h0:I T M)(a:∀T M,I T M->A5T C h N c (λe T' M'=>B6r (λT' M'=>I T' M'/\n-D1d (T' k)<n-D1d (T k)) Q e T' M' ⟨⟩) T M ⟨⟩) (b:A2X N c=true:=by kernel_rfl):wWp C N (.loop c) Q T M tg:=A3e h I (λT _=>n-D1d (T k)) b h0 a
end
@[simp] def E1Z{P}{t:TypeId}{s}(h:P.underlying t=some .string):A1Z P t (.val (.string s))=some s.size:=by simp[A1Z,h]
@[simp] def E0e{P}{t e:TypeId}{sz}{rows}{own}(h:P.underlying t=some (.slice e)):A1Z P t (.list sz rows own)=some rows.length:=by simp[A1Z,h]
@[simp] def E0f{P}{t e:TypeId}{a b c f l}(h:P.underlying t=some (.slice e)):A1Z P t (.vref a b c f l)=some l:=by simp[A1Z,h]
@[simp] def E1H{P}{t e:TypeId}(h:P.underlying t=some (.slice e)):A1Z P t (.val (.slice none 0 0))=some 0:=by simp[A1Z,h]
end
def B3d{α:Type}{o}{f g:α->Prop}(h:∀x,f x->g x)(k:A0L o f):A0L o g:=by
 cases o with
 |none=>exact k
 |some v=>exact h v k
def D2r{C}{h}{o}{K K':AV->Mem->Prop}{ρ:Operand->AV}{M}(hk:∀v m,K v m->K' v m)(hw:C9h C h o K ρ M):C9h C h o K' ρ M:=by
 unfold C9h at hw|-;split at hw
 .rename_i bop bt x y yt heq;unfold C7M at hw|-;split at hw
  .exact B3d (λv=>hk v M) hw
  .rename_i hne;unfold B4z at hw|-;cases hb:A1s C.P bop bt (ρ x) (ρ y)with
   |some v=>rw[hb]at hw;exact hk _ _ hw
   |none=>rw[hb]at hw;exact⟨hw.1,λb=>hk _ _ (hw.2 b)⟩
 .unfold D3Y at hw|-;split at hw
  .exact A4d.mono hw hk
  .exact hw
 .split at hw
  .obtain⟨e,sz,bytes,h1,h2⟩:=hw;exact⟨e,sz,bytes,h1,B3d (λr=>hk r.1 r.2) h2⟩
  .exact hw
 .exact B3d (λr=>hk r.1 r.2) hw
def B2Y{C}{h}{ops}{K K':Env->Mem->Prop}(hk:∀T M,K T M->K' T M):∀(l:List Oper) (T:Env) (M:Mem),B4q C h ops l K T M->B4q C h ops l K' T M
 |[],T,M,hw=>hk _ _ hw
 |o::rest,T,M,hw=>by simp only[B4q]at hw|-;exact A4q (D2r λv m h2=>B2Y hk rest _ _ h2) (B2Y hk rest _ _) hw
def A6r{C}{h}{N}:∀(c:Code) (Q Q':Exit->Env->Mem->Prop) (T:Env) (M:Mem),(∀e T M,Q e T M->Q' e T M)->A5E C h N c Q T M->A5E C h N c Q' T M
 |.skip,Q,Q',T,M,hq,hv=>hq _ _ _ hv
 |.label _,Q,Q',T,M,hq,hv=>hq _ _ _ hv
 |.region id ops draw,Q,Q',T,M,hq,hv=>by
  simp only[A5E]at hv|-;cases draw with
  |true=>exact AWp.mono (by simpa using hv) hq
  |false=>simpa using B2Y (λT M=>hq _ T M) _ _ _ (by simpa using hv)
 |.seq x y,Q,Q',T,M,hq,hv=>by
  simp only[A5E]at hv|-;refine A6r x _ _ T M (λe T M hx=>?_) hv;cases e with
  |normal=>exact A6r y _ _ T M hq hx
  |_=>exact hq _ _ _ hx
 |.cond c x y,Q,Q',T,M,hq,hv=>by
  simp only[A5E]at hv|-;unfold D0h at hv|-;split at hv
  .split at hv
   .rename_i e;rw[Z0d e];exact A6r x _ _ T M hq hv
   .rename_i e;rw[Z0e e];exact A6r y _ _ T M hq hv
  .exact hv
 |.block id c,Q,Q',T,M,hq,hv=>by
  simp only[A5E]at hv|-;refine A6r c _ _ T M (λe T M hx=>?_) hv;cases e with
  |exit i=>
   simp only[A7w]at hx|-;split at hx
   .rename_i e;rw[Z0d e];exact hq _ _ _ hx
   .rename_i e;rw[Z0e e];exact hq _ _ _ hx
  |_=>exact hq _ _ _ hx
 |.exit id,Q,Q',T,M,hq,hv=>hq _ _ _ hv
 |.ret,Q,Q',T,M,hq,hv=>hq _ _ _ hv
 |.loop c,Q,Q',T,M,hq,hv=>AWp.mono (show AWp C N (.loop c) Q T M from hv) hq
 |.rangeFunc ..,Q,Q',T,M,hq,hv=>AWp.mono (show AWp C N _ Q T M from hv) hq
 |.scope ..,Q,Q',T,M,hq,hv=>AWp.mono (show AWp C N _ Q T M from hv) hq
 |.goto ..,Q,Q',T,M,hq,hv=>AWp.mono (show AWp C N _ Q T M from hv) hq
 |.refuse ..,Q,Q',T,M,hq,hv=>AWp.mono (show AWp C N _ Q T M from hv) hq
def C2W{C}{h}{N}{c}{Q}{T}{M}{tg}(I:Env->Mem->Prop)(h1:A5T C h N c (λe T' M'=>B6r (λT M=>I T M) (λ_ _ _=>False) e T' M' ⟨⟩) T M ⟨⟩)
 (h2:∀T M,I T M->Q .normal T M):A5T C h N c Q T M tg:=
 A6r c _ _ T M (λe T M hx=>by cases e<;>first|exact h2 T M hx|exact hx.elim) h1
def D3M(x:Exit)(I:Env->Mem->Prop)(e:Exit)(T:Env)(M:Mem)(_:Tag I):Prop:=e=x/\I T M
@[simp] def E2B{x e}{I:Env->Mem->Prop}{T}{M}{t}:D3M x I e T M t=(e=x/\I T M):=rfl
def A9j{C}{N}{c}{Q}{T}{M}{tg}(x:Exit)(I:Env->Mem->Prop)(h1:wWp C N c (λe T' M'=>D3M x I e T' M' ⟨⟩) T M ⟨⟩)(h2:∀T M,I T M->Q x T M):wWp C N c Q T M tg:=AWp.mono h1 λe T M h=>by obtain⟨rfl,h⟩:=h;exact h2 T M h
end Go.Abs
