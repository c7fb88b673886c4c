/- The texts AbsW, AbsW2. -/
import Derived.Test.YtmpdkagfplajjaaGreatDoorGG16
import Derived.KernelRfl
set_option linter.all false
namespace Go.Abs
section
universe u
structure Tag {α:Sort u} (a:α):Type where
def A1s{α:Type}(o:Option α)(f:α->Prop)(_:Tag f):Prop:=A0U o f
@[simp] def B3A{α:Type}{v}{f:α->Prop}{t}:A1s (some v) f t=f v:=rfl
@[simp] def E0B{α:Type}{f:α->Prop}{t}:A1s none f t=False:=rfl
@[simp] def E1A{α:Type}{c:Prop}[Decidable c]{v}{f:α->Prop}{t}:A1s (if c then some v else none) f t=(c/\f v):=C9S v f
abbrev Post:=Exit->Env->Mem->Prop
def A5h(C:Ctx)(h:A2r)(N:Nat)(c:Code)(Q:Post)(T:Env)(M:Mem)(_:Tag (c,Q)):Prop:=A5E C h N c Q T M
def D4u(C:Ctx)(h:A2r)(ops:Array Oper)(l:List Oper)(K:Env->Mem->Prop)(T:Env)(M:Mem)(_:Tag (ops,l,K)):Prop:=B4M C h ops l K T M
def wOp(C:Ctx)(h:A2r)(o:Oper)(K:AV->Mem->Prop)(ρ:Operand->AV)(M:Mem)(_:Tag (o,K)):Prop:=C9v C h o K ρ M
def B4c(ops:Array Oper)(o:Oper)(T:Env)(run skip:Prop)(_:Tag (ops,o,run,skip)):Prop:=A2B ops o T run skip
def D9m(d:Option Tmp)(want:Bool)(T:Env)(run skip:Prop)(_:Tag (run,skip)):Prop:=C8r d want T run skip
def wGv(v:AV)(want:Bool)(run skip:Prop)(_:Tag (run,skip)):Prop:=D0l v want run skip
def D9M(v:AV)(x y:Prop)(_:Tag (x,y)):Prop:=D0r v x y
def B6K(K:Env->Mem->Prop)(Q:Post)(e:Exit)(T:Env)(M:Mem)(_:Tag (K,Q)):Prop:=B6H K Q e T M
def C4f(id:Nat)(Q:Post)(e:Exit)(T:Env)(M:Mem)(_:Tag Q):Prop:=A9W id Q e T M
def C7i(C:Ctx)(rs:List ResultVar)(Q:AV->Mem->Prop)(e:Exit)(T:Env)(M:Mem)(_:Tag Q):Prop:=B4G C rs Q e T M
def wWp(C:Ctx)(N:Nat)(c:Code)(Q:Post)(T:Env)(M:Mem)(_:Tag (c,Q)):Prop:=AWp C N c Q T M
def B8l(C:Ctx)(f:FuncId)(args:List AV)(M:Mem)(Q:AV->Mem->Prop)(_:Tag Q):Prop:=A4A C f args M Q
def C0E(P:Program)(op:BinOp)(t:TypeId)(x y:AV)(f:AV->Prop)(_:Tag f):Prop:=C8k P op t x y f
def D9N(C:Ctx)(f:AV)(args:List AV)(M:Mem)(K:AV->Mem->Prop)(_:Tag K):Prop:=D4g C f args M K
def A5x(C:Ctx)(own vec:Bool)(t u:TypeId)(s x:AV)(M:Mem)(K:AV->Mem->Prop)(_:Tag K):Prop:=B4u C own vec t u s x M K
def wD(C:Ctx)(h:A2r)(c r:Nat)(o:Oper)(ρ:Operand->AV)(M:Mem)(K:AV->Mem->Prop)(_:Tag (o,K)):Prop:=wsD C h c r o ρ M K
def C1X(C:Ctx)(h:A2r)(ops:Array Oper)(cls rob:Nat->Nat)(k:Nat)(l:List Oper)(T:Env)(M:Mem)(K:Env->Mem->Prop)(_:Tag (ops,l,K)):Prop:=B6r C h ops cls rob k l T M K
def D1r(C:Ctx)(f:AV)(args:List AV)(M:Mem)(K:AV->Mem->Prop)(_:Tag K):Prop:=D4M C f args M K
def D0F(C:Ctx)(f:AV)(args:List AV)(M:Mem)(K:AV->Mem->Prop)(_:Tag K):Prop:=D3P C f args M K
def C8s(C:Ctx)(g:FuncId)(args:List AV)(M:Mem)(K:AV->Mem->Prop)(_:Tag K):Prop:=∃r,(∀M,A4A C g args M (λv M'=>v=r/\M'=M))/\K r M
def D4Z(C:Ctx)(g:FuncId)(args:List AV)(M:Mem)(K:AV->Mem->Prop)(_:Tag K):Prop:=∃r M1,A4A C g args M (λv M'=>v=r/\M'=M1)/\K r M1
def wAt(o:Option Nat)(rob:Nat)(X:Prop)(_:Tag X):Prop:=o=some rob/\X
@[simp] def E4B{b r}{X:Prop}{t}:wAt (some b) r X t=(b=r/\X):=by simp[wAt]
def A5n:AV->Option Nat
 |.ptr b _=>some b
 |.vptr f _ _=>some f
 |.mapr b=>some b
 |_=>none
@[simp] def E3h{b o}:A5n (.ptr b o)=some b:=rfl
@[simp] def E1y{f g o}:A5n (.vptr f g o)=some f:=rfl
@[simp] def E1Z{b}:A5n (.mapr b)=some b:=rfl
section
variable {C:Ctx} {h:A2r} {N:Nat} {Q:Post} {T:Env} {M:Mem} {K:AV->Mem->Prop} {ρ:Operand->AV}
@[simp] def E7J{t}:A5h C h N .skip Q T M t=Q .normal T M:=rfl
@[simp] def E6K{l}{t}:A5h C h N (.label l) Q T M t=Q .normal T M:=rfl
@[simp] def E3u{id}{l}{t}:A5h C h N (.region id l.toArray false) Q T M t=D4u C h l.toArray l (λT M=>Q .normal T M) T M ⟨⟩:=rfl
@[simp] def E7Q{id}{ops}{t}:A5h C h N (.region id ops true) Q T M t=wWp C N (.region id ops true) Q T M ⟨⟩:=rfl
@[simp] def A8n{x y}{t}:A5h C h N (.seq x y) Q T M t=A5h C h N x (λe T M=>B6K (λT M=>A5h C h N y Q T M ⟨⟩) Q e T M ⟨⟩) T M ⟨⟩:=rfl
@[simp] def E7z{c}{x y}{t}:A5h C h N (.cond c x y) Q T M t=D9M (T.ev C c) (A5h C h N x Q T M ⟨⟩) (A5h C h N y Q T M ⟨⟩) ⟨⟩:=rfl
@[simp] def E6p{id}{c}{t}:A5h C h N (.block id c) Q T M t=A5h C h N c (λe T M=>C4f id Q e T M ⟨⟩) T M ⟨⟩:=rfl
@[simp] def E7V{id}{t}:A5h C h N (.exit id) Q T M t=Q (.exit id) T M:=rfl
@[simp] def E9r{t}:A5h C h N .ret Q T M t=Q .ret T M:=rfl
@[simp] def E7K{c}{t}:A5h C h N (.loop c) Q T M t=wWp C N (.loop c) Q T M ⟨⟩:=rfl
@[simp] def D7O{K:Env->Mem->Prop}{t}:B6K K Q .normal T M t=K T M:=rfl
@[simp] def E1e{K:Env->Mem->Prop}{id}{t}:B6K K Q (.exit id) T M t=Q (.exit id) T M:=rfl
@[simp] def E1B{K:Env->Mem->Prop}{t}:B6K K Q .ret T M t=Q .ret T M:=rfl
@[simp] def D6U{id}{t}:C4f id Q .normal T M t=Q .normal T M:=rfl
@[simp] def E1i{id}{t}:C4f id Q .ret T M t=Q .ret T M:=rfl
@[simp] def D9k{id id'}{t}:C4f id Q (.exit id') T M t=if id'=id then Q .normal T M else Q (.exit id') T M:=rfl
@[simp] def E2a{rs}{Q:AV->Mem->Prop}{t}:C7i C rs Q .ret T M t=A1s (A5o C rs T M) (λr=>Q r M) ⟨⟩:=C3z
@[simp] def D7U{rs}{Q:AV->Mem->Prop}{t}:C7i C rs Q .normal T M t=A1s (A5o C rs T M) (λr=>Q r M) ⟨⟩:=C4G
@[simp] def E0S{b}{x y:Prop}{t}:D9M (.val (.bool b)) x y t=if b=true then x else y:=rfl
@[simp] def E4E{b want}{run skip:Prop}{t}:wGv (.val (.bool b)) want run skip t=if b=want then run else skip:=rfl
@[simp] def E2D{want}{run skip:Prop}{t}:wGv (.val undef) want run skip t=skip:=rfl
@[simp] def E0q{d}{want}{run skip:Prop}{t}:D9m (some d) want T run skip t=wGv (T d) want run skip ⟨⟩:=rfl
variable {d:Option Tmp} {t:TypeId} {p:String} {af:Array Edge} {g:Option (Nat×Bool)}
@[simp] def D9n{ops}{op}{run skip:Prop}{tg}:B4c ops ⟨d,op,t,p,af,none⟩ T run skip tg=run:=rfl
@[simp] def D9w{ops}{op}{run skip:Prop}{j}{want}{tg}:B4c ops ⟨d,op,t,p,af,some (j,want)⟩ T run skip tg=D9m ((ops[j]?).bind (·.dst)) want T run skip ⟨⟩:=D2K
@[simp] def E3x{ops}{K:Env->Mem->Prop}{tg}:D4u C h ops [] K T M tg=K T M:=rfl
@[simp] def E1Q{ops}{o}{rest}{K:Env->Mem->Prop}{tg}:D4u C h ops (o::rest) K T M tg=B4c ops o T (wOp C h o (λv M'=>D4u C h ops rest K (T.put o.dst v) M' ⟨⟩) (T.ev C) M ⟨⟩) (D4u C h ops rest K (T.put o.dst (.val undef)) M ⟨⟩) ⟨⟩:=rfl
@[simp] def E2O{x}{tg}:wOp C h ⟨d,.move x,t,p,af,g⟩ K ρ M tg=K (ρ x) M:=rfl
@[simp] def E6r{x}{r}{tg}:wD C h 0 r ⟨d,.move x,t,p,af,g⟩ ρ M K tg=K (ρ x) M:=rfl
@[simp] def D9Y{x}{tg}:wOp C h ⟨d,.assign x,t,p,af,g⟩ K ρ M tg=K (ρ x) M:=rfl
@[simp] def E1D{x}{r}{tg}:wD C h 0 r ⟨d,.assign x,t,p,af,g⟩ ρ M K tg=K (ρ x) M:=rfl
@[simp] def E4b{c a b}{tg}:wOp C h ⟨d,.pick c a b,t,p,af,g⟩ K ρ M tg=A1s (B8a (ρ c) (ρ a) (ρ b)) (λv=>K v M) ⟨⟩:=by show A0U ((B8a (ρ c) (ρ a) (ρ b)).map λv=>(v,M)) (λr=>K r.1 r.2)=_;rw[A2g];rfl
@[simp] def E5P{c a b}{r}{tg}:wD C h 0 r ⟨d,.pick c a b,t,p,af,g⟩ ρ M K tg=A1s (B8a (ρ c) (ρ a) (ρ b)) (λv=>K v M) ⟨⟩:=rfl
@[simp] def D8G{x}{tg}:wOp C h ⟨d,.nilCheck x,t,p,af,g⟩ K ρ M tg=A1s (B7t (ρ x)) (λv=>K v M) ⟨⟩:=by show A0U ((B7t (ρ x)).map λv=>(v,M)) (λr=>K r.1 r.2)=_;rw[A2g];rfl
@[simp] def D9t{x}{r}{tg}:wD C h 0 r ⟨d,.nilCheck x,t,p,af,g⟩ ρ M K tg=A1s (B7t (ρ x)) (λv=>K v M) ⟨⟩:=rfl
@[simp] def E6Q{xt:TypeId}{x}{tg}:wOp C h ⟨d,.unOp .not xt x,t,p,af,g⟩ K ρ M tg=A1s (C7T (ρ x)) (λv=>K v M) ⟨⟩:=by show A0U ((C7T (ρ x)).map λv=>(v,M)) (λr=>K r.1 r.2)=_;rw[A2g];rfl
@[simp] def E8C{xt:TypeId}{x}{r}{tg}:wD C h 0 r ⟨d,.unOp .not xt x,t,p,af,g⟩ ρ M K tg=A1s (C7T (ρ x)) (λv=>K v M) ⟨⟩:=rfl
@[simp] def E7c{xt:TypeId}{x}{r}{tg}:wD C h 0 r ⟨d,.unOp .neg xt x,t,p,af,g⟩ ρ M K tg=A1s (D4l (ρ x)) (λv=>K v M) ⟨⟩:=rfl
@[simp] def D6X{xt:TypeId}{x}{f}{tg}:wOp C h ⟨d,.fieldAddr xt x f,t,p,af,g⟩ K ρ M tg=A1s (B0V (A1y C.P xt f) (ρ x)) (λv=>K v M) ⟨⟩:=by show A0U ((B0V (A1y C.P xt f) (ρ x)).map λv=>(v,M)) (λr=>K r.1 r.2)=_;rw[A2g];rfl
@[simp] def D8J{xt:TypeId}{x}{f}{r}{tg}:wD C h 0 r ⟨d,.fieldAddr xt x f,t,p,af,g⟩ ρ M K tg=A1s (B0V (A1y C.P xt f) (ρ x)) (λv=>K v M) ⟨⟩:=rfl
@[simp] def E4e{xt:TypeId}{x}{f}{r}{tg}:wD C h 0 r ⟨d,.field xt x f,t,p,af,g⟩ ρ M K tg=A1s (C4c C.P (A0P C.P xt f) (ρ x)) (λv=>K v M) ⟨⟩:=rfl
@[simp] def D9J{x}{i}{tg}:wOp C h ⟨d,.extract x i,t,p,af,g⟩ K ρ M tg=A1s (B0l (ρ x) i) (λv=>K v M) ⟨⟩:=by show A0U ((B0l (ρ x) i).map λv=>(v,M)) (λr=>K r.1 r.2)=_;rw[A2g];rfl
@[simp] def E0i{x}{i}{r}{tg}:wD C h 0 r ⟨d,.extract x i,t,p,af,g⟩ ρ M K tg=A1s (B0l (ρ x) i) (λv=>K v M) ⟨⟩:=rfl
@[simp] def D6T{xt:TypeId}{x i}{tg}:wOp C h ⟨d,.indexAddr xt x i,t,p,af,g⟩ K ρ M tg=A1s (match A6N ((A1h C.P xt).map (A1t C.P)) (ρ x) (ρ i)with|some v=>some (v,M)|none=>A0Q C h ⟨d,.indexAddr xt x i,t,p,af,g⟩ ρ M) (λr=>K r.1 r.2) ⟨⟩:=rfl
@[simp] def D7H{xt:TypeId}{x i}{r}{tg}:wD C h 0 r ⟨d,.indexAddr xt x i,t,p,af,g⟩ ρ M K tg=A1s (A6N ((A1h C.P xt).map (A1t C.P)) (ρ x) (ρ i)) (λv=>K v M) ⟨⟩:=rfl
@[simp] def E2x{xt:TypeId}{x i}{tg}:wOp C h ⟨d,.index xt x i,t,p,af,g⟩ K ρ M tg=A1s (B5x (C.P.underlying xt) (ρ x) (ρ i)) (λv=>K v M) ⟨⟩:=by show A0U ((B5x (C.P.underlying xt) (ρ x) (ρ i)).map λv=>(v,M)) (λr=>K r.1 r.2)=_;rw[A2g];rfl
@[simp] def E3p{xt:TypeId}{x i:Operand}{r:Nat}{tg:Tag ((⟨d,.index xt x i,t,p,af,g⟩:Oper),K)}:wD C h 0 r ⟨d,.index xt x i,t,p,af,g⟩ ρ M K tg=A1s (C8I C.P (C.P.underlying xt) (ρ x) (ρ i)) (λv=>K v M) ⟨⟩:=rfl
@[simp] def D7S{fn}{f c}{tg}:wOp C h ⟨d,.makeFunc fn f c,t,p,af,g⟩ K ρ M tg=K (.func fn (f.toList.map ρ) (c.toList.map ρ)) M:=rfl
@[simp] def D9O{fn}{f c}{r}{tg}:wD C h 0 r ⟨d,.makeFunc fn f c,t,p,af,g⟩ ρ M K tg=K (.func fn (f.toList.map ρ) (c.toList.map ρ)) M:=rfl
@[simp] def D5g{P:Program}{t:TypeId}{M:Mem}{sz:Nat}{rows:List (List AV)}{o:Own}{lo hi mx:Option AV}:A3w P t M (.list sz rows o) lo hi mx=none:=rfl
@[simp] def D7b{P:Program}{t:TypeId}{M:Mem}{v:Value}{lo hi mx:Option AV}:A3w P t M (.val v) lo hi mx=none:=rfl
@[simp] def E1O{st:TypeId}{x:Operand}{lo hi mx:Option Operand}{tg:Tag ((⟨d,.slice st x lo hi mx,t,p,af,g⟩:Oper),K)}:wOp C h ⟨d,.slice st x lo hi mx,t,p,af,g⟩ K ρ M tg=A1s ((A2z C.P st (ρ x) (lo.map ρ) (hi.map ρ) (mx.map ρ)).or (A3w C.P st M (ρ x) (lo.map ρ) (hi.map ρ) (mx.map ρ))) (λv=>K v M) ⟨⟩:=by
 show A0U (match A2z C.P st (ρ x) (lo.map ρ) (hi.map ρ) (mx.map ρ)with|some v=>some (v,M)|none=>A0Q C h ⟨d,.slice st x lo hi mx,t,p,af,g⟩ ρ M) (λr=>K r.1 r.2)=A0U ((A2z C.P st (ρ x) (lo.map ρ) (hi.map ρ) (mx.map ρ)).or (A3w C.P st M (ρ x) (lo.map ρ) (hi.map ρ) (mx.map ρ))) (λv=>K v M);cases hs:A2z C.P st (ρ x) (lo.map ρ) (hi.map ρ) (mx.map ρ)with
 |some v=>rfl
 |none=>have e1:A0E C h ⟨d,.slice st x lo hi mx,t,p,af,g⟩ ρ=none:=hs;simp only[A0Q,e1,A1u,A1p,A0Y,A3N,Z3e];cases A3w C.P st M (ρ x) (lo.map ρ) (hi.map ρ) (mx.map ρ)<;>rfl
@[simp] def E1R{x:Operand}{xt:TypeId}{tg:Tag ((⟨d,.call {callee:=.builtin .clear,args:=#[x],argTypes:=#[xt]},t,p,af,g⟩:Oper),K)}:wOp C h ⟨d,.call {callee:=.builtin .clear,args:=#[x],argTypes:=#[xt]},t,p,af,g⟩ K ρ M tg=A1s (A7v C.P xt M (ρ x)) (λr=>K r.1 r.2) ⟨⟩:=by
 show A0U (A0Q C h ⟨d,.call {callee:=.builtin .clear,args:=#[x],argTypes:=#[xt]},t,p,af,g⟩ ρ M) (λr=>K r.1 r.2)=A0U (A7v C.P xt M (ρ x)) (λr=>K r.1 r.2);simp[A0Q,A0E,A8K,A1u,A1p,A3u,A0Y,A3N,A4o]
@[simp] def E4h{st:TypeId}{x}{lo hi mx}{r}{tg}:wD C h 0 r ⟨d,.slice st x lo hi mx,t,p,af,g⟩ ρ M K tg=A1s (A2z C.P st (ρ x) (lo.map ρ) (hi.map ρ) (mx.map ρ)) (λv=>K v M) ⟨⟩:=rfl
@[simp] def E2F{bt:TypeId}{ps:List (Nat×Operand)}{tg}:wOp C h ⟨d,.build bt ps.toArray,t,p,af,g⟩ K ρ M tg=A1s (match A0w C.P bt (ps.map λx=>(x.1,ρ x.2))with|some v=>some (v,M)|none=>A0Q C h ⟨d,.build bt ps.toArray,t,p,af,g⟩ ρ M) (λr=>K r.1 r.2) ⟨⟩:=rfl
@[simp] def E3r{bt:TypeId}{ps:List (Nat×Operand)}{r:Nat}{tg}:wD C h 0 r ⟨d,.build bt ps.toArray,t,p,af,g⟩ ρ M K tg=A1s (A0w C.P bt (ps.map λx=>(x.1,ρ x.2))) (λv=>K v M) ⟨⟩:=rfl
@[simp] def D9I{a b:TypeId}{x}{tg}:wOp C h ⟨d,.convert a b x,t,p,af,g⟩ K ρ M tg=A1s (match A4v C.P a b (ρ x)with|some v=>some (v,M)|none=>A0Q C h ⟨d,.convert a b x,t,p,af,g⟩ ρ M) (λr=>K r.1 r.2) ⟨⟩:=rfl
@[simp] def E0K{a b:TypeId}{x}{r}{tg}:wD C h 0 r ⟨d,.convert a b x,t,p,af,g⟩ ρ M K tg=A1s (A4v C.P a b (ρ x)) (λv=>K v M) ⟨⟩:=rfl
@[simp] def E2B{op}{xt yt:TypeId}{x y}{tg}:wOp C h ⟨d,.binOp op xt x y yt,t,p,af,g⟩ K ρ M tg=C0E C.P op xt (ρ x) (ρ y) (λv=>K v M) ⟨⟩:=rfl
@[simp] def E4T{op}{xt yt:TypeId}{x y}{r}{tg}:wD C h 0 r ⟨d,.binOp op xt x y yt,t,p,af,g⟩ ρ M K tg=A1s (A1z C.P op xt (ρ x) (ρ y)) (λv=>K v M) ⟨⟩:=rfl
@[simp] def E4I{lt:TypeId}{x}{tg}:wOp C h ⟨d,.load lt x,t,p,af,g⟩ K ρ M tg=A1s (A1m C.P lt M (ρ x)) (λv=>K v M) ⟨⟩:=A2g _ _ _
@[simp] def E2h{lt:TypeId}{x y}{tg}:wOp C h ⟨d,.store lt x y,t,p,af,g⟩ K ρ M tg=A1s (A0m (A1t C.P lt) M (ρ x) (ρ y)) (λM'=>K (.val undef) M') ⟨⟩:=A2g _ _ _
@[simp] def E1P{lt:TypeId}{x y}{r}{tg}:wD C h 2 r ⟨d,.store lt x y,t,p,af,g⟩ ρ M K tg=A1s (A0m (A1t C.P lt) M (ρ x) (ρ y)) (λM'=>K (.val undef) M') ⟨⟩:=A2g _ _ _
@[simp] def E1N{e:TypeId}{tg}:wOp C h ⟨d,.alloc e,t,p,af,g⟩ K ρ M tg=A1s (A0l C.P e M) (λx=>K x.1 x.2) ⟨⟩:=rfl
@[simp] def E2I{e:TypeId}{r}{tg}:wD C h 2 r ⟨d,.alloc e,t,p,af,g⟩ ρ M K tg=A1s (A0l C.P e M) (λx=>K x.1 x.2) ⟨⟩:=rfl
@[simp] def E6o{e:TypeId}{x}{tg}:wOp C h ⟨d,.box e x,t,p,af,g⟩ K ρ M tg=A1s (C2n (A2y h.imm d) e M (ρ x)) (λx=>K x.1 x.2) ⟨⟩:=rfl
@[simp] def E6P{e:TypeId}{x}{r}{tg}:wD C h 2 r ⟨d,.box e x,t,p,af,g⟩ ρ M K tg=A1s (C2n (A2y h.imm d) e M (ρ x)) (λx=>K x.1 x.2) ⟨⟩:=rfl
@[simp] def D9p{mt:TypeId}{tg}:wOp C h ⟨d,.makeMap mt none,t,p,af,g⟩ K ρ M tg=K (.mapr M.length) (M++[.map [] 0]):=rfl
@[simp] def D9E{mt:TypeId}{r}{tg}:wD C h 2 r ⟨d,.makeMap mt none,t,p,af,g⟩ ρ M K tg=K (.mapr M.length) (M++[.map [] 0]):=rfl
@[simp] def E0o{mt:TypeId}{m k}{ok}{tg}:wOp C h ⟨d,.lookup mt m k ok,t,p,af,g⟩ K ρ M tg=A1s (A1S C.P mt M (ρ m) (ρ k) ok) (λv=>K v M) ⟨⟩:=A2g _ _ _
@[simp] def D6Q{mt:TypeId}{m k x}{tg}:wOp C h ⟨d,.mapUpdate mt m k x,t,p,af,g⟩ K ρ M tg=A1s (A1N C.P mt M (ρ m) (ρ k) (ρ x)) (λM'=>K (.val undef) M') ⟨⟩:=A2g _ _ _
@[simp] def D6W{mt:TypeId}{m k x}{r}{tg}:wD C h 2 r ⟨d,.mapUpdate mt m k x,t,p,af,g⟩ ρ M K tg=A1s (A1N C.P mt M (ρ m) (ρ k) (ρ x)) (λM'=>K (.val undef) M') ⟨⟩:=A2g _ _ _
@[simp] def E1s{mt:TypeId}{m k x:Operand}{tg:Tag ((⟨d,.insert mt m k x,t,p,af,g⟩:Oper),K)}:wOp C h ⟨d,.insert mt m k x,t,p,af,g⟩ K ρ M tg=A1s (A1N C.P mt M (ρ m) (ρ k) (ρ x)) (λM'=>K (.val undef) M') ⟨⟩:=A2g _ _ _
@[simp] def D6Z{st:TypeId}{l c}{tg}:wOp C h ⟨d,.makeSlice st l c,t,p,af,g⟩ K ρ M tg=A1s (A4V C.P st (ρ l) (ρ c) M) (λr=>K r.1 r.2) ⟨⟩:=rfl
@[simp] def D6S{st:TypeId}{l c}{r}{tg}:wD C h 2 r ⟨d,.makeSlice st l c,t,p,af,g⟩ ρ M K tg=A1s (A4V C.P st (ρ l) (ρ c) M) (λr=>K r.1 r.2) ⟨⟩:=rfl
@[simp] def E2q{st:TypeId}{x}{tg}:wOp C h ⟨d,.range st x,t,p,af,g⟩ K ρ M tg=A1s (A7X C.P st (ρ x) M) (λr=>K r.1 r.2) ⟨⟩:=rfl
@[simp] def E1T{st:TypeId}{x}{r}{tg}:wD C h 2 r ⟨d,.range st x,t,p,af,g⟩ ρ M K tg=A1s (A7X C.P st (ρ x) M) (λr=>K r.1 r.2) ⟨⟩:=rfl
@[simp] def E4j{x}{tg}:wOp C h ⟨d,.next x true,t,p,af,g⟩ K ρ M tg=A1s (A7e (ρ x) M) (λr=>K r.1 r.2) ⟨⟩:=rfl
@[simp] def E4P{x}{r}{tg}:wD C h 2 r ⟨d,.next x true,t,p,af,g⟩ ρ M K tg=A1s (A7e (ρ x) M) (λr=>K r.1 r.2) ⟨⟩:=rfl
@[simp] def E6z{x}{xt:TypeId}{tg}:wOp C h ⟨d,.call {callee:=.builtin .len,args:=#[x],argTypes:=#[xt]},t,p,af,g⟩ K ρ M tg=A1s ((A2v C.P xt (ρ x)).or (A3v C.P xt M (ρ x))) (λn=>K (.val (.int .i64 n)) M) ⟨⟩:=A2g _ _ _
@[simp] def E5C{x}{xt:TypeId}{r}{tg}:wD C h 2 r ⟨d,.call {callee:=.builtin .len,args:=#[x],argTypes:=#[xt]},t,p,af,g⟩ ρ M K tg=A1s ((A2v C.P xt (ρ x)).or (A3v C.P xt M (ρ x))) (λn=>K (.val (.int .i64 n)) M) ⟨⟩:=A2g _ _ _
@[simp] def E3f{x y}{xt yt:TypeId}{tg}:wOp C h ⟨d,.call {callee:=.builtin .copy,args:=#[x,y],argTypes:=#[xt,yt]},t,p,af,g⟩ K ρ M tg=A1s (A7m C.P xt yt M (ρ x) (ρ y)) (λr=>K r.1 r.2) ⟨⟩:=rfl
@[simp] def E4f{x y}{xt yt:TypeId}{r}{tg}:wD C h 2 r ⟨d,.call {callee:=.builtin .copy,args:=#[x,y],argTypes:=#[xt,yt]},t,p,af,g⟩ ρ M K tg=A1s (A7m C.P xt yt M (ρ x) (ρ y)) (λr=>K r.1 r.2) ⟨⟩:=rfl
@[simp] def E6k{C}{h}{t:TypeId}{d}:B7x C h t d=(A2y h.vec d&&!C.data t):=rfl
@[simp] def D4Y{bt:TypeId}{n:Nat}{ps:List (Nat×Operand)}{tg}:wOp C h ⟨d,.buildSlice bt n ps.toArray,t,p,af,g⟩ K ρ M tg=if B7x C h bt d=true then A1s (A1J C.P bt n (ps.map λx=>(x.1,ρ x.2)) M) (λr=>K r.1 r.2) ⟨⟩else A1s (A0n C.P bt n (ps.map λx=>(x.1,ρ x.2))) (λv=>K v M) ⟨⟩:=by
 show A0U (if B7x C h bt d=true then A1J C.P bt n (ps.map λp=>(p.1,ρ p.2)) M else(A0n C.P bt n (ps.map λp=>(p.1,ρ p.2))).map λv=>(v,M)) (λr=>K r.1 r.2)=_;split
 .rfl
 .exact A2g _ _ _
@[simp] def D6g{bt:TypeId}{n:Nat}{ps:List (Nat×Operand)}{r:Nat}{tg}:wD C h 2 r ⟨d,.buildSlice bt n ps.toArray,t,p,af,g⟩ ρ M K tg=if B7x C h bt d=true then A1s (A1J C.P bt n (ps.map λx=>(x.1,ρ x.2)) M) (λr=>K r.1 r.2) ⟨⟩else A1s (A0n C.P bt n (ps.map λx=>(x.1,ρ x.2))) (λv=>K v M) ⟨⟩:=by
 show A0U (if B7x C h bt d=true then A1J C.P bt n (ps.map λp=>(p.1,ρ p.2)) M else(A0n C.P bt n (ps.map λp=>(p.1,ρ p.2))).map λv=>(v,M)) (λr=>K r.1 r.2)=_;split
 .rfl
 .exact A2g _ _ _
@[simp] def D6O{bt:TypeId}{n:Nat}{ps:List (Nat×Operand)}{r:Nat}{tg}:wD C h 0 r ⟨d,.buildSlice bt n ps.toArray,t,p,af,g⟩ ρ M K tg=A1s (if B7x C h bt d=true then none else A0n C.P bt n (ps.map λx=>(x.1,ρ x.2))) (λv=>K v M) ⟨⟩:=rfl
@[simp] def E5o{x y}{ts}{tg}:wOp C h ⟨d,.call {callee:=.builtin .max,args:=#[x,y],argTypes:=ts},t,p,af,g⟩ K ρ M tg=A1s (A7U true (ρ x) (ρ y)) (λv=>K v M) ⟨⟩:=by show A0U ((A7U true (ρ x) (ρ y)).map λv=>(v,M)) (λr=>K r.1 r.2)=_;rw[A2g];rfl
@[simp] def E7A{x y}{ts}{r}{tg}:wD C h 0 r ⟨d,.call {callee:=.builtin .max,args:=#[x,y],argTypes:=ts},t,p,af,g⟩ ρ M K tg=A1s (A7U true (ρ x) (ρ y)) (λv=>K v M) ⟨⟩:=rfl
@[simp] def E8t{x y}{ts}{r}{tg}:wD C h 0 r ⟨d,.call {callee:=.builtin .min,args:=#[x,y],argTypes:=ts},t,p,af,g⟩ ρ M K tg=A1s (A7U false (ρ x) (ρ y)) (λv=>K v M) ⟨⟩:=rfl
@[simp] def E7D{x}{xt:TypeId}{r}{tg}:wD C h 0 r ⟨d,.call {callee:=.builtin .len,args:=#[x],argTypes:=#[xt]},t,p,af,g⟩ ρ M K tg=A1s (A2v C.P xt (ρ x)) (λ(n:Nat)=>K (.val (.int .i64 n)) M) ⟨⟩:=A2g _ _ _
@[simp] def E2J{lt:TypeId}{x}{r}{tg}:wD C h 0 r ⟨d,.load lt x,t,p,af,g⟩ ρ M K tg=A1s (D4t C.P lt (ρ x)) (λv=>K v M) ⟨⟩:=rfl
@[simp] def E5D{e:TypeId}{x}{r}{tg}:wD C h 0 r ⟨d,.box e x,t,p,af,g⟩ ρ M K tg=A1s (E3y (A2y h.imm d) (ρ x)) (λv=>K v M) ⟨⟩:=rfl
@[simp] def E4Z{lt:TypeId}{x}{r}{tg}:wD C h 1 r ⟨d,.load lt x,t,p,af,g⟩ ρ M K tg=wAt (A5n (ρ x)) r (A1s (A1m C.P lt M (ρ x)) (λv=>K v M) ⟨⟩) ⟨⟩:=by
 show(A1a _ ρ=some r/\A0U (A1m C.P lt M (ρ x)) (λv=>K v M))=(A5n (ρ x)=some r/\A0U (A1m C.P lt M (ρ x)) (λv=>K v M));have e:A1a ⟨d,.load lt x,t,p,af,g⟩ ρ=some r/\A0U (A1m C.P lt M (ρ x)) (λv=>K v M)<->A5n (ρ x)=some r/\A0U (A1m C.P lt M (ρ x)) (λv=>K v M):=by simp only[A1a,A5n];cases ρ x<;>simp[A1m,A2S]
 exact propext e
@[simp] def E0M{mt:TypeId}{m k}{ok}{r}{tg}:wD C h 1 r ⟨d,.lookup mt m k ok,t,p,af,g⟩ ρ M K tg=(A1a ⟨d,.lookup mt m k ok,t,p,af,g⟩ ρ=some r/\A1s (A1S C.P mt M (ρ m) (ρ k) ok) (λv=>K v M) ⟨⟩):=rfl
@[simp] def E4J{f:Operand}{args:List Operand}{ts:Array TypeId}{tg}:wOp C h ⟨d,.call {callee:=.value f,args:=args.toArray,argTypes:=ts},t,p,af,g⟩ K ρ M tg=D9N C (ρ f) (args.map ρ) M K ⟨⟩:=rfl
@[simp] def E0m{f}{first captured args}{tg}:D9N C (.func (.func f) first captured) args M K tg=B8l C f (first++args++captured) M K ⟨⟩:=rfl
@[simp] def E3L{f:Operand}{args:List Operand}{ts:Array TypeId}{r:Nat}{tg}:wD C h 0 r ⟨d,.call {callee:=.value f,args:=args.toArray,argTypes:=ts},t,p,af,g⟩ ρ M K tg=D1r C (ρ f) (args.map ρ) M K ⟨⟩:=rfl
@[simp] def E4N{f:Operand}{args:List Operand}{ts:Array TypeId}{r:Nat}{tg}:wD C h 2 r ⟨d,.call {callee:=.value f,args:=args.toArray,argTypes:=ts},t,p,af,g⟩ ρ M K tg=D0F C (ρ f) (args.map ρ) M K ⟨⟩:=rfl
@[simp] def D7q{f}{first captured args}{tg}:D1r C (.func (.func f) first captured) args M K tg=C8s C f (first++args++captured) M K ⟨⟩:=rfl
@[simp] def D8B{f}{first captured args}{tg}:D0F C (.func (.func f) first captured) args M K tg=D4Z C f (first++args++captured) M K ⟨⟩:=rfl
@[simp] def E0u{s x}{st xt:TypeId}{tg}:wOp C h ⟨d,.call {callee:=.builtin .append,args:=#[s,x],argTypes:=#[st,xt]},t,p,af,g⟩ K ρ M tg=A5x C (A2y h.own d) (A2y h.vec d) st xt (ρ s) (ρ x) M K ⟨⟩:=rfl
@[simp] def E1K{s x}{st xt:TypeId}{r}{tg}:wD C h 2 r ⟨d,.call {callee:=.builtin .append,args:=#[s,x],argTypes:=#[st,xt]},t,p,af,g⟩ ρ M K tg=A5x C (A2y h.own d) (A2y h.vec d) st xt (ρ s) (ρ x) M K ⟨⟩:=rfl
@[simp] def E4i{P}{op}{k}{a b}{f:AV->Prop}{tg}:C0E P op t (.val (.int k a)) (.val (.int k b)) f tg=A1s ((B0t op k a b).map .val) f ⟨⟩:=D4p
@[simp] def E4S{P}{op}{a b}{f:AV->Prop}{tg}:C0E P op t (.val (.string a)) (.val (.string b)) f tg=A1s ((B5m op a b).map .val) f ⟨⟩:=D3U
@[simp] def E2m{P}{op}{a b}{f:AV->Prop}{tg}:C0E P op t (.val (.bool a)) (.val (.bool b)) f tg=A1s (A1z P op t (.val (.bool a)) (.val (.bool b))) f ⟨⟩:=D1K
@[simp] def E3U{P}{op}{b o}{y}{f:AV->Prop}{tg}:C0E P op t (.ptr b o) (.val y) f tg=A1s (A1z P op t (.ptr b o) (.val y)) f ⟨⟩:=D5O
@[simp] def E6U{P}{op}{b o b2 o2}{f:AV->Prop}{tg}:C0E P op t (.ptr b o) (.ptr b2 o2) f tg=A1s ((B1L P op t b o b2 o2).map λb=>.val (.bool b)) f ⟨⟩:=rfl
@[simp] def E3w{P:Program}{op:BinOp}{y:AV}{f:AV->Prop}{tg:Tag f}:C0E P op t (.val (.slice none 0 0)) y f tg=A1s (A1z P op t (.val (.slice none 0 0)) y) f ⟨⟩:=C5H
@[simp] def E1X{P}{op}{sz}{r}{rows}{own}{y}{f:AV->Prop}{tg}:C0E P op t (.list sz (r::rows) own) y f tg=A1s (A1z P op t (.list sz (r::rows) own) y) f ⟨⟩:=D3C
@[simp] def E4o{P}{op}{cs}{y}{f:AV->Prop}{tg}:C0E P op t (.agg cs) y f tg=A1s (A1z P op t (.agg cs) y) f ⟨⟩:=A6f rfl
def A7w{P}{op}{e:TypeId}{sz}{own}{f:AV->Prop}{tg}(a:op=.eql\/op=.neq)(ht:P.underlying t=some (.slice e)):C0E P op t (.list sz [] own) (.val (.slice none 0 0)) f tg=∀b,f (.val (.bool b)):=C1k a ht
variable {cls rob:Nat->Nat}
@[simp] def E1z{ops}{k}{K:Env->Mem->Prop}{tg}:C1X C h ops cls rob k [] T M K tg=K T M:=rfl
@[simp] def E0W{ops}{k}{o}{rest}{K:Env->Mem->Prop}{tg}:C1X C h ops cls rob k (o::rest) T M K tg=B4c ops o T (wD C h (cls k) (rob k) o (T.ev C) M (λv M'=>C1X C h ops cls rob (k+1) rest (T.put o.dst v) M' K ⟨⟩) ⟨⟩) (C1X C h ops cls rob (k+1) rest (T.put o.dst (.val undef)) M K ⟨⟩) ⟨⟩:=rfl
@[simp] def D7a{x}{xt:TypeId}{d}{t:TypeId}{p}{af}{g}{tg}:wOp C h ⟨d,.call {callee:=.builtin .unsafeSliceData,args:=#[x],argTypes:=#[xt]},t,p,af,g⟩ K ρ M tg=A1s ((A4r M (ρ x)).map λv=>(v,M)) (λr=>K r.1 r.2) ⟨⟩:=rfl
@[simp] def D6Y{x y}{xt yt:TypeId}{d}{t:TypeId}{p}{af}{g}{tg}:wOp C h ⟨d,.call {callee:=.builtin .unsafeString,args:=#[x,y],argTypes:=#[xt,yt]},t,p,af,g⟩ K ρ M tg=A1s (A3q C.P xt M (ρ x) (ρ y)) (λr=>K r.1 r.2) ⟨⟩:=rfl
@[simp] def D7e{x}{xt:TypeId}{r}{d}{t:TypeId}{p}{af}{g}{tg}:wD C h 2 r ⟨d,.call {callee:=.builtin .unsafeSliceData,args:=#[x],argTypes:=#[xt]},t,p,af,g⟩ ρ M K tg=A1s ((A4r M (ρ x)).map λv=>(v,M)) (λr=>K r.1 r.2) ⟨⟩:=rfl
@[simp] def D7f{x y}{xt yt:TypeId}{r}{d}{t:TypeId}{p}{af}{g}{tg}:wD C h 2 r ⟨d,.call {callee:=.builtin .unsafeString,args:=#[x,y],argTypes:=#[xt,yt]},t,p,af,g⟩ ρ M K tg=A1s (A3q C.P xt M (ρ x) (ρ y)) (λr=>K r.1 r.2) ⟨⟩:=rfl
def A1l{f}{args}{Q':AV->Mem->Prop}{tg}(hc:A4A C f args M Q')(hk:∀r M',Q' r M'->K r M'):B8l C f args M K tg:=hc.mono hk
def A7x{f}{args}{r}{tg}(hc:∀M,A4A C f args M (λv M'=>v=r/\M'=M))(hk:K r M):C8s C f args M K tg:=⟨r,hc,hk⟩
def A5i{f}{args}{r}{M1}{tg}(hc:A4A C f args M (λv M'=>v=r/\M'=M1))(hk:K r M1):D4Z C f args M K tg:=⟨r,M1,hc,hk⟩
def B8L{own vec}{st xt e:TypeId}{sz bytes}{s x}{tg}(h1:A1h C.P st=some e)(h2:A4f C.P xt)(h3:A3y C.P e sz bytes)(h4:B0Q sz s)(h5:B0Q sz x)(h6:(A9i s+A9i x)*bytes<=140737488355328)
 (hk:A1s (A7G own sz s x M) (λr=>K r.1 r.2) ⟨⟩)(hv:B7O vec s=false:=by rfl):A5x C own vec st xt s x M K tg:=by
 refine⟨e,sz,bytes,⟨h1,h2,h3⟩,?_⟩
 have e1:A7S own vec e sz bytes s x M=A7G own sz s x M:=by unfold A7S;rw[Z0c (by simp only[hv];simp),Z0d (by rw[B2x.2 h4,B2x.2 h5,Z0v h6];rfl)]
 rw[e1];exact hk
def A7t{own vec}{st xt e:TypeId}{sz bytes k m}{s x}{cs news}{tg}(h1:A1h C.P st=some e)(h2:A4f C.P xt)(h3:A3y C.P e sz bytes)(h4:A0A M sz s=some (cs,k))(h5:A0A M sz x=some (news,m))(h6:(k+m)*bytes<=140737488355328)
 (hi:A6B e sz s x M=none)(hk:A1s (A7N e sz s x M) (λr=>K r.1 r.2) ⟨⟩)(hv:B7O vec s=true:=by rfl):A5x C own vec st xt s x M K tg:=by
 refine⟨e,sz,bytes,⟨h1,h2,h3⟩,?_⟩
 have e1:A7S own vec e sz bytes s x M=A7N e sz s x M:=by simp[A7S,hv,h4,h5,h6,hi]
 rw[e1];exact hk
def E3H{own vec:Bool}{st xt e:TypeId}{sz bytes k m:Nat}{s x:AV}{cs news:List AV}{r:AV×Mem}{tg:Tag K}(h1:A1h C.P st=some e)(h2:A4f C.P xt)(h3:A3y C.P e sz bytes)(h4:A0A M sz s=some (cs,k))(h5:A0A M sz x=some (news,m))(h6:(k+m)*bytes<=140737488355328)
 (hi:A6B e sz s x M=some r)(hk:K r.1 r.2)(hv:B7O vec s=true:=by rfl):A5x C own vec st xt s x M K tg:=by
 refine⟨e,sz,bytes,⟨h1,h2,h3⟩,?_⟩
 have e1:A7S own vec e sz bytes s x M=some r:=by simp[A7S,hv,h4,h5,h6,hi]
 rw[e1];exact hk
def A0X{id}{l}{tg}(h:A2r)(a:C.P.follows .mixedOrders=true)(cls rob:Nat->Nat)(c:A2q N l.toArray l=true)(b:A4K l.toArray (A6o cls λ_=>0)=true) (hr:C1X C h l.toArray cls rob 0 l T M (λT M=>Q .normal T M) ⟨⟩):wWp C N (.region id l.toArray true) Q T M tg:=C8E a cls rob c b hr
def A3b{f}{fn}{c}{args}{Q:AV->Mem->Prop}{rs}(h:A2r)(hf:C.P.funcs[f]?=some fn)(hb:fn.body=some c)(hN:fn.ntmps=N)(a:fn.results=rs.toArray) (hn:decide (args.length<=N)=true)(b:A6j N rs=true)(d:A1W N c=true)(hw:A5h C h N c (λe T M=>C7i C rs Q e T M ⟨⟩) (Env.of args) M ⟨⟩):A0c C f args M Q:=A8F hf hb hN a hn b (A3l (h:=h) c _ _ _ d hw)
def A1R{c}{tg}(h:A2r)(I:Env->Mem->Prop)(μ:Env->Mem->Nat)(b:A1W N c=true)(h0:I T M) (a:∀T M,I T M->A5h C h N c (λe T' M'=>B6K (λT' M'=>I T' M'/\μ T' M'<μ T M) Q e T' M' ⟨⟩) T M ⟨⟩):wWp C N (.loop c) Q T M tg:=D5R I μ h0 λT M hI=>A3l (h:=h) c _ T M b (a T M hI)
end
section
variable {C:Ctx} {N:Nat} {Q:Post} {T:Env} {M:Mem} {K:AV->Mem->Prop}
def A0s{f}{fn}{c}{args}{Q':AV->Mem->Prop}{tg}(hf:C.P.funcs[f]?=some fn)(hc:A0c C f args M Q')(hk:∀r M',Q' r M'->K r M')(hb:fn.body=some c:=by exact rfl) (hn:(fn.name== "runtime.NumGoroutine")=false:=by exact rfl):B8l C f args M K tg:=A1l (.inl ⟨B2P hf hb hn,hc⟩) hk
def A0i{f}{fn}{c}{args}{v}{tg}(hf:C.P.funcs[f]?=some fn)(hc:A0c C f args M (λr M'=>r=v/\M'=M))(hk:K v M)(hb:fn.body=some c:=by exact rfl) (hn:(fn.name== "runtime.NumGoroutine")=false:=by exact rfl):B8l C f args M K tg:=A1l (.inl ⟨B2P hf hb hn,hc⟩) λ_ _ ⟨h1,h2⟩=>h1▸h2▸hk
def A1G{f}{fn}{c}{args}{v}{tg}(hf:C.P.funcs[f]?=some fn)(hc:∀M,A0c C f args M (λr M'=>r=v/\M'=M))(hk:K v M)(hb:fn.body=some c:=by exact rfl) (hn:(fn.name== "runtime.NumGoroutine")=false:=by exact rfl):C8s C f args M K tg:=A7x (λM=>.inl ⟨B2P hf hb hn,hc M⟩) hk
def A0o{f}{fn}{c}{args}{Q:AV->Mem->Prop}{rs}(h:A2r)(hf:C.P.funcs[f]?=some fn)(hw:A5h C h N c (λe T M=>C7i C rs Q e T M ⟨⟩) (Env.of args) M ⟨⟩)(hb:fn.body=some c:=by exact rfl)(hN:fn.ntmps=N:=by exact rfl) (a:fn.results=rs.toArray:=by exact rfl)(hn:decide (args.length<=N)=true:=by exact rfl)(b:A6j N rs=true:=by exact rfl)(d:A1W N c=true:=by exact rfl):A0c C f args M Q:=A3b h hf hb hN a hn b d hw
def D1m:AV->Nat
 |.val (.int _ i)=>i.toNat
 |_=>0
@[simp] def E1E{k}{i}:D1m (.val (.int k i))=i.toNat:=rfl
def A0y{c}{tg}(h:A2r)(n k:Nat)(I:Env->Mem->Prop)(h0:I T M)(a:∀T M,I T M->A5h C h N c (λe T' M'=>B6K (λT' M'=>I T' M'/\n-D1m (T' k)<n-D1m (T k)) Q e T' M' ⟨⟩) T M ⟨⟩) (b:A1W N c=true:=by kernel_rfl):wWp C N (.loop c) Q T M tg:=A1R h I (λT _=>n-D1m (T k)) b h0 a
end
@[simp] def E2y{P}{t:TypeId}{s}(h:P.underlying t=some .string):A2v P t (.val (.string s))=some s.size:=by simp[A2v,h]
@[simp] def E0D{P}{t e:TypeId}{sz}{rows}{own}(h:P.underlying t=some (.slice e)):A2v P t (.list sz rows own)=some rows.length:=by simp[A2v,h]
@[simp] def E0F{P}{t e:TypeId}{a b c f l}(h:P.underlying t=some (.slice e)):A2v P t (.vref a b c f l)=some l:=by simp[A2v,h]
@[simp] def E2f{P}{t e:TypeId}(h:P.underlying t=some (.slice e)):A2v P t (.val (.slice none 0 0))=some 0:=by simp[A2v,h]
end
def B3D{α:Type}{o}{f g:α->Prop}(h:∀x,f x->g x)(k:A0U o f):A0U o g:=by
 cases o with
 |none=>exact k
 |some v=>exact h v k
def D2w{C}{h}{o}{K K':AV->Mem->Prop}{ρ:Operand->AV}{M}(hk:∀v m,K v m->K' v m)(hw:C9v C h o K ρ M):C9v C h o K' ρ M:=by
 unfold C9v at hw|-;split at hw
 .rename_i bop bt x y yt heq;unfold C8k at hw|-;split at hw
  .exact B3D (λv=>hk v M) hw
  .rename_i hne;unfold B4W at hw|-;cases hb:A1z C.P bop bt (ρ x) (ρ y)with
   |some v=>rw[hb]at hw;exact hk _ _ hw
   |none=>rw[hb]at hw;exact⟨hw.1,λb=>hk _ _ (hw.2 b)⟩
 .unfold D4g at hw|-;split at hw
  .exact A4A.mono hw hk
  .exact hw
 .split at hw
  .obtain⟨e,sz,bytes,h1,h2⟩:=hw;exact⟨e,sz,bytes,h1,B3D (λr=>hk r.1 r.2) h2⟩
  .exact hw
 .exact B3D (λr=>hk r.1 r.2) hw
def B3y{C}{h}{ops}{K K':Env->Mem->Prop}(hk:∀T M,K T M->K' T M):∀(l:List Oper) (T:Env) (M:Mem),B4M C h ops l K T M->B4M C h ops l K' T M
 |[],T,M,hw=>hk _ _ hw
 |o::rest,T,M,hw=>by simp only[B4M]at hw|-;exact A5y (D2w λv m h2=>B3y hk rest _ _ h2) (B3y hk rest _ _) hw
def A6s{C}{h}{N}:∀(c:Code) (Q Q':Exit->Env->Mem->Prop) (T:Env) (M:Mem),(∀e T M,Q e T M->Q' e T M)->A5E C h N c Q T M->A5E C h N c Q' T M
 |.skip,Q,Q',T,M,hq,hv=>hq _ _ _ hv
 |.label _,Q,Q',T,M,hq,hv=>hq _ _ _ hv
 |.region id ops draw,Q,Q',T,M,hq,hv=>by
  simp only[A5E]at hv|-;cases draw with
  |true=>exact AWp.mono (by simpa using hv) hq
  |false=>simpa using B3y (λT M=>hq _ T M) _ _ _ (by simpa using hv)
 |.seq x y,Q,Q',T,M,hq,hv=>by
  simp only[A5E]at hv|-;refine A6s x _ _ T M (λe T M hx=>?_) hv;cases e with
  |normal=>exact A6s y _ _ T M hq hx
  |_=>exact hq _ _ _ hx
 |.cond c x y,Q,Q',T,M,hq,hv=>by
  simp only[A5E]at hv|-;unfold D0r at hv|-;split at hv
  .split at hv
   .rename_i e;rw[Z0d e];exact A6s x _ _ T M hq hv
   .rename_i e;rw[Z0c e];exact A6s y _ _ T M hq hv
  .exact hv
 |.block id c,Q,Q',T,M,hq,hv=>by
  simp only[A5E]at hv|-;refine A6s c _ _ T M (λe T M hx=>?_) hv;cases e with
  |exit i=>
   simp only[A9W]at hx|-;split at hx
   .rename_i e;rw[Z0d e];exact hq _ _ _ hx
   .rename_i e;rw[Z0c e];exact hq _ _ _ hx
  |_=>exact hq _ _ _ hx
 |.exit id,Q,Q',T,M,hq,hv=>hq _ _ _ hv
 |.ret,Q,Q',T,M,hq,hv=>hq _ _ _ hv
 |.loop c,Q,Q',T,M,hq,hv=>AWp.mono (show AWp C N (.loop c) Q T M from hv) hq
 |.rangeFunc ..,Q,Q',T,M,hq,hv=>AWp.mono (show AWp C N _ Q T M from hv) hq
 |.scope ..,Q,Q',T,M,hq,hv=>AWp.mono (show AWp C N _ Q T M from hv) hq
 |.goto ..,Q,Q',T,M,hq,hv=>AWp.mono (show AWp C N _ Q T M from hv) hq
 |.refuse ..,Q,Q',T,M,hq,hv=>AWp.mono (show AWp C N _ Q T M from hv) hq
def B5D{C}{h}{N}{c}{Q}{T}{M}{tg}(I:Env->Mem->Prop)(h1:A5h C h N c (λe T' M'=>B6K (λT M=>I T M) (λ_ _ _=>False) e T' M' ⟨⟩) T M ⟨⟩)
 (h2:∀T M,I T M->Q .normal T M):A5h C h N c Q T M tg:=
 A6s c _ _ T M (λe T M hx=>by cases e<;>first|exact h2 T M hx|exact hx.elim) h1
def C5I(x:Exit)(I:Env->Mem->Prop)(e:Exit)(T:Env)(M:Mem)(_:Tag I):Prop:=e=x/\I T M
@[simp] def E2Z{x e}{I:Env->Mem->Prop}{T}{M}{t}:C5I x I e T M t=(e=x/\I T M):=rfl
def A7L{C}{N}{c}{Q}{T}{M}{tg}(x:Exit)(I:Env->Mem->Prop)(h1:wWp C N c (λe T' M'=>C5I x I e T' M' ⟨⟩) T M ⟨⟩)(h2:∀T M,I T M->Q x T M):wWp C N c Q T M tg:=AWp.mono h1 λe T M h=>by obtain⟨rfl,h⟩:=h;exact h2 T M h
end Go.Abs
