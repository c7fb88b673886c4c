/- The texts AbsW, AbsW2. -/
import Derived.Test.YtmpdkagfplajjaaGreatDoorEG17
import Derived.KernelRfl
set_option linter.all false
namespace Go.Abs
section
universe u
structure Tag {α:Sort u} (a:α):Type where
def A1i{α:Type}(o:Option α)(f:α->Prop)(_:Tag f):Prop:=A0J o f
@[simp] def B2S{α:Type}{v}{f:α->Prop}{t}:A1i (some v) f t=f v:=rfl
@[simp] def D8N{α:Type}{f:α->Prop}{t}:A1i none f t=False:=rfl
@[simp] def D9R{α:Type}{c:Prop}[Decidable c]{v}{f:α->Prop}{t}:A1i (if c then some v else none) f t=(c/\f v):=C8F v f
abbrev Post:=Exit->Env->Mem->Prop
def A5C(C:Ctx)(h:A2r)(N:Nat)(c:Code)(Q:Post)(T:Env)(M:Mem)(_:Tag (c,Q)):Prop:=A5n C h N c Q T M
def D2V(C:Ctx)(h:A2r)(ops:Array Oper)(l:List Oper)(K:Env->Mem->Prop)(T:Env)(M:Mem)(_:Tag (ops,l,K)):Prop:=B4k C h ops l K T M
def wOp(C:Ctx)(h:A2r)(o:Oper)(K:AV->Mem->Prop)(ρ:Operand->AV)(M:Mem)(_:Tag (o,K)):Prop:=C8g C h o K ρ M
def B3u(ops:Array Oper)(o:Oper)(T:Env)(run skip:Prop)(_:Tag (ops,o,run,skip)):Prop:=A2i ops o T run skip
def D7v(d:Option Tmp)(want:Bool)(T:Env)(run skip:Prop)(_:Tag (run,skip)):Prop:=C6S d want T run skip
def wGv(v:AV)(want:Bool)(run skip:Prop)(_:Tag (run,skip)):Prop:=C8Y v want run skip
def D7Y(v:AV)(x y:Prop)(_:Tag (x,y)):Prop:=C9e v x y
def B5W(K:Env->Mem->Prop)(Q:Post)(e:Exit)(T:Env)(M:Mem)(_:Tag (K,Q)):Prop:=C4W K Q e T M
def C2A(id:Nat)(Q:Post)(e:Exit)(T:Env)(M:Mem)(_:Tag Q):Prop:=A7e id Q e T M
def C9J(C:Ctx)(rs:List ResultVar)(Q:AV->Mem->Prop)(e:Exit)(T:Env)(M:Mem)(_:Tag Q):Prop:=B4e C rs Q e T M
def wWp(C:Ctx)(N:Nat)(c:Code)(Q:Post)(T:Env)(M:Mem)(_:Tag (c,Q)):Prop:=AWp C N c Q T M
def B7k(C:Ctx)(f:FuncId)(args:List AV)(M:Mem)(Q:AV->Mem->Prop)(_:Tag Q):Prop:=A3V C f args M Q
def B9t(P:Program)(op:BinOp)(t:TypeId)(x y:AV)(f:AV->Prop)(_:Tag f):Prop:=C6J P op t x y f
def D7Z(C:Ctx)(f:AV)(args:List AV)(M:Mem)(K:AV->Mem->Prop)(_:Tag K):Prop:=D2G C f args M K
def A5H(C:Ctx)(own vec:Bool)(t u:TypeId)(s x:AV)(M:Mem)(K:AV->Mem->Prop)(_:Tag K):Prop:=B3L C own vec t u s x M K
def wD(C:Ctx)(h:A2r)(c r:Nat)(o:Oper)(ρ:Operand->AV)(M:Mem)(K:AV->Mem->Prop)(_:Tag (o,K)):Prop:=wsD C h c r o ρ M K
def C4z(C:Ctx)(h:A2r)(ops:Array Oper)(cls rob:Nat->Nat)(k:Nat)(l:List Oper)(T:Env)(M:Mem)(K:Env->Mem->Prop)(_:Tag (ops,l,K)):Prop:=B5H C h ops cls rob k l T M K
def C9Z(C:Ctx)(f:AV)(args:List AV)(M:Mem)(K:AV->Mem->Prop)(_:Tag K):Prop:=D3k C f args M K
def C9n(C:Ctx)(f:AV)(args:List AV)(M:Mem)(K:AV->Mem->Prop)(_:Tag K):Prop:=D2t C f args M K
def C6T(C:Ctx)(g:FuncId)(args:List AV)(M:Mem)(K:AV->Mem->Prop)(_:Tag K):Prop:=∃r,(∀M,A3V C g args M (λv M'=>v=r/\M'=M))/\K r M
def D3r(C:Ctx)(g:FuncId)(args:List AV)(M:Mem)(K:AV->Mem->Prop)(_:Tag K):Prop:=∃r M1,A3V C g args M (λv M'=>v=r/\M'=M1)/\K r M1
def wAt(o:Option Nat)(rob:Nat)(X:Prop)(_:Tag X):Prop:=o=some rob/\X
@[simp] def E2U{b r}{X:Prop}{t}:wAt (some b) r X t=(b=r/\X):=by simp[wAt]
def A7f:AV->Option Nat
 |.ptr b _=>some b
 |.vptr f _ _=>some f
 |.mapr b=>some b
 |_=>none
@[simp] def E1x{b o}:A7f (.ptr b o)=some b:=rfl
@[simp] def D9P{f g o}:A7f (.vptr f g o)=some f:=rfl
@[simp] def E0p{b}:A7f (.mapr b)=some b:=rfl
section
variable {C:Ctx} {h:A2r} {N:Nat} {Q:Post} {T:Env} {M:Mem} {K:AV->Mem->Prop} {ρ:Operand->AV}
@[simp] def E5V{t}:A5C C h N .skip Q T M t=Q .normal T M:=rfl
@[simp] def E4V{l}{t}:A5C C h N (.label l) Q T M t=Q .normal T M:=rfl
@[simp] def E1L{id}{l}{t}:A5C C h N (.region id l.toArray false) Q T M t=D2V C h l.toArray l (λT M=>Q .normal T M) T M ⟨⟩:=rfl
@[simp] def E6c{id}{ops}{t}:A5C C h N (.region id ops true) Q T M t=wWp C N (.region id ops true) Q T M ⟨⟩:=rfl
@[simp] def B3J{x y}{t}:A5C C h N (.seq x y) Q T M t=A5C C h N x (λe T M=>B5W (λT M=>A5C C h N y Q T M ⟨⟩) Q e T M ⟨⟩) T M ⟨⟩:=rfl
@[simp] def E5L{c}{x y}{t}:A5C C h N (.cond c x y) Q T M t=D7Y (T.ev C c) (A5C C h N x Q T M ⟨⟩) (A5C C h N y Q T M ⟨⟩) ⟨⟩:=rfl
@[simp] def E4C{id}{c}{t}:A5C C h N (.block id c) Q T M t=A5C C h N c (λe T M=>C2A id Q e T M ⟨⟩) T M ⟨⟩:=rfl
@[simp] def E6h{id}{t}:A5C C h N (.exit id) Q T M t=Q (.exit id) T M:=rfl
@[simp] def E7w{t}:A5C C h N .ret Q T M t=Q .ret T M:=rfl
@[simp] def E5W{c}{t}:A5C C h N (.loop c) Q T M t=wWp C N (.loop c) Q T M ⟨⟩:=rfl
@[simp] def D6d{K:Env->Mem->Prop}{t}:B5W K Q .normal T M t=K T M:=rfl
@[simp] def D9q{K:Env->Mem->Prop}{id}{t}:B5W K Q (.exit id) T M t=Q (.exit id) T M:=rfl
@[simp] def D9S{K:Env->Mem->Prop}{t}:B5W K Q .ret T M t=Q .ret T M:=rfl
@[simp] def D5l{id}{t}:C2A id Q .normal T M t=Q .normal T M:=rfl
@[simp] def D9v{id}{t}:C2A id Q .ret T M t=Q .ret T M:=rfl
@[simp] def D7t{id id'}{t}:C2A id Q (.exit id') T M t=if id'=id then Q .normal T M else Q (.exit id') T M:=rfl
@[simp] def E0q{rs}{Q:AV->Mem->Prop}{t}:C9J C rs Q .ret T M t=A1i (A3p C rs T M) (λr=>Q r M) ⟨⟩:=D2j
@[simp] def D6j{rs}{Q:AV->Mem->Prop}{t}:C9J C rs Q .normal T M t=A1i (A3p C rs T M) (λr=>Q r M) ⟨⟩:=C3f
@[simp] def D9f{b}{x y:Prop}{t}:D7Y (.val (.bool b)) x y t=if b=true then x else y:=rfl
@[simp] def E2X{b want}{run skip:Prop}{t}:wGv (.val (.bool b)) want run skip t=if b=want then run else skip:=rfl
@[simp] def E0R{want}{run skip:Prop}{t}:wGv (.val undef) want run skip t=skip:=rfl
@[simp] def D8A{d}{want}{run skip:Prop}{t}:D7v (some d) want T run skip t=wGv (T d) want run skip ⟨⟩:=rfl
variable {d:Option Tmp} {t:TypeId} {p:String} {af:Array Edge} {g:Option (Nat×Bool)}
@[simp] def D7w{ops}{op}{run skip:Prop}{tg}:B3u ops ⟨d,op,t,p,af,none⟩ T run skip tg=run:=rfl
@[simp] def D7F{ops}{op}{run skip:Prop}{j}{want}{tg}:B3u ops ⟨d,op,t,p,af,some (j,want)⟩ T run skip tg=D7v ((ops[j]?).bind (·.dst)) want T run skip ⟨⟩:=D1w
@[simp] def E1N{ops}{K:Env->Mem->Prop}{tg}:D2V C h ops [] K T M tg=K T M:=rfl
@[simp] def E0h{ops}{o}{rest}{K:Env->Mem->Prop}{tg}:D2V C h ops (o::rest) K T M tg=B3u ops o T (wOp C h o (λv M'=>D2V C h ops rest K (T.put o.dst v) M' ⟨⟩) (T.ev C) M ⟨⟩) (D2V C h ops rest K (T.put o.dst (.val undef)) M ⟨⟩) ⟨⟩:=rfl
@[simp] def E1d{x}{tg}:wOp C h ⟨d,.move x,t,p,af,g⟩ K ρ M tg=K (ρ x) M:=rfl
@[simp] def E4E{x}{r}{tg}:wD C h 0 r ⟨d,.move x,t,p,af,g⟩ ρ M K tg=K (ρ x) M:=rfl
@[simp] def D8k{x}{tg}:wOp C h ⟨d,.assign x,t,p,af,g⟩ K ρ M tg=K (ρ x) M:=rfl
@[simp] def D9U{x}{r}{tg}:wD C h 0 r ⟨d,.assign x,t,p,af,g⟩ ρ M K tg=K (ρ x) M:=rfl
@[simp] def E2v{c a b}{tg}:wOp C h ⟨d,.pick c a b,t,p,af,g⟩ K ρ M tg=A1i (B6Z (ρ c) (ρ a) (ρ b)) (λv=>K v M) ⟨⟩:=by show A0J ((B6Z (ρ c) (ρ a) (ρ b)).map λv=>(v,M)) (λr=>K r.1 r.2)=_;rw[A2c];rfl
@[simp] def E4e{c a b}{r}{tg}:wD C h 0 r ⟨d,.pick c a b,t,p,af,g⟩ ρ M K tg=A1i (B6Z (ρ c) (ρ a) (ρ b)) (λv=>K v M) ⟨⟩:=rfl
@[simp] def D6Q{x}{tg}:wOp C h ⟨d,.nilCheck x,t,p,af,g⟩ K ρ M tg=A1i (B4N (ρ x)) (λv=>K v M) ⟨⟩:=by show A0J ((B4N (ρ x)).map λv=>(v,M)) (λr=>K r.1 r.2)=_;rw[A2c];rfl
@[simp] def D7C{x}{r}{tg}:wD C h 0 r ⟨d,.nilCheck x,t,p,af,g⟩ ρ M K tg=A1i (B4N (ρ x)) (λv=>K v M) ⟨⟩:=rfl
@[simp] def E5b{xt:TypeId}{x}{tg}:wOp C h ⟨d,.unOp .not xt x,t,p,af,g⟩ K ρ M tg=A1i (C1H (ρ x)) (λv=>K v M) ⟨⟩:=by show A0J ((C1H (ρ x)).map λv=>(v,M)) (λr=>K r.1 r.2)=_;rw[A2c];rfl
@[simp] def E6L{xt:TypeId}{x}{r}{tg}:wD C h 0 r ⟨d,.unOp .not xt x,t,p,af,g⟩ ρ M K tg=A1i (C1H (ρ x)) (λv=>K v M) ⟨⟩:=rfl
@[simp] def E5m{xt:TypeId}{x}{r}{tg}:wD C h 0 r ⟨d,.unOp .neg xt x,t,p,af,g⟩ ρ M K tg=A1i (D2L (ρ x)) (λv=>K v M) ⟨⟩:=rfl
@[simp] def D5o{xt:TypeId}{x}{f}{tg}:wOp C h ⟨d,.fieldAddr xt x f,t,p,af,g⟩ K ρ M tg=A1i (A8C (A1j C.P xt f) (ρ x)) (λv=>K v M) ⟨⟩:=by show A0J ((A8C (A1j C.P xt f) (ρ x)).map λv=>(v,M)) (λr=>K r.1 r.2)=_;rw[A2c];rfl
@[simp] def D6T{xt:TypeId}{x}{f}{r}{tg}:wD C h 0 r ⟨d,.fieldAddr xt x f,t,p,af,g⟩ ρ M K tg=A1i (A8C (A1j C.P xt f) (ρ x)) (λv=>K v M) ⟨⟩:=rfl
@[simp] def E2y{xt:TypeId}{x}{f}{r}{tg}:wD C h 0 r ⟨d,.field xt x f,t,p,af,g⟩ ρ M K tg=A1i (C2v C.P (A0N C.P xt f) (ρ x)) (λv=>K v M) ⟨⟩:=rfl
@[simp] def D7V{x}{i}{tg}:wOp C h ⟨d,.extract x i,t,p,af,g⟩ K ρ M tg=A1i (A7C (ρ x) i) (λv=>K v M) ⟨⟩:=by show A0J ((A7C (ρ x) i).map λv=>(v,M)) (λr=>K r.1 r.2)=_;rw[A2c];rfl
@[simp] def D8t{x}{i}{r}{tg}:wD C h 0 r ⟨d,.extract x i,t,p,af,g⟩ ρ M K tg=A1i (A7C (ρ x) i) (λv=>K v M) ⟨⟩:=rfl
@[simp] def D5k{xt:TypeId}{x i}{tg}:wOp C h ⟨d,.indexAddr xt x i,t,p,af,g⟩ K ρ M tg=A1i (match A6a ((A0S C.P xt).map (A1b C.P)) (ρ x) (ρ i)with|some v=>some (v,M)|none=>A0w C h ⟨d,.indexAddr xt x i,t,p,af,g⟩ ρ M) (λr=>K r.1 r.2) ⟨⟩:=rfl
@[simp] def D5Z{xt:TypeId}{x i}{r}{tg}:wD C h 0 r ⟨d,.indexAddr xt x i,t,p,af,g⟩ ρ M K tg=A1i (A6a ((A0S C.P xt).map (A1b C.P)) (ρ x) (ρ i)) (λv=>K v M) ⟨⟩:=rfl
@[simp] def E0L{xt:TypeId}{x i}{tg}:wOp C h ⟨d,.index xt x i,t,p,af,g⟩ K ρ M tg=A1i (B4T (C.P.underlying xt) (ρ x) (ρ i)) (λv=>K v M) ⟨⟩:=by show A0J ((B4T (C.P.underlying xt) (ρ x) (ρ i)).map λv=>(v,M)) (λr=>K r.1 r.2)=_;rw[A2c];rfl
@[simp] def E1F{xt:TypeId}{x i:Operand}{r:Nat}{tg:Tag ((⟨d,.index xt x i,t,p,af,g⟩:Oper),K)}:wD C h 0 r ⟨d,.index xt x i,t,p,af,g⟩ ρ M K tg=A1i (C7l C.P (C.P.underlying xt) (ρ x) (ρ i)) (λv=>K v M) ⟨⟩:=rfl
@[simp] def D6h{fn}{f c}{tg}:wOp C h ⟨d,.makeFunc fn f c,t,p,af,g⟩ K ρ M tg=K (.func fn (f.toList.map ρ) (c.toList.map ρ)) M:=rfl
@[simp] def D8a{fn}{f c}{r}{tg}:wD C h 0 r ⟨d,.makeFunc fn f c,t,p,af,g⟩ ρ M K tg=K (.func fn (f.toList.map ρ) (c.toList.map ρ)) M:=rfl
@[simp] def D3y{P:Program}{t:TypeId}{M:Mem}{sz:Nat}{rows:List (List AV)}{o:Own}{lo hi mx:Option AV}:A2Y P t M (.list sz rows o) lo hi mx=none:=rfl
@[simp] def D5s{P:Program}{t:TypeId}{M:Mem}{v:Value}{lo hi mx:Option AV}:A2Y P t M (.val v) lo hi mx=none:=rfl
@[simp] def E0f{st:TypeId}{x:Operand}{lo hi mx:Option Operand}{tg:Tag ((⟨d,.slice st x lo hi mx,t,p,af,g⟩:Oper),K)}:wOp C h ⟨d,.slice st x lo hi mx,t,p,af,g⟩ K ρ M tg=A1i ((A2o C.P st (ρ x) (lo.map ρ) (hi.map ρ) (mx.map ρ)).or (A2Y C.P st M (ρ x) (lo.map ρ) (hi.map ρ) (mx.map ρ))) (λv=>K v M) ⟨⟩:=by
 show A0J (match A2o C.P st (ρ x) (lo.map ρ) (hi.map ρ) (mx.map ρ)with|some v=>some (v,M)|none=>A0w C h ⟨d,.slice st x lo hi mx,t,p,af,g⟩ ρ M) (λr=>K r.1 r.2)=A0J ((A2o C.P st (ρ x) (lo.map ρ) (hi.map ρ) (mx.map ρ)).or (A2Y C.P st M (ρ x) (lo.map ρ) (hi.map ρ) (mx.map ρ))) (λv=>K v M);cases hs:A2o C.P st (ρ x) (lo.map ρ) (hi.map ρ) (mx.map ρ)with
 |some v=>rfl
 |none=>have e1:A0n C h ⟨d,.slice st x lo hi mx,t,p,af,g⟩ ρ=none:=hs;simp only[A0w,e1,A0T,A0P,A0B,A2G,Z2K];cases A2Y C.P st M (ρ x) (lo.map ρ) (hi.map ρ) (mx.map ρ)<;>rfl
@[simp] def E0i{x:Operand}{xt:TypeId}{tg:Tag ((⟨d,.call {callee:=.builtin .clear,args:=#[x],argTypes:=#[xt]},t,p,af,g⟩:Oper),K)}:wOp C h ⟨d,.call {callee:=.builtin .clear,args:=#[x],argTypes:=#[xt]},t,p,af,g⟩ K ρ M tg=A1i (A5d C.P xt M (ρ x)) (λr=>K r.1 r.2) ⟨⟩:=by
 show A0J (A0w C h ⟨d,.call {callee:=.builtin .clear,args:=#[x],argTypes:=#[xt]},t,p,af,g⟩ ρ M) (λr=>K r.1 r.2)=A0J (A5d C.P xt M (ρ x)) (λr=>K r.1 r.2);simp[A0w,A0n,A6t,A0T,A0P,A2b,A0B,A2G,A3b]
@[simp] def E2B{st:TypeId}{x}{lo hi mx}{r}{tg}:wD C h 0 r ⟨d,.slice st x lo hi mx,t,p,af,g⟩ ρ M K tg=A1i (A2o C.P st (ρ x) (lo.map ρ) (hi.map ρ) (mx.map ρ)) (λv=>K v M) ⟨⟩:=rfl
@[simp] def E0T{bt:TypeId}{ps:List (Nat×Operand)}{tg}:wOp C h ⟨d,.build bt ps.toArray,t,p,af,g⟩ K ρ M tg=A1i (match A0D C.P bt (ps.map λx=>(x.1,ρ x.2))with|some v=>some (v,M)|none=>A0w C h ⟨d,.build bt ps.toArray,t,p,af,g⟩ ρ M) (λr=>K r.1 r.2) ⟨⟩:=rfl
@[simp] def E1I{bt:TypeId}{ps:List (Nat×Operand)}{r:Nat}{tg}:wD C h 0 r ⟨d,.build bt ps.toArray,t,p,af,g⟩ ρ M K tg=A1i (A0D C.P bt (ps.map λx=>(x.1,ρ x.2))) (λv=>K v M) ⟨⟩:=rfl
@[simp] def D7U{a b:TypeId}{x}{tg}:wOp C h ⟨d,.convert a b x,t,p,af,g⟩ K ρ M tg=A1i (match A6L C.P a b (ρ x)with|some v=>some (v,M)|none=>A0w C h ⟨d,.convert a b x,t,p,af,g⟩ ρ M) (λr=>K r.1 r.2) ⟨⟩:=rfl
@[simp] def D8V{a b:TypeId}{x}{r}{tg}:wD C h 0 r ⟨d,.convert a b x,t,p,af,g⟩ ρ M K tg=A1i (A6L C.P a b (ρ x)) (λv=>K v M) ⟨⟩:=rfl
@[simp] def E0P{op}{xt yt:TypeId}{x y}{tg}:wOp C h ⟨d,.binOp op xt x y yt,t,p,af,g⟩ K ρ M tg=B9t C.P op xt (ρ x) (ρ y) (λv=>K v M) ⟨⟩:=rfl
@[simp] def E3m{op}{xt yt:TypeId}{x y}{r}{tg}:wD C h 0 r ⟨d,.binOp op xt x y yt,t,p,af,g⟩ ρ M K tg=A1i (A1B C.P op xt (ρ x) (ρ y)) (λv=>K v M) ⟨⟩:=rfl
@[simp] def E3a{lt:TypeId}{x}{tg}:wOp C h ⟨d,.load lt x,t,p,af,g⟩ K ρ M tg=A1i (A1D C.P lt M (ρ x)) (λv=>K v M) ⟨⟩:=A2c _ _ _
@[simp] def E0w{lt:TypeId}{x y}{tg}:wOp C h ⟨d,.store lt x y,t,p,af,g⟩ K ρ M tg=A1i (A0l (A1b C.P lt) M (ρ x) (ρ y)) (λM'=>K (.val undef) M') ⟨⟩:=A2c _ _ _
@[simp] def E0g{lt:TypeId}{x y}{r}{tg}:wD C h 2 r ⟨d,.store lt x y,t,p,af,g⟩ ρ M K tg=A1i (A0l (A1b C.P lt) M (ρ x) (ρ y)) (λM'=>K (.val undef) M') ⟨⟩:=A2c _ _ _
@[simp] def E0e{e:TypeId}{tg}:wOp C h ⟨d,.alloc e,t,p,af,g⟩ K ρ M tg=A1i (A0k C.P e M) (λx=>K x.1 x.2) ⟨⟩:=rfl
@[simp] def E0W{e:TypeId}{r}{tg}:wD C h 2 r ⟨d,.alloc e,t,p,af,g⟩ ρ M K tg=A1i (A0k C.P e M) (λx=>K x.1 x.2) ⟨⟩:=rfl
@[simp] def E4B{e:TypeId}{x}{tg}:wOp C h ⟨d,.box e x,t,p,af,g⟩ K ρ M tg=A1i (C0W (A1O h.imm d) e M (ρ x)) (λx=>K x.1 x.2) ⟨⟩:=rfl
@[simp] def E5a{e:TypeId}{x}{r}{tg}:wD C h 2 r ⟨d,.box e x,t,p,af,g⟩ ρ M K tg=A1i (C0W (A1O h.imm d) e M (ρ x)) (λx=>K x.1 x.2) ⟨⟩:=rfl
@[simp] def D7y{mt:TypeId}{tg}:wOp C h ⟨d,.makeMap mt none,t,p,af,g⟩ K ρ M tg=K (.mapr M.length) (M++[.map [] 0]):=rfl
@[simp] def D7Q{mt:TypeId}{r}{tg}:wD C h 2 r ⟨d,.makeMap mt none,t,p,af,g⟩ ρ M K tg=K (.mapr M.length) (M++[.map [] 0]):=rfl
@[simp] def D8y{mt:TypeId}{m k}{ok}{tg}:wOp C h ⟨d,.lookup mt m k ok,t,p,af,g⟩ K ρ M tg=A1i (A1z C.P mt M (ρ m) (ρ k) ok) (λv=>K v M) ⟨⟩:=A2c _ _ _
@[simp] def D5h{mt:TypeId}{m k x}{tg}:wOp C h ⟨d,.mapUpdate mt m k x,t,p,af,g⟩ K ρ M tg=A1i (A1o C.P mt M (ρ m) (ρ k) (ρ x)) (λM'=>K (.val undef) M') ⟨⟩:=A2c _ _ _
@[simp] def D5n{mt:TypeId}{m k x}{r}{tg}:wD C h 2 r ⟨d,.mapUpdate mt m k x,t,p,af,g⟩ ρ M K tg=A1i (A1o C.P mt M (ρ m) (ρ k) (ρ x)) (λM'=>K (.val undef) M') ⟨⟩:=A2c _ _ _
@[simp] def D9G{mt:TypeId}{m k x:Operand}{tg:Tag ((⟨d,.insert mt m k x,t,p,af,g⟩:Oper),K)}:wOp C h ⟨d,.insert mt m k x,t,p,af,g⟩ K ρ M tg=A1i (A1o C.P mt M (ρ m) (ρ k) (ρ x)) (λM'=>K (.val undef) M') ⟨⟩:=A2c _ _ _
@[simp] def D5q{st:TypeId}{l c}{tg}:wOp C h ⟨d,.makeSlice st l c,t,p,af,g⟩ K ρ M tg=A1i (A4f C.P st (ρ l) (ρ c) M) (λr=>K r.1 r.2) ⟨⟩:=rfl
@[simp] def D5j{st:TypeId}{l c}{r}{tg}:wD C h 2 r ⟨d,.makeSlice st l c,t,p,af,g⟩ ρ M K tg=A1i (A4f C.P st (ρ l) (ρ c) M) (λr=>K r.1 r.2) ⟨⟩:=rfl
@[simp] def E0E{st:TypeId}{x}{tg}:wOp C h ⟨d,.range st x,t,p,af,g⟩ K ρ M tg=A1i (A6e C.P st (ρ x) M) (λr=>K r.1 r.2) ⟨⟩:=rfl
@[simp] def E0j{st:TypeId}{x}{r}{tg}:wD C h 2 r ⟨d,.range st x,t,p,af,g⟩ ρ M K tg=A1i (A6e C.P st (ρ x) M) (λr=>K r.1 r.2) ⟨⟩:=rfl
@[simp] def E2D{x}{tg}:wOp C h ⟨d,.next x true,t,p,af,g⟩ K ρ M tg=A1i (A5m (ρ x) M) (λr=>K r.1 r.2) ⟨⟩:=rfl
@[simp] def E3i{x}{r}{tg}:wD C h 2 r ⟨d,.next x true,t,p,af,g⟩ ρ M K tg=A1i (A5m (ρ x) M) (λr=>K r.1 r.2) ⟨⟩:=rfl
@[simp] def E4L{x}{xt:TypeId}{tg}:wOp C h ⟨d,.call {callee:=.builtin .len,args:=#[x],argTypes:=#[xt]},t,p,af,g⟩ K ρ M tg=A1i ((A1V C.P xt (ρ x)).or (A2S C.P xt M (ρ x))) (λn=>K (.val (.int .i64 n)) M) ⟨⟩:=A2c _ _ _
@[simp] def E3U{x}{xt:TypeId}{r}{tg}:wD C h 2 r ⟨d,.call {callee:=.builtin .len,args:=#[x],argTypes:=#[xt]},t,p,af,g⟩ ρ M K tg=A1i ((A1V C.P xt (ρ x)).or (A2S C.P xt M (ρ x))) (λn=>K (.val (.int .i64 n)) M) ⟨⟩:=A2c _ _ _
@[simp] def E1v{x y}{xt yt:TypeId}{tg}:wOp C h ⟨d,.call {callee:=.builtin .copy,args:=#[x,y],argTypes:=#[xt,yt]},t,p,af,g⟩ K ρ M tg=A1i (A5o C.P xt yt M (ρ x) (ρ y)) (λr=>K r.1 r.2) ⟨⟩:=rfl
@[simp] def E2z{x y}{xt yt:TypeId}{r}{tg}:wD C h 2 r ⟨d,.call {callee:=.builtin .copy,args:=#[x,y],argTypes:=#[xt,yt]},t,p,af,g⟩ ρ M K tg=A1i (A5o C.P xt yt M (ρ x) (ρ y)) (λr=>K r.1 r.2) ⟨⟩:=rfl
@[simp] def E4x{C}{h}{t:TypeId}{d}:B3D C h t d=(A1O h.vec d&&!C.data t):=rfl
@[simp] def D3p{bt:TypeId}{n:Nat}{ps:List (Nat×Operand)}{tg}:wOp C h ⟨d,.buildSlice bt n ps.toArray,t,p,af,g⟩ K ρ M tg=if B3D C h bt d=true then A1i (A1H C.P bt n (ps.map λx=>(x.1,ρ x.2)) M) (λr=>K r.1 r.2) ⟨⟩else A1i (A0q C.P bt n (ps.map λx=>(x.1,ρ x.2))) (λv=>K v M) ⟨⟩:=by
 show A0J (if B3D C h bt d=true then A1H C.P bt n (ps.map λp=>(p.1,ρ p.2)) M else(A0q C.P bt n (ps.map λp=>(p.1,ρ p.2))).map λv=>(v,M)) (λr=>K r.1 r.2)=_;split
 .rfl
 .exact A2c _ _ _
@[simp] def D5f{bt:TypeId}{n:Nat}{ps:List (Nat×Operand)}{r:Nat}{tg}:wD C h 0 r ⟨d,.buildSlice bt n ps.toArray,t,p,af,g⟩ ρ M K tg=A1i (if B3D C h bt d=true then none else A0q C.P bt n (ps.map λx=>(x.1,ρ x.2))) (λv=>K v M) ⟨⟩:=rfl
@[simp] def E3G{x y}{ts}{tg}:wOp C h ⟨d,.call {callee:=.builtin .max,args:=#[x,y],argTypes:=ts},t,p,af,g⟩ K ρ M tg=A1i (A8y true (ρ x) (ρ y)) (λv=>K v M) ⟨⟩:=by show A0J ((A8y true (ρ x) (ρ y)).map λv=>(v,M)) (λr=>K r.1 r.2)=_;rw[A2c];rfl
@[simp] def E5M{x y}{ts}{r}{tg}:wD C h 0 r ⟨d,.call {callee:=.builtin .max,args:=#[x,y],argTypes:=ts},t,p,af,g⟩ ρ M K tg=A1i (A8y true (ρ x) (ρ y)) (λv=>K v M) ⟨⟩:=rfl
@[simp] def E6D{x y}{ts}{r}{tg}:wD C h 0 r ⟨d,.call {callee:=.builtin .min,args:=#[x,y],argTypes:=ts},t,p,af,g⟩ ρ M K tg=A1i (A8y false (ρ x) (ρ y)) (λv=>K v M) ⟨⟩:=rfl
@[simp] def E5P{x}{xt:TypeId}{r}{tg}:wD C h 0 r ⟨d,.call {callee:=.builtin .len,args:=#[x],argTypes:=#[xt]},t,p,af,g⟩ ρ M K tg=A1i (A1V C.P xt (ρ x)) (λ(n:Nat)=>K (.val (.int .i64 n)) M) ⟨⟩:=A2c _ _ _
@[simp] def E0X{lt:TypeId}{x}{r}{tg}:wD C h 0 r ⟨d,.load lt x,t,p,af,g⟩ ρ M K tg=A1i (D2U C.P lt (ρ x)) (λv=>K v M) ⟨⟩:=rfl
@[simp] def E3V{e:TypeId}{x}{r}{tg}:wD C h 0 r ⟨d,.box e x,t,p,af,g⟩ ρ M K tg=A1i (E1O (A1O h.imm d) (ρ x)) (λv=>K v M) ⟨⟩:=rfl
@[simp] def E3q{lt:TypeId}{x}{r}{tg}:wD C h 1 r ⟨d,.load lt x,t,p,af,g⟩ ρ M K tg=wAt (A7f (ρ x)) r (A1i (A1D C.P lt M (ρ x)) (λv=>K v M) ⟨⟩) ⟨⟩:=by
 show(A0R _ ρ=some r/\A0J (A1D C.P lt M (ρ x)) (λv=>K v M))=(A7f (ρ x)=some r/\A0J (A1D C.P lt M (ρ x)) (λv=>K v M));have e:A0R ⟨d,.load lt x,t,p,af,g⟩ ρ=some r/\A0J (A1D C.P lt M (ρ x)) (λv=>K v M)<->A7f (ρ x)=some r/\A0J (A1D C.P lt M (ρ x)) (λv=>K v M):=by simp only[A0R,A7f];cases ρ x<;>simp[A1D,A2L]
 exact propext e
@[simp] def D8Z{mt:TypeId}{m k}{ok}{r}{tg}:wD C h 1 r ⟨d,.lookup mt m k ok,t,p,af,g⟩ ρ M K tg=(A0R ⟨d,.lookup mt m k ok,t,p,af,g⟩ ρ=some r/\A1i (A1z C.P mt M (ρ m) (ρ k) ok) (λv=>K v M) ⟨⟩):=rfl
@[simp] def E3b{f:Operand}{args:List Operand}{ts:Array TypeId}{tg}:wOp C h ⟨d,.call {callee:=.value f,args:=args.toArray,argTypes:=ts},t,p,af,g⟩ K ρ M tg=D7Z C (ρ f) (args.map ρ) M K ⟨⟩:=rfl
@[simp] def D8w{f}{first captured args}{tg}:D7Z C (.func (.func f) first captured) args M K tg=B7k C f (first++args++captured) M K ⟨⟩:=rfl
@[simp] def E2c{f:Operand}{args:List Operand}{ts:Array TypeId}{r:Nat}{tg}:wD C h 0 r ⟨d,.call {callee:=.value f,args:=args.toArray,argTypes:=ts},t,p,af,g⟩ ρ M K tg=C9Z C (ρ f) (args.map ρ) M K ⟨⟩:=rfl
@[simp] def E3g{f:Operand}{args:List Operand}{ts:Array TypeId}{r:Nat}{tg}:wD C h 2 r ⟨d,.call {callee:=.value f,args:=args.toArray,argTypes:=ts},t,p,af,g⟩ ρ M K tg=C9n C (ρ f) (args.map ρ) M K ⟨⟩:=rfl
@[simp] def D5H{f}{first captured args}{tg}:C9Z C (.func (.func f) first captured) args M K tg=C6T C f (first++args++captured) M K ⟨⟩:=rfl
@[simp] def D6N{f}{first captured args}{tg}:C9n C (.func (.func f) first captured) args M K tg=D3r C f (first++args++captured) M K ⟨⟩:=rfl
@[simp] def D8G{s x}{st xt:TypeId}{tg}:wOp C h ⟨d,.call {callee:=.builtin .append,args:=#[s,x],argTypes:=#[st,xt]},t,p,af,g⟩ K ρ M tg=A5H C (A1O h.own d) (A1O h.vec d) st xt (ρ s) (ρ x) M K ⟨⟩:=rfl
@[simp] def E0b{s x}{st xt:TypeId}{r}{tg}:wD C h 2 r ⟨d,.call {callee:=.builtin .append,args:=#[s,x],argTypes:=#[st,xt]},t,p,af,g⟩ ρ M K tg=A5H C (A1O h.own d) (A1O h.vec d) st xt (ρ s) (ρ x) M K ⟨⟩:=rfl
@[simp] def E2C{P}{op}{k}{a b}{f:AV->Prop}{tg}:B9t P op t (.val (.int k a)) (.val (.int k b)) f tg=A1i ((A9d op k a b).map .val) f ⟨⟩:=D2Q
@[simp] def E3l{P}{op}{a b}{f:AV->Prop}{tg}:B9t P op t (.val (.string a)) (.val (.string b)) f tg=A1i ((B9J op a b).map .val) f ⟨⟩:=D2x
@[simp] def E0A{P}{op}{a b}{f:AV->Prop}{tg}:B9t P op t (.val (.bool a)) (.val (.bool b)) f tg=A1i (A1B P op t (.val (.bool a)) (.val (.bool b))) f ⟨⟩:=D0w
@[simp] def E2n{P}{op}{b o}{y}{f:AV->Prop}{tg}:B9t P op t (.ptr b o) (.val y) f tg=A1i (A1B P op t (.ptr b o) (.val y)) f ⟨⟩:=D4d
@[simp] def E5f{P}{op}{b o b2 o2}{f:AV->Prop}{tg}:B9t P op t (.ptr b o) (.ptr b2 o2) f tg=A1i ((B0X P op t b o b2 o2).map λb=>.val (.bool b)) f ⟨⟩:=rfl
@[simp] def E1M{P:Program}{op:BinOp}{y:AV}{f:AV->Prop}{tg:Tag f}:B9t P op t (.val (.slice none 0 0)) y f tg=A1i (A1B P op t (.val (.slice none 0 0)) y) f ⟨⟩:=C4f
@[simp] def E0n{P}{op}{sz}{r}{rows}{own}{y}{f:AV->Prop}{tg}:B9t P op t (.list sz (r::rows) own) y f tg=A1i (A1B P op t (.list sz (r::rows) own) y) f ⟨⟩:=D2h
@[simp] def E2H{P}{op}{cs}{y}{f:AV->Prop}{tg}:B9t P op t (.agg cs) y f tg=A1i (A1B P op t (.agg cs) y) f ⟨⟩:=A5U rfl
def A8M{P}{op}{e:TypeId}{sz}{own}{f:AV->Prop}{tg}(a:op=.eql\/op=.neq)(ht:P.underlying t=some (.slice e)):B9t P op t (.list sz [] own) (.val (.slice none 0 0)) f tg=∀b,f (.val (.bool b)):=B9W a ht
variable {cls rob:Nat->Nat}
@[simp] def D9Q{ops}{k}{K:Env->Mem->Prop}{tg}:C4z C h ops cls rob k [] T M K tg=K T M:=rfl
@[simp] def D9i{ops}{k}{o}{rest}{K:Env->Mem->Prop}{tg}:C4z C h ops cls rob k (o::rest) T M K tg=B3u ops o T (wD C h (cls k) (rob k) o (T.ev C) M (λv M'=>C4z C h ops cls rob (k+1) rest (T.put o.dst v) M' K ⟨⟩) ⟨⟩) (C4z C h ops cls rob (k+1) rest (T.put o.dst (.val undef)) M K ⟨⟩) ⟨⟩:=rfl
@[simp] def D5r{x}{xt:TypeId}{d}{t:TypeId}{p}{af}{g}{tg}:wOp C h ⟨d,.call {callee:=.builtin .unsafeSliceData,args:=#[x],argTypes:=#[xt]},t,p,af,g⟩ K ρ M tg=A1i ((A3x M (ρ x)).map λv=>(v,M)) (λr=>K r.1 r.2) ⟨⟩:=rfl
@[simp] def D5p{x y}{xt yt:TypeId}{d}{t:TypeId}{p}{af}{g}{tg}:wOp C h ⟨d,.call {callee:=.builtin .unsafeString,args:=#[x,y],argTypes:=#[xt,yt]},t,p,af,g⟩ K ρ M tg=A1i (A2k C.P xt M (ρ x) (ρ y)) (λr=>K r.1 r.2) ⟨⟩:=rfl
@[simp] def D5v{x}{xt:TypeId}{r}{d}{t:TypeId}{p}{af}{g}{tg}:wD C h 2 r ⟨d,.call {callee:=.builtin .unsafeSliceData,args:=#[x],argTypes:=#[xt]},t,p,af,g⟩ ρ M K tg=A1i ((A3x M (ρ x)).map λv=>(v,M)) (λr=>K r.1 r.2) ⟨⟩:=rfl
@[simp] def D5w{x y}{xt yt:TypeId}{r}{d}{t:TypeId}{p}{af}{g}{tg}:wD C h 2 r ⟨d,.call {callee:=.builtin .unsafeString,args:=#[x,y],argTypes:=#[xt,yt]},t,p,af,g⟩ ρ M K tg=A1i (A2k C.P xt M (ρ x) (ρ y)) (λr=>K r.1 r.2) ⟨⟩:=rfl
def A4o{f}{args}{Q':AV->Mem->Prop}{tg}(hc:A3V C f args M Q')(hk:∀r M',Q' r M'->K r M'):B7k C f args M K tg:=hc.mono hk
def C2C{f}{args}{r}{tg}(hc:∀M,A3V C f args M (λv M'=>v=r/\M'=M))(hk:K r M):C6T C f args M K tg:=⟨r,hc,hk⟩
def A4T{f}{args}{r}{M1}{tg}(hc:A3V C f args M (λv M'=>v=r/\M'=M1))(hk:K r M1):D3r C f args M K tg:=⟨r,M1,hc,hk⟩
def B7H{own vec}{st xt e:TypeId}{sz bytes}{s x}{tg}(h1:A0S C.P st=some e)(h2:A3W C.P xt)(h3:A3j C.P e sz bytes)(h4:B0f sz s)(h5:B0f sz x)(h6:(A8B s+A8B x)*bytes<=140737488355328)
 (hk:A1i (A7i own sz s x M) (λr=>K r.1 r.2) ⟨⟩)(hv:A8u vec s=false:=by rfl):A5H C own vec st xt s x M K tg:=by
 refine⟨e,sz,bytes,⟨h1,h2,h3⟩,?_⟩
 have e1:A3h own vec e sz bytes s x M=A7i own sz s x M:=by unfold A3h;rw[Z0e (by simp only[hv];simp),Z0d (by rw[B1A.2 h4,B1A.2 h5,Z0w h6];rfl)]
 rw[e1];exact hk
def A6U{own vec}{st xt e:TypeId}{sz bytes k m}{s x}{cs news}{tg}(h1:A0S C.P st=some e)(h2:A3W C.P xt)(h3:A3j C.P e sz bytes)(h4:A0A M sz s=some (cs,k))(h5:A0A M sz x=some (news,m))(h6:(k+m)*bytes<=140737488355328)
 (hi:A3a e sz s x M=none)(hk:A1i (A2H e sz s x M) (λr=>K r.1 r.2) ⟨⟩)(hv:A8u vec s=true:=by rfl):A5H C own vec st xt s x M K tg:=by
 refine⟨e,sz,bytes,⟨h1,h2,h3⟩,?_⟩
 have e1:A3h own vec e sz bytes s x M=A2H e sz s x M:=by simp[A3h,hv,h4,h5,h6,hi]
 rw[e1];exact hk
def E1X{own vec:Bool}{st xt e:TypeId}{sz bytes k m:Nat}{s x:AV}{cs news:List AV}{r:AV×Mem}{tg:Tag K}(h1:A0S C.P st=some e)(h2:A3W C.P xt)(h3:A3j C.P e sz bytes)(h4:A0A M sz s=some (cs,k))(h5:A0A M sz x=some (news,m))(h6:(k+m)*bytes<=140737488355328)
 (hi:A3a e sz s x M=some r)(hk:K r.1 r.2)(hv:A8u vec s=true:=by rfl):A5H C own vec st xt s x M K tg:=by
 refine⟨e,sz,bytes,⟨h1,h2,h3⟩,?_⟩
 have e1:A3h own vec e sz bytes s x M=some r:=by simp[A3h,hv,h4,h5,h6,hi]
 rw[e1];exact hk
def A1v{id}{l}{tg}(h:A2r)(a:C.P.follows .mixedOrders=true)(cls rob:Nat->Nat)(c:A2g N l.toArray l=true)(b:A4x l.toArray (A6n cls λ_=>0)=true) (hr:C4z C h l.toArray cls rob 0 l T M (λT M=>Q .normal T M) ⟨⟩):wWp C N (.region id l.toArray true) Q T M tg:=C7h a cls rob c b hr
def D3S{f}{fn}{c}{args}{Q:AV->Mem->Prop}{rs}(h:A2r)(hf:C.P.funcs[f]?=some fn)(hb:fn.body=some c)(hN:fn.ntmps=N)(a:fn.results=rs.toArray) (hn:decide (args.length<=N)=true)(b:A5e N rs=true)(d:A2O N c=true)(hw:A5C C h N c (λe T M=>C9J C rs Q e T M ⟨⟩) (Env.of args) M ⟨⟩):A0e C f args M Q:=B1w hf hb hN a hn b (A4H (h:=h) c _ _ _ d hw)
def A7V{c}{tg}(h:A2r)(I:Env->Mem->Prop)(μ:Env->Mem->Nat)(b:A2O N c=true)(h0:I T M) (a:∀T M,I T M->A5C C h N c (λe T' M'=>B5W (λT' M'=>I T' M'/\μ T' M'<μ T M) Q e T' M' ⟨⟩) T M ⟨⟩):wWp C N (.loop c) Q T M tg:=D4g I μ h0 λT M hI=>A4H (h:=h) c _ T M b (a T M hI)
end
section
variable {C:Ctx} {N:Nat} {Q:Post} {T:Env} {M:Mem} {K:AV->Mem->Prop}
def A0r{f}{fn}{c}{args}{Q':AV->Mem->Prop}{tg}(hf:C.P.funcs[f]?=some fn)(hc:A0e C f args M Q')(hk:∀r M',Q' r M'->K r M')(hb:fn.body=some c:=by exact rfl) (hn:(fn.name== "runtime.NumGoroutine")=false:=by exact rfl):B7k C f args M K tg:=A4o (.inl ⟨A9m hf hb hn,hc⟩) hk
def A0g{f}{fn}{c}{args}{v}{tg}(hf:C.P.funcs[f]?=some fn)(hc:A0e C f args M (λr M'=>r=v/\M'=M))(hk:K v M)(hb:fn.body=some c:=by exact rfl) (hn:(fn.name== "runtime.NumGoroutine")=false:=by exact rfl):B7k C f args M K tg:=A4o (.inl ⟨A9m hf hb hn,hc⟩) λ_ _ ⟨h1,h2⟩=>h1▸h2▸hk
def A2F{f}{fn}{c}{args}{v}{tg}(hf:C.P.funcs[f]?=some fn)(hc:∀M,A0e C f args M (λr M'=>r=v/\M'=M))(hk:K v M)(hb:fn.body=some c:=by exact rfl) (hn:(fn.name== "runtime.NumGoroutine")=false:=by exact rfl):C6T C f args M K tg:=C2C (λM=>.inl ⟨A9m hf hb hn,hc M⟩) hk
def A0m{f}{fn}{c}{args}{Q:AV->Mem->Prop}{rs}(h:A2r)(hf:C.P.funcs[f]?=some fn)(hw:A5C C h N c (λe T M=>C9J C rs Q e T M ⟨⟩) (Env.of args) M ⟨⟩)(hb:fn.body=some c:=by exact rfl)(hN:fn.ntmps=N:=by exact rfl) (a:fn.results=rs.toArray:=by exact rfl)(hn:decide (args.length<=N)=true:=by exact rfl)(b:A5e N rs=true:=by exact rfl)(d:A2O N c=true:=by exact rfl):A0e C f args M Q:=D3S h hf hb hN a hn b d hw
def C9V:AV->Nat
 |.val (.int _ i)=>i.toNat
 |_=>0
@[simp] def D9V{k}{i}:C9V (.val (.int k i))=i.toNat:=rfl
def A0F{c}{tg}(h:A2r)(n k:Nat)(I:Env->Mem->Prop)(h0:I T M)(a:∀T M,I T M->A5C C h N c (λe T' M'=>B5W (λT' M'=>I T' M'/\n-C9V (T' k)<n-C9V (T k)) Q e T' M' ⟨⟩) T M ⟨⟩) (b:A2O N c=true:=by kernel_rfl):wWp C N (.loop c) Q T M tg:=A7V h I (λT _=>n-C9V (T k)) b h0 a
end
@[simp] def E0M{P}{t:TypeId}{s}(h:P.underlying t=some .string):A1V P t (.val (.string s))=some s.size:=by simp[A1V,h]
@[simp] def D8P{P}{t e:TypeId}{sz}{rows}{own}(h:P.underlying t=some (.slice e)):A1V P t (.list sz rows own)=some rows.length:=by simp[A1V,h]
@[simp] def D8R{P}{t e:TypeId}{a b c f l}(h:P.underlying t=some (.slice e)):A1V P t (.vref a b c f l)=some l:=by simp[A1V,h]
@[simp] def E0u{P}{t e:TypeId}(h:P.underlying t=some (.slice e)):A1V P t (.val (.slice none 0 0))=some 0:=by simp[A1V,h]
end
def B2U{α:Type}{o}{f g:α->Prop}(h:∀x,f x->g x)(k:A0J o f):A0J o g:=by
 cases o with
 |none=>exact k
 |some v=>exact h v k
def D1h{C}{h}{o}{K K':AV->Mem->Prop}{ρ:Operand->AV}{M}(hk:∀v m,K v m->K' v m)(hw:C8g C h o K ρ M):C8g C h o K' ρ M:=by
 unfold C8g at hw|-;split at hw
 .rename_i bop bt x y yt heq;unfold C6J at hw|-;split at hw
  .exact B2U (λv=>hk v M) hw
  .rename_i hne;unfold B4u at hw|-;cases hb:A1B C.P bop bt (ρ x) (ρ y)with
   |some v=>rw[hb]at hw;exact hk _ _ hw
   |none=>rw[hb]at hw;exact⟨hw.1,λb=>hk _ _ (hw.2 b)⟩
 .unfold D2G at hw|-;split at hw
  .exact A3V.mono hw hk
  .exact hw
 .split at hw
  .obtain⟨e,sz,bytes,h1,h2⟩:=hw;exact⟨e,sz,bytes,h1,B2U (λr=>hk r.1 r.2) h2⟩
  .exact hw
 .exact B2U (λr=>hk r.1 r.2) hw
def B2P{C}{h}{ops}{K K':Env->Mem->Prop}(hk:∀T M,K T M->K' T M):∀(l:List Oper) (T:Env) (M:Mem),B4k C h ops l K T M->B4k C h ops l K' T M
 |[],T,M,hw=>hk _ _ hw
 |o::rest,T,M,hw=>by simp only[B4k]at hw|-;exact A4e (D1h λv m h2=>B2P hk rest _ _ h2) (B2P hk rest _ _) hw
def A5Z{C}{h}{N}:∀(c:Code) (Q Q':Exit->Env->Mem->Prop) (T:Env) (M:Mem),(∀e T M,Q e T M->Q' e T M)->A5n C h N c Q T M->A5n C h N c Q' T M
 |.skip,Q,Q',T,M,hq,hv=>hq _ _ _ hv
 |.label _,Q,Q',T,M,hq,hv=>hq _ _ _ hv
 |.region id ops draw,Q,Q',T,M,hq,hv=>by
  simp only[A5n]at hv|-;cases draw with
  |true=>exact AWp.mono (by simpa using hv) hq
  |false=>simpa using B2P (λT M=>hq _ T M) _ _ _ (by simpa using hv)
 |.seq x y,Q,Q',T,M,hq,hv=>by
  simp only[A5n]at hv|-;refine A5Z x _ _ T M (λe T M hx=>?_) hv;cases e with
  |normal=>exact A5Z y _ _ T M hq hx
  |_=>exact hq _ _ _ hx
 |.cond c x y,Q,Q',T,M,hq,hv=>by
  simp only[A5n]at hv|-;unfold C9e at hv|-;split at hv
  .split at hv
   .rename_i e;rw[Z0d e];exact A5Z x _ _ T M hq hv
   .rename_i e;rw[Z0e e];exact A5Z y _ _ T M hq hv
  .exact hv
 |.block id c,Q,Q',T,M,hq,hv=>by
  simp only[A5n]at hv|-;refine A5Z c _ _ T M (λe T M hx=>?_) hv;cases e with
  |exit i=>
   simp only[A7e]at hx|-;split at hx
   .rename_i e;rw[Z0d e];exact hq _ _ _ hx
   .rename_i e;rw[Z0e e];exact hq _ _ _ hx
  |_=>exact hq _ _ _ hx
 |.exit id,Q,Q',T,M,hq,hv=>hq _ _ _ hv
 |.ret,Q,Q',T,M,hq,hv=>hq _ _ _ hv
 |.loop c,Q,Q',T,M,hq,hv=>AWp.mono (show AWp C N (.loop c) Q T M from hv) hq
 |.rangeFunc ..,Q,Q',T,M,hq,hv=>AWp.mono (show AWp C N _ Q T M from hv) hq
 |.scope ..,Q,Q',T,M,hq,hv=>AWp.mono (show AWp C N _ Q T M from hv) hq
 |.goto ..,Q,Q',T,M,hq,hv=>AWp.mono (show AWp C N _ Q T M from hv) hq
 |.refuse ..,Q,Q',T,M,hq,hv=>AWp.mono (show AWp C N _ Q T M from hv) hq
def C2e{C}{h}{N}{c}{Q}{T}{M}{tg}(I:Env->Mem->Prop)(h1:A5C C h N c (λe T' M'=>B5W (λT M=>I T M) (λ_ _ _=>False) e T' M' ⟨⟩) T M ⟨⟩)
 (h2:∀T M,I T M->Q .normal T M):A5C C h N c Q T M tg:=
 A5Z c _ _ T M (λe T M hx=>by cases e<;>first|exact h2 T M hx|exact hx.elim) h1
def D2w(x:Exit)(I:Env->Mem->Prop)(e:Exit)(T:Env)(M:Mem)(_:Tag I):Prop:=e=x/\I T M
@[simp] def E1o{x e}{I:Env->Mem->Prop}{T}{M}{t}:D2w x I e T M t=(e=x/\I T M):=rfl
def A6F{C}{N}{c}{Q}{T}{M}{tg}(x:Exit)(I:Env->Mem->Prop)(h1:wWp C N c (λe T' M'=>D2w x I e T' M' ⟨⟩) T M ⟨⟩)(h2:∀T M,I T M->Q x T M):wWp C N c Q T M tg:=AWp.mono h1 λe T M h=>by obtain⟨rfl,h⟩:=h;exact h2 T M h
end Go.Abs
