/- The texts AbsW, AbsW2. -/
import Derived.Test.YtmihnfpinnfnfaaGreatDoorPG15
import Derived.KernelRfl
set_option linter.all false
namespace Go.Abs
section
def Q2{P:Prop}(h:P:=by kernel_rfl):P:=h
universe u
structure Tag {α:Sort u} (a:α):Type where
def A1h{α:Type}(o:Option α)(f:α->Prop)(_:Tag f):Prop:=A0S o f
@[simp] def D7d{α:Type}{v}{f:α->Prop}{t}:A1h (some v) f t=f v:=(rfl)
@[simp] def D7B{α:Type}{f:α->Prop}{t}:A1h none f t=False:=(rfl)
@[simp] def D8s{α:Type}{c:Prop}[Decidable c]{v}{f:α->Prop}{t}:A1h (if c then some v else none) f t=(c/\f v):=C6y v f
@[simp] def D8u{α β:Type}{o:Option α}{g:α->β}{f:β->Prop}{t:Tag f}:A1h (o.map g) f t=A1h o (λx=>f (g x)) ⟨⟩:=A1H o g f
abbrev Post:=Exit->Env->Mem->Prop
def A5s(C:Ctx)(h:A2j)(N:Nat)(c:Code)(Q:Post)(T:Env)(M:Mem)(_:Tag (c,Q)):Prop:=A5d C h N c Q T M
def D1j(C:Ctx)(h:A2j)(ops:Array Oper)(l:List Oper)(K:Env->Mem->Prop)(T:Env)(M:Mem)(_:Tag (ops,l,K)):Prop:=B3C C h ops l K T M
def wOp(C:Ctx)(h:A2j)(o:Oper)(K:AV->Mem->Prop)(ρ:Operand->AV)(M:Mem)(_:Tag (o,K)):Prop:=C6e C h o K ρ M
def B2Q(ops:Array Oper)(o:Oper)(T:Env)(run skip:Prop)(_:Tag (ops,o,run,skip)):Prop:=A2q ops o T run skip
def D6g(d:Option Tmp)(want:Bool)(T:Env)(run skip:Prop)(_:Tag (run,skip)):Prop:=C4V d want T run skip
def wGv(v:AV)(want:Bool)(run skip:Prop)(_:Tag (run,skip)):Prop:=C6L v want run skip
def D6M(v:AV)(x y:Prop)(_:Tag (x,y)):Prop:=C6T v x y
def B7n(K:Env->Mem->Prop)(Q:Post)(e:Exit)(T:Env)(M:Mem)(_:Tag (K,Q)):Prop:=C3c K Q e T M
def C1v(id:Nat)(Q:Post)(e:Exit)(T:Env)(M:Mem)(_:Tag Q):Prop:=A8Z id Q e T M
def C7t(C:Ctx)(rs:List ResultVar)(Q:AV->Mem->Prop)(e:Exit)(T:Env)(M:Mem)(_:Tag Q):Prop:=B5m C rs Q e T M
def wWp(C:Ctx)(N:Nat)(c:Code)(Q:Post)(T:Env)(M:Mem)(_:Tag (c,Q)):Prop:=AWp C N c Q T M
def C1d(C:Ctx)(f:FuncId)(args:List AV)(M:Mem)(Q:AV->Mem->Prop)(_:Tag Q):Prop:=A3E C f args M Q
def B9u(P:Program)(op:BinOp)(t:TypeId)(x y:AV)(f:AV->Prop)(_:Tag f):Prop:=C4K P op t x y f
def D6N(C:Ctx)(f:AV)(args:List AV)(M:Mem)(K:AV->Mem->Prop)(_:Tag K):Prop:=D0Q C f args M K
def A3s(C:Ctx)(own vec:Bool)(t u:TypeId)(s x:AV)(M:Mem)(K:AV->Mem->Prop)(_:Tag K):Prop:=B3i C own vec t u s x M K
def wD(C:Ctx)(h:A2j)(c r:Nat)(o:Oper)(ρ:Operand->AV)(M:Mem)(K:AV->Mem->Prop)(_:Tag (o,K)):Prop:=wsD C h c r o ρ M K
def C2J(C:Ctx)(h:A2j)(ops:Array Oper)(cls rob:Nat->Nat)(k:Nat)(l:List Oper)(T:Env)(M:Mem)(K:Env->Mem->Prop)(_:Tag (ops,l,K)):Prop:=B4Q C h ops cls rob k l T M K
def C7P(C:Ctx)(f:AV)(args:List AV)(M:Mem)(K:AV->Mem->Prop)(_:Tag K):Prop:=D1C C f args M K
def C7f(C:Ctx)(f:AV)(args:List AV)(M:Mem)(K:AV->Mem->Prop)(_:Tag K):Prop:=D0B C f args M K
def C4W(C:Ctx)(g:FuncId)(args:List AV)(M:Mem)(K:AV->Mem->Prop)(_:Tag K):Prop:=∃r,(∀M,A3E C g args M (λv M'=>v=r/\M'=M))/\K r M
def D1N(C:Ctx)(g:FuncId)(args:List AV)(M:Mem)(K:AV->Mem->Prop)(_:Tag K):Prop:=∃r M1,A3E C g args M (λv M'=>v=r/\M'=M1)/\K r M1
def wAt(o:Option Nat)(rob:Nat)(X:Prop)(_:Tag X):Prop:=o=some rob/\X
@[simp] def E0W{b r}{X:Prop}{t}:wAt (some b) r X t=(b=r/\X):=by simp[wAt]
def A5S:AV->Option Nat
 |.ptr b _=>some b
 |.vptr f _ _=>some f
 |.mapr b=>some b
 |_=>none
@[simp] def D9U{b o}:A5S (.ptr b o)=some b:=(rfl)
@[simp] def D8q{f g o}:A5S (.vptr f g o)=some f:=(rfl)
@[simp] def D8Q{b}:A5S (.mapr b)=some b:=(rfl)
section
variable {C:Ctx} {h:A2j} {N:Nat} {Q:Post} {T:Env} {M:Mem} {K:AV->Mem->Prop} {ρ:Operand->AV}
@[simp] def E4h{t}:A5s C h N .skip Q T M t=Q .normal T M:=(rfl)
@[simp] def E3o{l}{t}:A5s C h N (.label l) Q T M t=Q .normal T M:=(rfl)
@[simp] def E0a{id}{l}{t}:A5s C h N (.region id l.toArray false) Q T M t=D1j C h l.toArray l (λT M=>Q .normal T M) T M ⟨⟩:=(rfl)
@[simp] def E4u{id}{ops}{t}:A5s C h N (.region id ops true) Q T M t=wWp C N (.region id ops true) Q T M ⟨⟩:=(rfl)
@[simp] def A7I{x y}{t}:A5s C h N (.seq x y) Q T M t=A5s C h N x (λe T M=>B7n (λT M=>A5s C h N y Q T M ⟨⟩) Q e T M ⟨⟩) T M ⟨⟩:=(rfl)
@[simp] def E4a{c}{x y}{t}:A5s C h N (.cond c x y) Q T M t=D6M (T.ev C c) (A5s C h N x Q T M ⟨⟩) (A5s C h N y Q T M ⟨⟩) ⟨⟩:=(rfl)
@[simp] def E2T{id}{c}{t}:A5s C h N (.block id c) Q T M t=A5s C h N c (λe T M=>C1v id Q e T M ⟨⟩) T M ⟨⟩:=(rfl)
@[simp] def E4x{id}{t}:A5s C h N (.exit id) Q T M t=Q (.exit id) T M:=(rfl)
@[simp] def E5O{t}:A5s C h N .ret Q T M t=Q .ret T M:=(rfl)
@[simp] def E4i{c}{t}:A5s C h N (.loop c) Q T M t=wWp C N (.loop c) Q T M ⟨⟩:=(rfl)
@[simp] def A7q{K:Env->Mem->Prop}{t}:B7n K Q .normal T M t=K T M:=(rfl)
@[simp] def D8b{K:Env->Mem->Prop}{id}{t}:B7n K Q (.exit id) T M t=Q (.exit id) T M:=(rfl)
@[simp] def D8t{K:Env->Mem->Prop}{t}:B7n K Q .ret T M t=Q .ret T M:=(rfl)
@[simp] def D3P{id}{t}:C1v id Q .normal T M t=Q .normal T M:=(rfl)
@[simp] def D8h{id}{t}:C1v id Q .ret T M t=Q .ret T M:=(rfl)
@[simp] def D6f{id id'}{t}:C1v id Q (.exit id') T M t=if id'=id then Q .normal T M else Q (.exit id') T M:=(rfl)
@[simp] def D8S{rs}{Q:AV->Mem->Prop}{t}:C7t C rs Q .ret T M t=A1h (A6b C rs T M) (λr=>Q r M) ⟨⟩:=D0o
@[simp] def D4P{rs}{Q:AV->Mem->Prop}{t}:C7t C rs Q .normal T M t=A1h (A6b C rs T M) (λr=>Q r M) ⟨⟩:=C1N
@[simp] def D7R{b}{x y:Prop}{t}:D6M (.val (.bool b)) x y t=if b=true then x else y:=(rfl)
@[simp] def E0Z{b want}{run skip:Prop}{t}:wGv (.val (.bool b)) want run skip t=if b=want then run else skip:=(rfl)
@[simp] def D9o{want}{run skip:Prop}{t}:wGv (.val undef) want run skip t=skip:=(rfl)
@[simp] def D7u{d}{want}{run skip:Prop}{t}:D6g (some d) want T run skip t=wGv (T d) want run skip ⟨⟩:=(rfl)
variable {d:Option Tmp} {t:TypeId} {p:String} {af:Array Edge} {g:Option (Nat×Bool)}
@[simp] def D6h{ops}{op}{run skip:Prop}{tg}:B2Q ops ⟨d,op,t,p,af,none⟩ T run skip tg=run:=(rfl)
@[simp] def D6r{ops}{op}{run skip:Prop}{j}{want}{tg}:B2Q ops ⟨d,op,t,p,af,some (j,want)⟩ T run skip tg=D6g ((ops[j]?).bind (·.dst)) want T run skip ⟨⟩:=C9q
@[simp] def E0e{ops}{K:Env->Mem->Prop}{tg}:D1j C h ops [] K T M tg=K T M:=(rfl)
@[simp] def D8J{ops}{o}{rest}{K:Env->Mem->Prop}{tg}:D1j C h ops (o::rest) K T M tg=B2Q ops o T (wOp C h o (λv M'=>D1j C h ops rest K (T.put o.dst v) M' ⟨⟩) (T.ev C) M ⟨⟩) (D1j C h ops rest K (T.put o.dst (.val undef)) M ⟨⟩) ⟨⟩:=rfl
@[simp] def D9x{x}{tg}:wOp C h ⟨d,.move x,t,p,af,g⟩ K ρ M tg=K (ρ x) M:=(rfl)
@[simp] def E2W{x}{r}{tg}:wD C h 0 r ⟨d,.move x,t,p,af,g⟩ ρ M K tg=K (ρ x) M:=(rfl)
@[simp] def D7c{x}{tg}:wOp C h ⟨d,.assign x,t,p,af,g⟩ K ρ M tg=K (ρ x) M:=(rfl)
@[simp] def D8v{x}{r}{tg}:wD C h 0 r ⟨d,.assign x,t,p,af,g⟩ ρ M K tg=K (ρ x) M:=(rfl)
@[simp] def E0C{c a b}{tg}:wOp C h ⟨d,.pick c a b,t,p,af,g⟩ K ρ M tg=A1h (B6w (ρ c) (ρ a) (ρ b)) (λv=>K v M) ⟨⟩:=by show A0S ((B6w (ρ c) (ρ a) (ρ b)).map λv=>(v,M)) (λr=>K r.1 r.2)=_;rw[A1H];rfl
@[simp] def E2w{c a b}{r}{tg}:wD C h 0 r ⟨d,.pick c a b,t,p,af,g⟩ ρ M K tg=A1h (B6w (ρ c) (ρ a) (ρ b)) (λv=>K v M) ⟨⟩:=(rfl)
@[simp] def D5y{x}{tg}:wOp C h ⟨d,.nilCheck x,t,p,af,g⟩ K ρ M tg=A1h (B5S (ρ x)) (λv=>K v M) ⟨⟩:=by show A0S ((B5S (ρ x)).map λv=>(v,M)) (λr=>K r.1 r.2)=_;rw[A1H];rfl
@[simp] def D6o{x}{r}{tg}:wD C h 0 r ⟨d,.nilCheck x,t,p,af,g⟩ ρ M K tg=A1h (B5S (ρ x)) (λv=>K v M) ⟨⟩:=(rfl)
@[simp] def E3s{xt:TypeId}{x}{tg}:wOp C h ⟨d,.unOp .not xt x,t,p,af,g⟩ K ρ M tg=A1h (C4x (ρ x)) (λv=>K v M) ⟨⟩:=by show A0S ((C4x (ρ x)).map λv=>(v,M)) (λr=>K r.1 r.2)=_;rw[A1H];rfl
@[simp] def E5a{xt:TypeId}{x}{r}{tg}:wD C h 0 r ⟨d,.unOp .not xt x,t,p,af,g⟩ ρ M K tg=A1h (C4x (ρ x)) (λv=>K v M) ⟨⟩:=(rfl)
@[simp] def E3H{xt:TypeId}{x}{r}{tg}:wD C h 0 r ⟨d,.unOp .neg xt x,t,p,af,g⟩ ρ M K tg=A1h (D0V (ρ x)) (λv=>K v M) ⟨⟩:=(rfl)
@[simp] def D3S{xt:TypeId}{x}{f}{tg}:wOp C h ⟨d,.fieldAddr xt x f,t,p,af,g⟩ K ρ M tg=A1h (A9Y (A1D C.P xt f) (ρ x)) (λv=>K v M) ⟨⟩:=by show A0S ((A9Y (A1D C.P xt f) (ρ x)).map λv=>(v,M)) (λr=>K r.1 r.2)=_;rw[A1H];rfl
@[simp] def D5A{xt:TypeId}{x}{f}{r}{tg}:wD C h 0 r ⟨d,.fieldAddr xt x f,t,p,af,g⟩ ρ M K tg=A1h (A9Y (A1D C.P xt f) (ρ x)) (λv=>K v M) ⟨⟩:=(rfl)
@[simp] def D9a{xt:TypeId}{x:Operand}{f:Nat}{tg:Tag ((⟨d,.field xt x f,t,p,af,g⟩:Oper),K)}:wOp C h ⟨d,.field xt x f,t,p,af,g⟩ K ρ M tg=A1h (B3t C.P (A0U C.P xt f) (ρ x)) (λv=>K v M) ⟨⟩:=by show A0S ((B3t C.P (A0U C.P xt f) (ρ x)).map λv=>(v,M)) (λr=>K r.1 r.2)=_;rw[A1H];rfl
@[simp] def E0E{xt:TypeId}{x}{f}{r}{tg}:wD C h 0 r ⟨d,.field xt x f,t,p,af,g⟩ ρ M K tg=A1h (B3t C.P (A0U C.P xt f) (ρ x)) (λv=>K v M) ⟨⟩:=(rfl)
@[simp] def D6I{x}{i}{tg}:wOp C h ⟨d,.extract x i,t,p,af,g⟩ K ρ M tg=A1h (A9o (ρ x) i) (λv=>K v M) ⟨⟩:=by show A0S ((A9o (ρ x) i).map λv=>(v,M)) (λr=>K r.1 r.2)=_;rw[A1H];rfl
@[simp] def D7n{x}{i}{r}{tg}:wD C h 0 r ⟨d,.extract x i,t,p,af,g⟩ ρ M K tg=A1h (A9o (ρ x) i) (λv=>K v M) ⟨⟩:=(rfl)
@[simp] def D3N{xt:TypeId}{x i}{tg}:wOp C h ⟨d,.indexAddr xt x i,t,p,af,g⟩ K ρ M tg=A1h (match A5O ((A1b C.P xt).map (A1j C.P)) (ρ x) (ρ i)with|some v=>some (v,M)|none=>A0W C h ⟨d,.indexAddr xt x i,t,p,af,g⟩ ρ M) (λr=>K r.1 r.2) ⟨⟩:=(rfl)
@[simp] def D4A{xt:TypeId}{x i}{r}{tg}:wD C h 0 r ⟨d,.indexAddr xt x i,t,p,af,g⟩ ρ M K tg=A1h (A5O ((A1b C.P xt).map (A1j C.P)) (ρ x) (ρ i)) (λv=>K v M) ⟨⟩:=(rfl)
@[simp] def D9j{xt:TypeId}{x i}{tg}:wOp C h ⟨d,.index xt x i,t,p,af,g⟩ K ρ M tg=A1h (B4f (C.P.underlying xt) (ρ x) (ρ i)) (λv=>K v M) ⟨⟩:=by show A0S ((B4f (C.P.underlying xt) (ρ x) (ρ i)).map λv=>(v,M)) (λr=>K r.1 r.2)=_;rw[A1H];rfl
@[simp] def D9X{xt:TypeId}{x i:Operand}{r:Nat}{tg:Tag ((⟨d,.index xt x i,t,p,af,g⟩:Oper),K)}:wD C h 0 r ⟨d,.index xt x i,t,p,af,g⟩ ρ M K tg=A1h (B6X C.P (C.P.underlying xt) (ρ x) (ρ i)) (λv=>K v M) ⟨⟩:=(rfl)
@[simp] def D4N{fn}{f c}{tg}:wOp C h ⟨d,.makeFunc fn f c,t,p,af,g⟩ K ρ M tg=K (.func fn (f.toList.map ρ) (c.toList.map ρ)) M:=(rfl)
@[simp] def D6O{fn}{f c}{r}{tg}:wD C h 0 r ⟨d,.makeFunc fn f c,t,p,af,g⟩ ρ M K tg=K (.func fn (f.toList.map ρ) (c.toList.map ρ)) M:=(rfl)
@[simp] def D1V{P:Program}{t:TypeId}{M:Mem}{sz:Nat}{rows:List (List AV)}{o:Own}{lo hi mx:Option AV}:A3L P t M (.list sz rows o) lo hi mx=none:=(rfl)
@[simp] def D3W{P:Program}{t:TypeId}{M:Mem}{v:Value}{lo hi mx:Option AV}:A3L P t M (.val v) lo hi mx=none:=(rfl)
@[simp] def D8H{st:TypeId}{x:Operand}{lo hi mx:Option Operand}{tg:Tag ((⟨d,.slice st x lo hi mx,t,p,af,g⟩:Oper),K)}:wOp C h ⟨d,.slice st x lo hi mx,t,p,af,g⟩ K ρ M tg=A1h ((A1W C.P st (ρ x) (lo.map ρ) (hi.map ρ) (mx.map ρ)).or (A3L C.P st M (ρ x) (lo.map ρ) (hi.map ρ) (mx.map ρ))) (λv=>K v M) ⟨⟩:=by
 show A0S (match A1W C.P st (ρ x) (lo.map ρ) (hi.map ρ) (mx.map ρ)with|some v=>some (v,M)|none=>A0W C h ⟨d,.slice st x lo hi mx,t,p,af,g⟩ ρ M) (λr=>K r.1 r.2)=A0S ((A1W C.P st (ρ x) (lo.map ρ) (hi.map ρ) (mx.map ρ)).or (A3L C.P st M (ρ x) (lo.map ρ) (hi.map ρ) (mx.map ρ))) (λv=>K v M);cases hs:A1W C.P st (ρ x) (lo.map ρ) (hi.map ρ) (mx.map ρ)with
 |some v=>rfl
 |none=>have e1:A0I C h ⟨d,.slice st x lo hi mx,t,p,af,g⟩ ρ=none:=hs;simp only[A0W,e1,A1P,A1R,A1a,A7l,Z3k];cases A3L C.P st M (ρ x) (lo.map ρ) (hi.map ρ) (mx.map ρ)<;>rfl
@[simp] def D8K{x:Operand}{xt:TypeId}{tg:Tag ((⟨d,.call {callee:=.builtin .clear,args:=#[x],argTypes:=#[xt]},t,p,af,g⟩:Oper),K)}:wOp C h ⟨d,.call {callee:=.builtin .clear,args:=#[x],argTypes:=#[xt]},t,p,af,g⟩ K ρ M tg=A1h (A9B C.P xt M (ρ x)) (λr=>K r.1 r.2) ⟨⟩:=by
 show A0S (A0W C h ⟨d,.call {callee:=.builtin .clear,args:=#[x],argTypes:=#[xt]},t,p,af,g⟩ ρ M) (λr=>K r.1 r.2)=A0S (A9B C.P xt M (ρ x)) (λr=>K r.1 r.2);simp[A0W,A0I,A8b,A1P,A1R,A4W,A1a,A7l,B0F]
@[simp] def E0I{st:TypeId}{x}{lo hi mx}{r}{tg}:wD C h 0 r ⟨d,.slice st x lo hi mx,t,p,af,g⟩ ρ M K tg=A1h (A1W C.P st (ρ x) (lo.map ρ) (hi.map ρ) (mx.map ρ)) (λv=>K v M) ⟨⟩:=(rfl)
@[simp] def D9r{bt:TypeId}{ps:List (Nat×Operand)}{tg}:wOp C h ⟨d,.build bt ps.toArray,t,p,af,g⟩ K ρ M tg=A1h (match A0A C.P bt (ps.map λx=>(x.1,ρ x.2))with|some v=>some (v,M)|none=>A0W C h ⟨d,.build bt ps.toArray,t,p,af,g⟩ ρ M) (λr=>K r.1 r.2) ⟨⟩:=(rfl)
@[simp] def D9Y{bt:TypeId}{ps:List (Nat×Operand)}{r:Nat}{tg}:wD C h 0 r ⟨d,.build bt ps.toArray,t,p,af,g⟩ ρ M K tg=A1h (A0A C.P bt (ps.map λx=>(x.1,ρ x.2))) (λv=>K v M) ⟨⟩:=(rfl)
@[simp] def D6H{a b:TypeId}{x}{tg}:wOp C h ⟨d,.convert a b x,t,p,af,g⟩ K ρ M tg=A1h (match A5C C.P a b (ρ x)with|some v=>some (v,M)|none=>A0W C h ⟨d,.convert a b x,t,p,af,g⟩ ρ M) (λr=>K r.1 r.2) ⟨⟩:=(rfl)
@[simp] def D7J{a b:TypeId}{x}{r}{tg}:wD C h 0 r ⟨d,.convert a b x,t,p,af,g⟩ ρ M K tg=A1h (A5C C.P a b (ρ x)) (λv=>K v M) ⟨⟩:=(rfl)
@[simp] def D9m{op}{xt yt:TypeId}{x y}{tg}:wOp C h ⟨d,.binOp op xt x y yt,t,p,af,g⟩ K ρ M tg=B9u C.P op xt (ρ x) (ρ y) (λv=>K v M) ⟨⟩:=(rfl)
@[simp] def E1m{op}{xt yt:TypeId}{x y}{r}{tg}:wD C h 0 r ⟨d,.binOp op xt x y yt,t,p,af,g⟩ ρ M K tg=A1h (A1A C.P op xt (ρ x) (ρ y)) (λv=>K v M) ⟨⟩:=(rfl)
@[simp] def E1a{lt:TypeId}{x}{tg}:wOp C h ⟨d,.load lt x,t,p,af,g⟩ K ρ M tg=A1h (A0M C.P lt M (ρ x)) (λv=>K v M) ⟨⟩:=A1H _ _ _
@[simp] def D8Y{lt:TypeId}{x y}{tg}:wOp C h ⟨d,.store lt x y,t,p,af,g⟩ K ρ M tg=A1h (A0k (A1j C.P lt) M (ρ x) (ρ y)) (λM'=>K (.val undef) M') ⟨⟩:=A1H _ _ _
@[simp] def D8I{lt:TypeId}{x y}{r}{tg}:wD C h 2 r ⟨d,.store lt x y,t,p,af,g⟩ ρ M K tg=A1h (A0k (A1j C.P lt) M (ρ x) (ρ y)) (λM'=>K (.val undef) M') ⟨⟩:=A1H _ _ _
@[simp] def D8G{e:TypeId}{tg}:wOp C h ⟨d,.alloc e,t,p,af,g⟩ K ρ M tg=A1h (A0j C.P e M) (λx=>K x.1 x.2) ⟨⟩:=(rfl)
@[simp] def D9s{e:TypeId}{r}{tg}:wD C h 2 r ⟨d,.alloc e,t,p,af,g⟩ ρ M K tg=A1h (A0j C.P e M) (λx=>K x.1 x.2) ⟨⟩:=(rfl)
@[simp] def E2R{e:TypeId}{x}{tg}:wOp C h ⟨d,.box e x,t,p,af,g⟩ K ρ M tg=A1h (B9X (A1X h.imm d) e M (ρ x)) (λx=>K x.1 x.2) ⟨⟩:=(rfl)
@[simp] def E3r{e:TypeId}{x}{r}{tg}:wD C h 2 r ⟨d,.box e x,t,p,af,g⟩ ρ M K tg=A1h (B9X (A1X h.imm d) e M (ρ x)) (λx=>K x.1 x.2) ⟨⟩:=(rfl)
@[simp] def D6k{mt:TypeId}{tg}:wOp C h ⟨d,.makeMap mt none,t,p,af,g⟩ K ρ M tg=K (.mapr M.length) (M++[.map [] 0]):=(rfl)
@[simp] def D6D{mt:TypeId}{r}{tg}:wD C h 2 r ⟨d,.makeMap mt none,t,p,af,g⟩ ρ M K tg=K (.mapr M.length) (M++[.map [] 0]):=(rfl)
@[simp] def D7s{mt:TypeId}{m k}{ok}{tg}:wOp C h ⟨d,.lookup mt m k ok,t,p,af,g⟩ K ρ M tg=A1h (A1S C.P mt M (ρ m) (ρ k) ok) (λv=>K v M) ⟨⟩:=A1H _ _ _
@[simp] def D3K{mt:TypeId}{m k x}{tg}:wOp C h ⟨d,.mapUpdate mt m k x,t,p,af,g⟩ K ρ M tg=A1h (A1V C.P mt M (ρ m) (ρ k) (ρ x)) (λM'=>K (.val undef) M') ⟨⟩:=A1H _ _ _
@[simp] def D3R{mt:TypeId}{m k x}{r}{tg}:wD C h 2 r ⟨d,.mapUpdate mt m k x,t,p,af,g⟩ ρ M K tg=A1h (A1V C.P mt M (ρ m) (ρ k) (ρ x)) (λM'=>K (.val undef) M') ⟨⟩:=A1H _ _ _
@[simp] def D8m{mt:TypeId}{m k x:Operand}{tg:Tag ((⟨d,.insert mt m k x,t,p,af,g⟩:Oper),K)}:wOp C h ⟨d,.insert mt m k x,t,p,af,g⟩ K ρ M tg=A1h (A1V C.P mt M (ρ m) (ρ k) (ρ x)) (λM'=>K (.val undef) M') ⟨⟩:=A1H _ _ _
@[simp] def D3U{st:TypeId}{l c}{tg}:wOp C h ⟨d,.makeSlice st l c,t,p,af,g⟩ K ρ M tg=A1h (A5a C.P st (ρ l) (ρ c) M) (λr=>K r.1 r.2) ⟨⟩:=(rfl)
@[simp] def D3M{st:TypeId}{l c}{r}{tg}:wD C h 2 r ⟨d,.makeSlice st l c,t,p,af,g⟩ ρ M K tg=A1h (A5a C.P st (ρ l) (ρ c) M) (λr=>K r.1 r.2) ⟨⟩:=(rfl)
@[simp] def D9f{st:TypeId}{x}{tg}:wOp C h ⟨d,.range st x,t,p,af,g⟩ K ρ M tg=A1h (A9C C.P st (ρ x) M) (λr=>K r.1 r.2) ⟨⟩:=(rfl)
@[simp] def D8M{st:TypeId}{x}{r}{tg}:wD C h 2 r ⟨d,.range st x,t,p,af,g⟩ ρ M K tg=A1h (A9C C.P st (ρ x) M) (λr=>K r.1 r.2) ⟨⟩:=(rfl)
@[simp] def E0K{x}{tg}:wOp C h ⟨d,.next x true,t,p,af,g⟩ K ρ M tg=A1h (A8A (ρ x) M) (λr=>K r.1 r.2) ⟨⟩:=(rfl)
@[simp] def E1i{x}{r}{tg}:wD C h 2 r ⟨d,.next x true,t,p,af,g⟩ ρ M K tg=A1h (A8A (ρ x) M) (λr=>K r.1 r.2) ⟨⟩:=(rfl)
@[simp] def E3d{x}{xt:TypeId}{tg}:wOp C h ⟨d,.call {callee:=.builtin .len,args:=#[x],argTypes:=#[xt]},t,p,af,g⟩ K ρ M tg=A1h ((A2W C.P xt (ρ x)).or (A4H C.P xt M (ρ x))) (λn=>K (.val (.int .i64 n)) M) ⟨⟩:=A1H _ _ _
@[simp] def E2j{x}{xt:TypeId}{r}{tg}:wD C h 2 r ⟨d,.call {callee:=.builtin .len,args:=#[x],argTypes:=#[xt]},t,p,af,g⟩ ρ M K tg=A1h ((A2W C.P xt (ρ x)).or (A4H C.P xt M (ρ x))) (λn=>K (.val (.int .i64 n)) M) ⟨⟩:=A1H _ _ _
@[simp] def D9Q{x y}{xt yt:TypeId}{tg}:wOp C h ⟨d,.call {callee:=.builtin .copy,args:=#[x,y],argTypes:=#[xt,yt]},t,p,af,g⟩ K ρ M tg=A1h (A8M C.P xt yt M (ρ x) (ρ y)) (λr=>K r.1 r.2) ⟨⟩:=(rfl)
@[simp] def E0F{x y}{xt yt:TypeId}{r}{tg}:wD C h 2 r ⟨d,.call {callee:=.builtin .copy,args:=#[x,y],argTypes:=#[xt,yt]},t,p,af,g⟩ ρ M K tg=A1h (A8M C.P xt yt M (ρ x) (ρ y)) (λr=>K r.1 r.2) ⟨⟩:=(rfl)
@[simp] def E2L{C}{h}{t:TypeId}{d}:B5V C h t d=(A1X h.vec d&&!C.data t):=(rfl)
@[simp] def D1K{bt:TypeId}{n:Nat}{ps:List (Nat×Operand)}{tg}:wOp C h ⟨d,.buildSlice bt n ps.toArray,t,p,af,g⟩ K ρ M tg=if B5V C h bt d=true then A1h (A1B C.P bt n (ps.map λx=>(x.1,ρ x.2)) M) (λr=>K r.1 r.2) ⟨⟩else A1h (A0w C.P bt n (ps.map λx=>(x.1,ρ x.2))) (λv=>K v M) ⟨⟩:=by
 show A0S (if B5V C h bt d=true then A1B C.P bt n (ps.map λp=>(p.1,ρ p.2)) M else(A0w C.P bt n (ps.map λp=>(p.1,ρ p.2))).map λv=>(v,M)) (λr=>K r.1 r.2)=_;split
 .rfl
 .exact A1H _ _ _
@[simp] def D2W{bt:TypeId}{n:Nat}{ps:List (Nat×Operand)}{r:Nat}{tg}:wD C h 2 r ⟨d,.buildSlice bt n ps.toArray,t,p,af,g⟩ ρ M K tg=if B5V C h bt d=true then A1h (A1B C.P bt n (ps.map λx=>(x.1,ρ x.2)) M) (λr=>K r.1 r.2) ⟨⟩else A1h (A0w C.P bt n (ps.map λx=>(x.1,ρ x.2))) (λv=>K v M) ⟨⟩:=by
 show A0S (if B5V C h bt d=true then A1B C.P bt n (ps.map λp=>(p.1,ρ p.2)) M else(A0w C.P bt n (ps.map λp=>(p.1,ρ p.2))).map λv=>(v,M)) (λr=>K r.1 r.2)=_;split
 .rfl
 .exact A1H _ _ _
@[simp] def D3I{bt:TypeId}{n:Nat}{ps:List (Nat×Operand)}{r:Nat}{tg}:wD C h 0 r ⟨d,.buildSlice bt n ps.toArray,t,p,af,g⟩ ρ M K tg=A1h (if B5V C h bt d=true then none else A0w C.P bt n (ps.map λx=>(x.1,ρ x.2))) (λv=>K v M) ⟨⟩:=(rfl)
@[simp] def E1P{x y}{ts}{tg}:wOp C h ⟨d,.call {callee:=.builtin .max,args:=#[x,y],argTypes:=ts},t,p,af,g⟩ K ρ M tg=A1h (A7n true (ρ x) (ρ y)) (λv=>K v M) ⟨⟩:=by show A0S ((A7n true (ρ x) (ρ y)).map λv=>(v,M)) (λr=>K r.1 r.2)=_;rw[A1H];rfl
@[simp] def E4b{x y}{ts}{r}{tg}:wD C h 0 r ⟨d,.call {callee:=.builtin .max,args:=#[x,y],argTypes:=ts},t,p,af,g⟩ ρ M K tg=A1h (A7n true (ρ x) (ρ y)) (λv=>K v M) ⟨⟩:=(rfl)
@[simp] def E3g{x y:Operand}{ts:Array TypeId}{tg:Tag ((⟨d,.call {callee:=.builtin .min,args:=#[x,y],argTypes:=ts},t,p,af,g⟩:Oper),K)}:wOp C h ⟨d,.call {callee:=.builtin .min,args:=#[x,y],argTypes:=ts},t,p,af,g⟩ K ρ M tg=A1h (A7n false (ρ x) (ρ y)) (λv=>K v M) ⟨⟩:=by show A0S ((A7n false (ρ x) (ρ y)).map λv=>(v,M)) (λr=>K r.1 r.2)=_;rw[A1H];rfl
@[simp] def E4V{x y}{ts}{r}{tg}:wD C h 0 r ⟨d,.call {callee:=.builtin .min,args:=#[x,y],argTypes:=ts},t,p,af,g⟩ ρ M K tg=A1h (A7n false (ρ x) (ρ y)) (λv=>K v M) ⟨⟩:=(rfl)
@[simp] def E4d{x}{xt:TypeId}{r}{tg}:wD C h 0 r ⟨d,.call {callee:=.builtin .len,args:=#[x],argTypes:=#[xt]},t,p,af,g⟩ ρ M K tg=A1h (A2W C.P xt (ρ x)) (λ(n:Nat)=>K (.val (.int .i64 n)) M) ⟨⟩:=A1H _ _ _
@[simp] def D9t{lt:TypeId}{x}{r}{tg}:wD C h 0 r ⟨d,.load lt x,t,p,af,g⟩ ρ M K tg=A1h (D1i C.P lt (ρ x)) (λv=>K v M) ⟨⟩:=(rfl)
@[simp] def E2k{e:TypeId}{x}{r}{tg}:wD C h 0 r ⟨d,.box e x,t,p,af,g⟩ ρ M K tg=A1h (E0f (A1X h.imm d) (ρ x)) (λv=>K v M) ⟨⟩:=(rfl)
@[simp] def E1o{lt:TypeId}{x}{r}{tg}:wD C h 1 r ⟨d,.load lt x,t,p,af,g⟩ ρ M K tg=wAt (A5S (ρ x)) r (A1h (A0M C.P lt M (ρ x)) (λv=>K v M) ⟨⟩) ⟨⟩:=by
 show(A1g _ ρ=some r/\A0S (A0M C.P lt M (ρ x)) (λv=>K v M))=(A5S (ρ x)=some r/\A0S (A0M C.P lt M (ρ x)) (λv=>K v M));have e:A1g ⟨d,.load lt x,t,p,af,g⟩ ρ=some r/\A0S (A0M C.P lt M (ρ x)) (λv=>K v M)<->A5S (ρ x)=some r/\A0S (A0M C.P lt M (ρ x)) (λv=>K v M):=by simp only[A1g,A5S];cases ρ x<;>simp[A0M,A2r]
 exact propext e
@[simp] def D7L{mt:TypeId}{m k}{ok}{r}{tg}:wD C h 1 r ⟨d,.lookup mt m k ok,t,p,af,g⟩ ρ M K tg=(A1g ⟨d,.lookup mt m k ok,t,p,af,g⟩ ρ=some r/\A1h (A1S C.P mt M (ρ m) (ρ k) ok) (λv=>K v M) ⟨⟩):=(rfl)
@[simp] def E1d{f:Operand}{args:List Operand}{ts:Array TypeId}{tg}:wOp C h ⟨d,.call {callee:=.value f,args:=args.toArray,argTypes:=ts},t,p,af,g⟩ K ρ M tg=D6N C (ρ f) (args.map ρ) M K ⟨⟩:=(rfl)
@[simp] def D7q{f}{first captured args}{tg}:D6N C (.func (.func f) first captured) args M K tg=C1d C f (first++args++captured) M K ⟨⟩:=(rfl)
@[simp] def E0o{f:Operand}{args:List Operand}{ts:Array TypeId}{r:Nat}{tg}:wD C h 0 r ⟨d,.call {callee:=.value f,args:=args.toArray,argTypes:=ts},t,p,af,g⟩ ρ M K tg=C7P C (ρ f) (args.map ρ) M K ⟨⟩:=(rfl)
@[simp] def E1h{f:Operand}{args:List Operand}{ts:Array TypeId}{r:Nat}{tg}:wD C h 2 r ⟨d,.call {callee:=.value f,args:=args.toArray,argTypes:=ts},t,p,af,g⟩ ρ M K tg=C7f C (ρ f) (args.map ρ) M K ⟨⟩:=(rfl)
@[simp] def D4k{f}{first captured args}{tg}:C7P C (.func (.func f) first captured) args M K tg=C4W C f (first++args++captured) M K ⟨⟩:=(rfl)
@[simp] def D5w{f}{first captured args}{tg}:C7f C (.func (.func f) first captured) args M K tg=D1N C f (first++args++captured) M K ⟨⟩:=(rfl)
@[simp] def D7y{s x}{st xt:TypeId}{tg}:wOp C h ⟨d,.call {callee:=.builtin .append,args:=#[s,x],argTypes:=#[st,xt]},t,p,af,g⟩ K ρ M tg=A3s C (A1X h.own d) (A1X h.vec d) st xt (ρ s) (ρ x) M K ⟨⟩:=(rfl)
@[simp] def D8D{s x}{st xt:TypeId}{r}{tg}:wD C h 2 r ⟨d,.call {callee:=.builtin .append,args:=#[s,x],argTypes:=#[st,xt]},t,p,af,g⟩ ρ M K tg=A3s C (A1X h.own d) (A1X h.vec d) st xt (ρ s) (ρ x) M K ⟨⟩:=(rfl)
@[simp] def E0J{P}{op}{k}{a b}{f:AV->Prop}{tg}:B9u P op t (.val (.int k a)) (.val (.int k b)) f tg=A1h ((A9x op k a b).map .val) f ⟨⟩:=D1d
@[simp] def E1l{P}{op}{a b}{f:AV->Prop}{tg}:B9u P op t (.val (.string a)) (.val (.string b)) f tg=A1h ((B9a op a b).map .val) f ⟨⟩:=D0K
@[simp] def D9c{P}{op}{a b}{f:AV->Prop}{tg}:B9u P op t (.val (.bool a)) (.val (.bool b)) f tg=A1h (A1A P op t (.val (.bool a)) (.val (.bool b))) f ⟨⟩:=C8m
@[simp] def E0x{P}{op}{b o}{y}{f:AV->Prop}{tg}:B9u P op t (.ptr b o) (.val y) f tg=A1h (A1A P op t (.ptr b o) (.val y)) f ⟨⟩:=D2D
@[simp] def E3B{P}{op}{b o b2 o2}{f:AV->Prop}{tg}:B9u P op t (.ptr b o) (.ptr b2 o2) f tg=A1h ((B3m P op t b o b2 o2).map λb=>.val (.bool b)) f ⟨⟩:=(rfl)
@[simp] def E0d{P:Program}{op:BinOp}{y:AV}{f:AV->Prop}{tg:Tag f}:B9u P op t (.val (.slice none 0 0)) y f tg=A1h (A1A P op t (.val (.slice none 0 0)) y) f ⟨⟩:=D0I
@[simp] def D8O{P}{op}{sz}{r}{rows}{own}{y}{f:AV->Prop}{tg}:B9u P op t (.list sz (r::rows) own) y f tg=A1h (A1A P op t (.list sz (r::rows) own) y) f ⟨⟩:=D0l
@[simp] def E0Q{P}{op}{cs}{y}{f:AV->Prop}{tg}:B9u P op t (.agg cs) y f tg=A1h (A1A P op t (.agg cs) y) f ⟨⟩:=A5F rfl
def A6O{P}{op}{e:TypeId}{sz}{own}{f:AV->Prop}{tg}(a:op=.eql\/op=.neq)(ht:P.underlying t=some (.slice e)):B9u P op t (.list sz [] own) (.val (.slice none 0 0)) f tg=∀b,f (.val (.bool b)):=B9m a ht
variable {cls rob:Nat->Nat}
@[simp] def D8r{ops}{k}{K:Env->Mem->Prop}{tg}:C2J C h ops cls rob k [] T M K tg=K T M:=(rfl)
@[simp] def D7U{ops}{k}{o}{rest}{K:Env->Mem->Prop}{tg}:C2J C h ops cls rob k (o::rest) T M K tg=B2Q ops o T (wD C h (cls k) (rob k) o (T.ev C) M (λv M'=>C2J C h ops cls rob (k+1) rest (T.put o.dst v) M' K ⟨⟩) ⟨⟩) (C2J C h ops cls rob (k+1) rest (T.put o.dst (.val undef)) M K ⟨⟩) ⟨⟩:=rfl
@[simp] def D3V{x}{xt:TypeId}{d}{t:TypeId}{p}{af}{g}{tg}:wOp C h ⟨d,.call {callee:=.builtin .unsafeSliceData,args:=#[x],argTypes:=#[xt]},t,p,af,g⟩ K ρ M tg=A1h ((A7a M (ρ x)).map λv=>(v,M)) (λr=>K r.1 r.2) ⟨⟩:=(rfl)
@[simp] def D3T{x y}{xt yt:TypeId}{d}{t:TypeId}{p}{af}{g}{tg}:wOp C h ⟨d,.call {callee:=.builtin .unsafeString,args:=#[x,y],argTypes:=#[xt,yt]},t,p,af,g⟩ K ρ M tg=A1h (A6V C.P xt M (ρ x) (ρ y)) (λr=>K r.1 r.2) ⟨⟩:=(rfl)
@[simp] def D3Z{x}{xt:TypeId}{r}{d}{t:TypeId}{p}{af}{g}{tg}:wD C h 2 r ⟨d,.call {callee:=.builtin .unsafeSliceData,args:=#[x],argTypes:=#[xt]},t,p,af,g⟩ ρ M K tg=A1h ((A7a M (ρ x)).map λv=>(v,M)) (λr=>K r.1 r.2) ⟨⟩:=(rfl)
@[simp] def D4a{x y}{xt yt:TypeId}{r}{d}{t:TypeId}{p}{af}{g}{tg}:wD C h 2 r ⟨d,.call {callee:=.builtin .unsafeString,args:=#[x,y],argTypes:=#[xt,yt]},t,p,af,g⟩ ρ M K tg=A1h (A6V C.P xt M (ρ x) (ρ y)) (λr=>K r.1 r.2) ⟨⟩:=(rfl)
def A0v{f}{args}{Q':AV->Mem->Prop}{tg}(hc:A3E C f args M Q')(hk:∀r M',Q' r M'->K r M'):C1d C f args M K tg:=hc.mono hk
def A1J{f}{args}{r}{tg}(hc:∀M,A3E C f args M (λv M'=>v=r/\M'=M))(hk:K r M):C4W C f args M K tg:=⟨r,hc,hk⟩
def A5x{f}{args}{r}{M1}{tg}(hc:A3E C f args M (λv M'=>v=r/\M'=M1))(hk:K r M1):D1N C f args M K tg:=⟨r,M1,hc,hk⟩
def A5c{own vec}{st xt e:TypeId}{sz bytes k m}{s x}{cs news}{tg}(h1:A1b C.P st=some e)(h2:A4l C.P xt)(h3:A3X C.P e sz bytes)(h4:A0D M sz s=some (cs,k))(h5:A0D M sz x=some (news,m))(h6:(k+m)*bytes<=140737488355328)
 (hi:A5e e sz s x M=none)(hk:A1h (A5Y e sz s x M) (λr=>K r.1 r.2) ⟨⟩)(hv:B6f vec s=true:=by rfl):A3s C own vec st xt s x M K tg:=by
 refine⟨e,sz,bytes,⟨h1,h2,h3⟩,?_⟩
 have e1:A6n own vec e sz bytes s x M=A5Y e sz s x M:=by simp[A6n,hv,h4,h5,h6,hi]
 rw[e1];exact hk
def E0l{own vec:Bool}{st xt e:TypeId}{sz bytes k m:Nat}{s x:AV}{cs news:List AV}{r:AV×Mem}{tg:Tag K}(h1:A1b C.P st=some e)(h2:A4l C.P xt)(h3:A3X C.P e sz bytes)(h4:A0D M sz s=some (cs,k))(h5:A0D M sz x=some (news,m))(h6:(k+m)*bytes<=140737488355328)
 (hi:A5e e sz s x M=some r)(hk:K r.1 r.2)(hv:B6f vec s=true:=by rfl):A3s C own vec st xt s x M K tg:=by
 refine⟨e,sz,bytes,⟨h1,h2,h3⟩,?_⟩
 have e1:A6n own vec e sz bytes s x M=some r:=by simp[A6n,hv,h4,h5,h6,hi]
 rw[e1];exact hk
def A0Z{id}{l}{tg}(h:A2j)(a:C.P.follows .mixedOrders=true)(cls rob:Nat->Nat)(c:A2u N l.toArray l=true)(b:A4D l.toArray (A6d cls λ_=>0)=true) (hr:C2J C h l.toArray cls rob 0 l T M (λT M=>Q .normal T M) ⟨⟩):wWp C N (.region id l.toArray true) Q T M tg:=C5k a cls rob c b hr
def A1c{f}{fn}{c}{args}{Q:AV->Mem->Prop}{rs}(h:A2j)(hf:C.P.funcs[f]?=some fn)(hb:fn.body=some c)(hN:fn.ntmps=N)(a:fn.results=rs.toArray) (hn:decide (args.length<=N)=true)(b:A5J N rs=true)(d:A2L N c=true)(hw:A5s C h N c (λe T M=>C7t C rs Q e T M ⟨⟩) (Env.of args) M ⟨⟩):A0c C f args M Q:=B8w hf hb hN a hn b (A4o (h:=h) c _ _ _ d hw)
def A0K{c}{tg}(h:A2j)(I:Env->Mem->Prop)(μ:Env->Mem->Nat)(b:A2L N c=true)(h0:I T M) (a:∀T M,I T M->A5s C h N c (λe T' M'=>B7n (λT' M'=>I T' M'/\μ T' M'<μ T M) Q e T' M' ⟨⟩) T M ⟨⟩):wWp C N (.loop c) Q T M tg:=D2H I μ h0 λT M hI=>A4o (h:=h) c _ T M b (a T M hI)
end
section
variable {C:Ctx} {N:Nat} {Q:Post} {T:Env} {M:Mem} {K:AV->Mem->Prop}
def A4b{f}{fn}{c}{args}{Q':AV->Mem->Prop}{tg}(hf:C.P.funcs[f]?=some fn)(hc:A0c C f args M Q')(hk:∀r M',Q' r M'->K r M')(hb:fn.body=some c:=by exact rfl) (hn:(fn.name== "runtime.NumGoroutine")=false:=by exact rfl):C1d C f args M K tg:=A0v (.inl ⟨enters_of hf hb hn,hc⟩) hk
def A0h{f}{fn}{c}{args}{v}{tg}(hf:C.P.funcs[f]?=some fn)(hc:A0c C f args M (λr M'=>r=v/\M'=M))(hk:K v M)(hb:fn.body=some c:=by exact rfl) (hn:(fn.name== "runtime.NumGoroutine")=false:=by exact rfl):C1d C f args M K tg:=A0v (.inl ⟨enters_of hf hb hn,hc⟩) λ_ _ ⟨h1,h2⟩=>h1▸h2▸hk
def A2p{f}{fn}{c}{args}{v}{tg}(hf:C.P.funcs[f]?=some fn)(hc:∀M,A0c C f args M (λr M'=>r=v/\M'=M))(hk:K v M)(hb:fn.body=some c:=by exact rfl) (hn:(fn.name== "runtime.NumGoroutine")=false:=by exact rfl):C4W C f args M K tg:=A1J (λM=>.inl ⟨enters_of hf hb hn,hc M⟩) hk
def A0t{f}{fn}{c}{args}{Q:AV->Mem->Prop}{rs}(h:A2j)(hf:C.P.funcs[f]?=some fn)(hw:A5s C h N c (λe T M=>C7t C rs Q e T M ⟨⟩) (Env.of args) M ⟨⟩)(hb:fn.body=some c:=by exact rfl)(hN:fn.ntmps=N:=by exact rfl) (a:fn.results=rs.toArray:=by exact rfl)(hn:decide (args.length<=N)=true:=by exact rfl)(b:A5J N rs=true:=by exact rfl)(d:A2L N c=true:=by exact rfl):A0c C f args M Q:=A1c h hf hb hN a hn b d hw
def C7L:AV->Nat
 |.val (.int _ i)=>i.toNat
 |_=>0
@[simp] def D8y{k}{i}:C7L (.val (.int k i))=i.toNat:=(rfl)
def A1E{c}{tg}(h:A2j)(n k:Nat)(I:Env->Mem->Prop)(h0:I T M)(a:∀T M,I T M->A5s C h N c (λe T' M'=>B7n (λT' M'=>I T' M'/\n-C7L (T' k)<n-C7L (T k)) Q e T' M' ⟨⟩) T M ⟨⟩) (b:A2L N c=true:=by kernel_rfl):wWp C N (.loop c) Q T M tg:=A0K h I (λT _=>n-C7L (T k)) b h0 a
end
@[simp] def D9k{P}{t:TypeId}{s}(h:P.underlying t=some .string):A2W P t (.val (.string s))=some s.size:=by simp[A2W,h]
@[simp] def D7F{P}{t e:TypeId}{sz}{rows}{own}(h:P.underlying t=some (.slice e)):A2W P t (.list sz rows own)=some rows.length:=by simp[A2W,h]
@[simp] def D7H{P}{t e:TypeId}{a b c f l}(h:P.underlying t=some (.slice e)):A2W P t (.vref a b c f l)=some l:=by simp[A2W,h]
@[simp] def D8W{P}{t e:TypeId}(h:P.underlying t=some (.slice e)):A2W P t (.val (.slice none 0 0))=some 0:=by simp[A2W,h]
end
def B2z{α:Type}{o}{f g:α->Prop}(h:∀x,f x->g x)(k:A0S o f):A0S o g:=by
 cases o with
 |none=>exact k
 |some v=>exact h v k
def C9b{C}{h}{o}{K K':AV->Mem->Prop}{ρ:Operand->AV}{M}(hk:∀v m,K v m->K' v m)(hw:C6e C h o K ρ M):C6e C h o K' ρ M:=by
 unfold C6e at hw|-;split at hw
 .rename_i bop bt x y yt heq;unfold C4K at hw|-;split at hw
  .exact B2z (λv=>hk v M) hw
  .rename_i hne;unfold B3J at hw|-;cases hb:A1A C.P bop bt (ρ x) (ρ y)with
   |some v=>rw[hb]at hw;exact hk _ _ hw
   |none=>rw[hb]at hw;exact⟨hw.1,λb=>hk _ _ (hw.2 b)⟩
 .unfold D0Q at hw|-;split at hw
  .exact A3E.mono hw hk
  .exact hw
 .split at hw
  .obtain⟨e,sz,bytes,h1,h2⟩:=hw;exact⟨e,sz,bytes,h1,B2z (λr=>hk r.1 r.2) h2⟩
  .exact hw
 .exact B2z (λr=>hk r.1 r.2) hw
def B2x{C}{h}{ops}{K K':Env->Mem->Prop}(hk:∀T M,K T M->K' T M):∀(l:List Oper) (T:Env) (M:Mem),B3C C h ops l K T M->B3C C h ops l K' T M
 |[],T,M,hw=>hk _ _ hw
 |o::rest,T,M,hw=>by simp only[B3C]at hw|-;exact A6c (C9b λv m h2=>B2x hk rest _ _ h2) (B2x hk rest _ _) hw
def A5N{C}{h}{N}:∀(c:Code) (Q Q':Exit->Env->Mem->Prop) (T:Env) (M:Mem),(∀e T M,Q e T M->Q' e T M)->A5d C h N c Q T M->A5d C h N c Q' T M
 |.skip,Q,Q',T,M,hq,hv=>hq _ _ _ hv
 |.label _,Q,Q',T,M,hq,hv=>hq _ _ _ hv
 |.region id ops draw,Q,Q',T,M,hq,hv=>by
  simp only[A5d]at hv|-;cases draw with
  |true=>exact AWp.mono (by simpa using hv) hq
  |false=>simpa using B2x (λT M=>hq _ T M) _ _ _ (by simpa using hv)
 |.seq x y,Q,Q',T,M,hq,hv=>by
  simp only[A5d]at hv|-;refine A5N x _ _ T M (λe T M hx=>?_) hv;cases e with
  |normal=>exact A5N y _ _ T M hq hx
  |_=>exact hq _ _ _ hx
 |.cond c x y,Q,Q',T,M,hq,hv=>by
  simp only[A5d]at hv|-;unfold C6T at hv|-;split at hv
  .split at hv
   .rename_i e;rw[Z0c e];exact A5N x _ _ T M hq hv
   .rename_i e;rw[Z0d e];exact A5N y _ _ T M hq hv
  .exact hv
 |.block id c,Q,Q',T,M,hq,hv=>by
  simp only[A5d]at hv|-;refine A5N c _ _ T M (λe T M hx=>?_) hv;cases e with
  |exit i=>
   simp only[A8Z]at hx|-;split at hx
   .rename_i e;rw[Z0c e];exact hq _ _ _ hx
   .rename_i e;rw[Z0d e];exact hq _ _ _ hx
  |_=>exact hq _ _ _ hx
 |.exit id,Q,Q',T,M,hq,hv=>hq _ _ _ hv
 |.ret,Q,Q',T,M,hq,hv=>hq _ _ _ hv
 |.loop c,Q,Q',T,M,hq,hv=>AWp.mono (show AWp C N (.loop c) Q T M from hv) hq
 |.rangeFunc ..,Q,Q',T,M,hq,hv=>AWp.mono (show AWp C N _ Q T M from hv) hq
 |.scope ..,Q,Q',T,M,hq,hv=>AWp.mono (show AWp C N _ Q T M from hv) hq
 |.goto ..,Q,Q',T,M,hq,hv=>AWp.mono (show AWp C N _ Q T M from hv) hq
 |.refuse ..,Q,Q',T,M,hq,hv=>AWp.mono (show AWp C N _ Q T M from hv) hq
def B2q{C}{h}{N}{c}{Q}{T}{M}{tg}(I:Env->Mem->Prop)(h1:A5s C h N c (λe T' M'=>B7n (λT M=>I T M) (λ_ _ _=>False) e T' M' ⟨⟩) T M ⟨⟩)
 (h2:∀T M,I T M->Q .normal T M):A5s C h N c Q T M tg:=
 A5N c _ _ T M (λe T M hx=>by cases e<;>first|exact h2 T M hx|exact hx.elim) h1
def D0J(x:Exit)(I:Env->Mem->Prop)(e:Exit)(T:Env)(M:Mem)(_:Tag I):Prop:=e=x/\I T M
@[simp] def D9M{x e}{I:Env->Mem->Prop}{T}{M}{t}:D0J x I e T M t=(e=x/\I T M):=(rfl)
def A7f{C}{N}{c}{Q}{T}{M}{tg}(x:Exit)(I:Env->Mem->Prop)(h1:wWp C N c (λe T' M'=>D0J x I e T' M' ⟨⟩) T M ⟨⟩)(h2:∀T M,I T M->Q x T M):wWp C N c Q T M tg:=AWp.mono h1 λe T M h=>by obtain⟨rfl,h⟩:=h;exact h2 T M h
end Go.Abs
