/- The texts AbsW, AbsW2. -/
import Derived.Test.YtjmjekcaifkboaaGreatDoorQG13
import Derived.KernelRfl
set_option linter.all false
namespace Go.Abs
section
def Q2{P:Prop}(h:P:=by kernel_rfl):P:=h
universe u
structure Tag {α:Sort u} (a:α):Type where
def A1j{α:Type}(o:Option α)(f:α->Prop)(_:Tag f):Prop:=A0T o f
@[simp] def D8I{α:Type}{v}{f:α->Prop}{t}:A1j (some v) f t=f v:=(rfl)
@[simp] def D9k{α:Type}{f:α->Prop}{t}:A1j none f t=False:=(rfl)
@[simp] def D9T{α:Type}{c:Prop}[Decidable c]{v}{f:α->Prop}{t}:A1j (if c then some v else none) f t=(c/\f v):=C8c v f
@[simp] def D9V{α β:Type}{o:Option α}{g:α->β}{f:β->Prop}{t:Tag f}:A1j (o.map g) f t=A1j o (λx=>f (g x)) ⟨⟩:=A1S o g f
abbrev Post:=Exit->Env->Mem->Prop
def A5I(C:Ctx)(h:A2r)(N:Nat)(c:Code)(Q:Post)(T:Env)(M:Mem)(_:Tag (c,Q)):Prop:=A5p C h N c Q T M
def D2Z(C:Ctx)(h:A2r)(ops:Array Oper)(l:List Oper)(K:Env->Mem->Prop)(T:Env)(M:Mem)(_:Tag (ops,l,K)):Prop:=B3X C h ops l K T M
def wOp(C:Ctx)(h:A2r)(o:Oper)(K:AV->Mem->Prop)(ρ:Operand->AV)(M:Mem)(_:Tag (o,K)):Prop:=C7D C h o K ρ M
def B3o(ops:Array Oper)(o:Oper)(T:Env)(run skip:Prop)(_:Tag (ops,o,run,skip)):Prop:=A2A ops o T run skip
def D7Q(d:Option Tmp)(want:Bool)(T:Env)(run skip:Prop)(_:Tag (run,skip)):Prop:=C6q d want T run skip
def wGv(v:AV)(want:Bool)(run skip:Prop)(_:Tag (run,skip)):Prop:=C8r v want run skip
def D8t(v:AV)(x y:Prop)(_:Tag (x,y)):Prop:=C8B v x y
def B7Y(K:Env->Mem->Prop)(Q:Post)(e:Exit)(T:Env)(M:Mem)(_:Tag (K,Q)):Prop:=C4r K Q e T M
def C2y(id:Nat)(Q:Post)(e:Exit)(T:Env)(M:Mem)(_:Tag Q):Prop:=A9y id Q e T M
def C9e(C:Ctx)(rs:List ResultVar)(Q:AV->Mem->Prop)(e:Exit)(T:Env)(M:Mem)(_:Tag Q):Prop:=B5Y C rs Q e T M
def wWp(C:Ctx)(N:Nat)(c:Code)(Q:Post)(T:Env)(M:Mem)(_:Tag (c,Q)):Prop:=AWp C N c Q T M
def C1W(C:Ctx)(f:FuncId)(args:List AV)(M:Mem)(Q:AV->Mem->Prop)(_:Tag Q):Prop:=A2Z C f args M Q
def C0i(P:Program)(op:BinOp)(t:TypeId)(x y:AV)(f:AV->Prop)(_:Tag f):Prop:=C6c P op t x y f
def D8u(C:Ctx)(f:AV)(args:List AV)(M:Mem)(K:AV->Mem->Prop)(_:Tag K):Prop:=D2G C f args M K
def A3s(C:Ctx)(own vec:Bool)(t u:TypeId)(s x:AV)(M:Mem)(K:AV->Mem->Prop)(_:Tag K):Prop:=B3E C own vec t u s x M K
def wD(C:Ctx)(h:A2r)(c r:Nat)(o:Oper)(ρ:Operand->AV)(M:Mem)(K:AV->Mem->Prop)(_:Tag (o,K)):Prop:=wsD C h c r o ρ M K
def C3W(C:Ctx)(h:A2r)(ops:Array Oper)(cls rob:Nat->Nat)(k:Nat)(l:List Oper)(T:Env)(M:Mem)(K:Env->Mem->Prop)(_:Tag (ops,l,K)):Prop:=B5A C h ops cls rob k l T M K
def C9F(C:Ctx)(f:AV)(args:List AV)(M:Mem)(K:AV->Mem->Prop)(_:Tag K):Prop:=D3v C f args M K
def C8Q(C:Ctx)(f:AV)(args:List AV)(M:Mem)(K:AV->Mem->Prop)(_:Tag K):Prop:=D2s C f args M K
def C6r(C:Ctx)(g:FuncId)(args:List AV)(M:Mem)(K:AV->Mem->Prop)(_:Tag K):Prop:=∃r,(∀M,A2Z C g args M (λv M'=>v=r/\M'=M))/\K r M
def D3H(C:Ctx)(g:FuncId)(args:List AV)(M:Mem)(K:AV->Mem->Prop)(_:Tag K):Prop:=∃r M1,A2Z C g args M (λv M'=>v=r/\M'=M1)/\K r M1
def wAt(o:Option Nat)(rob:Nat)(X:Prop)(_:Tag X):Prop:=o=some rob/\X
@[simp] def E2v{b r}{X:Prop}{t}:wAt (some b) r X t=(b=r/\X):=by simp[wAt]
def A5t:AV->Option Nat
 |.ptr b _=>some b
 |.vptr f _ _=>some f
 |.mapr b=>some b
 |_=>none
@[simp] def E1w{b o}:A5t (.ptr b o)=some b:=(rfl)
@[simp] def D9R{f g o}:A5t (.vptr f g o)=some f:=(rfl)
@[simp] def E0r{b}:A5t (.mapr b)=some b:=(rfl)
section
variable {C:Ctx} {h:A2r} {N:Nat} {Q:Post} {T:Env} {M:Mem} {K:AV->Mem->Prop} {ρ:Operand->AV}
@[simp] def E5W{t}:A5I C h N .skip Q T M t=Q .normal T M:=(rfl)
@[simp] def E4N{l}{t}:A5I C h N (.label l) Q T M t=Q .normal T M:=(rfl)
@[simp] def E1D{id}{l}{t}:A5I C h N (.region id l.toArray false) Q T M t=D2Z C h l.toArray l (λT M=>Q .normal T M) T M ⟨⟩:=(rfl)
@[simp] def E6f{id}{ops}{t}:A5I C h N (.region id ops true) Q T M t=wWp C N (.region id ops true) Q T M ⟨⟩:=(rfl)
@[simp] def A8g{x y}{t}:A5I C h N (.seq x y) Q T M t=A5I C h N x (λe T M=>B7Y (λT M=>A5I C h N y Q T M ⟨⟩) Q e T M ⟨⟩) T M ⟨⟩:=(rfl)
@[simp] def E5L{c}{x y}{t}:A5I C h N (.cond c x y) Q T M t=D8t (T.ev C c) (A5I C h N x Q T M ⟨⟩) (A5I C h N y Q T M ⟨⟩) ⟨⟩:=(rfl)
@[simp] def E4x{id}{c}{t}:A5I C h N (.block id c) Q T M t=A5I C h N c (λe T M=>C2y id Q e T M ⟨⟩) T M ⟨⟩:=(rfl)
@[simp] def E6i{id}{t}:A5I C h N (.exit id) Q T M t=Q (.exit id) T M:=(rfl)
@[simp] def E7q{t}:A5I C h N .ret Q T M t=Q .ret T M:=(rfl)
@[simp] def E5X{c}{t}:A5I C h N (.loop c) Q T M t=wWp C N (.loop c) Q T M ⟨⟩:=(rfl)
@[simp] def A7P{K:Env->Mem->Prop}{t}:B7Y K Q .normal T M t=K T M:=(rfl)
@[simp] def D9D{K:Env->Mem->Prop}{id}{t}:B7Y K Q (.exit id) T M t=Q (.exit id) T M:=(rfl)
@[simp] def D9U{K:Env->Mem->Prop}{t}:B7Y K Q .ret T M t=Q .ret T M:=(rfl)
@[simp] def D5I{id}{t}:C2y id Q .normal T M t=Q .normal T M:=(rfl)
@[simp] def D9I{id}{t}:C2y id Q .ret T M t=Q .ret T M:=(rfl)
@[simp] def D7P{id id'}{t}:C2y id Q (.exit id') T M t=if id'=id then Q .normal T M else Q (.exit id') T M:=(rfl)
@[simp] def E0t{rs}{Q:AV->Mem->Prop}{t}:C9e C rs Q .ret T M t=A1j (A6z C rs T M) (λr=>Q r M) ⟨⟩:=D2d
@[simp] def D6D{rs}{Q:AV->Mem->Prop}{t}:C9e C rs Q .normal T M t=A1j (A6z C rs T M) (λr=>Q r M) ⟨⟩:=C2T
@[simp] def D9w{b}{x y:Prop}{t}:D8t (.val (.bool b)) x y t=if b=true then x else y:=(rfl)
@[simp] def E2w{b want}{run skip:Prop}{t}:wGv (.val (.bool b)) want run skip t=if b=want then run else skip:=(rfl)
@[simp] def E0P{want}{run skip:Prop}{t}:wGv (.val undef) want run skip t=skip:=(rfl)
@[simp] def D9c{d}{want}{run skip:Prop}{t}:D7Q (some d) want T run skip t=wGv (T d) want run skip ⟨⟩:=(rfl)
variable {d:Option Tmp} {t:TypeId} {p:String} {af:Array Edge} {g:Option (Nat×Bool)}
@[simp] def D7R{ops}{op}{run skip:Prop}{tg}:B3o ops ⟨d,op,t,p,af,none⟩ T run skip tg=run:=(rfl)
@[simp] def D8b{ops}{op}{run skip:Prop}{j}{want}{tg}:B3o ops ⟨d,op,t,p,af,some (j,want)⟩ T run skip tg=D7Q ((ops[j]?).bind (·.dst)) want T run skip ⟨⟩:=D1f
@[simp] def E1G{ops}{K:Env->Mem->Prop}{tg}:D2Z C h ops [] K T M tg=K T M:=(rfl)
@[simp] def E0k{ops}{o}{rest}{K:Env->Mem->Prop}{tg}:D2Z C h ops (o::rest) K T M tg=B3o ops o T (wOp C h o (λv M'=>D2Z C h ops rest K (T.put o.dst v) M' ⟨⟩) (T.ev C) M ⟨⟩) (D2Z C h ops rest K (T.put o.dst (.val undef)) M ⟨⟩) ⟨⟩:=rfl
@[simp] def E0X{x}{tg}:wOp C h ⟨d,.move x,t,p,af,g⟩ K ρ M tg=K (ρ x) M:=(rfl)
@[simp] def E4y{x}{r}{tg}:wD C h 0 r ⟨d,.move x,t,p,af,g⟩ ρ M K tg=K (ρ x) M:=(rfl)
@[simp] def D8H{x}{tg}:wOp C h ⟨d,.assign x,t,p,af,g⟩ K ρ M tg=K (ρ x) M:=(rfl)
@[simp] def D9W{x}{r}{tg}:wD C h 0 r ⟨d,.assign x,t,p,af,g⟩ ρ M K tg=K (ρ x) M:=(rfl)
@[simp] def E2e{c a b}{tg}:wOp C h ⟨d,.pick c a b,t,p,af,g⟩ K ρ M tg=A1j (B7e (ρ c) (ρ a) (ρ b)) (λv=>K v M) ⟨⟩:=by show A0T ((B7e (ρ c) (ρ a) (ρ b)).map λv=>(v,M)) (λr=>K r.1 r.2)=_;rw[A1S];rfl
@[simp] def E3S{c a b}{r}{tg}:wD C h 0 r ⟨d,.pick c a b,t,p,af,g⟩ ρ M K tg=A1j (B7e (ρ c) (ρ a) (ρ b)) (λv=>K v M) ⟨⟩:=(rfl)
@[simp] def D7j{x}{tg}:wOp C h ⟨d,.nilCheck x,t,p,af,g⟩ K ρ M tg=A1j (B6C (ρ x)) (λv=>K v M) ⟨⟩:=by show A0T ((B6C (ρ x)).map λv=>(v,M)) (λr=>K r.1 r.2)=_;rw[A1S];rfl
@[simp] def D7Y{x}{r}{tg}:wD C h 0 r ⟨d,.nilCheck x,t,p,af,g⟩ ρ M K tg=A1j (B6C (ρ x)) (λv=>K v M) ⟨⟩:=(rfl)
@[simp] def E4T{xt:TypeId}{x}{tg}:wOp C h ⟨d,.unOp .not xt x,t,p,af,g⟩ K ρ M tg=A1j (C5M (ρ x)) (λv=>K v M) ⟨⟩:=by show A0T ((C5M (ρ x)).map λv=>(v,M)) (λr=>K r.1 r.2)=_;rw[A1S];rfl
@[simp] def E6I{xt:TypeId}{x}{r}{tg}:wD C h 0 r ⟨d,.unOp .not xt x,t,p,af,g⟩ ρ M K tg=A1j (C5M (ρ x)) (λv=>K v M) ⟨⟩:=(rfl)
@[simp] def E5n{xt:TypeId}{x}{r}{tg}:wD C h 0 r ⟨d,.unOp .neg xt x,t,p,af,g⟩ ρ M K tg=A1j (D2M (ρ x)) (λv=>K v M) ⟨⟩:=(rfl)
@[simp] def D5L{xt:TypeId}{x}{f}{tg}:wOp C h ⟨d,.fieldAddr xt x f,t,p,af,g⟩ K ρ M tg=A1j (B0y (A1H C.P xt f) (ρ x)) (λv=>K v M) ⟨⟩:=by show A0T ((B0y (A1H C.P xt f) (ρ x)).map λv=>(v,M)) (λr=>K r.1 r.2)=_;rw[A1S];rfl
@[simp] def D7l{xt:TypeId}{x}{f}{r}{tg}:wD C h 0 r ⟨d,.fieldAddr xt x f,t,p,af,g⟩ ρ M K tg=A1j (B0y (A1H C.P xt f) (ρ x)) (λv=>K v M) ⟨⟩:=(rfl)
@[simp] def E2h{xt:TypeId}{x}{f}{r}{tg}:wD C h 0 r ⟨d,.field xt x f,t,p,af,g⟩ ρ M K tg=A1j (C2u C.P (A0U C.P xt f) (ρ x)) (λv=>K v M) ⟨⟩:=(rfl)
@[simp] def D8p{x}{i}{tg}:wOp C h ⟨d,.extract x i,t,p,af,g⟩ K ρ M tg=A1j (A9M (ρ x) i) (λv=>K v M) ⟨⟩:=by show A0T ((A9M (ρ x) i).map λv=>(v,M)) (λr=>K r.1 r.2)=_;rw[A1S];rfl
@[simp] def D8V{x}{i}{r}{tg}:wD C h 0 r ⟨d,.extract x i,t,p,af,g⟩ ρ M K tg=A1j (A9M (ρ x) i) (λv=>K v M) ⟨⟩:=(rfl)
@[simp] def D5G{xt:TypeId}{x i}{tg}:wOp C h ⟨d,.indexAddr xt x i,t,p,af,g⟩ K ρ M tg=A1j (match A6j ((A1b C.P xt).map (A1n C.P)) (ρ x) (ρ i)with|some v=>some (v,M)|none=>A0W C h ⟨d,.indexAddr xt x i,t,p,af,g⟩ ρ M) (λr=>K r.1 r.2) ⟨⟩:=(rfl)
@[simp] def D6r{xt:TypeId}{x i}{r}{tg}:wD C h 0 r ⟨d,.indexAddr xt x i,t,p,af,g⟩ ρ M K tg=A1j (A6j ((A1b C.P xt).map (A1n C.P)) (ρ x) (ρ i)) (λv=>K v M) ⟨⟩:=(rfl)
@[simp] def E0K{xt:TypeId}{x i}{tg}:wOp C h ⟨d,.index xt x i,t,p,af,g⟩ K ρ M tg=A1j (B4H (C.P.underlying xt) (ρ x) (ρ i)) (λv=>K v M) ⟨⟩:=by show A0T ((B4H (C.P.underlying xt) (ρ x) (ρ i)).map λv=>(v,M)) (λr=>K r.1 r.2)=_;rw[A1S];rfl
@[simp] def E1z{xt:TypeId}{x i:Operand}{r:Nat}{tg:Tag ((⟨d,.index xt x i,t,p,af,g⟩:Oper),K)}:wD C h 0 r ⟨d,.index xt x i,t,p,af,g⟩ ρ M K tg=A1j (B7J C.P (C.P.underlying xt) (ρ x) (ρ i)) (λv=>K v M) ⟨⟩:=(rfl)
@[simp] def D6C{fn}{f c}{tg}:wOp C h ⟨d,.makeFunc fn f c,t,p,af,g⟩ K ρ M tg=K (.func fn (f.toList.map ρ) (c.toList.map ρ)) M:=(rfl)
@[simp] def D8v{fn}{f c}{r}{tg}:wD C h 0 r ⟨d,.makeFunc fn f c,t,p,af,g⟩ ρ M K tg=K (.func fn (f.toList.map ρ) (c.toList.map ρ)) M:=(rfl)
@[simp] def D3Q{P:Program}{t:TypeId}{M:Mem}{sz:Nat}{rows:List (List AV)}{o:Own}{lo hi mx:Option AV}:A3W P t M (.list sz rows o) lo hi mx=none:=(rfl)
@[simp] def D5P{P:Program}{t:TypeId}{M:Mem}{v:Value}{lo hi mx:Option AV}:A3W P t M (.val v) lo hi mx=none:=(rfl)
@[simp] def E0i{st:TypeId}{x:Operand}{lo hi mx:Option Operand}{tg:Tag ((⟨d,.slice st x lo hi mx,t,p,af,g⟩:Oper),K)}:wOp C h ⟨d,.slice st x lo hi mx,t,p,af,g⟩ K ρ M tg=A1j ((A1Q C.P st (ρ x) (lo.map ρ) (hi.map ρ) (mx.map ρ)).or (A3W C.P st M (ρ x) (lo.map ρ) (hi.map ρ) (mx.map ρ))) (λv=>K v M) ⟨⟩:=by
 show A0T (match A1Q C.P st (ρ x) (lo.map ρ) (hi.map ρ) (mx.map ρ)with|some v=>some (v,M)|none=>A0W C h ⟨d,.slice st x lo hi mx,t,p,af,g⟩ ρ M) (λr=>K r.1 r.2)=A0T ((A1Q C.P st (ρ x) (lo.map ρ) (hi.map ρ) (mx.map ρ)).or (A3W C.P st M (ρ x) (lo.map ρ) (hi.map ρ) (mx.map ρ))) (λv=>K v M);cases hs:A1Q C.P st (ρ x) (lo.map ρ) (hi.map ρ) (mx.map ρ)with
 |some v=>rfl
 |none=>have e1:A0J C h ⟨d,.slice st x lo hi mx,t,p,af,g⟩ ρ=none:=hs;simp only[A0W,e1,A1V,A1X,A1c,A7I,Z3w];cases A3W C.P st M (ρ x) (lo.map ρ) (hi.map ρ) (mx.map ρ)<;>rfl
@[simp] def E0l{x:Operand}{xt:TypeId}{tg:Tag ((⟨d,.call {callee:=.builtin .clear,args:=#[x],argTypes:=#[xt]},t,p,af,g⟩:Oper),K)}:wOp C h ⟨d,.call {callee:=.builtin .clear,args:=#[x],argTypes:=#[xt]},t,p,af,g⟩ K ρ M tg=A1j (A7L C.P xt M (ρ x)) (λr=>K r.1 r.2) ⟨⟩:=by
 show A0T (A0W C h ⟨d,.call {callee:=.builtin .clear,args:=#[x],argTypes:=#[xt]},t,p,af,g⟩ ρ M) (λr=>K r.1 r.2)=A0T (A7L C.P xt M (ρ x)) (λr=>K r.1 r.2);simp[A0W,A0J,A8C,A1V,A1X,A5g,A1c,A7I,B1j]
@[simp] def E2k{st:TypeId}{x}{lo hi mx}{r}{tg}:wD C h 0 r ⟨d,.slice st x lo hi mx,t,p,af,g⟩ ρ M K tg=A1j (A1Q C.P st (ρ x) (lo.map ρ) (hi.map ρ) (mx.map ρ)) (λv=>K v M) ⟨⟩:=(rfl)
@[simp] def E0S{bt:TypeId}{ps:List (Nat×Operand)}{tg}:wOp C h ⟨d,.build bt ps.toArray,t,p,af,g⟩ K ρ M tg=A1j (match A0A C.P bt (ps.map λx=>(x.1,ρ x.2))with|some v=>some (v,M)|none=>A0W C h ⟨d,.build bt ps.toArray,t,p,af,g⟩ ρ M) (λr=>K r.1 r.2) ⟨⟩:=(rfl)
@[simp] def E1A{bt:TypeId}{ps:List (Nat×Operand)}{r:Nat}{tg}:wD C h 0 r ⟨d,.build bt ps.toArray,t,p,af,g⟩ ρ M K tg=A1j (A0A C.P bt (ps.map λx=>(x.1,ρ x.2))) (λv=>K v M) ⟨⟩:=(rfl)
@[simp] def D8o{a b:TypeId}{x}{tg}:wOp C h ⟨d,.convert a b x,t,p,af,g⟩ K ρ M tg=A1j (match A5X C.P a b (ρ x)with|some v=>some (v,M)|none=>A0W C h ⟨d,.convert a b x,t,p,af,g⟩ ρ M) (λr=>K r.1 r.2) ⟨⟩:=(rfl)
@[simp] def D9q{a b:TypeId}{x}{r}{tg}:wD C h 0 r ⟨d,.convert a b x,t,p,af,g⟩ ρ M K tg=A1j (A5X C.P a b (ρ x)) (λv=>K v M) ⟨⟩:=(rfl)
@[simp] def E0N{op}{xt yt:TypeId}{x y}{tg}:wOp C h ⟨d,.binOp op xt x y yt,t,p,af,g⟩ K ρ M tg=C0i C.P op xt (ρ x) (ρ y) (λv=>K v M) ⟨⟩:=(rfl)
@[simp] def E2I{op}{xt yt:TypeId}{x y}{r}{tg}:wD C h 0 r ⟨d,.binOp op xt x y yt,t,p,af,g⟩ ρ M K tg=A1j (A1K C.P op xt (ρ x) (ρ y)) (λv=>K v M) ⟨⟩:=(rfl)
@[simp] def E2x{lt:TypeId}{x}{tg}:wOp C h ⟨d,.load lt x,t,p,af,g⟩ K ρ M tg=A1j (A0E C.P lt M (ρ x)) (λv=>K v M) ⟨⟩:=A1S _ _ _
@[simp] def E0z{lt:TypeId}{x y}{tg}:wOp C h ⟨d,.store lt x y,t,p,af,g⟩ K ρ M tg=A1j (A0k (A1n C.P lt) M (ρ x) (ρ y)) (λM'=>K (.val undef) M') ⟨⟩:=A1S _ _ _
@[simp] def E0j{lt:TypeId}{x y}{r}{tg}:wD C h 2 r ⟨d,.store lt x y,t,p,af,g⟩ ρ M K tg=A1j (A0k (A1n C.P lt) M (ρ x) (ρ y)) (λM'=>K (.val undef) M') ⟨⟩:=A1S _ _ _
@[simp] def E0h{e:TypeId}{tg}:wOp C h ⟨d,.alloc e,t,p,af,g⟩ K ρ M tg=A1j (A0j C.P e M) (λx=>K x.1 x.2) ⟨⟩:=(rfl)
@[simp] def E0T{e:TypeId}{r}{tg}:wD C h 2 r ⟨d,.alloc e,t,p,af,g⟩ ρ M K tg=A1j (A0j C.P e M) (λx=>K x.1 x.2) ⟨⟩:=(rfl)
@[simp] def E4w{e:TypeId}{x}{tg}:wOp C h ⟨d,.box e x,t,p,af,g⟩ K ρ M tg=A1j (C0P (A2e h.imm d) e M (ρ x)) (λx=>K x.1 x.2) ⟨⟩:=(rfl)
@[simp] def E4S{e:TypeId}{x}{r}{tg}:wD C h 2 r ⟨d,.box e x,t,p,af,g⟩ ρ M K tg=A1j (C0P (A2e h.imm d) e M (ρ x)) (λx=>K x.1 x.2) ⟨⟩:=(rfl)
@[simp] def D7U{mt:TypeId}{tg}:wOp C h ⟨d,.makeMap mt none,t,p,af,g⟩ K ρ M tg=K (.mapr M.length) (M++[.map [] 0]):=(rfl)
@[simp] def D8l{mt:TypeId}{r}{tg}:wD C h 2 r ⟨d,.makeMap mt none,t,p,af,g⟩ ρ M K tg=K (.mapr M.length) (M++[.map [] 0]):=(rfl)
@[simp] def D9a{mt:TypeId}{m k}{ok}{tg}:wOp C h ⟨d,.lookup mt m k ok,t,p,af,g⟩ K ρ M tg=A1j (A1Y C.P mt M (ρ m) (ρ k) ok) (λv=>K v M) ⟨⟩:=A1S _ _ _
@[simp] def D5D{mt:TypeId}{m k x}{tg}:wOp C h ⟨d,.mapUpdate mt m k x,t,p,af,g⟩ K ρ M tg=A1j (A2b C.P mt M (ρ m) (ρ k) (ρ x)) (λM'=>K (.val undef) M') ⟨⟩:=A1S _ _ _
@[simp] def D5K{mt:TypeId}{m k x}{r}{tg}:wD C h 2 r ⟨d,.mapUpdate mt m k x,t,p,af,g⟩ ρ M K tg=A1j (A2b C.P mt M (ρ m) (ρ k) (ρ x)) (λM'=>K (.val undef) M') ⟨⟩:=A1S _ _ _
@[simp] def D9M{mt:TypeId}{m k x:Operand}{tg:Tag ((⟨d,.insert mt m k x,t,p,af,g⟩:Oper),K)}:wOp C h ⟨d,.insert mt m k x,t,p,af,g⟩ K ρ M tg=A1j (A2b C.P mt M (ρ m) (ρ k) (ρ x)) (λM'=>K (.val undef) M') ⟨⟩:=A1S _ _ _
@[simp] def D5N{st:TypeId}{l c}{tg}:wOp C h ⟨d,.makeSlice st l c,t,p,af,g⟩ K ρ M tg=A1j (A5l C.P st (ρ l) (ρ c) M) (λr=>K r.1 r.2) ⟨⟩:=(rfl)
@[simp] def D5F{st:TypeId}{l c}{r}{tg}:wD C h 2 r ⟨d,.makeSlice st l c,t,p,af,g⟩ ρ M K tg=A1j (A5l C.P st (ρ l) (ρ c) M) (λr=>K r.1 r.2) ⟨⟩:=(rfl)
@[simp] def E0G{st:TypeId}{x}{tg}:wOp C h ⟨d,.range st x,t,p,af,g⟩ K ρ M tg=A1j (B0c C.P st (ρ x) M) (λr=>K r.1 r.2) ⟨⟩:=(rfl)
@[simp] def E0n{st:TypeId}{x}{r}{tg}:wD C h 2 r ⟨d,.range st x,t,p,af,g⟩ ρ M K tg=A1j (B0c C.P st (ρ x) M) (λr=>K r.1 r.2) ⟨⟩:=(rfl)
@[simp] def E2m{x}{tg}:wOp C h ⟨d,.next x true,t,p,af,g⟩ K ρ M tg=A1j (A9b (ρ x) M) (λr=>K r.1 r.2) ⟨⟩:=(rfl)
@[simp] def E2E{x}{r}{tg}:wD C h 2 r ⟨d,.next x true,t,p,af,g⟩ ρ M K tg=A1j (A9b (ρ x) M) (λr=>K r.1 r.2) ⟨⟩:=(rfl)
@[simp] def E4F{x}{xt:TypeId}{tg}:wOp C h ⟨d,.call {callee:=.builtin .len,args:=#[x],argTypes:=#[xt]},t,p,af,g⟩ K ρ M tg=A1j ((A3k C.P xt (ρ x)).or (A4N C.P xt M (ρ x))) (λn=>K (.val (.int .i64 n)) M) ⟨⟩:=A1S _ _ _
@[simp] def E3B{x}{xt:TypeId}{r}{tg}:wD C h 2 r ⟨d,.call {callee:=.builtin .len,args:=#[x],argTypes:=#[xt]},t,p,af,g⟩ ρ M K tg=A1j ((A3k C.P xt (ρ x)).or (A4N C.P xt M (ρ x))) (λn=>K (.val (.int .i64 n)) M) ⟨⟩:=A1S _ _ _
@[simp] def E1r{x y}{xt yt:TypeId}{tg}:wOp C h ⟨d,.call {callee:=.builtin .copy,args:=#[x,y],argTypes:=#[xt,yt]},t,p,af,g⟩ K ρ M tg=A1j (A9k C.P xt yt M (ρ x) (ρ y)) (λr=>K r.1 r.2) ⟨⟩:=(rfl)
@[simp] def E2i{x y}{xt yt:TypeId}{r}{tg}:wD C h 2 r ⟨d,.call {callee:=.builtin .copy,args:=#[x,y],argTypes:=#[xt,yt]},t,p,af,g⟩ ρ M K tg=A1j (A9k C.P xt yt M (ρ x) (ρ y)) (λr=>K r.1 r.2) ⟨⟩:=(rfl)
@[simp] def E4p{C}{h}{t:TypeId}{d}:B6E C h t d=(A2e h.vec d&&!C.data t):=(rfl)
@[simp] def D3E{bt:TypeId}{n:Nat}{ps:List (Nat×Operand)}{tg}:wOp C h ⟨d,.buildSlice bt n ps.toArray,t,p,af,g⟩ K ρ M tg=if B6E C h bt d=true then A1j (A1C C.P bt n (ps.map λx=>(x.1,ρ x.2)) M) (λr=>K r.1 r.2) ⟨⟩else A1j (A0x C.P bt n (ps.map λx=>(x.1,ρ x.2))) (λv=>K v M) ⟨⟩:=by
 show A0T (if B6E C h bt d=true then A1C C.P bt n (ps.map λp=>(p.1,ρ p.2)) M else(A0x C.P bt n (ps.map λp=>(p.1,ρ p.2))).map λv=>(v,M)) (λr=>K r.1 r.2)=_;split
 .rfl
 .exact A1S _ _ _
@[simp] def D4Q{bt:TypeId}{n:Nat}{ps:List (Nat×Operand)}{r:Nat}{tg}:wD C h 2 r ⟨d,.buildSlice bt n ps.toArray,t,p,af,g⟩ ρ M K tg=if B6E C h bt d=true then A1j (A1C C.P bt n (ps.map λx=>(x.1,ρ x.2)) M) (λr=>K r.1 r.2) ⟨⟩else A1j (A0x C.P bt n (ps.map λx=>(x.1,ρ x.2))) (λv=>K v M) ⟨⟩:=by
 show A0T (if B6E C h bt d=true then A1C C.P bt n (ps.map λp=>(p.1,ρ p.2)) M else(A0x C.P bt n (ps.map λp=>(p.1,ρ p.2))).map λv=>(v,M)) (λr=>K r.1 r.2)=_;split
 .rfl
 .exact A1S _ _ _
@[simp] def D5B{bt:TypeId}{n:Nat}{ps:List (Nat×Operand)}{r:Nat}{tg}:wD C h 0 r ⟨d,.buildSlice bt n ps.toArray,t,p,af,g⟩ ρ M K tg=A1j (if B6E C h bt d=true then none else A0x C.P bt n (ps.map λx=>(x.1,ρ x.2))) (λv=>K v M) ⟨⟩:=(rfl)
@[simp] def E3f{x y}{ts}{tg}:wOp C h ⟨d,.call {callee:=.builtin .max,args:=#[x,y],argTypes:=ts},t,p,af,g⟩ K ρ M tg=A1j (A7J true (ρ x) (ρ y)) (λv=>K v M) ⟨⟩:=by show A0T ((A7J true (ρ x) (ρ y)).map λv=>(v,M)) (λr=>K r.1 r.2)=_;rw[A1S];rfl
@[simp] def E5M{x y}{ts}{r}{tg}:wD C h 0 r ⟨d,.call {callee:=.builtin .max,args:=#[x,y],argTypes:=ts},t,p,af,g⟩ ρ M K tg=A1j (A7J true (ρ x) (ρ y)) (λv=>K v M) ⟨⟩:=(rfl)
@[simp] def E4J{x y:Operand}{ts:Array TypeId}{tg:Tag ((⟨d,.call {callee:=.builtin .min,args:=#[x,y],argTypes:=ts},t,p,af,g⟩:Oper),K)}:wOp C h ⟨d,.call {callee:=.builtin .min,args:=#[x,y],argTypes:=ts},t,p,af,g⟩ K ρ M tg=A1j (A7J false (ρ x) (ρ y)) (λv=>K v M) ⟨⟩:=by show A0T ((A7J false (ρ x) (ρ y)).map λv=>(v,M)) (λr=>K r.1 r.2)=_;rw[A1S];rfl
@[simp] def E6E{x y}{ts}{r}{tg}:wD C h 0 r ⟨d,.call {callee:=.builtin .min,args:=#[x,y],argTypes:=ts},t,p,af,g⟩ ρ M K tg=A1j (A7J false (ρ x) (ρ y)) (λv=>K v M) ⟨⟩:=(rfl)
@[simp] def E5R{x}{xt:TypeId}{r}{tg}:wD C h 0 r ⟨d,.call {callee:=.builtin .len,args:=#[x],argTypes:=#[xt]},t,p,af,g⟩ ρ M K tg=A1j (A3k C.P xt (ρ x)) (λ(n:Nat)=>K (.val (.int .i64 n)) M) ⟨⟩:=A1S _ _ _
@[simp] def E0U{lt:TypeId}{x}{r}{tg}:wD C h 0 r ⟨d,.load lt x,t,p,af,g⟩ ρ M K tg=A1j (D2Y C.P lt (ρ x)) (λv=>K v M) ⟨⟩:=(rfl)
@[simp] def E3D{e:TypeId}{x}{r}{tg}:wD C h 0 r ⟨d,.box e x,t,p,af,g⟩ ρ M K tg=A1j (E1H (A2e h.imm d) (ρ x)) (λv=>K v M) ⟨⟩:=(rfl)
@[simp] def E2N{lt:TypeId}{x}{r}{tg}:wD C h 1 r ⟨d,.load lt x,t,p,af,g⟩ ρ M K tg=wAt (A5t (ρ x)) r (A1j (A0E C.P lt M (ρ x)) (λv=>K v M) ⟨⟩) ⟨⟩:=by
 show(A1e _ ρ=some r/\A0T (A0E C.P lt M (ρ x)) (λv=>K v M))=(A5t (ρ x)=some r/\A0T (A0E C.P lt M (ρ x)) (λv=>K v M));have e:A1e ⟨d,.load lt x,t,p,af,g⟩ ρ=some r/\A0T (A0E C.P lt M (ρ x)) (λv=>K v M)<->A5t (ρ x)=some r/\A0T (A0E C.P lt M (ρ x)) (λv=>K v M):=by simp only[A1e,A5t];cases ρ x<;>simp[A0E,A2g]
 exact propext e
@[simp] def D9r{mt:TypeId}{m k}{ok}{r}{tg}:wD C h 1 r ⟨d,.lookup mt m k ok,t,p,af,g⟩ ρ M K tg=(A1e ⟨d,.lookup mt m k ok,t,p,af,g⟩ ρ=some r/\A1j (A1Y C.P mt M (ρ m) (ρ k) ok) (λv=>K v M) ⟨⟩):=(rfl)
@[simp] def E2B{f:Operand}{args:List Operand}{ts:Array TypeId}{tg}:wOp C h ⟨d,.call {callee:=.value f,args:=args.toArray,argTypes:=ts},t,p,af,g⟩ K ρ M tg=D8u C (ρ f) (args.map ρ) M K ⟨⟩:=(rfl)
@[simp] def D8Y{f}{first captured args}{tg}:D8u C (.func (.func f) first captured) args M K tg=C1W C f (first++args++captured) M K ⟨⟩:=(rfl)
@[simp] def E1R{f:Operand}{args:List Operand}{ts:Array TypeId}{r:Nat}{tg}:wD C h 0 r ⟨d,.call {callee:=.value f,args:=args.toArray,argTypes:=ts},t,p,af,g⟩ ρ M K tg=C9F C (ρ f) (args.map ρ) M K ⟨⟩:=(rfl)
@[simp] def E2D{f:Operand}{args:List Operand}{ts:Array TypeId}{r:Nat}{tg}:wD C h 2 r ⟨d,.call {callee:=.value f,args:=args.toArray,argTypes:=ts},t,p,af,g⟩ ρ M K tg=C8Q C (ρ f) (args.map ρ) M K ⟨⟩:=(rfl)
@[simp] def D6d{f}{first captured args}{tg}:C9F C (.func (.func f) first captured) args M K tg=C6r C f (first++args++captured) M K ⟨⟩:=(rfl)
@[simp] def D7i{f}{first captured args}{tg}:C8Q C (.func (.func f) first captured) args M K tg=D3H C f (first++args++captured) M K ⟨⟩:=(rfl)
@[simp] def D9h{s x}{st xt:TypeId}{tg}:wOp C h ⟨d,.call {callee:=.builtin .append,args:=#[s,x],argTypes:=#[st,xt]},t,p,af,g⟩ K ρ M tg=A3s C (A2e h.own d) (A2e h.vec d) st xt (ρ s) (ρ x) M K ⟨⟩:=(rfl)
@[simp] def E0e{s x}{st xt:TypeId}{r}{tg}:wD C h 2 r ⟨d,.call {callee:=.builtin .append,args:=#[s,x],argTypes:=#[st,xt]},t,p,af,g⟩ ρ M K tg=A3s C (A2e h.own d) (A2e h.vec d) st xt (ρ s) (ρ x) M K ⟨⟩:=(rfl)
@[simp] def E2l{P}{op}{k}{a b}{f:AV->Prop}{tg}:C0i P op t (.val (.int k a)) (.val (.int k b)) f tg=A1j ((A9Y op k a b).map .val) f ⟨⟩:=D2T
@[simp] def E2H{P}{op}{a b}{f:AV->Prop}{tg}:C0i P op t (.val (.string a)) (.val (.string b)) f tg=A1j ((B9N op a b).map .val) f ⟨⟩:=D2C
@[simp] def E0C{P}{op}{a b}{f:AV->Prop}{tg}:C0i P op t (.val (.bool a)) (.val (.bool b)) f tg=A1j (A1K P op t (.val (.bool a)) (.val (.bool b))) f ⟨⟩:=D0b
@[simp] def E1Z{P}{op}{b o}{y}{f:AV->Prop}{tg}:C0i P op t (.ptr b o) (.val y) f tg=A1j (A1K P op t (.ptr b o) (.val y)) f ⟨⟩:=D4u
@[simp] def E5d{P}{op}{b o b2 o2}{f:AV->Prop}{tg}:C0i P op t (.ptr b o) (.ptr b2 o2) f tg=A1j ((B3I P op t b o b2 o2).map λb=>.val (.bool b)) f ⟨⟩:=(rfl)
@[simp] def E1F{P:Program}{op:BinOp}{y:AV}{f:AV->Prop}{tg:Tag f}:C0i P op t (.val (.slice none 0 0)) y f tg=A1j (A1K P op t (.val (.slice none 0 0)) y) f ⟨⟩:=D2A
@[simp] def E0p{P}{op}{sz}{r}{rows}{own}{y}{f:AV->Prop}{tg}:C0i P op t (.list sz (r::rows) own) y f tg=A1j (A1K P op t (.list sz (r::rows) own) y) f ⟨⟩:=D2a
@[simp] def E2q{P}{op}{cs}{y}{f:AV->Prop}{tg}:C0i P op t (.agg cs) y f tg=A1j (A1K P op t (.agg cs) y) f ⟨⟩:=A6c rfl
def A5B{P}{op}{e:TypeId}{sz}{own}{f:AV->Prop}{tg}(a:op=.eql\/op=.neq)(ht:P.underlying t=some (.slice e)):C0i P op t (.list sz [] own) (.val (.slice none 0 0)) f tg=∀b,f (.val (.bool b)):=C0a a ht
variable {cls rob:Nat->Nat}
@[simp] def D9S{ops}{k}{K:Env->Mem->Prop}{tg}:C3W C h ops cls rob k [] T M K tg=K T M:=(rfl)
@[simp] def D9y{ops}{k}{o}{rest}{K:Env->Mem->Prop}{tg}:C3W C h ops cls rob k (o::rest) T M K tg=B3o ops o T (wD C h (cls k) (rob k) o (T.ev C) M (λv M'=>C3W C h ops cls rob (k+1) rest (T.put o.dst v) M' K ⟨⟩) ⟨⟩) (C3W C h ops cls rob (k+1) rest (T.put o.dst (.val undef)) M K ⟨⟩) ⟨⟩:=rfl
@[simp] def D5O{x}{xt:TypeId}{d}{t:TypeId}{p}{af}{g}{tg}:wOp C h ⟨d,.call {callee:=.builtin .unsafeSliceData,args:=#[x],argTypes:=#[xt]},t,p,af,g⟩ K ρ M tg=A1j ((A7z M (ρ x)).map λv=>(v,M)) (λr=>K r.1 r.2) ⟨⟩:=(rfl)
@[simp] def D5M{x y}{xt yt:TypeId}{d}{t:TypeId}{p}{af}{g}{tg}:wOp C h ⟨d,.call {callee:=.builtin .unsafeString,args:=#[x,y],argTypes:=#[xt,yt]},t,p,af,g⟩ K ρ M tg=A1j (A7u C.P xt M (ρ x) (ρ y)) (λr=>K r.1 r.2) ⟨⟩:=(rfl)
@[simp] def D5S{x}{xt:TypeId}{r}{d}{t:TypeId}{p}{af}{g}{tg}:wD C h 2 r ⟨d,.call {callee:=.builtin .unsafeSliceData,args:=#[x],argTypes:=#[xt]},t,p,af,g⟩ ρ M K tg=A1j ((A7z M (ρ x)).map λv=>(v,M)) (λr=>K r.1 r.2) ⟨⟩:=(rfl)
@[simp] def D5T{x y}{xt yt:TypeId}{r}{d}{t:TypeId}{p}{af}{g}{tg}:wD C h 2 r ⟨d,.call {callee:=.builtin .unsafeString,args:=#[x,y],argTypes:=#[xt,yt]},t,p,af,g⟩ ρ M K tg=A1j (A7u C.P xt M (ρ x) (ρ y)) (λr=>K r.1 r.2) ⟨⟩:=(rfl)
def A0s{f}{args}{Q':AV->Mem->Prop}{tg}(hc:A2Z C f args M Q')(hk:∀r M',Q' r M'->K r M'):C1W C f args M K tg:=hc.mono hk
def A1k{f}{args}{r}{tg}(hc:∀M,A2Z C f args M (λv M'=>v=r/\M'=M))(hk:K r M):C6r C f args M K tg:=⟨r,hc,hk⟩
def A5R{f}{args}{r}{M1}{tg}(hc:A2Z C f args M (λv M'=>v=r/\M'=M1))(hk:K r M1):D3H C f args M K tg:=⟨r,M1,hc,hk⟩
def A5n{own vec}{st xt e:TypeId}{sz bytes k m}{s x}{cs news}{tg}(h1:A1b C.P st=some e)(h2:A4j C.P xt)(h3:A4g C.P e sz bytes)(h4:A0D M sz s=some (cs,k))(h5:A0D M sz x=some (news,m))(h6:(k+m)*bytes<=140737488355328)
 (hi:A5q e sz s x M=none)(hk:A1j (A6u e sz s x M) (λr=>K r.1 r.2) ⟨⟩)(hv:B6O vec s=true:=by rfl):A3s C own vec st xt s x M K tg:=by
 refine⟨e,sz,bytes,⟨h1,h2,h3⟩,?_⟩
 have e1:A6L own vec e sz bytes s x M=A6u e sz s x M:=by simp[A6L,hv,h4,h5,h6,hi]
 rw[e1];exact hk
def E1M{own vec:Bool}{st xt e:TypeId}{sz bytes k m:Nat}{s x:AV}{cs news:List AV}{r:AV×Mem}{tg:Tag K}(h1:A1b C.P st=some e)(h2:A4j C.P xt)(h3:A4g C.P e sz bytes)(h4:A0D M sz s=some (cs,k))(h5:A0D M sz x=some (news,m))(h6:(k+m)*bytes<=140737488355328)
 (hi:A5q e sz s x M=some r)(hk:K r.1 r.2)(hv:B6O vec s=true:=by rfl):A3s C own vec st xt s x M K tg:=by
 refine⟨e,sz,bytes,⟨h1,h2,h3⟩,?_⟩
 have e1:A6L own vec e sz bytes s x M=some r:=by simp[A6L,hv,h4,h5,h6,hi]
 rw[e1];exact hk
def A0X{id}{l}{tg}(h:A2r)(a:C.P.follows .mixedOrders=true)(cls rob:Nat->Nat)(c:A2F N l.toArray l=true)(b:A4K l.toArray (A6B cls λ_=>0)=true) (hr:C3W C h l.toArray cls rob 0 l T M (λT M=>Q .normal T M) ⟨⟩):wWp C N (.region id l.toArray true) Q T M tg:=C6H a cls rob c b hr
def A1f{f}{fn}{c}{args}{Q:AV->Mem->Prop}{rs}(h:A2r)(hf:C.P.funcs[f]?=some fn)(hb:fn.body=some c)(hN:fn.ntmps=N)(a:fn.results=rs.toArray) (hn:decide (args.length<=N)=true)(b:A6f N rs=true)(d:A2V N c=true)(hw:A5I C h N c (λe T M=>C9e C rs Q e T M ⟨⟩) (Env.of args) M ⟨⟩):A0c C f args M Q:=B9j hf hb hN a hn b (A4v (h:=h) c _ _ _ d hw)
def A0M{c}{tg}(h:A2r)(I:Env->Mem->Prop)(μ:Env->Mem->Nat)(b:A2V N c=true)(h0:I T M) (a:∀T M,I T M->A5I C h N c (λe T' M'=>B7Y (λT' M'=>I T' M'/\μ T' M'<μ T M) Q e T' M' ⟨⟩) T M ⟨⟩):wWp C N (.loop c) Q T M tg:=D4z I μ h0 λT M hI=>A4v (h:=h) c _ T M b (a T M hI)
end
section
variable {C:Ctx} {N:Nat} {Q:Post} {T:Env} {M:Mem} {K:AV->Mem->Prop}
def A3R{f}{fn}{c}{args}{Q':AV->Mem->Prop}{tg}(hf:C.P.funcs[f]?=some fn)(hc:A0c C f args M Q')(hk:∀r M',Q' r M'->K r M')(hb:fn.body=some c:=by exact rfl) (hn:(fn.name== "runtime.NumGoroutine")=false:=by exact rfl):C1W C f args M K tg:=A0s (.inl ⟨enters_of hf hb hn,hc⟩) hk
def A0g{f}{fn}{c}{args}{v}{tg}(hf:C.P.funcs[f]?=some fn)(hc:A0c C f args M (λr M'=>r=v/\M'=M))(hk:K v M)(hb:fn.body=some c:=by exact rfl) (hn:(fn.name== "runtime.NumGoroutine")=false:=by exact rfl):C1W C f args M K tg:=A0s (.inl ⟨enters_of hf hb hn,hc⟩) λ_ _ ⟨h1,h2⟩=>h1▸h2▸hk
def A2y{f}{fn}{c}{args}{v}{tg}(hf:C.P.funcs[f]?=some fn)(hc:∀M,A0c C f args M (λr M'=>r=v/\M'=M))(hk:K v M)(hb:fn.body=some c:=by exact rfl) (hn:(fn.name== "runtime.NumGoroutine")=false:=by exact rfl):C6r C f args M K tg:=A1k (λM=>.inl ⟨enters_of hf hb hn,hc M⟩) hk
def A0r{f}{fn}{c}{args}{Q:AV->Mem->Prop}{rs}(h:A2r)(hf:C.P.funcs[f]?=some fn)(hw:A5I C h N c (λe T M=>C9e C rs Q e T M ⟨⟩) (Env.of args) M ⟨⟩)(hb:fn.body=some c:=by exact rfl)(hN:fn.ntmps=N:=by exact rfl) (a:fn.results=rs.toArray:=by exact rfl)(hn:decide (args.length<=N)=true:=by exact rfl)(b:A6f N rs=true:=by exact rfl)(d:A2V N c=true:=by exact rfl):A0c C f args M Q:=A1f h hf hb hN a hn b d hw
def C9B:AV->Nat
 |.val (.int _ i)=>i.toNat
 |_=>0
@[simp] def D9Z{k}{i}:C9B (.val (.int k i))=i.toNat:=(rfl)
def A1y{c}{tg}(h:A2r)(n k:Nat)(I:Env->Mem->Prop)(h0:I T M)(a:∀T M,I T M->A5I C h N c (λe T' M'=>B7Y (λT' M'=>I T' M'/\n-C9B (T' k)<n-C9B (T k)) Q e T' M' ⟨⟩) T M ⟨⟩) (b:A2V N c=true:=by kernel_rfl):wWp C N (.loop c) Q T M tg:=A0M h I (λT _=>n-C9B (T k)) b h0 a
end
@[simp] def E0L{P}{t:TypeId}{s}(h:P.underlying t=some .string):A3k P t (.val (.string s))=some s.size:=by simp[A3k,h]
@[simp] def D9n{P}{t e:TypeId}{sz}{rows}{own}(h:P.underlying t=some (.slice e)):A3k P t (.list sz rows own)=some rows.length:=by simp[A3k,h]
@[simp] def D9p{P}{t e:TypeId}{a b c f l}(h:P.underlying t=some (.slice e)):A3k P t (.vref a b c f l)=some l:=by simp[A3k,h]
@[simp] def E0x{P}{t e:TypeId}(h:P.underlying t=some (.slice e)):A3k P t (.val (.slice none 0 0))=some 0:=by simp[A3k,h]
end
def B2V{α:Type}{o}{f g:α->Prop}(h:∀x,f x->g x)(k:A0T o f):A0T o g:=by
 cases o with
 |none=>exact k
 |some v=>exact h v k
def D0P{C}{h}{o}{K K':AV->Mem->Prop}{ρ:Operand->AV}{M}(hk:∀v m,K v m->K' v m)(hw:C7D C h o K ρ M):C7D C h o K' ρ M:=by
 unfold C7D at hw|-;split at hw
 .rename_i bop bt x y yt heq;unfold C6c at hw|-;split at hw
  .exact B2V (λv=>hk v M) hw
  .rename_i hne;unfold B4g at hw|-;cases hb:A1K C.P bop bt (ρ x) (ρ y)with
   |some v=>rw[hb]at hw;exact hk _ _ hw
   |none=>rw[hb]at hw;exact⟨hw.1,λb=>hk _ _ (hw.2 b)⟩
 .unfold D2G at hw|-;split at hw
  .exact A2Z.mono hw hk
  .exact hw
 .split at hw
  .obtain⟨e,sz,bytes,h1,h2⟩:=hw;exact⟨e,sz,bytes,h1,B2V (λr=>hk r.1 r.2) h2⟩
  .exact hw
 .exact B2V (λr=>hk r.1 r.2) hw
def B2T{C}{h}{ops}{K K':Env->Mem->Prop}(hk:∀T M,K T M->K' T M):∀(l:List Oper) (T:Env) (M:Mem),B3X C h ops l K T M->B3X C h ops l K' T M
 |[],T,M,hw=>hk _ _ hw
 |o::rest,T,M,hw=>by simp only[B3X]at hw|-;exact A6A (D0P λv m h2=>B2T hk rest _ _ h2) (B2T hk rest _ _) hw
def A6i{C}{h}{N}:∀(c:Code) (Q Q':Exit->Env->Mem->Prop) (T:Env) (M:Mem),(∀e T M,Q e T M->Q' e T M)->A5p C h N c Q T M->A5p C h N c Q' T M
 |.skip,Q,Q',T,M,hq,hv=>hq _ _ _ hv
 |.label _,Q,Q',T,M,hq,hv=>hq _ _ _ hv
 |.region id ops draw,Q,Q',T,M,hq,hv=>by
  simp only[A5p]at hv|-;cases draw with
  |true=>exact AWp.mono ZBQ hq
  |false=>simpa using B2T (λT M=>hq _ T M) _ _ _ ZBQ
 |.seq x y,Q,Q',T,M,hq,hv=>by
  simp only[A5p]at hv|-;refine A6i x _ _ T M (λe T M hx=>?_) hv;cases e with
  |normal=>exact A6i y _ _ T M hq hx
  |_=>exact hq _ _ _ hx
 |.cond c x y,Q,Q',T,M,hq,hv=>by
  simp only[A5p]at hv|-;unfold C8B at hv|-;split at hv
  .split at hv
   .rename_i e;rw[Z0c e];exact A6i x _ _ T M hq hv
   .rename_i e;rw[Z0d e];exact A6i y _ _ T M hq hv
  .exact hv
 |.block id c,Q,Q',T,M,hq,hv=>by
  simp only[A5p]at hv|-;refine A6i c _ _ T M (λe T M hx=>?_) hv;cases e with
  |exit i=>
   simp only[A9y]at hx|-;split at hx
   .rename_i e;rw[Z0c e];exact hq _ _ _ hx
   .rename_i e;rw[Z0d e];exact hq _ _ _ hx
  |_=>exact hq _ _ _ hx
 |.exit id,Q,Q',T,M,hq,hv=>hq _ _ _ hv
 |.ret,Q,Q',T,M,hq,hv=>hq _ _ _ hv
 |.loop c,Q,Q',T,M,hq,hv=>AWp.mono (show AWp C N (.loop c) Q T M from hv) hq
 |.rangeFunc ..,Q,Q',T,M,hq,hv=>AWp.mono (show AWp C N _ Q T M from hv) hq
 |.scope ..,Q,Q',T,M,hq,hv=>AWp.mono (show AWp C N _ Q T M from hv) hq
 |.goto ..,Q,Q',T,M,hq,hv=>AWp.mono (show AWp C N _ Q T M from hv) hq
 |.refuse ..,Q,Q',T,M,hq,hv=>AWp.mono (show AWp C N _ Q T M from hv) hq
def B2O{C}{h}{N}{c}{Q}{T}{M}{tg}(I:Env->Mem->Prop)(h1:A5I C h N c (λe T' M'=>B7Y (λT M=>I T M) (λ_ _ _=>False) e T' M' ⟨⟩) T M ⟨⟩)
 (h2:∀T M,I T M->Q .normal T M):A5I C h N c Q T M tg:=
 A6i c _ _ T M (λe T M hx=>by cases e<;>first|exact h2 T M hx|exact hx.elim) h1
def D2B(x:Exit)(I:Env->Mem->Prop)(e:Exit)(T:Env)(M:Mem)(_:Tag I):Prop:=e=x/\I T M
@[simp] def E1o{x e}{I:Env->Mem->Prop}{T}{M}{t}:D2B x I e T M t=(e=x/\I T M):=(rfl)
def A6V{C}{N}{c}{Q}{T}{M}{tg}(x:Exit)(I:Env->Mem->Prop)(h1:wWp C N c (λe T' M'=>D2B x I e T' M' ⟨⟩) T M ⟨⟩)(h2:∀T M,I T M->Q x T M):wWp C N c Q T M tg:=AWp.mono h1 λe T M h=>by obtain⟨rfl,h⟩:=h;exact h2 T M h
end Go.Abs
