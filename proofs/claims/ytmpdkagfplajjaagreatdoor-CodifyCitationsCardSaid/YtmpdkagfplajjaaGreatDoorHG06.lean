/- A part of the proof. -/
import Derived.Test.YtmpdkagfplajjaaGreatDoorHG01
import Derived.ProofKit
import Derived.JoinedOf
set_option linter.all false
namespace Go.Abs
open Go
noncomputable def D2h(T:List (List Nat)):Nat->List Nat:=List.rec (motive:=λ_=>Nat->List Nat) (λ_=>[]) (λa _ ih n=>Nat.rec (motive:=λ_=>List Nat) a (λk _=>ih k) n) T
noncomputable def D2M(T:List (List Nat))(n:Nat):List Nat->Nat->List Nat->List Nat:=Nat.rec (motive:=λ_=>List Nat->Nat->List Nat->List Nat) (λ_ _ A1i=>A1i) (λ_ ih todo m A1i=>List.rec (motive:=λ_=>List Nat) A1i (λf todo _=>Bool.rec (motive:=λ_=>List Nat) (ih todo m A1i) (ih (List.append (D2h T f) todo) (Nat.lor m (Nat.pow 2 f)) (f::A1i)) (Nat.beq (Nat.land (Nat.shiftRight m f) 1) 0)) todo) n
def D1x(a:List Nat)(T:List (List Nat))(n:Nat):D2h (a::T) (n+1)=D2h T n:=rfl
def D7K(T:List (List Nat)):∀n,D2h T n=(T[n]?).getD []:=by
 induction T with
 |nil=>intro n;rfl
 |cons a T ih=>intro n;cases n with
  |zero=>rfl
  |succ n=>rw[D1x,ih];simp
def D3S(m f:Nat):Nat.beq (Nat.land (Nat.shiftRight m f) 1) 0=!m.testBit f:=by
 have h:m.testBit f=(1 &&& (m >>> f) !=0):=rfl;rw[h];have e:Nat.land (Nat.shiftRight m f) 1=1 &&& (m >>> f):=Nat.and_comm _ _;rw[e];cases hx:(1 &&& (m >>> f))with
 |zero=>rfl
 |succ k=>rfl
def A7J(P:Program)(T:List (List Nat))(h:∀f,(P.funcs[f]?).elim [] P.leadsTo=D2h T f):
 ∀(n:Nat) (todo:List Nat) (m:Nat) (A1i:List Nat),(∀f,m.testBit f=A1i.contains f)->P.closureVia n todo A1i=(D2M T n todo m A1i).reverse
 |0,todo,m,A1i,hm=>by cases todo<;>rfl
 |n+1,[],m,A1i,hm=>rfl
 |n+1,f::todo,m,A1i,hm=>by
  have e:D2M T (n+1) (f::todo) m A1i=Bool.rec (motive:=λ_=>List Nat) (D2M T n todo m A1i) (D2M T n (List.append (D2h T f) todo) (Nat.lor m (Nat.pow 2 f)) (f::A1i)) (Nat.beq (Nat.land (Nat.shiftRight m f) 1) 0):=rfl;rw[e,D3S,hm f];unfold Program.closureVia;cases hc:A1i.contains f with
  |true=>simp only[Z0T,Z2t];exact A7J P T h n todo m A1i hm
  |false=>
   simp only[Z0H,Z1i,Z2i,h f];refine A7J P T h n _ _ _ λg=>?_;show(m ||| 2^f).testBit g=_;rw[Nat.testBit_or,hm g,Nat.testBit_two_pow,List.contains_cons];by_cases hg:g=f
   .subst hg;simp
   .have:¬f=g:=λe=>hg e.symm;simp[hg,this]
def C9J{P:Program}{f:Nat}(T:List (List Nat))(n:Nat)(L:List Nat)(hT:P.funcs.toList.map P.leadsTo=T) (hn:Nat.succ (T.map λl=>l.length+1).sum=n)(hL:D2M T n [f] 0 []=L):P.closure f=L.reverse:=by
 subst hT hn hL
 unfold Program.closure
 have e:(P.funcs.toList.map λg=>(P.leadsTo g).length+1)=((P.funcs.toList.map P.leadsTo).map λl=>l.length+1):=by simp[Z1K,Function.comp_def]
 rw[e,Z4e 1]
 refine A7J P _ (λg=>?_) _ _ 0 [] (λg=>by simp)
 rw[D7K,Z1g]
 cases hg:P.funcs[g]? with
 |none=>simp[Z4x,hg]
 |some fn=>simp[Z4x,hg]
end Go.Abs
