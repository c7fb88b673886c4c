/- A part of the proof. -/
import Derived.Test.YtmpdkagfplajjaaGreatDoorFG01
import Derived.ProofKit
import Derived.JoinedOf
set_option linter.all false
namespace Go.Abs
open Go
noncomputable def D2g(T:List (List Nat)):Nat->List Nat:=List.rec (motive:=λ_=>Nat->List Nat) (λ_=>[]) (λa _ ih n=>Nat.rec (motive:=λ_=>List Nat) a (λk _=>ih k) n) T
noncomputable def D2K(T:List (List Nat))(n:Nat):List Nat->Nat->List Nat->List Nat:=Nat.rec (motive:=λ_=>List Nat->Nat->List Nat->List Nat) (λ_ _ A1f=>A1f) (λ_ ih todo m A1f=>List.rec (motive:=λ_=>List Nat) A1f (λf todo _=>Bool.rec (motive:=λ_=>List Nat) (ih todo m A1f) (ih (List.append (D2g T f) todo) (Nat.lor m (Nat.pow 2 f)) (f::A1f)) (Nat.beq (Nat.land (Nat.shiftRight m f) 1) 0)) todo) n
def D1r(a:List Nat)(T:List (List Nat))(n:Nat):D2g (a::T) (n+1)=D2g T n:=rfl
def D7n(T:List (List Nat)):∀n,D2g T n=(T[n]?).getD []:=by
 induction T with
 |nil=>intro n;rfl
 |cons a T ih=>intro n;cases n with
  |zero=>rfl
  |succ n=>rw[D1r,ih];simp
def D3Q(m f:Nat):Nat.beq (Nat.land (Nat.shiftRight m f) 1) 0=!m.testBit f:=by
 have h:m.testBit f=(1 &&& (m >>> f) !=0):=rfl;rw[h];have e:Nat.land (Nat.shiftRight m f) 1=1 &&& (m >>> f):=Nat.and_comm _ _;rw[e];cases hx:(1 &&& (m >>> f))with
 |zero=>rfl
 |succ k=>rfl
def A7H(P:Program)(T:List (List Nat))(h:∀f,(P.funcs[f]?).elim [] P.leadsTo=D2g T f):
 ∀(n:Nat) (todo:List Nat) (m:Nat) (A1f:List Nat),(∀f,m.testBit f=A1f.contains f)->P.closureVia n todo A1f=(D2K T n todo m A1f).reverse
 |0,todo,m,A1f,hm=>by cases todo<;>rfl
 |n+1,[],m,A1f,hm=>rfl
 |n+1,f::todo,m,A1f,hm=>by
  have e:D2K T (n+1) (f::todo) m A1f=Bool.rec (motive:=λ_=>List Nat) (D2K T n todo m A1f) (D2K T n (List.append (D2g T f) todo) (Nat.lor m (Nat.pow 2 f)) (f::A1f)) (Nat.beq (Nat.land (Nat.shiftRight m f) 1) 0):=rfl;rw[e,D3Q,hm f];unfold Program.closureVia;cases hc:A1f.contains f with
  |true=>simp only[Z0H,Z1M];exact A7H P T h n todo m A1f hm
  |false=>
   simp only[Z0K,Z1l,Z1C,h f];refine A7H P T h n _ _ _ λg=>?_;show(m ||| 2^f).testBit g=_;rw[Z4n,hm g,Nat.testBit_two_pow,List.contains_cons];by_cases hg:g=f
   .subst hg;simp
   .have:¬f=g:=λe=>hg e.symm;simp[hg,this]
def C9t{P:Program}{f:Nat}(T:List (List Nat))(n:Nat)(L:List Nat)(hT:P.funcs.toList.map P.leadsTo=T) (hn:Nat.succ (T.map λl=>l.length+1).sum=n)(hL:D2K T n [f] 0 []=L):P.closure f=L.reverse:=by
 subst hT hn hL
 unfold Program.closure
 have e:(P.funcs.toList.map λg=>(P.leadsTo g).length+1)=((P.funcs.toList.map P.leadsTo).map λl=>l.length+1):=by simp[Function.comp_def]
 rw[e,Z4a 1]
 refine A7H P _ (λg=>?_) _ _ 0 [] (λg=>by simp)
 rw[D7n,Z1j]
 cases hg:P.funcs[g]? with
 |none=>simp[hg]
 |some fn=>simp[hg]
end Go.Abs
