/- A part of the proof. -/
import Derived.Test.YtmpdkagfplajjaaGreatDoorGG01
import Derived.ProofKit
import Derived.JoinedOf
set_option linter.all false
namespace Go.Abs
open Go
noncomputable def D2n(T:List (List Nat)):Nat->List Nat:=List.rec (motive:=λ_=>Nat->List Nat) (λ_=>[]) (λa _ ih n=>Nat.rec (motive:=λ_=>List Nat) a (λk _=>ih k) n) T
noncomputable def D2P(T:List (List Nat))(n:Nat):List Nat->Nat->List Nat->List Nat:=Nat.rec (motive:=λ_=>List Nat->Nat->List Nat->List Nat) (λ_ _ A1k=>A1k) (λ_ ih todo m A1k=>List.rec (motive:=λ_=>List Nat) A1k (λf todo _=>Bool.rec (motive:=λ_=>List Nat) (ih todo m A1k) (ih (List.append (D2n T f) todo) (Nat.lor m (Nat.pow 2 f)) (f::A1k)) (Nat.beq (Nat.land (Nat.shiftRight m f) 1) 0)) todo) n
def D1A(a:List Nat)(T:List (List Nat))(n:Nat):D2n (a::T) (n+1)=D2n T n:=rfl
def D7L(T:List (List Nat)):∀n,D2n T n=(T[n]?).getD []:=by
 induction T with
 |nil=>intro n;rfl
 |cons a T ih=>intro n;cases n with
  |zero=>rfl
  |succ n=>rw[D1A,ih];simp
def D3W(m f:Nat):Nat.beq (Nat.land (Nat.shiftRight m f) 1) 0=!m.testBit f:=by
 have h:m.testBit f=(1 &&& (m >>> f) !=0):=rfl;rw[h];have e:Nat.land (Nat.shiftRight m f) 1=1 &&& (m >>> f):=Nat.and_comm _ _;rw[e];cases hx:(1 &&& (m >>> f))with
 |zero=>rfl
 |succ k=>rfl
def A7R(P:Program)(T:List (List Nat))(h:∀f,(P.funcs[f]?).elim [] P.leadsTo=D2n T f):
 ∀(n:Nat) (todo:List Nat) (m:Nat) (A1k:List Nat),(∀f,m.testBit f=A1k.contains f)->P.closureVia n todo A1k=(D2P T n todo m A1k).reverse
 |0,todo,m,A1k,hm=>by cases todo<;>rfl
 |n+1,[],m,A1k,hm=>rfl
 |n+1,f::todo,m,A1k,hm=>by
  have e:D2P T (n+1) (f::todo) m A1k=Bool.rec (motive:=λ_=>List Nat) (D2P T n todo m A1k) (D2P T n (List.append (D2n T f) todo) (Nat.lor m (Nat.pow 2 f)) (f::A1k)) (Nat.beq (Nat.land (Nat.shiftRight m f) 1) 0):=rfl;rw[e,D3W,hm f];unfold Program.closureVia;cases hc:A1k.contains f with
  |true=>simp only[Z0M,Z1U];exact A7R P T h n todo m A1k hm
  |false=>
   simp only[Z0J,Z1o,Z1S,h f];refine A7R P T h n _ _ _ λg=>?_;show(m ||| 2^f).testBit g=_;rw[Nat.testBit_or,hm g,Nat.testBit_two_pow,List.contains_cons];by_cases hg:g=f
   .subst hg;simp
   .have:¬f=g:=λe=>hg e.symm;simp[hg,this]
def C9D{P:Program}{f:Nat}(T:List (List Nat))(n:Nat)(L:List Nat)(hT:P.funcs.toList.map P.leadsTo=T) (hn:Nat.succ (T.map λl=>l.length+1).sum=n)(hL:D2P T n [f] 0 []=L):P.closure f=L.reverse:=by
 subst hT hn hL
 unfold Program.closure
 have e:(P.funcs.toList.map λg=>(P.leadsTo g).length+1)=((P.funcs.toList.map P.leadsTo).map λl=>l.length+1):=by simp[Z1s,Function.comp_def]
 rw[e,Z3J 1]
 refine A7R P _ (λg=>?_) _ _ 0 [] (λg=>by simp)
 rw[D7L,Z1l]
 cases hg:P.funcs[g]? with
 |none=>simp[Z4C,hg]
 |some fn=>simp[Z4C,hg]
end Go.Abs
