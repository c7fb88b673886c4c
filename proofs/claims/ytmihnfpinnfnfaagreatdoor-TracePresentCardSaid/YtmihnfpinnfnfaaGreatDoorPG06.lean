/- A part of the proof. -/
import Derived.Test.YtmihnfpinnfnfaaGreatDoorPG01
import Derived.ProofKit
import Derived.JoinedOf
set_option linter.all false
namespace Go.Abs
open Go
noncomputable def C8M(T:List (List Nat)):Nat->List Nat:=List.rec (motive:=λ_=>Nat->List Nat) (λ_=>[]) (λa _ ih n=>Nat.rec (motive:=λ_=>List Nat) a (λk _=>ih k) n) T
noncomputable def C9u(T:List (List Nat))(n:Nat):List Nat->Nat->List Nat->List Nat:=Nat.rec (motive:=λ_=>List Nat->Nat->List Nat->List Nat) (λ_ _ A3l=>A3l) (λ_ ih todo m A3l=>List.rec (motive:=λ_=>List Nat) A3l (λf todo _=>Bool.rec (motive:=λ_=>List Nat) (ih todo m A3l) (ih (List.append (C8M T f) todo) (Nat.lor m (Nat.pow 2 f)) (f::A3l)) (Nat.beq (Nat.land (Nat.shiftRight m f) 1) 0)) todo) n
def C8e(a:List Nat)(T:List (List Nat))(n:Nat):C8M (a::T) (n+1)=C8M T n:=rfl
def D4H(T:List (List Nat)):∀n,C8M T n=(T[n]?).getD []:=by
 induction T with
 |nil=>intro n;rfl
 |cons a T ih=>intro n;cases n with
  |zero=>rfl
  |succ n=>rw[C8e,ih];simp
def D0L(m f:Nat):Nat.beq (Nat.land (Nat.shiftRight m f) 1) 0=!m.testBit f:=by
 have h:m.testBit f=(1 &&& (m >>> f) !=0):=rfl;rw[h];have e:Nat.land (Nat.shiftRight m f) 1=1 &&& (m >>> f):=Nat.and_comm _ _;rw[e];cases hx:(1 &&& (m >>> f))with
 |zero=>rfl
 |succ k=>rfl
def A7j(P:Program)(T:List (List Nat))(h:∀f,(P.funcs[f]?).elim [] P.leadsTo=C8M T f):
 ∀(n:Nat) (todo:List Nat) (m:Nat) (A3l:List Nat),(∀f,m.testBit f=A3l.contains f)->P.closureVia n todo A3l=(C9u T n todo m A3l).reverse
 |0,todo,m,A3l,hm=>by cases todo<;>rfl
 |n+1,[],m,A3l,hm=>rfl
 |n+1,f::todo,m,A3l,hm=>by
  have e:C9u T (n+1) (f::todo) m A3l=Bool.rec (motive:=λ_=>List Nat) (C9u T n todo m A3l) (C9u T n (List.append (C8M T f) todo) (Nat.lor m (Nat.pow 2 f)) (f::A3l)) (Nat.beq (Nat.land (Nat.shiftRight m f) 1) 0):=rfl;rw[e,D0L,hm f];unfold Program.closureVia;cases hc:A3l.contains f with
  |true=>simp only[Z1f,Z3x];exact A7j P T h n todo m A3l hm
  |false=>
   simp only[Z1L,Z2b,Z3M,h f];refine A7j P T h n _ _ _ λg=>?_;show(m ||| 2^f).testBit g=_;rw[Nat.testBit_or,hm g,Nat.testBit_two_pow,List.contains_cons];by_cases hg:g=f
   .subst hg;simp
   .have:¬f=g:=λe=>hg e.symm;simp[hg,this]
def C6o{P:Program}{f:Nat}(T:List (List Nat))(n:Nat)(L:List Nat)(hT:P.funcs.toList.map P.leadsTo=T) (hn:Nat.succ (T.map λl=>l.length+1).sum=n)(hL:C9u T n [f] 0 []=L):P.closure f=L.reverse:=by
 subst hT hn hL
 unfold Program.closure
 have e:(P.funcs.toList.map λg=>(P.leadsTo g).length+1)=((P.funcs.toList.map P.leadsTo).map λl=>l.length+1):=by simp[List.map_map,Function.comp_def]
 rw[e,Z4E 1]
 refine A7j P _ (λg=>?_) _ _ 0 [] (λg=>by simp)
 rw[D4H,Z1i]
 cases hg:P.funcs[g]? with
 |none=>simp[Z2Y,hg]
 |some fn=>simp[Z2Y,hg]
end Go.Abs
