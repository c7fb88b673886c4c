/- A part of the proof. -/
import Derived.Test.YtjmjekcaifkboaaGreatDoorQG01
import Derived.ProofKit
import Derived.JoinedOf
set_option linter.all false
namespace Go.Abs
open Go
noncomputable def B5c(T:List (List Nat)):Nat->List Nat:=List.rec (motive:=λ_=>Nat->List Nat) (λ_=>[]) (λa _ ih n=>Nat.rec (motive:=λ_=>List Nat) a (λk _=>ih k) n) T
noncomputable def B5l(T:List (List Nat))(n:Nat):List Nat->Nat->List Nat->List Nat:=Nat.rec (motive:=λ_=>List Nat->Nat->List Nat->List Nat) (λ_ _ A2B=>A2B) (λ_ ih todo m A2B=>List.rec (motive:=λ_=>List Nat) A2B (λf todo _=>Bool.rec (motive:=λ_=>List Nat) (ih todo m A2B) (ih (List.append (B5c T f) todo) (Nat.lor m (Nat.pow 2 f)) (f::A2B)) (Nat.beq (Nat.land (Nat.shiftRight m f) 1) 0)) todo) n
def B4K(a:List Nat)(T:List (List Nat))(n:Nat):B5c (a::T) (n+1)=B5c T n:=rfl
def C2w(T:List (List Nat)):∀n,B5c T n=(T[n]?).getD []:=by
 induction T with
 |nil=>intro n;rfl
 |cons a T ih=>intro n;cases n with
  |zero=>rfl
  |succ n=>rw[B4K,ih];simp
def B7s(m f:Nat):Nat.beq (Nat.land (Nat.shiftRight m f) 1) 0=!m.testBit f:=by
 have h:m.testBit f=(1 &&& (m >>> f) !=0):=rfl;rw[h];have e:Nat.land (Nat.shiftRight m f) 1=1 &&& (m >>> f):=Nat.and_comm _ _;rw[e];cases hx:(1 &&& (m >>> f))with
 |zero=>rfl
 |succ k=>rfl
def A3x(P:Program)(T:List (List Nat))(h:∀f,(P.funcs[f]?).elim [] P.leadsTo=B5c T f):
 ∀(n:Nat) (todo:List Nat) (m:Nat) (A2B:List Nat),(∀f,m.testBit f=A2B.contains f)->P.closureVia n todo A2B=(B5l T n todo m A2B).reverse
 |0,todo,m,A2B,hm=>by cases todo<;>rfl
 |n+1,[],m,A2B,hm=>rfl
 |n+1,f::todo,m,A2B,hm=>by
  have e:B5l T (n+1) (f::todo) m A2B=Bool.rec (motive:=λ_=>List Nat) (B5l T n todo m A2B) (B5l T n (List.append (B5c T f) todo) (Nat.lor m (Nat.pow 2 f)) (f::A2B)) (Nat.beq (Nat.land (Nat.shiftRight m f) 1) 0):=rfl;rw[e,B7s,hm f];unfold Program.closureVia;cases hc:A2B.contains f with
  |true=>simp only[Z1e,Z3j];exact A3x P T h n todo m A2B hm
  |false=>
   simp only[Z1I,Z2f,Z3v,h f];refine A3x P T h n _ _ _ λg=>?_;show(m ||| 2^f).testBit g=_;rw[Nat.testBit_or,hm g,Nat.testBit_two_pow,List.contains_cons];by_cases hg:g=f
   .subst hg;simp
   .have:¬f=g:=λe=>hg e.symm;simp[hg,this]
def B3k{P:Program}{f:Nat}(T:List (List Nat))(n:Nat)(L:List Nat)(hT:P.funcs.toList.map P.leadsTo=T) (hn:Nat.succ (T.map λl=>l.length+1).sum=n)(hL:B5l T n [f] 0 []=L):P.closure f=L.reverse:=by
 subst hT hn hL
 unfold Program.closure
 have e:(P.funcs.toList.map λg=>(P.leadsTo g).length+1)=((P.funcs.toList.map P.leadsTo).map λl=>l.length+1):=by simp[Z4u,Z4m]
 rw[e,Z4z 1]
 refine A3x P _ (λg=>?_) _ _ 0 [] (λg=>by simp)
 rw[C2w,Z1i]
 cases hg:P.funcs[g]? with
 |none=>simp[Z2v,hg]
 |some fn=>simp[Z2v,hg]
end Go.Abs
