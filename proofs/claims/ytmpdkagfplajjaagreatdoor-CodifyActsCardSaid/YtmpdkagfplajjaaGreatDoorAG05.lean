/- A part of the proof. -/
import Derived.Test.YtmpdkagfplajjaaGreatDoorAG01
import Derived.ProofKit
import Derived.JoinedOf
set_option linter.all false
namespace Go.Abs
open Go
noncomputable def C8X(T:List (List Nat)):Nat->List Nat:=List.rec (motive:=λ_=>Nat->List Nat) (λ_=>[]) (λa _ ih n=>Nat.rec (motive:=λ_=>List Nat) a (λk _=>ih k) n) T
noncomputable def C8C(T:List (List Nat))(n:Nat):List Nat->Nat->List Nat->List Nat:=Nat.rec (motive:=λ_=>List Nat->Nat->List Nat->List Nat) (λ_ _ A1c=>A1c) (λ_ ih todo m A1c=>List.rec (motive:=λ_=>List Nat) A1c (λf todo _=>Bool.rec (motive:=λ_=>List Nat) (ih todo m A1c) (ih (List.append (C8X T f) todo) (Nat.lor m (Nat.pow 2 f)) (f::A1c)) (Nat.beq (Nat.land (Nat.shiftRight m f) 1) 0)) todo) n
def C9R(a:List Nat)(T:List (List Nat))(n:Nat):C8X (a::T) (n+1)=C8X T n:=rfl
def D3Z(T:List (List Nat)):∀n,C8X T n=(T[n]?).getD []:=by
 induction T with
 |nil=>intro n;rfl
 |cons a T ih=>intro n;cases n with
  |zero=>rfl
  |succ n=>rw[C9R,ih];simp
def D1A(m f:Nat):Nat.beq (Nat.land (Nat.shiftRight m f) 1) 0=!m.testBit f:=by
 have h:m.testBit f=(1 &&& (m >>> f) !=0):=rfl;rw[h];have e:Nat.land (Nat.shiftRight m f) 1=1 &&& (m >>> f):=Nat.and_comm _ _;rw[e];cases hx:(1 &&& (m >>> f))with
 |zero=>rfl
 |succ k=>rfl
def A7I(P:Program)(T:List (List Nat))(h:∀f,(P.funcs[f]?).elim [] P.leadsTo=C8X T f):
 ∀(n:Nat) (a:List Nat) (m:Nat) (A1c:List Nat),(∀f,m.testBit f=A1c.contains f)->P.closureVia n a A1c=(C8C T n a m A1c).reverse
 |0,a,m,A1c,hm=>by cases a<;>rfl
 |n+1,[],m,A1c,hm=>rfl
 |n+1,f::a,m,A1c,hm=>by
  have e:C8C T (n+1) (f::a) m A1c=Bool.rec (motive:=λ_=>List Nat) (C8C T n a m A1c) (C8C T n (List.append (C8X T f) a) (Nat.lor m (Nat.pow 2 f)) (f::A1c)) (Nat.beq (Nat.land (Nat.shiftRight m f) 1) 0):=rfl;rw[e,D1A,hm f];unfold Program.closureVia;cases hc:A1c.contains f with
  |true=>simp only[Z0G,Z1s];exact A7I P T h n a m A1c hm
  |false=>
   simp only[Z0E,Z0Y,Z1j,h f];refine A7I P T h n _ _ _ λg=>?_;show(m ||| 2^f).testBit g=_;rw[Z4r,hm g,Nat.testBit_two_pow,List.contains_cons];by_cases hg:g=f
   .subst hg;simp
   .have:¬f=g:=λe=>hg e.symm;simp[hg,this]
def C7q{P:Program}{f:Nat}(T:List (List Nat))(n:Nat)(L:List Nat)(hT:P.funcs.toList.map P.leadsTo=T) (hn:Nat.succ (T.map λl=>l.length+1).sum=n)(hL:C8C T n [f] 0 []=L):P.closure f=L.reverse:=by
 subst hT hn hL
 unfold Program.closure
 have e:(P.funcs.toList.map λg=>(P.leadsTo g).length+1)=((P.funcs.toList.map P.leadsTo).map λl=>l.length+1):=by simp[Z1L,Function.comp_def]
 rw[e,Z3E 1]
 refine A7I P _ (λg=>?_) _ _ 0 [] (λg=>by simp)
 rw[D3Z,Z1u]
 cases hg:P.funcs[g]? with
 |none=>simp[Z4v,hg]
 |some fn=>simp[Z4v,hg]
end Go.Abs
