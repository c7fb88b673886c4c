/- A part of the proof. -/
import Derived.Test.YtmpdkagfplajjaaGreatDoorEG01
import Derived.ProofKit
import Derived.JoinedOf
set_option linter.all false
namespace Go.Abs
open Go
noncomputable def D0Y(T:List (List Nat)):Nat->List Nat:=List.rec (motive:=λ_=>Nat->List Nat) (λ_=>[]) (λa _ ih n=>Nat.rec (motive:=λ_=>List Nat) a (λk _=>ih k) n) T
noncomputable def D1B(T:List (List Nat))(n:Nat):List Nat->Nat->List Nat->List Nat:=Nat.rec (motive:=λ_=>List Nat->Nat->List Nat->List Nat) (λ_ _ A1a=>A1a) (λ_ ih todo m A1a=>List.rec (motive:=λ_=>List Nat) A1a (λf todo _=>Bool.rec (motive:=λ_=>List Nat) (ih todo m A1a) (ih (List.append (D0Y T f) todo) (Nat.lor m (Nat.pow 2 f)) (f::A1a)) (Nat.beq (Nat.land (Nat.shiftRight m f) 1) 0)) todo) n
def D0j(a:List Nat)(T:List (List Nat))(n:Nat):D0Y (a::T) (n+1)=D0Y T n:=rfl
def D6b(T:List (List Nat)):∀n,D0Y T n=(T[n]?).getD []:=by
 induction T with
 |nil=>intro n;rfl
 |cons a T ih=>intro n;cases n with
  |zero=>rfl
  |succ n=>rw[D0j,ih];simp
def D2z(m f:Nat):Nat.beq (Nat.land (Nat.shiftRight m f) 1) 0=!m.testBit f:=by
 have h:m.testBit f=(1 &&& (m >>> f) !=0):=rfl;rw[h];have e:Nat.land (Nat.shiftRight m f) 1=1 &&& (m >>> f):=Nat.and_comm _ _;rw[e];cases hx:(1 &&& (m >>> f))with
 |zero=>rfl
 |succ k=>rfl
def A7p(P:Program)(T:List (List Nat))(h:∀f,(P.funcs[f]?).elim [] P.leadsTo=D0Y T f):
 ∀(n:Nat) (todo:List Nat) (m:Nat) (A1a:List Nat),(∀f,m.testBit f=A1a.contains f)->P.closureVia n todo A1a=(D1B T n todo m A1a).reverse
 |0,todo,m,A1a,hm=>by cases todo<;>rfl
 |n+1,[],m,A1a,hm=>rfl
 |n+1,f::todo,m,A1a,hm=>by
  have e:D1B T (n+1) (f::todo) m A1a=Bool.rec (motive:=λ_=>List Nat) (D1B T n todo m A1a) (D1B T n (List.append (D0Y T f) todo) (Nat.lor m (Nat.pow 2 f)) (f::A1a)) (Nat.beq (Nat.land (Nat.shiftRight m f) 1) 0):=rfl;rw[e,D2z,hm f];unfold Program.closureVia;cases hc:A1a.contains f with
  |true=>simp only[Z0F,Z2u];exact A7p P T h n todo m A1a hm
  |false=>
   simp only[Z0I,Z1j,Z2f,h f];refine A7p P T h n _ _ _ λg=>?_;show(m ||| 2^f).testBit g=_;rw[Z4i,hm g,Nat.testBit_two_pow,List.contains_cons];by_cases hg:g=f
   .subst hg;simp
   .have:¬f=g:=λe=>hg e.symm;simp[hg,this]
def C8r{P:Program}{f:Nat}(T:List (List Nat))(n:Nat)(L:List Nat)(hT:P.funcs.toList.map P.leadsTo=T) (hn:Nat.succ (T.map λl=>l.length+1).sum=n)(hL:D1B T n [f] 0 []=L):P.closure f=L.reverse:=by
 subst hT hn hL
 unfold Program.closure
 have e:(P.funcs.toList.map λg=>(P.leadsTo g).length+1)=((P.funcs.toList.map P.leadsTo).map λl=>l.length+1):=by simp[Z1G,Function.comp_def]
 rw[e,Z3U 1]
 refine A7p P _ (λg=>?_) _ _ 0 [] (λg=>by simp)
 rw[D6b,Z1f]
 cases hg:P.funcs[g]? with
 |none=>simp[Z4l,hg]
 |some fn=>simp[Z4l,hg]
end Go.Abs
