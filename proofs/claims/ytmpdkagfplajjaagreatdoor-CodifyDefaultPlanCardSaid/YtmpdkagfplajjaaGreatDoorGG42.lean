/- A part of the proof. -/
import Derived.Test.YtmpdkagfplajjaaGreatDoorGG41
import Derived.Test.YtmpdkagfplajjaaGreatDoorGG27
import Derived.WalkKit
import Derived.ProofKit
import Derived.OpenShut
import Derived.ShutString
import Derived.ChangeOld
import Derived.Below
import Derived.Carry
import Derived.SliceStrings
import Derived.LaidMore
set_option linter.all false
set_option maxRecDepth 100000
namespace Go.Abs
open Go Go.Proofs Go.Proofs.YtmpdkagfplajjaaGreatDoor Go.RowKit Go.ChangeShapes Go.WideShapes Go.ChangeAt
def E1:B0v:=⟨λ_=>C9U,λ_=>27,1⟩
def D8Q{r:List AV}(h:Shaped E1 (.ref 0) r):∃u:A0a,r=u.row/\u.good:=by obtain⟨n,hn⟩:=B6E h;exact D1e rfl n r hn
def E1j{r:List AV}(h:Shaped E1 B9a r):∃k:Int,r=[I k]:=by obtain⟨n,hn⟩:=B6E h;obtain⟨k,rfl,_⟩:=C0v hn;exact⟨k,rfl⟩
def gl0:K1.glT 0=A2h:=by kernel_rfl
def gl1:K1.glT 1=A2s:=by kernel_rfl
def E7w{f:FuncId}{args:List AV}{vs:List Value}{W:World}(hL:laidMetH Tryz.prog A8R W)(h:(∀g,bdd 0 (K1.glT g))->A0c K1.C0 f args [] (λv _=>v=B true))(hr:A0u (A2X W) args vs):
 Calls Tryz.prog f vs.toArray W (λe W'=>e=.returned (.bool true)/\Below W.heap.size W W'):=by
 refine Z2x (h (λg=>B3C _ _ ((C7c hL).gl g)) (A2X W) W vs (C7c hL) hr) ?_
 rintro e w' ⟨r,M',G',v,rfl,rfl,a,hi,hv,hx⟩
 simp only[Rep]at hv
 subst hv
 refine⟨rfl,hx.os,hx.tape,hx.output,hx.size,?_⟩
 intro k hk
 have:W.heap[k]?=some W.heap[k]:=by simp[hk]
 rw[this]
 exact hi.keep k _ (a.keep k _ this)
def gl3:K1.glT 3=.cptr [fnV 444,fnV 445]:=by kernel_rfl
def E7H(u:A0a)(a:Int)(hg:u.good)(b:∀g,bdd 0 (K1.glT g)):A0c K1.C0 8 [.agg u.row,I a] [] (λv _=>v=B true):=D8x K1.glT gl0 gl1 gl3 u a hg (A0V Tryz.func10 rfl rfl (C9d K1.glT gl0 gl1 gl3 b))
def D9G:∀i,i<E1.n->Sh.fits Tryz.prog E1 (E1.sh i) (E1.ty i)=true/\∀j,E1.sh i≠.ref j:=λi _=>⟨(show Sh.fits Tryz.prog E1 C9U 27=true by kernel_rfl),λj h=>by cases h⟩
def D7T{H:Type}{enc:TypeId×Value->H}{W:World}{sp:Nat->Bool}{hd:Bool}{t:TypeId}{cs:Array Value}{d:DataW H}{p:List MemPlace}{sh:Sh}(hf:Sh.fits Tryz.prog E1 sh t=true) (h:DataW.Trod enc Tryz.prog W 0 sp hd t (.agg cs) d p):∃a,Shaped E1 sh a/\Rep (A2X W) (.agg a) (.agg cs):=by
 obtain⟨fuel,b⟩:=h
 obtain⟨⟨a,_,hr,hs⟩,h1⟩:=A9x (E:=E1) D9G fuel sh t cs.toList d p hf b
 refine⟨a,hs,?_⟩
 simp only[Rep]
 exact⟨cs,rfl,hr,h1⟩
def D8P{H:Type}{enc:TypeId×Value->H}{W:World}{sp:Nat->Bool}{hd:Bool}{t:TypeId}{v:Value}{d:DataW H}{p:List MemPlace}{sh:Sh}(hf:Sh.fits Tryz.prog E1 sh t=true)(hc:v.cells.toList=[v]) (h:DataW.Trod enc Tryz.prog W 0 sp hd t v d p):∃a,Shaped E1 sh a/\A0u (A2X W) a [v]:=by
 obtain⟨fuel,b⟩:=h
 obtain⟨⟨a,_,hr,hs⟩,_⟩:=A9x (E:=E1) D9G fuel sh t v.cells.toList d p hf b
 rw[hc]at hr
 exact⟨a,hs,hr⟩
def own:ownKnob Tryz.prog.godebug=none:=by kernel_rfl
def D0Z:laidOutB Tryz.prog=true:=by kernel_rfl
end Go.Abs
