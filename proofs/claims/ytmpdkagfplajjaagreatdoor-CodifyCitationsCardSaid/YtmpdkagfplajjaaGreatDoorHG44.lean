/- A part of the proof. -/
import Derived.Test.YtmpdkagfplajjaaGreatDoorHG41
import Derived.Test.YtmpdkagfplajjaaGreatDoorHG43
import Derived.Test.YtmpdkagfplajjaaGreatDoorHG29
import Derived.WalkKit
import Derived.ProofKit
import Derived.OpenShut
import Derived.ShutString
import Derived.ChangeOld
import Derived.Below
import Derived.Carry
import Derived.SliceStrings
import Derived.LaidMore
set_option linter.all false
set_option maxRecDepth 100000
namespace Go.Abs
open Go Go.Proofs Go.Proofs.YtmpdkagfplajjaaGreatDoor Go.RowKit Go.ChangeShapes Go.WideShapes Go.ChangeAt
def C9l:Sh:=.parts [D2Y,B4F,.str]
def E1:A8E:=⟨λ_=>C9W,λ_=>27,1⟩
def D8b{E:A8E}{n:Nat}{r:List AV}(h:A1q E n C9l r):∃s:A0J,r=s.row/\s.good:=by obtain⟨a,b,rfl,h1,h2⟩:=A4o h;obtain⟨a3,b3,rfl,h3,h4⟩:=A4o h2;obtain⟨a5,b5,rfl,h5,h6⟩:=A4o h4;obtain rfl:=B9W h6;obtain⟨x,rfl,hx⟩:=C5q h1;obtain⟨k,rfl,hk⟩:=B3Z h3;obtain⟨l,rfl,hl⟩:=C8o h5;exact⟨⟨x,k,l⟩,rfl,hx,hk,hl⟩
def D0h:Sh:=.parts [D2Y,B4F,.slice 3 D2Y]
def D7i{E:A8E}{n:Nat}{r:List AV}(h:A1q E n D0h r):∃m:A1v,r=m.row:=by obtain⟨a,b,rfl,h1,h2⟩:=A4o h;obtain⟨a3,b3,rfl,h3,h4⟩:=A4o h2;obtain⟨a5,b5,rfl,h5,h6⟩:=A4o h4;obtain rfl:=B9W h6;obtain⟨x,rfl,hx⟩:=C5q h1;obtain⟨k,rfl,hk⟩:=B3Z h3;obtain⟨l,rfl,hl⟩:=A9P (f:=IdD.row) (Q:=IdD.good) (λr=>C5q) h5;exact⟨⟨x,k,l⟩,rfl⟩
def D8S{r:List AV}(h:Shaped E1 (.ref 0) r):∃u:A0a,r=u.row/\u.good:=by obtain⟨n,hn⟩:=A8S h;exact D0W rfl n r hn
def D3C{r:List AV}(h:Shaped E1 (.slice 5 C9l) r):∃l:List A0J,r=[.list 5 (A1L l) .no]/\l.length<=maxLen/\∀s∈l,s.good:=by obtain⟨n,hn⟩:=A8S h;exact A9P (λr=>D8b) hn
def D6H{r:List AV}(h:Shaped E1 (.slice 5 D0h) r):∃l:List A1v,r=[.list 5 (A2e l) .no]/\l.length<=maxLen:=by obtain⟨n,hn⟩:=A8S h;obtain⟨l,h1,h2,_⟩:=A9P (f:=A1v.row) (Q:=λ_=>True) (λr h=>by obtain⟨m,h⟩:=D7i h;exact⟨m,h,trivial⟩) hn;exact⟨l,h1,h2⟩
def E1i{r:List AV}(h:Shaped E1 B4F r):∃k:Int,r=[I k]:=by obtain⟨n,hn⟩:=A8S h;obtain⟨k,rfl,_⟩:=B3Z hn;exact⟨k,rfl⟩
def gl0:K1.glT 0=A2z:=by kernel_rfl
def gl1:K1.glT 1=A2K:=by kernel_rfl
def E7M{f:FuncId}{args:List AV}{vs:List Value}{W:World}(hL:laidMetH Tryz.prog A8K W)(h:(∀g,bdd 0 (K1.glT g))->A0e K1.C0 f args [] (λv _=>v=B true))(hr:A0t (A3g W) args vs):
 Calls Tryz.prog f vs.toArray W (λe W'=>e=.returned (.bool true)/\Below W.heap.size W W'):=by
 refine Z2B (h (λg=>B3A _ _ ((C6O hL).gl g)) (A3g W) W vs (C6O hL) hr) ?_
 rintro e w' ⟨r,M',G',v,rfl,rfl,a,hi,hv,hx⟩
 simp only[Rep]at hv
 subst hv
 refine⟨rfl,hx.os,hx.tape,hx.output,hx.size,?_⟩
 intro k hk
 have:W.heap[k]?=some W.heap[k]:=by simp[hk]
 rw[this]
 exact hi.keep k _ (a.keep k _ this)
def gl3:K1.glT 3=.cptr [fnV 444,fnV 445]:=by kernel_rfl
def E7X(u:A0a)(l:List A0J)(ms:List A1v)(a:Int)(hg:u.good)(hl:l.length<=maxLen)(b:∀s∈l,s.good)(hs:ms.length<=maxLen)(c:∀g,bdd 0 (K1.glT g)):A0e K1.C0 9 [.agg u.row,.list 5 (A1L l) .no,.list 5 (A2e ms) .no,I a] [] (λv _=>v=B true):=D8E K1.glT gl0 gl1 gl3 u l ms a hg hl b hs (A1a Tryz.func10 rfl rfl (C9e K1.glT gl0 gl1 gl3 c))
def D9E:∀i,i<E1.n->Sh.fits Tryz.prog E1 (E1.sh i) (E1.ty i)=true/\∀j,E1.sh i≠.ref j:=λi _=>⟨(show Sh.fits Tryz.prog E1 C9W 27=true by kernel_rfl),λj h=>by cases h⟩
def D7T{H:Type}{enc:TypeId×Value->H}{W:World}{sp:Nat->Bool}{hd:Bool}{t:TypeId}{cs:Array Value}{d:DataW H}{p:List MemPlace}{sh:Sh}(hf:Sh.fits Tryz.prog E1 sh t=true) (h:DataW.Trod enc Tryz.prog W 0 sp hd t (.agg cs) d p):∃a,Shaped E1 sh a/\Rep (A3g W) (.agg a) (.agg cs):=by
 obtain⟨fuel,b⟩:=h
 obtain⟨⟨a,_,hr,hs⟩,h1⟩:=A9s (E:=E1) D9E fuel sh t cs.toList d p hf b
 refine⟨a,hs,?_⟩
 simp only[Rep]
 exact⟨cs,rfl,hr,h1⟩
def C4x{H:Type}{enc:TypeId×Value->H}{W:World}{sp:Nat->Bool}{hd:Bool}{t:TypeId}{v:Value}{d:DataW H}{p:List MemPlace}{sh:Sh}(hf:Sh.fits Tryz.prog E1 sh t=true)(hc:v.cells.toList=[v]) (h:DataW.Trod enc Tryz.prog W 0 sp hd t v d p):∃a,Shaped E1 sh a/\A0t (A3g W) a [v]:=by
 obtain⟨fuel,b⟩:=h
 obtain⟨⟨a,_,hr,hs⟩,_⟩:=A9s (E:=E1) D9E fuel sh t v.cells.toList d p hf b
 rw[hc]at hr
 exact⟨a,hs,hr⟩
def own:ownKnob Tryz.prog.godebug=none:=by kernel_rfl
def B7N:laidOutB Tryz.prog=true:=by kernel_rfl
end Go.Abs
