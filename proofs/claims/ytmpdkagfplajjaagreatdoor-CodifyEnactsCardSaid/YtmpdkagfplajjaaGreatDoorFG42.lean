/- A part of the proof. -/
import Derived.Test.YtmpdkagfplajjaaGreatDoorFG38
import Derived.Test.YtmpdkagfplajjaaGreatDoorFG27
import Derived.Test.YtmpdkagfplajjaaGreatDoorFG41
import Derived.WalkKit
import Derived.ProofKit
import Derived.OpenShut
import Derived.ShutString
import Derived.ChangeOld
import Derived.Below
import Derived.Carry
import Derived.SliceStrings
import Derived.LaidMore
set_option linter.all false
set_option maxRecDepth 100000
namespace Go.Abs
open Go Go.Proofs Go.Proofs.YtmpdkagfplajjaaGreatDoor Go.RowKit Go.ChangeShapes Go.WideShapes Go.ChangeAt
def C8P:Sh:=.parts [D2V,B4c,.str]
def E1:A8F:=⟨λ_=>C9J,λ_=>27,1⟩
def D7C{E:A8F}{n:Nat}{r:List AV}(h:A1j E n C8P r):∃s:A0S,r=s.row/\s.good:=by obtain⟨a,b,rfl,h1,h2⟩:=A4p h;obtain⟨a3,b3,rfl,h3,h4⟩:=A4p h2;obtain⟨a5,b5,rfl,h5,h6⟩:=A4p h4;obtain rfl:=B9R h6;obtain⟨x,rfl,hx⟩:=C5l h1;obtain⟨k,rfl,hk⟩:=B3A h3;obtain⟨l,rfl,hl⟩:=C7Y h5;exact⟨⟨x,k,l⟩,rfl,hx,hk,hl⟩
def C9W:Sh:=.parts [D2V,B4c,.slice 3 D2V]
def D6N{E:A8F}{n:Nat}{r:List AV}(h:A1j E n C9W r):∃m:A1R,r=m.row:=by obtain⟨a,b,rfl,h1,h2⟩:=A4p h;obtain⟨a3,b3,rfl,h3,h4⟩:=A4p h2;obtain⟨a5,b5,rfl,h5,h6⟩:=A4p h4;obtain rfl:=B9R h6;obtain⟨x,rfl,hx⟩:=C5l h1;obtain⟨k,rfl,hk⟩:=B3A h3;obtain⟨l,rfl,hl⟩:=A9F (f:=IdD.row) (Q:=IdD.good) (λr=>C5l) h5;exact⟨⟨x,k,l⟩,rfl⟩
def D8m{r:List AV}(h:Shaped E1 (.ref 0) r):∃u:A0a,r=u.row/\u.good:=by obtain⟨n,hn⟩:=A8P h;exact D0V rfl n r hn
def D3D{r:List AV}(h:Shaped E1 (.slice 5 C8P) r):∃l:List A0S,r=[.list 5 (A2C l) .no]/\l.length<=maxLen/\∀s∈l,s.good:=by obtain⟨n,hn⟩:=A8P h;exact A9F (λr=>D7C) hn
def D6n{r:List AV}(h:Shaped E1 (.slice 5 C9W) r):∃l:List A1R,r=[.list 5 (A3P l) .no]/\l.length<=maxLen:=by obtain⟨n,hn⟩:=A8P h;obtain⟨l,h1,h2,_⟩:=A9F (f:=A1R.row) (Q:=λ_=>True) (λr h=>by obtain⟨m,h⟩:=D6N h;exact⟨m,h,trivial⟩) hn;exact⟨l,h1,h2⟩
def E0K{r:List AV}(h:Shaped E1 B4c r):∃k:Int,r=[I k]:=by obtain⟨n,hn⟩:=A8P h;obtain⟨k,rfl,_⟩:=B3A hn;exact⟨k,rfl⟩
def gl0:K1.glT 0=A2z:=by kernel_rfl
def gl1:K1.glT 1=A2S:=by kernel_rfl
def E6T{f:FuncId}{args:List AV}{vs:List Value}{W:World}(hL:laidMetH Tryz.prog A8I W)(h:A0d K1.C0 f args [] (λv _=>v=B true))(hr:A0w (A3G W) args vs):
 Calls Tryz.prog f vs.toArray W (λe W'=>e=.returned (.bool true)/\Below W.heap.size W W'):=by
 refine Z2H (h (A3G W) W vs (D5o hL) hr) ?_
 rintro e w' ⟨r,M',G',v,rfl,rfl,a,hi,hv,hx⟩
 simp only[Rep]at hv
 subst hv
 refine⟨rfl,hx.os,hx.tape,hx.output,hx.size,?_⟩
 intro k hk
 have:W.heap[k]?=some W.heap[k]:=by simp[hk]
 rw[this]
 exact hi.keep k _ (a.keep k _ this)
def gl3:K1.glT 3=.cptr [fnV 444,fnV 445]:=by kernel_rfl
def E7e(u:A0a)(l:List A0S)(ms:List A1R)(a:Int)(hg:u.good)(hl:l.length<=maxLen)(b:∀s∈l,s.good)(hs:ms.length<=maxLen):A0d K1.C0 6 [.agg u.row,.list 5 (A2C l) .no,.list 5 (A3P ms) .no,I a] [] (λv _=>v=B true):=D7J K1.glT gl0 gl1 gl3 u l ms a hg hl b hs (K1.D8s.mono λ_ _ h=>h.1)
def D9f:∀i,i<E1.n->Sh.fits Tryz.prog E1 (E1.sh i) (E1.ty i)=true/\∀j,E1.sh i≠.ref j:=λi _=>⟨(show Sh.fits Tryz.prog E1 C9J 27=true by kernel_rfl),λj h=>by cases h⟩
def D7v{H:Type}{enc:TypeId×Value->H}{W:World}{sp:Nat->Bool}{hd:Bool}{t:TypeId}{cs:Array Value}{d:DataW H}{p:List MemPlace}{sh:Sh}(hf:Sh.fits Tryz.prog E1 sh t=true) (h:DataW.Trod enc Tryz.prog W 0 sp hd t (.agg cs) d p):∃a,Shaped E1 sh a/\Rep (A3G W) (.agg a) (.agg cs):=by
 obtain⟨fuel,b⟩:=h
 obtain⟨⟨a,_,hr,hs⟩,h1⟩:=A9n (E:=E1) D9f fuel sh t cs.toList d p hf b
 refine⟨a,hs,?_⟩
 simp only[Rep]
 exact⟨cs,rfl,hr,h1⟩
def C4o{H:Type}{enc:TypeId×Value->H}{W:World}{sp:Nat->Bool}{hd:Bool}{t:TypeId}{v:Value}{d:DataW H}{p:List MemPlace}{sh:Sh}(hf:Sh.fits Tryz.prog E1 sh t=true)(hc:v.cells.toList=[v]) (h:DataW.Trod enc Tryz.prog W 0 sp hd t v d p):∃a,Shaped E1 sh a/\A0w (A3G W) a [v]:=by
 obtain⟨fuel,b⟩:=h
 obtain⟨⟨a,_,hr,hs⟩,_⟩:=A9n (E:=E1) D9f fuel sh t v.cells.toList d p hf b
 rw[hc]at hr
 exact⟨a,hs,hr⟩
def own:ownKnob Tryz.prog.godebug=none:=by kernel_rfl
def B7q:laidOutB Tryz.prog=true:=by kernel_rfl
end Go.Abs
