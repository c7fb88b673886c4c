/- A part of the proof. -/
import Derived.Test.YtmpdkagfplajjaaGreatDoorEG38
import Derived.Test.YtmpdkagfplajjaaGreatDoorEG27
import Derived.Test.YtmpdkagfplajjaaGreatDoorEG41
import Derived.WalkKit
import Derived.ProofKit
import Derived.OpenShut
import Derived.ShutString
import Derived.ChangeOld
import Derived.Below
import Derived.Carry
import Derived.SliceStrings
import Derived.LaidMore
set_option linter.all false
set_option maxRecDepth 100000
namespace Go.Abs
open Go Go.Proofs Go.Proofs.YtmpdkagfplajjaaGreatDoor Go.RowKit Go.ChangeShapes Go.WideShapes Go.ChangeAt
def C7Q:Sh:=.parts [D1M,B3T,.str]
def E1:A8f:=⟨λ_=>C8H,λ_=>27,1⟩
def D6q{E:A8f}{n:Nat}{r:List AV}(h:A1e E n C7Q r):∃s:A0Q,r=s.row/\s.good:=by obtain⟨a,b,rfl,h1,h2⟩:=A4d h;obtain⟨a3,b3,rfl,h3,h4⟩:=A4d h2;obtain⟨a5,b5,rfl,h5,h6⟩:=A4d h4;obtain rfl:=B9l h6;obtain⟨x,rfl,hx⟩:=C4n h1;obtain⟨k,rfl,hk⟩:=B3r h3;obtain⟨l,rfl,hl⟩:=C6X h5;exact⟨⟨x,k,l⟩,rfl,hx,hk,hl⟩
def C8S:Sh:=.parts [D1M,B3T,.slice 3 D1M]
def D5C{E:A8f}{n:Nat}{r:List AV}(h:A1e E n C8S r):∃m:A1P,r=m.row:=by obtain⟨a,b,rfl,h1,h2⟩:=A4d h;obtain⟨a3,b3,rfl,h3,h4⟩:=A4d h2;obtain⟨a5,b5,rfl,h5,h6⟩:=A4d h4;obtain rfl:=B9l h6;obtain⟨x,rfl,hx⟩:=C4n h1;obtain⟨k,rfl,hk⟩:=B3r h3;obtain⟨l,rfl,hl⟩:=A9k (f:=IdD.row) (Q:=IdD.good) (λr=>C4n) h5;exact⟨⟨x,k,l⟩,rfl⟩
def D7a{r:List AV}(h:Shaped E1 (.ref 0) r):∃u:A0a,r=u.row/\u.good:=by obtain⟨n,hn⟩:=A8s h;exact C9O rfl n r hn
def D2n{r:List AV}(h:Shaped E1 (.slice 5 C7Q) r):∃l:List A0Q,r=[.list 5 (A2h l) .no]/\l.length<=maxLen/\∀s∈l,s.good:=by obtain⟨n,hn⟩:=A8s h;exact A9k (λr=>D6q) hn
def D5b{r:List AV}(h:Shaped E1 (.slice 5 C8S) r):∃l:List A1P,r=[.list 5 (A3C l) .no]/\l.length<=maxLen:=by obtain⟨n,hn⟩:=A8s h;obtain⟨l,h1,h2,_⟩:=A9k (f:=A1P.row) (Q:=λ_=>True) (λr h=>by obtain⟨m,h⟩:=D5C h;exact⟨m,h,trivial⟩) hn;exact⟨l,h1,h2⟩
def D9x{r:List AV}(h:Shaped E1 B3T r):∃k:Int,r=[I k]:=by obtain⟨n,hn⟩:=A8s h;obtain⟨k,rfl,_⟩:=B3r hn;exact⟨k,rfl⟩
def gl0:K1.glT 0=A2u:=by kernel_rfl
def gl1:K1.glT 1=A2J:=by kernel_rfl
def E5H{f:FuncId}{args:List AV}{vs:List Value}{W:World}(hL:laidMetH Tryz.prog A8k W)(h:A0e K1.C0 f args [] (λv _=>v=B true))(hr:A0s (A3u W) args vs):
 Calls Tryz.prog f vs.toArray W (λe W'=>e=.returned (.bool true)/\Below W.heap.size W W'):=by
 refine Z2H (h (A3u W) W vs (D3Y hL) hr) ?_
 rintro e w' ⟨r,M',G',v,rfl,rfl,a,hi,hv,hx⟩
 simp only[Rep]at hv
 subst hv
 refine⟨rfl,hx.os,hx.tape,hx.output,hx.size,?_⟩
 intro k hk
 have:W.heap[k]?=some W.heap[k]:=by simp[hk]
 rw[this]
 exact hi.keep k _ (a.keep k _ this)
def gl3:K1.glT 3=.cptr [fnV 444,fnV 445]:=by kernel_rfl
def E5S(u:A0a)(l:List A0Q)(ms:List A1P)(a:Int)(hg:u.good)(hl:l.length<=maxLen)(b:∀s∈l,s.good)(hs:ms.length<=maxLen):A0e K1.C0 7 [.agg u.row,.list 5 (A2h l) .no,.list 5 (A3C ms) .no,I a] [] (λv _=>v=B true):=D7o K1.glT gl0 gl1 gl3 u l ms a hg hl b hs (K1.D7e.mono λ_ _ h=>h.1)
def D7S:∀i,i<E1.n->Sh.fits Tryz.prog E1 (E1.sh i) (E1.ty i)=true/\∀j,E1.sh i≠.ref j:=λi _=>⟨(show Sh.fits Tryz.prog E1 C8H 27=true by kernel_rfl),λj h=>by cases h⟩
def D6i{H:Type}{enc:TypeId×Value->H}{W:World}{sp:Nat->Bool}{hd:Bool}{t:TypeId}{cs:Array Value}{d:DataW H}{p:List MemPlace}{sh:Sh}(hf:Sh.fits Tryz.prog E1 sh t=true) (h:DataW.Trod enc Tryz.prog W 0 sp hd t (.agg cs) d p):∃a,Shaped E1 sh a/\Rep (A3u W) (.agg a) (.agg cs):=by
 obtain⟨fuel,b⟩:=h
 obtain⟨⟨a,_,hr,hs⟩,h1⟩:=A8Q (E:=E1) D7S fuel sh t cs.toList d p hf b
 refine⟨a,hs,?_⟩
 simp only[Rep]
 exact⟨cs,rfl,hr,h1⟩
def C3t{H:Type}{enc:TypeId×Value->H}{W:World}{sp:Nat->Bool}{hd:Bool}{t:TypeId}{v:Value}{d:DataW H}{p:List MemPlace}{sh:Sh}(hf:Sh.fits Tryz.prog E1 sh t=true)(hc:v.cells.toList=[v]) (h:DataW.Trod enc Tryz.prog W 0 sp hd t v d p):∃a,Shaped E1 sh a/\A0s (A3u W) a [v]:=by
 obtain⟨fuel,b⟩:=h
 obtain⟨⟨a,_,hr,hs⟩,_⟩:=A8Q (E:=E1) D7S fuel sh t v.cells.toList d p hf b
 rw[hc]at hr
 exact⟨a,hs,hr⟩
def own:ownKnob Tryz.prog.godebug=none:=by kernel_rfl
def B6S:laidOutB Tryz.prog=true:=by kernel_rfl
end Go.Abs
