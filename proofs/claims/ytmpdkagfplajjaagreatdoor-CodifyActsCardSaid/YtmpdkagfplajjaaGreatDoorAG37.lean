/- A part of the proof. -/
import Derived.Test.YtmpdkagfplajjaaGreatDoorAG33
import Derived.Test.YtmpdkagfplajjaaGreatDoorAG24
import Derived.Test.YtmpdkagfplajjaaGreatDoorAG36
import Derived.WalkKit
import Derived.ProofKit
import Derived.OpenShut
import Derived.ShutString
import Derived.ChangeOld
import Derived.Below
import Derived.Carry
import Derived.SliceStrings
import Derived.LaidMore
set_option linter.all false
set_option maxRecDepth 100000
namespace Go.Abs
open Go Go.Proofs Go.Proofs.YtmpdkagfplajjaaGreatDoor Go.RowKit Go.ChangeShapes Go.WideShapes Go.ChangeAt
def C6X:Sh:=.parts [C9d,B2J,.str]
def E1:A9v:=⟨λ_=>C5S,λ_=>27,1⟩
def D3Q{E}{n}{r}(h:A1d E n C6X r):∃s:A0L,r=s.row/\s.good:=by obtain⟨a,b,rfl,h1,h2⟩:=A4o h;obtain⟨a3,b3,rfl,h3,h4⟩:=A4o h2;obtain⟨a5,b5,rfl,h5,h6⟩:=A4o h4;obtain rfl:=B9t h6;obtain⟨x,rfl,hx⟩:=C4J h1;obtain⟨k,rfl,hk⟩:=B3a h3;obtain⟨l,rfl,hl⟩:=C6j h5;exact⟨⟨x,k,l⟩,rfl,hx,hk,hl⟩
def C6p:Sh:=.parts [C9d,B2J,.slice 3 C9d]
def D4g{E}{n}{r}(h:A1d E n C6p r):∃m:A2k,r=m.row:=by obtain⟨a,b,rfl,h1,h2⟩:=A4o h;obtain⟨a3,b3,rfl,h3,h4⟩:=A4o h2;obtain⟨a5,b5,rfl,h5,h6⟩:=A4o h4;obtain rfl:=B9t h6;obtain⟨x,rfl,hx⟩:=C4J h1;obtain⟨k,rfl,hk⟩:=B3a h3;obtain⟨l,rfl,hl⟩:=A9N (f:=IdD.row) (Q:=IdD.good) (λr=>C4J) h5;exact⟨⟨x,k,l⟩,rfl⟩
def D4q{r}(h:Shaped E1 (.ref 0) r):∃u:A0b,r=u.row/\u.good:=by obtain⟨n,hn⟩:=A8U h;exact C8i rfl n r hn
def D1M{r}(h:Shaped E1 (.slice 5 C6X) r):∃l:List A0L,r=[.list 5 (A1A l) .no]/\l.length<=maxLen/\∀s∈l,s.good:=by obtain⟨n,hn⟩:=A8U h;exact A9N (λr=>D3Q) hn
def D2U{r}(h:Shaped E1 (.slice 5 C6p) r):∃l:List A2k,r=[.list 5 (A2p l) .no]/\l.length<=maxLen:=by obtain⟨n,hn⟩:=A8U h;obtain⟨l,h1,h2,_⟩:=A9N (f:=A2k.row) (Q:=λ_=>True) (λr h=>by obtain⟨m,h⟩:=D4g h;exact⟨m,h,trivial⟩) hn;exact⟨l,h1,h2⟩
def D2m{r}(h:Shaped E1 B2J r):∃k:Int,r=[I k]:=by obtain⟨n,hn⟩:=A8U h;obtain⟨k,rfl,_⟩:=B3a hn;exact⟨k,rfl⟩
def gl0:K1.glT 0=A4A:=by kernel_rfl
def gl1:K1.glT 1=A4S:=by kernel_rfl
def E2S{f}{args}{vs}{W}(hL:laidMetH Tryz.prog A8g W)(h:A0e K1.C0 f args [] (λv _=>v=B true))(hr:A0q (A3A W) args vs):
 Calls Tryz.prog f vs.toArray W (λe W'=>e=.returned (.bool true)/\Below W.heap.size W W'):=by
 refine Z2D (h (A3A W) W vs (D0B hL) hr) ?_
 rintro e w' ⟨r,M',G',v,rfl,rfl,a,hi,hv,hx⟩
 simp only[Rep]at hv
 subst hv
 refine⟨rfl,hx.os,hx.tape,hx.output,hx.size,?_⟩
 intro k hk
 have:W.heap[k]?=some W.heap[k]:=by simp[hk]
 rw[this]
 exact hi.keep k _ (a.keep k _ this)
def E2n(u:A0b)(l:List A0L)(s:List A2k)(a b:Int)(hg:u.good)(hl:l.length<=maxLen)(c:∀s∈l,s.good)(hs:s.length<=maxLen):A0e K1.C0 5 [.agg u.row,.list 5 (A1A l) .no,.list 5 (A2p s) .no,I a,I b] [] (λv _=>v=B true):=D4G K1.glT gl0 gl1 u l s a b hg hl c hs (K1.D4k.mono λ_ _ h=>h.1)
def D5g:∀i,i<E1.n->Sh.fits Tryz.prog E1 (E1.sh i) (E1.ty i)=true/\∀j,E1.sh i≠.ref j:=λi _=>⟨(show Sh.fits Tryz.prog E1 C5S 27=true by kernel_rfl),λj h=>by cases h⟩
def D4p{H:Type}{enc:TypeId×Value->H}{W}{sp:Nat->Bool}{hd}{t:TypeId}{cs}{d}{p}{sh}(hf:Sh.fits Tryz.prog E1 sh t=true) (h:DataW.Trod enc Tryz.prog W 0 sp hd t (.agg cs) d p):∃a,Shaped E1 sh a/\Rep (A3A W) (.agg a) (.agg cs):=by
 obtain⟨fuel,b⟩:=h
 obtain⟨⟨a,_,hr,hs⟩,h1⟩:=A9e (E:=E1) D5g fuel sh t cs.toList d p hf b
 refine⟨a,hs,?_⟩
 simp only[Rep]
 exact⟨cs,rfl,hr,h1⟩
def B6W{H:Type}{enc:TypeId×Value->H}{W}{sp:Nat->Bool}{hd}{t:TypeId}{v}{d}{p}{sh}(hf:Sh.fits Tryz.prog E1 sh t=true)(hc:v.cells.toList=[v]) (h:DataW.Trod enc Tryz.prog W 0 sp hd t v d p):∃a,Shaped E1 sh a/\A0q (A3A W) a [v]:=by
 obtain⟨fuel,b⟩:=h
 obtain⟨⟨a,_,hr,hs⟩,_⟩:=A9e (E:=E1) D5g fuel sh t v.cells.toList d p hf b
 rw[hc]at hr
 exact⟨a,hs,hr⟩
def own:ownKnob Tryz.prog.godebug=none:=by kernel_rfl
def B4U:laidOutB Tryz.prog=true:=by kernel_rfl
end Go.Abs
