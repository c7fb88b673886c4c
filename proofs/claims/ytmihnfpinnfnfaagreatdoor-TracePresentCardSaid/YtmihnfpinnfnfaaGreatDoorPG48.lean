/- A part of the proof. -/
import Derived.Test.YtmihnfpinnfnfaaGreatDoorPG27
import Derived.Test.YtmihnfpinnfnfaaGreatDoorPG47
import Derived.Test.YtmihnfpinnfnfaaGreatDoorPG44
import Derived.WalkKit
import Derived.ProofKit
import Derived.OpenShut
import Derived.ShutString
import Derived.ChangeOld
import Derived.Below
import Derived.Carry
import Derived.SliceStrings
import Derived.LaidMore
set_option linter.all false
set_option maxRecDepth 100000
namespace Go.Abs
open Go Go.Proofs Go.Proofs.YtmihnfpinnfnfaaGreatDoor Go.RowKit Go.ChangeShapes Go.WideShapes Go.ChangeAt
def E1:A8f:=⟨λi=>if i=0 then B2R else B4m,λi=>if i=0 then 30 else 70,2⟩
def D5L{r:List AV}(h:Shaped E1 C5p r):∃l:List A1G,r=[.list 4 (A2G l) .no]/\l.length<=maxLen/\∀g∈l,g.good:=by obtain⟨n,hn⟩:=A8o h;exact D5q rfl rfl hn
def D8a{r:List AV}(h:Shaped E1 D2P r):∃x:IdD,r=x.row:=by obtain⟨n,hn⟩:=A8o h;obtain⟨x,e,_⟩:=D0P hn;exact⟨x,e⟩
def D8i{r:List AV}(h:Shaped E1 A5K r):∃k:Int,r=[I k]:=by obtain⟨n,hn⟩:=A8o h;obtain⟨k,e,_⟩:=A4E hn;exact⟨k,e⟩
def D7K{r:List AV}(h:Shaped E1 .str r):∃k:ByteArray,r=[S k]:=by obtain⟨n,hn⟩:=A8o h;obtain⟨k,e,_⟩:=A7H hn;exact⟨k,e⟩
def gl0:K1.glT 0=.cptr [fnV 336,fnV 337]:=rfl
def gl2:K1.glT 2=A1C:=Q2
def gl8:K1.glT 8=A1U:=Q2
def E3Y{f:FuncId}{args:List AV}{vs:List Value}{W:World}(hL:laidMetH Tryz.prog B2k W)(h:A0c K1.C0 f args [] (λv _=>v=B true))(hr:A0s (A4p W) args vs):
 Calls Tryz.prog f vs.toArray W (λe W'=>e=.returned (.bool true)/\Below W.heap.size W W'):=by
 refine Z1B (h (A4p W) W vs (D2w hL) hr) ?_
 rintro e w' ⟨r,M',G',v,rfl,rfl,a,hi,hv,hx⟩
 simp only[Rep]at hv
 subst hv
 refine⟨rfl,hx.os,hx.tape,hx.output,hx.size,?_⟩
 intro k hk
 have:W.heap[k]?=some W.heap[k]:=by simp[hk]
 rw[this]
 exact hi.keep k _ (a.keep k _ this)
def E5f(id:IdD)(day:Int)(purpose:ByteArray)(l:List A1G)(hl:l.length<=maxLen)(hg:∀g∈l,g.good):A0c K1.C0 3 [.agg id.row,I day,S purpose,.list 4 (A2G l) .no] [] (λv _=>v=B true):=D4q K1.glT gl0 gl2 gl8 id day purpose l hl hg (λM=>A0m Tryz.func4 rfl rfl (C8p K1.glT gl0 gl2 gl8 M)) []
def D6F:∀i,i<E1.n->Sh.fits Tryz.prog E1 (E1.sh i) (E1.ty i)=true/\∀j,E1.sh i≠.ref j:=λi hi=>by
 match i,hi with
 |0,_=>exact⟨(show Sh.fits Tryz.prog E1 B2R 30=true by kernel_rfl),λj h=>by cases h⟩
 |1,_=>exact⟨(show Sh.fits Tryz.prog E1 B4m 70=true by kernel_rfl),λj h=>by cases h⟩
def D4O{H:Type}{enc:TypeId×Value->H}{W:World}{sp:Nat->Bool}{hd:Bool}{t:TypeId}{cs:Array Value}{d:DataW H}{p:List MemPlace}{sh:Sh}(hf:Sh.fits Tryz.prog E1 sh t=true) (h:DataW.Trod enc Tryz.prog W 0 sp hd t (.agg cs) d p):∃a,Shaped E1 sh a/\Rep (A4p W) (.agg a) (.agg cs):=by
 obtain⟨fuel,b⟩:=h
 obtain⟨⟨a,_,hr,hs⟩,h1⟩:=A8E (E:=E1) D6F fuel sh t cs.toList d p hf b
 refine⟨a,hs,?_⟩
 simp only[Rep]
 exact⟨cs,rfl,hr,h1⟩
def C1V{H:Type}{enc:TypeId×Value->H}{W:World}{sp:Nat->Bool}{hd:Bool}{t:TypeId}{v:Value}{d:DataW H}{p:List MemPlace}{sh:Sh}(hf:Sh.fits Tryz.prog E1 sh t=true)(hc:v.cells.toList=[v]) (h:DataW.Trod enc Tryz.prog W 0 sp hd t v d p):∃a,Shaped E1 sh a/\A0s (A4p W) a [v]:=by
 obtain⟨fuel,b⟩:=h
 obtain⟨⟨a,_,hr,hs⟩,_⟩:=A8E (E:=E1) D6F fuel sh t v.cells.toList d p hf b
 rw[hc]at hr
 exact⟨a,hs,hr⟩
def own:ownKnob Tryz.prog.godebug=none:=Q2
def B6m:laidOutB Tryz.prog=true:=Q2
end Go.Abs
