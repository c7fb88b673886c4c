/- The texts ElW, EmW. -/
import Derived.Test.YtjmjekcaifkboaaGreatDoorQG25
import Derived.Test.YtjmjekcaifkboaaGreatDoorQG38
import Derived.Test.YtjmjekcaifkboaaGreatDoorQG35
import Derived.WalkKit
import Derived.ProofKit
import Derived.OpenShut
import Derived.ShutString
import Derived.ChangeOld
import Derived.Below
import Derived.Carry
import Derived.SliceStrings
import Derived.LaidMore
set_option linter.all false
set_option maxRecDepth 100000
namespace Go.Abs
open Go Go.Proofs Go.Proofs.YtjmjekcaifkboaaGreatDoor Go.RowKit Go.ChangeShapes Go.WideShapes Go.ChangeAt
def E1:A7C:=⟨λi=>if i=0 then B0D else B1d,λi=>if i=0 then 31 else 53,2⟩
def C3d{r:List AV}(h:Shaped E1 B7G r):∃l:List A1p,r=[.list 4 (A2f l) .no]/\l.length<=maxLen/\∀g∈l,g.good:=by obtain⟨n,hn⟩:=A4t h;exact C9f rfl rfl hn
def D4M{r:List AV}(h:Shaped E1 D1A r):∃x:IdD,r=x.row:=ZCC
def C3c{r:List AV}(h:Shaped E1 A4W r):∃k:Int,r=[I k]:=ZCD
def C7H{r:List AV}(h:Shaped E1 .str r):∃k:ByteArray,r=[S k]:=ZCE
def gl0:K1.glT 0=.cptr [fnV 356,fnV 357]:=rfl
def gl2:K1.glT 2=A1t:=Q2
def gl8:K1.glT 8=A1E:=Q2
def D8L{f:FuncId}{args:List AV}{vs:List Value}{W:World}(hL:laidMetH Tryz.prog A5M W)(h:A0c K1.C0 f args [] (λv _=>v=B true))(hr:A0v (A2w W) args vs):
 Calls Tryz.prog f vs.toArray W (λe W'=>e=.returned (.bool true)/\Below W.heap.size W W'):=by
 refine Z1E (h (A2w W) W vs (B8O hL) hr) ?_
 rintro e w' ⟨r,M',G',v,rfl,rfl,a,hi,hv,hx⟩
 simp only[Rep]at hv
 subst hv
 refine⟨rfl,hx.os,hx.tape,hx.output,hx.size,?_⟩
 intro k hk
 have:W.heap[k]?=some W.heap[k]:=by simp[hk]
 rw[this]
 exact hi.keep k _ (a.keep k _ this)
def D9Q(day:Int)(a:Int)(purpose:ByteArray)(l:List A1p)(hl:l.length<=maxLen)(hg:∀g∈l,g.good):A0c K1.C0 3 [I day,I a,S purpose,.list 4 (A2f l) .no] [] (λv _=>v=B true):=D6j K1.glT gl0 gl2 gl8 day a purpose l hl hg (λM=>A0l Tryz.func5 rfl rfl (C0D K1.glT gl0 gl2 gl8 M)) []
def C5J:∀i,i<E1.n->Sh.fits Tryz.prog E1 (E1.sh i) (E1.ty i)=true/\∀j,E1.sh i≠.ref j:=λi hi=>by
 match i,hi with
 |0,_=>exact⟨(show Sh.fits Tryz.prog E1 B0D 31=true by kernel_rfl),λj h=>by cases h⟩
 |1,_=>exact⟨(show Sh.fits Tryz.prog E1 B1d 53=true by kernel_rfl),λj h=>by cases h⟩
def C8T{H:Type}{enc:TypeId×Value->H}{W:World}{sp:Nat->Bool}{hd:Bool}{t:TypeId}{cs:Array Value}{d:DataW H}{p:List MemPlace}{sh:Sh}(hf:Sh.fits Tryz.prog E1 sh t=true) (h:DataW.Trod enc Tryz.prog W 0 sp hd t (.agg cs) d p):∃a,Shaped E1 sh a/\Rep (A2w W) (.agg a) (.agg cs):=by
 obtain⟨fuel,b⟩:=h
 obtain⟨⟨a,_,hr,hs⟩,h1⟩:=A4J (E:=E1) C5J fuel sh t cs.toList d p hf b
 refine⟨a,hs,?_⟩
 simp only[Rep]
 exact⟨cs,rfl,hr,h1⟩
def A8W{H:Type}{enc:TypeId×Value->H}{W:World}{sp:Nat->Bool}{hd:Bool}{t:TypeId}{v:Value}{d:DataW H}{p:List MemPlace}{sh:Sh}(hf:Sh.fits Tryz.prog E1 sh t=true)(hc:v.cells.toList=[v]) (h:DataW.Trod enc Tryz.prog W 0 sp hd t v d p):∃a,Shaped E1 sh a/\A0v (A2w W) a [v]:=by
 obtain⟨fuel,b⟩:=h
 obtain⟨⟨a,_,hr,hs⟩,_⟩:=A4J (E:=E1) C5J fuel sh t v.cells.toList d p hf b
 rw[hc]at hr
 exact⟨a,hs,hr⟩
def own:ownKnob Tryz.prog.godebug=none:=Q2
def A7U:laidOutB Tryz.prog=true:=Q2
end Go.Abs
section
set_option maxRecDepth 100000
namespace Go.Abs.Em
open Go Go.Proofs Go.Proofs.YtjmjekcaifkboaaGreatDoor Go.RowKit Go.ChangeShapes Go.WideShapes Go.ChangeAt
def E1:A7C:=⟨λi=>if i=0 then B0D else B1d,λi=>if i=0 then 31 else 53,2⟩
def C3d{r:List AV}(h:Shaped E1 B7G r):∃l:List A1p,r=[.list 4 (A2f l) .no]/\l.length<=maxLen/\∀g∈l,g.good:=by obtain⟨n,hn⟩:=A4t h;exact C9f rfl rfl hn
def D4M{r:List AV}(h:Shaped E1 D1A r):∃x:IdD,r=x.row:=ZCC
def C3c{r:List AV}(h:Shaped E1 A4W r):∃k:Int,r=[I k]:=ZCD
def C7H{r:List AV}(h:Shaped E1 .str r):∃k:ByteArray,r=[S k]:=ZCE
def gl0:K1.glT 0=.cptr [fnV 356,fnV 357]:=rfl
def gl2:K1.glT 2=A1t:=Q2
def gl8:K1.glT 8=A1E:=Q2
def D8L{f:FuncId}{args:List AV}{vs:List Value}{W:World}(hL:laidMetH Tryz.prog A5M W)(h:A0c K1.C0 f args [] (λv _=>v=B true))(hr:A0v (A2w W) args vs):
 Calls Tryz.prog f vs.toArray W (λe W'=>e=.returned (.bool true)/\Below W.heap.size W W'):=by
 refine Z1E (h (A2w W) W vs (B8O hL) hr) ?_
 rintro e w' ⟨r,M',G',v,rfl,rfl,a,hi,hv,hx⟩
 simp only[Rep]at hv
 subst hv
 refine⟨rfl,hx.os,hx.tape,hx.output,hx.size,?_⟩
 intro k hk
 have:W.heap[k]?=some W.heap[k]:=by simp[hk]
 rw[this]
 exact hi.keep k _ (a.keep k _ this)
def D9Q(id:IdD)(day:Int)(purpose:ByteArray)(l:List A1p)(hl:l.length<=maxLen)(hg:∀g∈l,g.good):A0c K1.C0 4 [.agg id.row,I day,S purpose,.list 4 (A2f l) .no] [] (λv _=>v=B true):=D6S K1.glT gl0 gl2 gl8 id day purpose l hl hg (λM=>A0l Tryz.func5 rfl rfl (C0D K1.glT gl0 gl2 gl8 M)) []
def C5J:∀i,i<E1.n->Sh.fits Tryz.prog E1 (E1.sh i) (E1.ty i)=true/\∀j,E1.sh i≠.ref j:=λi hi=>by
 match i,hi with
 |0,_=>exact⟨(show Sh.fits Tryz.prog E1 B0D 31=true by kernel_rfl),λj h=>by cases h⟩
 |1,_=>exact⟨(show Sh.fits Tryz.prog E1 B1d 53=true by kernel_rfl),λj h=>by cases h⟩
def C8T{H:Type}{enc:TypeId×Value->H}{W:World}{sp:Nat->Bool}{hd:Bool}{t:TypeId}{cs:Array Value}{d:DataW H}{p:List MemPlace}{sh:Sh}(hf:Sh.fits Tryz.prog E1 sh t=true) (h:DataW.Trod enc Tryz.prog W 0 sp hd t (.agg cs) d p):∃a,Shaped E1 sh a/\Rep (A2w W) (.agg a) (.agg cs):=by
 obtain⟨fuel,b⟩:=h
 obtain⟨⟨a,_,hr,hs⟩,h1⟩:=A4J (E:=E1) C5J fuel sh t cs.toList d p hf b
 refine⟨a,hs,?_⟩
 simp only[Rep]
 exact⟨cs,rfl,hr,h1⟩
def A8W{H:Type}{enc:TypeId×Value->H}{W:World}{sp:Nat->Bool}{hd:Bool}{t:TypeId}{v:Value}{d:DataW H}{p:List MemPlace}{sh:Sh}(hf:Sh.fits Tryz.prog E1 sh t=true)(hc:v.cells.toList=[v]) (h:DataW.Trod enc Tryz.prog W 0 sp hd t v d p):∃a,Shaped E1 sh a/\A0v (A2w W) a [v]:=by
 obtain⟨fuel,b⟩:=h
 obtain⟨⟨a,_,hr,hs⟩,_⟩:=A4J (E:=E1) C5J fuel sh t v.cells.toList d p hf b
 rw[hc]at hr
 exact⟨a,hs,hr⟩
def own:ownKnob Tryz.prog.godebug=none:=Q2
def A7U:laidOutB Tryz.prog=true:=Q2
end Go.Abs.Em
end
