/- A part of the proof. -/
import Derived.Test.YtjmjekcaifkboaaGreatDoorQG11
import Derived.Sort.Grow
import Derived.Deep.Draws
import Derived.Below
set_option linter.all false
namespace Go.Abs
open Go.Sort
def Inv.below{C}{G}{M}{w w'}(hi:Inv C G M w)(hb:Go.RowKit.Below w.heap.size w w'):Inv C G M w':=by
 refine⟨hi.n,λb i v h=>?_,λb o h=>?_,λj o h=>?_,hi.apart,hi.gl,hi.tab⟩
 .have h0:=hi.st b i v h;have hl:=Z2I w ⟨b,i,none⟩ h0;simpa[World.cell?,hb.block b hl]using h0
 .have h0:=hi.keep b o h;rw[hb.block b (A4x h0)];exact h0
 .have h0:=hi.obj j o h;exact h0.keeps (.refl _) (by rw[hi.n];exact A0P h) rfl ⟨rfl,rfl⟩ (λ_ _ _ _ h=>h) (λ_=>rfl) (λb hb'=>hb.block b (h0.owns_lt hb'))
def Ext.below{w w'}(h:Go.RowKit.Below w.heap.size w w'):Ext w w':=⟨h.os,h.tape,h.output,h.size⟩
def A5P{C}{f}{args}{M}{v}
 (h:∀G w (vs:List Value),Inv C G M w->A0v G args vs->Calls C.P f vs.toArray w λe w'=>e=.returned v/\Go.RowKit.Below w.heap.size w w'):
 A0c C f args M (λr M'=>r=.val v/\M'=M):=by
 intro G w vs hi hr
 refine Z1E (h G w vs hi hr) ?_
 rintro e w' ⟨rfl,hb⟩
 exact⟨.val v,M,G,v,rfl,⟨rfl,rfl⟩,.refl _,hi.below hb,ZAE,.below hb⟩
end Go.Abs
