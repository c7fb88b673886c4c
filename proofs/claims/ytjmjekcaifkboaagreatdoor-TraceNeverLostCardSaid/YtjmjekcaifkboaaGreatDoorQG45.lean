/- A part of the proof. -/
import Derived.Test.YtjmjekcaifkboaaGreatDoorQG43
import Derived.Test.YtjmjekcaifkboaaGreatDoorQG44
import Derived.Test.YtjmjekcaifkboaaGreatDoorQG09
import Derived.SevenTiedAt
import Derived.Test.YtjmjekcaifkboaaGreatDoorCards
import Derived.Test.YtjmjekcaifkboaaGreatDoorTie
set_option linter.all false
set_option maxRecDepth 1000000
namespace Go.Proofs.YtjmjekcaifkboaaGreatDoor
open Go Go.Abs
theorem neverLostHolds:Rows.TraceNeverLostCardSaid:=
 Claim7.holds_tied_plain_at .later [] [.data,.data,.data,.data,.data,.widerDeep,.funcs,.pinned] true (true, "ff68ece0ab4e4e511974beed0bdc3153e8d1bbefd44a606f0024c115732a6f24") false
  C3i (λ_ h=>by cases h) cWf (λ_ h=>by cases h) traceNeverLost_row_tie rfl ⟨rfl,rfl⟩ D4y rfl
  (λf fn hf hfn=>by obtain rfl:f=3:=Z1a (cFn.symm.trans hf)|>.symm;obtain rfl:fn=Tryz.f3:=(Z1a (Tryz.func3.symm.trans hfn)).symm;exact⟨C8e,λj t ht=>by rw[Tryz.params3]at ht;(have hm:t∈[3,3,9,22]:=by simpa using Array.mem_of_getElem? ht);exact(show Tryz.prog.wantsStandIn t=false by simpa using List.all_eq_true.1 C6m t hm)⟩)
  D3X
#print axioms neverLostHolds
end Go.Proofs.YtjmjekcaifkboaaGreatDoor
