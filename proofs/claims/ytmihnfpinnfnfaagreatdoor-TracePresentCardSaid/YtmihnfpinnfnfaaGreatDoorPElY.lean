/- A part of the proof. -/
import Derived.Test.YtmihnfpinnfnfaaGreatDoorPG52
import Derived.Test.YtmihnfpinnfnfaaGreatDoorPG53
import Derived.Test.YtmihnfpinnfnfaaGreatDoorPG10
import Derived.SevenTiedAt
import Derived.Test.YtmihnfpinnfnfaaGreatDoorCards
import Derived.Test.YtmihnfpinnfnfaaGreatDoorTie
set_option linter.all false
set_option maxRecDepth 1000000
namespace Go.Proofs.YtmihnfpinnfnfaaGreatDoor
open Go Go.Abs
theorem presentHolds:Rows.TracePresentCardSaid:=
 Claim7.holds_tied_plain_at .later [] [.data,.data,.data,.data,.data,.widerDeep,.funcs,.pinned] true (true, "7ed140a2b864ffeafcb0b891a9690a209787c14a3715aee5ea8ece22edf565c1") false
  presentRow (λ_ h=>by cases h) cWf (λ_ h=>by cases h) tracePresent_row_tie rfl ⟨rfl,rfl⟩ E0L rfl
  (λf fn hf hfn=>by obtain rfl:f=3:=Z1t (cFn.symm.trans hf)|>.symm;obtain rfl:fn=Tryz.f3:=(Z1t (Tryz.func3.symm.trans hfn)).symm;exact⟨D7X,λj t ht=>by rw[Tryz.params3]at ht;(have hm:t∈[23,3,9,24]:=by simpa using Array.mem_of_getElem? ht);exact(show Tryz.prog.wantsStandIn t=false by simpa using List.all_eq_true.1 D6S t hm)⟩)
  E0t
#print axioms presentHolds
end Go.Proofs.YtmihnfpinnfnfaaGreatDoor
