/- A part of the proof. -/
import Derived.Test.YtmpdkagfplajjaaGreatDoorGG46
import Derived.Test.YtmpdkagfplajjaaGreatDoorGG47
import Derived.Test.YtmpdkagfplajjaaGreatDoorGG11
import Derived.SevenTiedAt
import Derived.Test.YtmpdkagfplajjaaGreatDoorCards
import Derived.Test.YtmpdkagfplajjaaGreatDoorTie
set_option linter.all false
set_option maxRecDepth 1000000
namespace Go.Proofs.YtmpdkagfplajjaaGreatDoor
open Go Go.Abs
theorem defaultPlanHolds:Rows.CodifyDefaultPlanCardSaid:=
 Claim7.holds_tied_plain_at .later [] [.data,.data,.data,.data,.sentinel,.sentinel,.data,.widerDeep,.funcs,.pinned] true (true, "2386ac59eca4601797d5f3a0793bc1c5e007c8d368edfa11eb76113b4379a9ad") true
  defaultPlanRow (λ_ h=>by cases h) cWf (λ_ h=>by cases h) codifyDefaultPlan_row_tie rfl ⟨rfl,rfl⟩ E4k rfl
  (λf fn hf hfn=>by obtain rfl:f=8:=Z1Q (cFn.symm.trans hf)|>.symm;obtain rfl:fn=Tryz.f8:=(Z1Q (Tryz.func8.symm.trans hfn)).symm;exact⟨E0Z,λj t ht=>by rw[Tryz.params8]at ht;(have hm:t∈[27,3]:=by simpa using Array.mem_of_getElem? ht);exact(show Tryz.prog.wantsStandIn t=false by simpa using List.all_eq_true.1 D9Q t hm)⟩)
  E3N
#print axioms defaultPlanHolds
end Go.Proofs.YtmpdkagfplajjaaGreatDoor
