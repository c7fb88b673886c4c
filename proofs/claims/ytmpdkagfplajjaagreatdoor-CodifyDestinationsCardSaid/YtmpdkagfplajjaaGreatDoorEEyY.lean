/- A part of the proof. -/
import Derived.Test.YtmpdkagfplajjaaGreatDoorEG46
import Derived.Test.YtmpdkagfplajjaaGreatDoorEG47
import Derived.Test.YtmpdkagfplajjaaGreatDoorEG11
import Derived.SevenTiedAt
import Derived.Test.YtmpdkagfplajjaaGreatDoorCards
import Derived.Test.YtmpdkagfplajjaaGreatDoorTie
set_option linter.all false
set_option maxRecDepth 1000000
namespace Go.Proofs.YtmpdkagfplajjaaGreatDoor
open Go Go.Abs
theorem destinationsHolds:Rows.CodifyDestinationsCardSaid:=
 Claim7.holds_tied_plain_at .later [] [.data,.data,.data,.data,.sentinel,.sentinel,.data,.widerDeep,.funcs,.pinned] true (true, "2386ac59eca4601797d5f3a0793bc1c5e007c8d368edfa11eb76113b4379a9ad") true
  destinationsRow (λ_ h=>by cases h) cWf (λ_ h=>by cases h) codifyDestinations_row_tie rfl ⟨rfl,rfl⟩ E2E rfl
  (λf fn hf hfn=>by obtain rfl:f=7:=Z1Q (cFn.symm.trans hf)|>.symm;obtain rfl:fn=Tryz.f7:=(Z1Q (Tryz.func7.symm.trans hfn)).symm;exact⟨D9l,λj t ht=>by rw[Tryz.params7]at ht;(have hm:t∈[27,28,44,3]:=by simpa using Array.mem_of_getElem? ht);exact(show Tryz.prog.wantsStandIn t=false by simpa using List.all_eq_true.1 D8b t hm)⟩)
  E2e
#print axioms destinationsHolds
end Go.Proofs.YtmpdkagfplajjaaGreatDoor
