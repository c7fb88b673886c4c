/- A part of the proof. -/
import Derived.Test.YtmpdkagfplajjaaGreatDoorAG44
import Derived.Test.YtmpdkagfplajjaaGreatDoorAG45
import Derived.Test.YtmpdkagfplajjaaGreatDoorAG09
import Derived.SevenTiedAt
import Derived.Test.YtmpdkagfplajjaaGreatDoorCards
import Derived.Test.YtmpdkagfplajjaaGreatDoorTie
set_option linter.all false
set_option maxRecDepth 1000000
namespace Go.Proofs.YtmpdkagfplajjaaGreatDoor
open Go Go.Abs
theorem actsHolds:Rows.CodifyActsCardSaid:=
 Claim7.holds_tied_plain_at .later [] [.data,.data,.data,.data,.sentinel,.sentinel,.data,.widerDeep,.funcs,.pinned] true (true, "2386ac59eca4601797d5f3a0793bc1c5e007c8d368edfa11eb76113b4379a9ad") true
  actsRow (λ_ h=>by cases h) cWf (λ_ h=>by cases h) codifyActs_row_tie rfl ⟨rfl,rfl⟩ D9p rfl
  (λf fn hf hfn=>by obtain rfl:f=5:=Z1Z (cFn.symm.trans hf)|>.symm;obtain rfl:fn=Tryz.f5:=(Z1Z (Tryz.func5.symm.trans hfn)).symm;exact⟨D5K,λj t ht=>by rw[Tryz.params5]at ht;(have hm:t∈[27,28,44,3,3]:=by simpa using Array.mem_of_getElem? ht);exact(show Tryz.prog.wantsStandIn t=false by simpa using List.all_eq_true.1 D6t t hm)⟩)
  D9d
#print axioms actsHolds
end Go.Proofs.YtmpdkagfplajjaaGreatDoor
