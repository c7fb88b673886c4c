/- A part of the proof. -/
import Derived.Test.YtmpdkagfplajjaaGreatDoorFG46
import Derived.Test.YtmpdkagfplajjaaGreatDoorFG47
import Derived.Test.YtmpdkagfplajjaaGreatDoorFG11
import Derived.SevenTiedAt
import Derived.Test.YtmpdkagfplajjaaGreatDoorCards
import Derived.Test.YtmpdkagfplajjaaGreatDoorTie
set_option linter.all false
set_option maxRecDepth 1000000
namespace Go.Proofs.YtmpdkagfplajjaaGreatDoor
open Go Go.Abs
theorem enactsHolds:Rows.CodifyEnactsCardSaid:=
 Claim7.holds_tied_plain_at .later [] [.data,.data,.data,.data,.sentinel,.sentinel,.data,.widerDeep,.funcs,.pinned] true (true, "2386ac59eca4601797d5f3a0793bc1c5e007c8d368edfa11eb76113b4379a9ad") true
  enactsRow (λ_ h=>by cases h) cWf (λ_ h=>by cases h) codifyEnacts_row_tie rfl ⟨rfl,rfl⟩ E3S rfl
  (λf fn hf hfn=>by obtain rfl:f=6:=Z1V (cFn.symm.trans hf)|>.symm;obtain rfl:fn=Tryz.f6:=(Z1V (Tryz.func6.symm.trans hfn)).symm;exact⟨E0A,λj t ht=>by rw[Tryz.params6]at ht;(have hm:t∈[27,28,44,3]:=by simpa using Array.mem_of_getElem? ht);exact(show Tryz.prog.wantsStandIn t=false by simpa using List.all_eq_true.1 D9r t hm)⟩)
  E3t
#print axioms enactsHolds
end Go.Proofs.YtmpdkagfplajjaaGreatDoor
