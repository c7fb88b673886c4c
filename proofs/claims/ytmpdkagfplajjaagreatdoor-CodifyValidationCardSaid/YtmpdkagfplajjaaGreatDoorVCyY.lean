/- CodifyValidation: the row and the tied card. -/
import Derived.Test.YtmpdkagfplajjaaGreatDoorVG48
import Derived.Test.YtmpdkagfplajjaaGreatDoorVG49
import Derived.Test.YtmpdkagfplajjaaGreatDoorVG50
import Derived.SevenTiedAt
import Derived.Test.YtmpdkagfplajjaaGreatDoorCards
import Derived.Test.YtmpdkagfplajjaaGreatDoorTie
set_option maxRecDepth 1000000
namespace Go.Proofs.YtmpdkagfplajjaaGreatDoor
open Go Go.Abs
theorem validationHolds : Rows.CodifyValidationCardSaid :=
  Claim7.holds_tied_plain_at .later [] [.data, .data, .data, .data, .sentinel, .sentinel, .data, .widerDeep, .funcs, .pinned] true (true, "2386ac59eca4601797d5f3a0793bc1c5e007c8d368edfa11eb76113b4379a9ad") true
    validationRow (fun _ h => by cases h) cWf (fun _ h => by cases h) codifyValidation_row_tie rfl ⟨rfl, rfl⟩ cMain rfl
    (fun f fn hf hfn => by
      obtain rfl : f = 3 := Option.some.inj (cFn.symm.trans hf) |>.symm
      obtain rfl : fn = Tryz.f3 := (Option.some.inj (Tryz.func3.symm.trans hfn)).symm
      exact ⟨cLooks, fun j t ht => by
        rw [Tryz.params3] at ht
        have hm : t ∈ [27, 28] := by simpa using Array.mem_of_getElem? ht
        exact (show Tryz.prog.wantsStandIn t = false by simpa using List.all_eq_true.1 cStand t hm)⟩)
    cGoes
#print axioms validationHolds
end Go.Proofs.YtmpdkagfplajjaaGreatDoor
