/- CodifyRewrites: the row and the tied card. -/
import Derived.Test.YtmpdkagfplajjaaGreatDoorG44
import Derived.Test.YtmpdkagfplajjaaGreatDoorG45
import Derived.Test.YtmpdkagfplajjaaGreatDoorG46
import Derived.SevenTiedAt
import Derived.Test.YtmpdkagfplajjaaGreatDoorCards
import Derived.Test.YtmpdkagfplajjaaGreatDoorTie
set_option maxRecDepth 1000000
namespace Go.Proofs.YtmpdkagfplajjaaGreatDoor
open Go Go.Abs
theorem rewritesHolds : Rows.CodifyRewritesCardSaid :=
  Claim7.holds_tied_plain_at .later [] [.data, .data, .data, .data, .sentinel, .sentinel, .data, .widerDeep, .funcs, .pinned] true (true, "2386ac59eca4601797d5f3a0793bc1c5e007c8d368edfa11eb76113b4379a9ad") true
    rewritesRow (fun _ h => by cases h) cWf (fun _ h => by cases h) codifyRewrites_row_tie rfl ⟨rfl, rfl⟩ cMain rfl
    (fun f fn hf hfn => by
      obtain rfl : f = 4 := Option.some.inj (cFn.symm.trans hf) |>.symm
      obtain rfl : fn = Tryz.f4 := (Option.some.inj (Tryz.func4.symm.trans hfn)).symm
      exact ⟨cLooks, fun j t ht => by
        rw [Tryz.params4] at ht
        have hm : t ∈ [37, 38, 39] := by simpa using Array.mem_of_getElem? ht
        exact (show Tryz.prog.wantsStandIn t = false by simpa using List.all_eq_true.1 cStand t hm)⟩)
    cGoes
#print axioms rewritesHolds
end Go.Proofs.YtmpdkagfplajjaaGreatDoor
