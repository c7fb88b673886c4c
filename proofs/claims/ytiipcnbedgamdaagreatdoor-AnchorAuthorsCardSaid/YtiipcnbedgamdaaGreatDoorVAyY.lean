/- AnchorAuthors: the row and the tied card. -/
import Derived.Test.YtiipcnbedgamdaaGreatDoorVG51
import Derived.Test.YtiipcnbedgamdaaGreatDoorVG52
import Derived.Test.YtiipcnbedgamdaaGreatDoorVG53
import Derived.SevenTiedAt
import Derived.Test.YtiipcnbedgamdaaGreatDoorCards
import Derived.Test.YtiipcnbedgamdaaGreatDoorTie
set_option maxRecDepth 1000000
namespace Go.Proofs.YtiipcnbedgamdaaGreatDoor
open Go Go.Abs
theorem authorsHolds : Rows.AnchorAuthorsCardSaid :=
  Claim7.holds_tied_plain_at .later [] [.data, .data, .widerDeep, .funcs, .pinned] true (true, "ff0543f23797b61b04bdeda805f6acc27899155d8cc61d14b8f7a56b1f514c5f") false
    authorsRow (fun _ h => by cases h) cWf (fun _ h => by cases h) anchorAuthors_row_tie rfl ⟨rfl, rfl⟩ cMain rfl
    (fun f fn hf hfn => by
      obtain rfl : f = 3 := Option.some.inj (cFn.symm.trans hf) |>.symm
      obtain rfl : fn = Tryz.f3 := (Option.some.inj (Tryz.func3.symm.trans hfn)).symm
      exact ⟨cLooks, fun j t ht => by
        rw [Tryz.params3] at ht
        have hm : t ∈ [22, 25, 26] := by simpa using Array.mem_of_getElem? ht
        exact (show Tryz.prog.wantsStandIn t = false by simpa using List.all_eq_true.1 cStand t hm)⟩)
    cGoes
#print axioms authorsHolds
end Go.Proofs.YtiipcnbedgamdaaGreatDoor
