/- TraceFormat: the row and the tied card. -/
import Derived.Test.YtlihfpfgogncbaaGreatDoorG50
import Derived.Test.YtlihfpfgogncbaaGreatDoorG51
import Derived.SevenTiedAt
import Derived.Test.YtlihfpfgogncbaaGreatDoorCards
import Derived.Test.YtlihfpfgogncbaaGreatDoorTie
set_option maxRecDepth 1000000
namespace Go.Proofs.YtlihfpfgogncbaaGreatDoor
open Go Go.Abs
theorem formatHolds : Rows.TraceFormatCardSaid :=
  Claim7.holds_tied_plain_at .later [] [.data, .data, .data, .data, .data, .widerDeep, .funcs, .pinned] true (true, "f6d8f9f1aecdc0840d69e34856450b978567df995a54cc8a6b0d42a259fdd40c") false
    formatRow (fun _ h => by cases h) cWf (fun _ h => by cases h) traceFormat_row_tie rfl ⟨rfl, rfl⟩ cMain rfl
    (fun f fn hf hfn => by
      obtain rfl : f = 3 := Option.some.inj (cFn.symm.trans hf) |>.symm
      obtain rfl : fn = Tryz.f3 := (Option.some.inj (Tryz.func3.symm.trans hfn)).symm
      exact ⟨cLooks, fun j t ht => by
        rw [Tryz.params3] at ht
        have hm : t ∈ [28] := by simpa using Array.mem_of_getElem? ht
        exact (show Tryz.prog.wantsStandIn t = false by simpa using List.all_eq_true.1 cStand t hm)⟩)
    cGoes
#print axioms formatHolds
end Go.Proofs.YtlihfpfgogncbaaGreatDoor
