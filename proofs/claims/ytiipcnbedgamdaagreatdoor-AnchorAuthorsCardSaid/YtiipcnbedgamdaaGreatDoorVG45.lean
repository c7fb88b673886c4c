/- The witness: a world in which the laid variables read as listed. -/
import Derived.Test.YtiipcnbedgamdaaGreatDoorVG36
import Derived.ProofKit
import Derived.LaidMore
import Derived.LaidHandle
import Derived.Lay
set_option maxRecDepth 1000000
namespace Go.Abs
open Go Go.Proofs Go.Proofs.YtiipcnbedgamdaaGreatDoor Go.RowKit Go.ChangeShapes Go.WideShapes Go.ChangeAt
noncomputable def w0 (os : Os) : World := (World.doorLaid Tryz.prog 40 os).layVars Tryz.prog [("unicode/utf8.first", Rows.laid_unicode_utf8_first)]
theorem door_met (os : Os) (args : Array Value) : laidMetH Tryz.prog laidL ((w0 os).forCall (fun _ _ => 0) ⟨#[], args, []⟩).memory :=
  laidMetH_of_parts3 (fuel := 8) (laidMet_of_run' 8 (by kernel_rfl) (by kernel_rfl)) (by kernel_rfl) (by kernel_rfl)
end Go.Abs
