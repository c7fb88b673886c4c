/- A part of the proof. -/
import Derived.Test.YtjmjekcaifkboaaGreatDoorQG38
import Derived.ProofKit
import Derived.LaidMore
import Derived.LaidHandle
import Derived.Lay
set_option linter.all false
set_option maxRecDepth 1000000
namespace Go.Abs.Em
open Go Go.Proofs Go.Proofs.YtjmjekcaifkboaaGreatDoor Go.RowKit Go.ChangeShapes Go.WideShapes Go.ChangeAt
noncomputable def w0(os:Os):World:=(World.doorLaid Tryz.prog 55 os).layVars Tryz.prog [("unicode/utf8.first",Rows.laid_unicode_utf8_first)]
theorem B9D(os:Os)(args:Array Value):laidMetH Tryz.prog A5M ((w0 os).forCall (λ_ _=>0) ⟨#[],args,[]⟩).memory:=laidMetH_of_parts3 (fuel:=8) (laidMet_of_run' 8 (by kernel_rfl) (by kernel_rfl)) (by kernel_rfl) (by kernel_rfl)
end Go.Abs.Em
