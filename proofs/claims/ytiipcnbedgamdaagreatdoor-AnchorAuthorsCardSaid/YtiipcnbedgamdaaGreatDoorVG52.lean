/- Closed facts of the card. -/
import Derived.SevenTiedAt
import Derived.KernelRfl
import Derived.Test.YtiipcnbedgamdaaGreatDoorCards
set_option maxRecDepth 1000000
namespace Go.Proofs.YtiipcnbedgamdaaGreatDoor
open Go
theorem cWf : Rows.anchorAuthorsRow.wfByText (OpenSpec.ofChange Rows.anchorAuthorsSpec) = true := by kernel_rfl
theorem cMain : Tryz.prog.mainIs = some (true, ("ff0543f23797b61b04bdeda805f6acc27899155d8cc61d14b8f7a56b1f514c5f" : String).toList) := by kernel_rfl
theorem cFn : Tryz.prog.funcNamed "pandect/pandectlaw42.AnchorAuthors" = some 3 := by kernel_rfl
theorem cStand : ([22, 25, 26].all fun u => !Tryz.prog.wantsStandIn u) = true := by kernel_rfl
theorem cGoes : false = Rows.anchorAuthorsRow.goesBy Tryz.prog := by kernel_rfl
end Go.Proofs.YtiipcnbedgamdaaGreatDoor
