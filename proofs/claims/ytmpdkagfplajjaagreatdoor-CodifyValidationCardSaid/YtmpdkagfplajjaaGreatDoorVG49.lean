/- Closed facts of the card. -/
import Derived.SevenTiedAt
import Derived.KernelRfl
import Derived.Test.YtmpdkagfplajjaaGreatDoorCards
set_option maxRecDepth 1000000
namespace Go.Proofs.YtmpdkagfplajjaaGreatDoor
open Go
theorem cWf : Rows.codifyValidationRow.wfByText (OpenSpec.ofChange Rows.codifyValidationSpec) = true := by kernel_rfl
theorem cMain : Tryz.prog.mainIs = some (true, ("2386ac59eca4601797d5f3a0793bc1c5e007c8d368edfa11eb76113b4379a9ad" : String).toList) := by kernel_rfl
theorem cFn : Tryz.prog.funcNamed "pandect/pandectlaw46.CodifyValidation" = some 3 := by kernel_rfl
theorem cStand : ([27, 28].all fun u => !Tryz.prog.wantsStandIn u) = true := by kernel_rfl
theorem cGoes : false = Rows.codifyValidationRow.goesBy Tryz.prog := by kernel_rfl
end Go.Proofs.YtmpdkagfplajjaaGreatDoor
