/- The texts TrY7, TrY8: what each proves stands at its head. -/
import Derived.SevenTiedAt
import Derived.KernelRfl
import Derived.Test.YtlihfpfgogncbaaGreatDoorCards
section
/- Closed facts of the card. -/
set_option maxRecDepth 1000000
namespace Go.Proofs.YtlihfpfgogncbaaGreatDoor
open Go
theorem cWf : Rows.traceFormatRow.wfByText (OpenSpec.ofChange Rows.traceFormatSpec) = true := by kernel_rfl
theorem cMain : Tryz.prog.mainIs = some (true, ("f6d8f9f1aecdc0840d69e34856450b978567df995a54cc8a6b0d42a259fdd40c" : String).toList) := by kernel_rfl
theorem cFn : Tryz.prog.funcNamed "pandect/pandectlaw43.TraceFormat" = some 3 := by kernel_rfl
theorem cStand : ([28].all fun u => !Tryz.prog.wantsStandIn u) = true := by kernel_rfl
theorem cGoes : false = Rows.traceFormatRow.goesBy Tryz.prog := by kernel_rfl
end Go.Proofs.YtlihfpfgogncbaaGreatDoor
end
section
/- A closed fact of the card: the program looks at values' types. -/
set_option maxRecDepth 1000000
namespace Go.Proofs.YtlihfpfgogncbaaGreatDoor
open Go
theorem cLooks : false = Tryz.prog.looks [] := by kernel_rfl
end Go.Proofs.YtlihfpfgogncbaaGreatDoor
end
