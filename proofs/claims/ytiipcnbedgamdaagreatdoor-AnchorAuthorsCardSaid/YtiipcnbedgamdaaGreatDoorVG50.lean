/- Closed facts of the row (AyY5). -/
import Derived.JoinedOf
import Derived.KernelRfl
import Derived.Test.YtiipcnbedgamdaaGreatDoorRows
set_option maxRecDepth 1000000
set_option linter.unusedVariables false
namespace Go.Proofs.YtiipcnbedgamdaaGreatDoor
open Go
theorem j26 : (fun (P : Program) (f : FuncId) (fn : Func) (s : ChangeSpec) (c : OpenClaim) => ((c.lifted == P.liftsFinal) : Bool)) Tryz.prog 3 Tryz.f3 Rows.anchorAuthorsSpec Rows.anchorAuthorsRow = true := by kernel_rfl
theorem j27 : (fun (P : Program) (f : FuncId) (fn : Func) (s : ChangeSpec) (c : OpenClaim) => ((P.make == some c.make) : Bool)) Tryz.prog 3 Tryz.f3 Rows.anchorAuthorsSpec Rows.anchorAuthorsRow = true := by kernel_rfl
theorem j31 : (fun (P : Program) (f : FuncId) (fn : Func) (s : ChangeSpec) (c : OpenClaim) => (c.veiledFits P fn.params.toList (fn.params.toList ++ s.plain.varTypes P ++ fn.resultTypes.toList) : Bool)) Tryz.prog 3 Tryz.f3 Rows.anchorAuthorsSpec Rows.anchorAuthorsRow = true := by kernel_rfl
end Go.Proofs.YtiipcnbedgamdaaGreatDoor
