/- Closed facts of the row (CyY4). -/
import Derived.JoinedOf
import Derived.KernelRfl
import Derived.Test.YtmpdkagfplajjaaGreatDoorRows
set_option maxRecDepth 1000000
set_option linter.unusedVariables false
namespace Go.Proofs.YtmpdkagfplajjaaGreatDoor
open Go
theorem j02 : (fun (P : Program) (f : FuncId) (fn : Func) (s : ChangeSpec) (c : OpenClaim) => (mapsRowed P : Bool)) Tryz.prog 4 Tryz.f4 Rows.codifyRewritesSpec Rows.codifyRewritesRow = true := by kernel_rfl
theorem j24 : (fun (P : Program) (f : FuncId) (fn : Func) (s : ChangeSpec) (c : OpenClaim) => (P.stopsHeard : Bool)) Tryz.prog 4 Tryz.f4 Rows.codifyRewritesSpec Rows.codifyRewritesRow = true := by kernel_rfl
theorem j25 : (fun (P : Program) (f : FuncId) (fn : Func) (s : ChangeSpec) (c : OpenClaim) => (P.mayEnter : Bool)) Tryz.prog 4 Tryz.f4 Rows.codifyRewritesSpec Rows.codifyRewritesRow = true := by kernel_rfl
end Go.Proofs.YtmpdkagfplajjaaGreatDoor
