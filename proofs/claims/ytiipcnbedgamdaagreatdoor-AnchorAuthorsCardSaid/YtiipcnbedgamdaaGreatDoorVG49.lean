/- The texts AyY3, AyY4: what each proves stands at its head. -/
import Derived.JoinedOf
import Derived.KernelRfl
import Derived.Test.YtiipcnbedgamdaaGreatDoorRows
section
/- Closed facts of the row (AyY3). -/
set_option maxRecDepth 1000000
set_option linter.unusedVariables false
namespace Go.Proofs.YtiipcnbedgamdaaGreatDoor
open Go
theorem j00 : (fun (P : Program) (f : FuncId) (fn : Func) (s : ChangeSpec) (c : OpenClaim) => (c.wf (OpenSpec.ofChange s) : Bool)) Tryz.prog 3 Tryz.f3 Rows.anchorAuthorsSpec Rows.anchorAuthorsRow = true := by kernel_rfl
theorem j03 : (fun (P : Program) (f : FuncId) (fn : Func) (s : ChangeSpec) (c : OpenClaim) => (fn.params.all (P.readableRec ·) : Bool)) Tryz.prog 3 Tryz.f3 Rows.anchorAuthorsSpec Rows.anchorAuthorsRow = true := by kernel_rfl
theorem j04 : (fun (P : Program) (f : FuncId) (fn : Func) (s : ChangeSpec) (c : OpenClaim) => (namedTie P c.named s.vars : Bool)) Tryz.prog 3 Tryz.f3 Rows.anchorAuthorsSpec Rows.anchorAuthorsRow = true := by kernel_rfl
theorem j05 : (fun (P : Program) (f : FuncId) (fn : Func) (s : ChangeSpec) (c : OpenClaim) => ((c.stops == []) : Bool)) Tryz.prog 3 Tryz.f3 Rows.anchorAuthorsSpec Rows.anchorAuthorsRow = true := by kernel_rfl
theorem j06 : (fun (P : Program) (f : FuncId) (fn : Func) (s : ChangeSpec) (c : OpenClaim) => ((P.stops == []) : Bool)) Tryz.prog 3 Tryz.f3 Rows.anchorAuthorsSpec Rows.anchorAuthorsRow = true := by kernel_rfl
theorem j07 : (fun (P : Program) (f : FuncId) (fn : Func) (s : ChangeSpec) (c : OpenClaim) => ((c.knobs == []) : Bool)) Tryz.prog 3 Tryz.f3 Rows.anchorAuthorsSpec Rows.anchorAuthorsRow = true := by kernel_rfl
theorem j08 : (fun (P : Program) (f : FuncId) (fn : Func) (s : ChangeSpec) (c : OpenClaim) => ((P.stopKnobs == []) : Bool)) Tryz.prog 3 Tryz.f3 Rows.anchorAuthorsSpec Rows.anchorAuthorsRow = true := by kernel_rfl
theorem j13 : (fun (P : Program) (f : FuncId) (fn : Func) (s : ChangeSpec) (c : OpenClaim) => ((c.maps == (fn.params.toList ++ s.plain.varTypes P).any (P.mapsRec ·)) : Bool)) Tryz.prog 3 Tryz.f3 Rows.anchorAuthorsSpec Rows.anchorAuthorsRow = true := by kernel_rfl
theorem j14 : (fun (P : Program) (f : FuncId) (fn : Func) (s : ChangeSpec) (c : OpenClaim) => ((c.ifaces == (fn.params.toList ++ s.plain.varTypes P).any (P.ifacesRec ·)) : Bool)) Tryz.prog 3 Tryz.f3 Rows.anchorAuthorsSpec Rows.anchorAuthorsRow = true := by kernel_rfl
theorem j15 : (fun (P : Program) (f : FuncId) (fn : Func) (s : ChangeSpec) (c : OpenClaim) => ((c.mapsOut == P.mapsAmong fn.resultTypes.toList) : Bool)) Tryz.prog 3 Tryz.f3 Rows.anchorAuthorsSpec Rows.anchorAuthorsRow = true := by kernel_rfl
theorem j16 : (fun (P : Program) (f : FuncId) (fn : Func) (s : ChangeSpec) (c : OpenClaim) => ((c.loops == (fn.params.toList ++ s.plain.varTypes P).any (P.loopsFrom ·)) : Bool)) Tryz.prog 3 Tryz.f3 Rows.anchorAuthorsSpec Rows.anchorAuthorsRow = true := by kernel_rfl
theorem j17 : (fun (P : Program) (f : FuncId) (fn : Func) (s : ChangeSpec) (c : OpenClaim) => ((c.wideKeys == (fn.params.toList ++ s.plain.varTypes P ++ fn.resultTypes.toList).any (P.wideKeysFrom ·)) : Bool)) Tryz.prog 3 Tryz.f3 Rows.anchorAuthorsSpec Rows.anchorAuthorsRow = true := by kernel_rfl
theorem j18 : (fun (P : Program) (f : FuncId) (fn : Func) (s : ChangeSpec) (c : OpenClaim) => (s.vars.all (P.varReadable ·) : Bool)) Tryz.prog 3 Tryz.f3 Rows.anchorAuthorsSpec Rows.anchorAuthorsRow = true := by kernel_rfl
theorem j19 : (fun (P : Program) (f : FuncId) (fn : Func) (s : ChangeSpec) (c : OpenClaim) => (fn.resultTypes.all (fun t => P.readableRec t && decide (t < P.types.size)) : Bool)) Tryz.prog 3 Tryz.f3 Rows.anchorAuthorsSpec Rows.anchorAuthorsRow = true := by kernel_rfl
theorem j20 : (fun (P : Program) (f : FuncId) (fn : Func) (s : ChangeSpec) (c : OpenClaim) => ((c.ifacesOut == fn.resultTypes.toList.any (P.ifacesRec ·)) : Bool)) Tryz.prog 3 Tryz.f3 Rows.anchorAuthorsSpec Rows.anchorAuthorsRow = true := by kernel_rfl
theorem j21 : (fun (P : Program) (f : FuncId) (fn : Func) (s : ChangeSpec) (c : OpenClaim) => ((c.loopsOut == fn.resultTypes.toList.any (P.loopsFrom ·)) : Bool)) Tryz.prog 3 Tryz.f3 Rows.anchorAuthorsSpec Rows.anchorAuthorsRow = true := by kernel_rfl
theorem j22 : (fun (P : Program) (f : FuncId) (fn : Func) (s : ChangeSpec) (c : OpenClaim) => ((c.plainKeys == P.plainKeys) : Bool)) Tryz.prog 3 Tryz.f3 Rows.anchorAuthorsSpec Rows.anchorAuthorsRow = true := by kernel_rfl
theorem j23 : (fun (P : Program) (f : FuncId) (fn : Func) (s : ChangeSpec) (c : OpenClaim) => (c.shortTexts.isNone : Bool)) Tryz.prog 3 Tryz.f3 Rows.anchorAuthorsSpec Rows.anchorAuthorsRow = true := by kernel_rfl
theorem j28 : (fun (P : Program) (f : FuncId) (fn : Func) (s : ChangeSpec) (c : OpenClaim) => ((c.kinds == (if c.domain.isEmpty then [] else fn.params.toList.map fun t => match P.underlying t with | some (.int k) => some k | _ => none)) : Bool)) Tryz.prog 3 Tryz.f3 Rows.anchorAuthorsSpec Rows.anchorAuthorsRow = true := by kernel_rfl
theorem j29 : (fun (P : Program) (f : FuncId) (fn : Func) (s : ChangeSpec) (c : OpenClaim) => ((c.pinned == c.pinnedBy) : Bool)) Tryz.prog 3 Tryz.f3 Rows.anchorAuthorsSpec Rows.anchorAuthorsRow = true := by kernel_rfl
theorem j30 : (fun (P : Program) (f : FuncId) (fn : Func) (s : ChangeSpec) (c : OpenClaim) => ((c.veiled == (fn.params.toList ++ s.plain.varTypes P ++ fn.resultTypes.toList).any (P.veiledRec ·)) : Bool)) Tryz.prog 3 Tryz.f3 Rows.anchorAuthorsSpec Rows.anchorAuthorsRow = true := by kernel_rfl
theorem j01 : (fun (P : Program) (f : FuncId) (fn : Func) (s : ChangeSpec) (c : OpenClaim) => (laidOutB P : Bool)) Tryz.prog 3 Tryz.f3 Rows.anchorAuthorsSpec Rows.anchorAuthorsRow = true := by kernel_rfl
end Go.Proofs.YtiipcnbedgamdaaGreatDoor
end
section
/- Closed facts of the row (AyY4). -/
set_option maxRecDepth 1000000
set_option linter.unusedVariables false
namespace Go.Proofs.YtiipcnbedgamdaaGreatDoor
open Go
theorem j02 : (fun (P : Program) (f : FuncId) (fn : Func) (s : ChangeSpec) (c : OpenClaim) => (mapsRowed P : Bool)) Tryz.prog 3 Tryz.f3 Rows.anchorAuthorsSpec Rows.anchorAuthorsRow = true := by kernel_rfl
theorem j24 : (fun (P : Program) (f : FuncId) (fn : Func) (s : ChangeSpec) (c : OpenClaim) => (P.stopsHeard : Bool)) Tryz.prog 3 Tryz.f3 Rows.anchorAuthorsSpec Rows.anchorAuthorsRow = true := by kernel_rfl
theorem j25 : (fun (P : Program) (f : FuncId) (fn : Func) (s : ChangeSpec) (c : OpenClaim) => (P.mayEnter : Bool)) Tryz.prog 3 Tryz.f3 Rows.anchorAuthorsSpec Rows.anchorAuthorsRow = true := by kernel_rfl
end Go.Proofs.YtiipcnbedgamdaaGreatDoor
end
