/- A part of the proof. -/
import Derived.Test.YtjmjekcaifkboaaGreatDoorQG01
import Derived.JoinedOf
import Derived.KernelRfl
import Derived.Test.YtjmjekcaifkboaaGreatDoorRows
set_option linter.all false
set_option maxRecDepth 1000000
namespace Go.Proofs.YtjmjekcaifkboaaGreatDoor
open Go
def j26:(λ(P:Program) (f:FuncId) (fn:Func) (s:ChangeSpec) (c:OpenClaim)=>((c.lifted==P.liftsFinal):Bool)) Tryz.prog 3 Tryz.f3 Rows.traceNeverLostSpec Rows.traceNeverLostRow=true:=by kernel_rfl
def j27:(λ(P:Program) (f:FuncId) (fn:Func) (s:ChangeSpec) (c:OpenClaim)=>((P.make==some c.make):Bool)) Tryz.prog 3 Tryz.f3 Rows.traceNeverLostSpec Rows.traceNeverLostRow=true:=by kernel_rfl
def j31:(λ(P:Program) (f:FuncId) (fn:Func) (s:ChangeSpec) (c:OpenClaim)=>(c.veiledFits P fn.params.toList (fn.params.toList++s.plain.varTypes P++fn.resultTypes.toList):Bool)) Tryz.prog 3 Tryz.f3 Rows.traceNeverLostSpec Rows.traceNeverLostRow=true:=by kernel_rfl
end Go.Proofs.YtjmjekcaifkboaaGreatDoor
