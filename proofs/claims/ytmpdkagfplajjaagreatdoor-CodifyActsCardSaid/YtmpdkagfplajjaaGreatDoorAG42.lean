/- A part of the proof. -/
import Derived.Test.YtmpdkagfplajjaaGreatDoorAG01
import Derived.JoinedOf
import Derived.KernelRfl
import Derived.Test.YtmpdkagfplajjaaGreatDoorRows
set_option linter.all false
set_option maxRecDepth 1000000
namespace Go.Proofs.YtmpdkagfplajjaaGreatDoor
open Go
def j02:(λ(P:Program) (f:FuncId) (fn:Func) (s:ChangeSpec) (c:OpenClaim)=>(mapsRowed P:Bool)) Tryz.prog 5 Tryz.f5 Rows.codifyActsSpec Rows.codifyActsRow=true:=by kernel_rfl
def j24:(λ(P:Program) (f:FuncId) (fn:Func) (s:ChangeSpec) (c:OpenClaim)=>(P.stopsHeard:Bool)) Tryz.prog 5 Tryz.f5 Rows.codifyActsSpec Rows.codifyActsRow=true:=by kernel_rfl
def j25:(λ(P:Program) (f:FuncId) (fn:Func) (s:ChangeSpec) (c:OpenClaim)=>(P.mayEnter:Bool)) Tryz.prog 5 Tryz.f5 Rows.codifyActsSpec Rows.codifyActsRow=true:=by kernel_rfl
end Go.Proofs.YtmpdkagfplajjaaGreatDoor
