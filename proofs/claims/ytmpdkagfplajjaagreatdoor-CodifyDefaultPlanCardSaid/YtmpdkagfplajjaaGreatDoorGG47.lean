/- A part of the proof. -/
import Derived.Test.YtmpdkagfplajjaaGreatDoorGG01
import Derived.SevenTiedAt
import Derived.KernelRfl
import Derived.Test.YtmpdkagfplajjaaGreatDoorCards
set_option linter.all false
set_option maxRecDepth 1000000
namespace Go.Proofs.YtmpdkagfplajjaaGreatDoor
open Go
def cWf:Rows.codifyDefaultPlanRow.wfByText (OpenSpec.ofChange Rows.codifyDefaultPlanSpec)=true:=by kernel_rfl
def E4k:Tryz.prog.mainIs=some (true,("2386ac59eca4601797d5f3a0793bc1c5e007c8d368edfa11eb76113b4379a9ad":String).toList):=by kernel_rfl
def cFn:Tryz.prog.funcNamed "pandect/pandectlaw46.CodifyDefaultPlan"=some 8:=by kernel_rfl
def D9Q:([27,3].all λu=>!Tryz.prog.wantsStandIn u)=true:=by kernel_rfl
def E3N:false=Rows.codifyDefaultPlanRow.goesBy Tryz.prog:=by kernel_rfl
end Go.Proofs.YtmpdkagfplajjaaGreatDoor
