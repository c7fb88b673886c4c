/- A part of the proof. -/
import Derived.Test.YtmpdkagfplajjaaGreatDoorHG01
import Derived.SevenTiedAt
import Derived.KernelRfl
import Derived.Test.YtmpdkagfplajjaaGreatDoorCards
set_option linter.all false
set_option maxRecDepth 1000000
namespace Go.Proofs.YtmpdkagfplajjaaGreatDoor
open Go
def cWf:Rows.codifyCitationsRow.wfByText (OpenSpec.ofChange Rows.codifyCitationsSpec)=true:=by kernel_rfl
def E4u:Tryz.prog.mainIs=some (true,("2386ac59eca4601797d5f3a0793bc1c5e007c8d368edfa11eb76113b4379a9ad":String).toList):=by kernel_rfl
def cFn:Tryz.prog.funcNamed "pandect/pandectlaw46.CodifyCitations"=some 9:=by kernel_rfl
def D9O:([27,28,44,3].all λu=>!Tryz.prog.wantsStandIn u)=true:=by kernel_rfl
def E3V:false=Rows.codifyCitationsRow.goesBy Tryz.prog:=by kernel_rfl
end Go.Proofs.YtmpdkagfplajjaaGreatDoor
