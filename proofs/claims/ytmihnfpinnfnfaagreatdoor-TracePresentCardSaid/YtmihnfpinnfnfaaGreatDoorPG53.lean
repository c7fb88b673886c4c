/- A part of the proof. -/
import Derived.Test.YtmihnfpinnfnfaaGreatDoorPG01
import Derived.SevenTiedAt
import Derived.KernelRfl
import Derived.Test.YtmihnfpinnfnfaaGreatDoorCards
set_option linter.all false
set_option maxRecDepth 1000000
namespace Go.Proofs.YtmihnfpinnfnfaaGreatDoor
open Go
def cWf:Rows.tracePresentRow.wfByText (OpenSpec.ofChange Rows.tracePresentSpec)=true:=by kernel_rfl
def E0L:Tryz.prog.mainIs=some (true,("7ed140a2b864ffeafcb0b891a9690a209787c14a3715aee5ea8ece22edf565c1":String).toList):=by kernel_rfl
def cFn:Tryz.prog.funcNamed "pandect/pandectlaw43.TracePresent"=some 3:=by kernel_rfl
def D6S:([23,3,9,24].all λu=>!Tryz.prog.wantsStandIn u)=true:=by kernel_rfl
def E0t:false=Rows.tracePresentRow.goesBy Tryz.prog:=by kernel_rfl
end Go.Proofs.YtmihnfpinnfnfaaGreatDoor
