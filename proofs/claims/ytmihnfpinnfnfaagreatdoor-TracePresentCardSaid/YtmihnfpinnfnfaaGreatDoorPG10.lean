/- A part of the proof. -/
import Derived.Test.YtmihnfpinnfnfaaGreatDoorPG01
import Derived.SevenTiedAt
import Derived.KernelRfl
import Derived.Test.YtmihnfpinnfnfaaGreatDoorCards
set_option linter.all false
set_option maxRecDepth 1000000
namespace Go.Proofs.YtmihnfpinnfnfaaGreatDoor
open Go
def D7X:false=Tryz.prog.looks []:=by kernel_rfl
end Go.Proofs.YtmihnfpinnfnfaaGreatDoor
