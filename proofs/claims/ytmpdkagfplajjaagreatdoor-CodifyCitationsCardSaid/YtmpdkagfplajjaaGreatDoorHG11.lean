/- A part of the proof. -/
import Derived.Test.YtmpdkagfplajjaaGreatDoorHG01
import Derived.SevenTiedAt
import Derived.KernelRfl
import Derived.Test.YtmpdkagfplajjaaGreatDoorCards
set_option linter.all false
set_option maxRecDepth 1000000
namespace Go.Proofs.YtmpdkagfplajjaaGreatDoor
open Go
def E0W:true=Tryz.prog.looks []:=by kernel_rfl
end Go.Proofs.YtmpdkagfplajjaaGreatDoor
