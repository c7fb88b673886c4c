/- The texts ElY8, EmY8. -/
import Derived.Test.YtjmjekcaifkboaaGreatDoorQG01
import Derived.SevenTiedAt
import Derived.KernelRfl
import Derived.Test.YtjmjekcaifkboaaGreatDoorCards
set_option linter.all false
section
set_option maxRecDepth 1000000
namespace Go.Proofs.YtjmjekcaifkboaaGreatDoor
open Go
def C8e:false=Tryz.prog.looks []:=by kernel_rfl
end Go.Proofs.YtjmjekcaifkboaaGreatDoor
end
section
set_option maxRecDepth 1000000
namespace Go.Proofs.YtjmjekcaifkboaaGreatDoor.Em
open Go
def C8e:false=Tryz.prog.looks []:=by kernel_rfl
end Go.Proofs.YtjmjekcaifkboaaGreatDoor.Em
end
