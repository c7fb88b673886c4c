/- A closed fact of the card: the program looks at values' types. -/
import Derived.SevenTiedAt
import Derived.KernelRfl
import Derived.Test.YtmpdkagfplajjaaGreatDoorCards
set_option maxRecDepth 1000000
namespace Go.Proofs.YtmpdkagfplajjaaGreatDoor
open Go
theorem cLooks : true = Tryz.prog.looks [] := by kernel_rfl
end Go.Proofs.YtmpdkagfplajjaaGreatDoor
