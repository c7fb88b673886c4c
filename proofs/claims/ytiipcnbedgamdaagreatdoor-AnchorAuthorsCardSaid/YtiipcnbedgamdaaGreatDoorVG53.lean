/- A closed fact of the card: the program looks at values' types. -/
import Derived.SevenTiedAt
import Derived.KernelRfl
import Derived.Test.YtiipcnbedgamdaaGreatDoorCards
set_option maxRecDepth 1000000
namespace Go.Proofs.YtiipcnbedgamdaaGreatDoor
open Go
theorem cLooks : false = Tryz.prog.looks [] := by kernel_rfl
end Go.Proofs.YtiipcnbedgamdaaGreatDoor
