/- A part of the proof. -/
import Derived.Test.YtlihfpfgogncbaaGreatDoorG36
import Derived.Test.YtlihfpfgogncbaaGreatDoorG21
set_option maxRecDepth 1000000
open Go Go.Abs Go.Proofs K1
namespace K1
theorem okAll : Tryz.prog.funcs.toList.all okFunc = true := by kernel_rfl
end K1
