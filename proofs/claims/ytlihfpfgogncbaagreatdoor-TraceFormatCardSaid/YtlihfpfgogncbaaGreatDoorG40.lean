/- A part of the proof. -/
import Derived.Test.YtlihfpfgogncbaaGreatDoorG36
import Derived.Test.YtlihfpfgogncbaaGreatDoorG39
set_option maxRecDepth 1000000
open Go Go.Abs Go.Proofs K1
theorem awakeAll : yTrue C0 Y0 4000 200 4 = true := by kernel_rfl
