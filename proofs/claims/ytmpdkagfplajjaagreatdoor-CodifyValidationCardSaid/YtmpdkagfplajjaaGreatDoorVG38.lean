/- A part of the proof. -/
import Derived.Test.YtmpdkagfplajjaaGreatDoorVG37
set_option maxRecDepth 1000000
open Go Go.Abs Go.Proofs K1
theorem part1 : yCode yc0 C0 4000 0 (preC 6 c10) t00 .nil 0 [] = some (.normal, t1, h1, n1, ws1) := by kernel_rfl
