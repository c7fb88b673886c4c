/- A part of the proof. -/
import Derived.Test.YtmpdkagfplajjaaGreatDoorVG37
set_option maxRecDepth 1000000
open Go Go.Abs Go.Proofs K1
theorem part2 : endsTrue C0 Tryz.f10 (yCode yc0 C0 4000 0 (postC 6 c10) t1 h1 n1 ws1) = true := by kernel_rfl
