/- A part of the proof. -/
import Derived.Test.YtmpdkagfplajjaaGreatDoorFG24
set_option linter.all false
set_option maxRecDepth 1000000
open Go Go.Abs Go.Proofs K1
def E4r:B1P C0 Tryz.f10 (A4u yc0 C0 4000 0 (C2i 6 c10) t1 h1 n1 ws1)=true:=by kernel_rfl
