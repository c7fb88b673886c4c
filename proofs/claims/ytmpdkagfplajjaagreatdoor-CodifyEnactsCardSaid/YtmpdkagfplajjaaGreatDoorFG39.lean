/- A part of the proof. -/
import Derived.Test.YtmpdkagfplajjaaGreatDoorFG24
set_option linter.all false
set_option maxRecDepth 1000000
open Go Go.Abs Go.Proofs K1
def E2E:A4u yc0 C0 4000 0 (C8A 6 c10) t00 .nil 0 []=some (.normal,t1,h1,n1,ws1):=by kernel_rfl
