/- A part of the proof. -/
import Derived.Test.YtmpdkagfplajjaaGreatDoorAG21
set_option linter.all false
set_option maxRecDepth 1000000
open Go Go.Abs Go.Proofs K1
def D8X:B1M C0 Tryz.f10 (A4j yc0 C0 4000 0 (C1a 6 c10) t1 h1 n1 ws1)=true:=by kernel_rfl
