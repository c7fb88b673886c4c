/- A part of the proof. -/
import Derived.Test.YtjmjekcaifkboaaGreatDoorQG01
import Derived.SevenTiedAt
import Derived.KernelRfl
import Derived.Test.YtjmjekcaifkboaaGreatDoorCards
set_option linter.all false
set_option maxRecDepth 1000000
namespace Go.Proofs.YtjmjekcaifkboaaGreatDoor.Em
open Go
def cWf:Rows.traceRemovedRow.wfByText (OpenSpec.ofChange Rows.traceRemovedSpec)=true:=by kernel_rfl
def D4y:Tryz.prog.mainIs=some (true,("ff68ece0ab4e4e511974beed0bdc3153e8d1bbefd44a606f0024c115732a6f24":String).toList):=by kernel_rfl
def cFn:Tryz.prog.funcNamed "pandect/pandectlaw43.TraceRemoved"=some 4:=by kernel_rfl
def C6m:([28,3,9,22].all λu=>!Tryz.prog.wantsStandIn u)=true:=by kernel_rfl
def D3X:false=Rows.traceRemovedRow.goesBy Tryz.prog:=by kernel_rfl
end Go.Proofs.YtjmjekcaifkboaaGreatDoor.Em
