/- A part of the proof. -/
import Derived.Test.YtmpdkagfplajjaaGreatDoorAG08
set_option linter.all false
set_option maxRecDepth 1000000
namespace Go.Abs
open Go Go.Proofs Go.Proofs.YtmpdkagfplajjaaGreatDoor
def D1Q:Tryz.prog.inPlace 5=Rows.codifyActsRow.inPlace:=by unfold Program.inPlace;rw[B8y];kernel_rfl
def D9o:Tryz.prog.unfollowed 5=true:=by unfold Program.unfollowed;rw[B8y];kernel_rfl
def E2M:Tryz.prog.recurses 5=true:=by unfold Program.recurses;rw[D9o];rfl
def D8z:Tryz.prog.varsNamed 5=Rows.codifyActsRow.named:=by unfold Program.varsNamed;rw[B8y];kernel_rfl
end Go.Abs
