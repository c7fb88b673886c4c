/- The row's cells that hang on what function 4 can reach. -/
import Derived.Test.YtmpdkagfplajjaaGreatDoorG39
set_option maxRecDepth 1000000
namespace Go.Abs
open Go Go.Proofs Go.Proofs.YtmpdkagfplajjaaGreatDoor
theorem inPlace4 : Tryz.prog.inPlace 4 = Rows.codifyRewritesRow.inPlace := by
  unfold Program.inPlace
  rw [closure4]
  kernel_rfl
theorem unf4 : Tryz.prog.unfollowed 4 = true := by
  unfold Program.unfollowed
  rw [closure4]
  kernel_rfl
theorem rec4 : Tryz.prog.recurses 4 = true := by
  unfold Program.recurses
  rw [unf4]
  rfl
theorem vars4 : Tryz.prog.varsNamed 4 = Rows.codifyRewritesRow.named := by
  unfold Program.varsNamed
  rw [closure4]
  kernel_rfl
end Go.Abs
