/- CodifyRewrites: the row. -/
import Derived.Test.YtmpdkagfplajjaaGreatDoorG37
import Derived.Test.YtmpdkagfplajjaaGreatDoorG40
import Derived.Test.YtmpdkagfplajjaaGreatDoorG41
import Derived.Test.YtmpdkagfplajjaaGreatDoorG42
import Derived.Test.YtmpdkagfplajjaaGreatDoorG43
set_option maxRecDepth 1000000
namespace Go.Proofs.YtmpdkagfplajjaaGreatDoor
open Go Go.Abs
theorem j09 : (Rows.codifyRewritesRow.inPlace == Tryz.prog.inPlace 4) = true := by rw [inPlace4]; exact beq_self_eq_true _
theorem j10 : (Rows.codifyRewritesRow.unfollowed == Tryz.prog.unfollowed 4) = true := by rw [unf4]; rfl
theorem j11 : (Rows.codifyRewritesRow.recurses == Tryz.prog.recurses 4) = true := by rw [rec4]; rfl
theorem j12 : (Rows.codifyRewritesRow.named == Tryz.prog.varsNamed 4) = true := by rw [vars4]; exact beq_self_eq_true _
theorem joined4 : joinedFacts Tryz.prog 4 Tryz.f4 Rows.codifyRewritesSpec Rows.codifyRewritesRow = true := by
  simp only [joinedFacts, Bool.and_eq_true]
  exact ⟨⟨⟨⟨⟨⟨⟨⟨⟨⟨⟨⟨⟨⟨⟨⟨⟨⟨⟨⟨⟨⟨⟨⟨⟨⟨⟨⟨⟨⟨⟨j00, j01⟩, j02⟩, j03⟩, j04⟩, j05⟩, j06⟩, j07⟩, j08⟩, j09⟩, j10⟩, j11⟩, j12⟩, j13⟩, j14⟩, j15⟩, j16⟩, j17⟩, j18⟩, j19⟩, j20⟩, j21⟩, j22⟩, j23⟩, j24⟩, j25⟩, j26⟩, j27⟩, j28⟩, j29⟩, j30⟩, j31⟩
theorem rewritesRow : Rows.CodifyRewritesSaid :=
  OpenClaim.holds_of_wide 4 Tryz.f4 rfl rfl rfl rfl rfl rfl rfl ⟨rfl, rfl, rfl, rfl, rfl⟩ rfl rfl rfl rfl rfl (by as_aux_lemma => kernel_rfl) Tryz.func4 joined4
    (of_decide_eq_true (by as_aux_lemma => kernel_rfl)) (by unfold Func.isWrapper; first | (rw [if_pos (by decide +kernel)]; kernel_rfl) | (rw [if_neg (by decide +kernel)]; exact ⟨rfl, rfl⟩))
    (fun os started H enc _ => Go.Abs.lifted4 os started H enc)
end Go.Proofs.YtmpdkagfplajjaaGreatDoor
