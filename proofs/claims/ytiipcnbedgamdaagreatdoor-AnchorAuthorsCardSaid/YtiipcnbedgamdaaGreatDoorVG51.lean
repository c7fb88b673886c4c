/- AnchorAuthors: the row. -/
import Derived.Test.YtiipcnbedgamdaaGreatDoorVG46
import Derived.Test.YtiipcnbedgamdaaGreatDoorVG48
import Derived.Test.YtiipcnbedgamdaaGreatDoorVG49
import Derived.Test.YtiipcnbedgamdaaGreatDoorVG50
set_option maxRecDepth 1000000
namespace Go.Proofs.YtiipcnbedgamdaaGreatDoor
open Go Go.Abs
theorem j09 : (Rows.anchorAuthorsRow.inPlace == Tryz.prog.inPlace 3) = true := by rw [inPlace3]; exact beq_self_eq_true _
theorem j10 : (Rows.anchorAuthorsRow.unfollowed == Tryz.prog.unfollowed 3) = true := by rw [unf3]; rfl
theorem j11 : (Rows.anchorAuthorsRow.recurses == Tryz.prog.recurses 3) = true := by rw [rec3]; rfl
theorem j12 : (Rows.anchorAuthorsRow.named == Tryz.prog.varsNamed 3) = true := by rw [vars3]; exact beq_self_eq_true _
theorem joined3 : joinedFacts Tryz.prog 3 Tryz.f3 Rows.anchorAuthorsSpec Rows.anchorAuthorsRow = true := by
  simp only [joinedFacts, Bool.and_eq_true]
  exact ⟨⟨⟨⟨⟨⟨⟨⟨⟨⟨⟨⟨⟨⟨⟨⟨⟨⟨⟨⟨⟨⟨⟨⟨⟨⟨⟨⟨⟨⟨⟨j00, j01⟩, j02⟩, j03⟩, j04⟩, j05⟩, j06⟩, j07⟩, j08⟩, j09⟩, j10⟩, j11⟩, j12⟩, j13⟩, j14⟩, j15⟩, j16⟩, j17⟩, j18⟩, j19⟩, j20⟩, j21⟩, j22⟩, j23⟩, j24⟩, j25⟩, j26⟩, j27⟩, j28⟩, j29⟩, j30⟩, j31⟩
theorem authorsRow : Rows.AnchorAuthorsSaid :=
  OpenClaim.holds_of_wide 3 Tryz.f3 rfl rfl rfl rfl rfl rfl rfl ⟨rfl, rfl, rfl, rfl, rfl⟩ rfl rfl rfl rfl rfl (by as_aux_lemma => kernel_rfl) Tryz.func3 joined3
    (of_decide_eq_true (by as_aux_lemma => kernel_rfl)) (by unfold Func.isWrapper; first | (rw [if_pos (by decide +kernel)]; kernel_rfl) | (rw [if_neg (by decide +kernel)]; exact ⟨rfl, rfl⟩))
    (fun os started H enc _ => Go.Abs.lifted3 os started H enc)
end Go.Proofs.YtiipcnbedgamdaaGreatDoor
