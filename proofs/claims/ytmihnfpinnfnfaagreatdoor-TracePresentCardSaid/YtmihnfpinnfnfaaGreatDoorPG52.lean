/- A part of the proof. -/
import Derived.Test.YtmihnfpinnfnfaaGreatDoorPG50
import Derived.Test.YtmihnfpinnfnfaaGreatDoorPG08
import Derived.Test.YtmihnfpinnfnfaaGreatDoorPG09
import Derived.Test.YtmihnfpinnfnfaaGreatDoorPG51
set_option linter.all false
set_option maxRecDepth 1000000
namespace Go.Proofs.YtmihnfpinnfnfaaGreatDoor
open Go Go.Abs
def j09:(Rows.tracePresentRow.inPlace==Tryz.prog.inPlace 3)=true:=by rw[D1X];exact Z2D _
def j10:(Rows.tracePresentRow.unfollowed==Tryz.prog.unfollowed 3)=true:=by rw[E0S];rfl
def j11:(Rows.tracePresentRow.recurses==Tryz.prog.recurses 3)=true:=by rw[E3T];rfl
def j12:(Rows.tracePresentRow.named==Tryz.prog.varsNamed 3)=true:=by rw[E1b];exact Z2D _
def D5G:joinedFacts Tryz.prog 3 Tryz.f3 Rows.tracePresentSpec Rows.tracePresentRow=true:=by simp only[joinedFacts,Z0h];exact⟨⟨⟨⟨⟨⟨⟨⟨⟨⟨⟨⟨⟨⟨⟨⟨⟨⟨⟨⟨⟨⟨⟨⟨⟨⟨⟨⟨⟨⟨⟨j00,j01⟩,j02⟩,j03⟩,j04⟩,j05⟩,j06⟩,j07⟩,j08⟩,j09⟩,j10⟩,j11⟩,j12⟩,j13⟩,j14⟩,j15⟩,j16⟩,j17⟩,j18⟩,j19⟩,j20⟩,j21⟩,j22⟩,j23⟩,j24⟩,j25⟩,j26⟩,j27⟩,j28⟩,j29⟩,j30⟩,j31⟩
def presentRow:Rows.TracePresentSaid:=
 OpenClaim.holds_of_wide 3 Tryz.f3 rfl rfl rfl rfl rfl rfl rfl ⟨rfl,rfl,rfl,rfl,rfl⟩ rfl rfl rfl rfl rfl (by as_aux_lemma=>kernel_rfl) Tryz.func3 D5G
  (Z1X (by as_aux_lemma=>kernel_rfl)) (by unfold Func.isWrapper;first|(rw[Z0c (by decide+kernel)];kernel_rfl)|(rw[Z0d (by decide+kernel)];exact⟨rfl,rfl⟩))
  (λos started H enc _=>Go.Abs.D4E os started H enc)
end Go.Proofs.YtmihnfpinnfnfaaGreatDoor
