/- A part of the proof. -/
import Derived.Test.YtmpdkagfplajjaaGreatDoorHG46
import Derived.Test.YtmpdkagfplajjaaGreatDoorHG09
import Derived.Test.YtmpdkagfplajjaaGreatDoorHG10
import Derived.Test.YtmpdkagfplajjaaGreatDoorHG47
set_option linter.all false
set_option maxRecDepth 1000000
namespace Go.Proofs.YtmpdkagfplajjaaGreatDoor
open Go Go.Abs
def j09:(Rows.codifyCitationsRow.inPlace==Tryz.prog.inPlace 9)=true:=by rw[D4b];exact Z2V _
def j10:(Rows.codifyCitationsRow.unfollowed==Tryz.prog.unfollowed 9)=true:=by rw[E3m];rfl
def j11:(Rows.codifyCitationsRow.recurses==Tryz.prog.recurses 9)=true:=by rw[E7W];rfl
def j12:(Rows.codifyCitationsRow.named==Tryz.prog.varsNamed 9)=true:=by rw[E4a];exact Z2V _
def D8U:joinedFacts Tryz.prog 9 Tryz.f9 Rows.codifyCitationsSpec Rows.codifyCitationsRow=true:=by simp only[joinedFacts,Z0f];exact⟨⟨⟨⟨⟨⟨⟨⟨⟨⟨⟨⟨⟨⟨⟨⟨⟨⟨⟨⟨⟨⟨⟨⟨⟨⟨⟨⟨⟨⟨⟨j00,j01⟩,j02⟩,j03⟩,j04⟩,j05⟩,j06⟩,j07⟩,j08⟩,j09⟩,j10⟩,j11⟩,j12⟩,j13⟩,j14⟩,j15⟩,j16⟩,j17⟩,j18⟩,j19⟩,j20⟩,j21⟩,j22⟩,j23⟩,j24⟩,j25⟩,j26⟩,j27⟩,j28⟩,j29⟩,j30⟩,j31⟩
def citationsRow:Rows.CodifyCitationsSaid:=
 OpenClaim.holds_of_wide 9 Tryz.f9 rfl rfl rfl rfl rfl rfl rfl ⟨rfl,rfl,rfl,rfl,rfl⟩ rfl rfl rfl rfl rfl (by as_aux_lemma=>kernel_rfl) Tryz.func9 D8U
  (Z1M (by as_aux_lemma=>kernel_rfl)) (by unfold Func.isWrapper;first|(rw[Z0e (by decide+kernel)];kernel_rfl)|(rw[Z0d (by decide+kernel)];exact⟨rfl,rfl⟩))
  (λos started H enc _=>Go.Abs.D8n os started H enc)
end Go.Proofs.YtmpdkagfplajjaaGreatDoor
