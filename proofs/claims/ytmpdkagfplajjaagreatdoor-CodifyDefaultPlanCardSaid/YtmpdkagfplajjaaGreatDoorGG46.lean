/- A part of the proof. -/
import Derived.Test.YtmpdkagfplajjaaGreatDoorGG44
import Derived.Test.YtmpdkagfplajjaaGreatDoorGG09
import Derived.Test.YtmpdkagfplajjaaGreatDoorGG10
import Derived.Test.YtmpdkagfplajjaaGreatDoorGG45
set_option linter.all false
set_option maxRecDepth 1000000
namespace Go.Proofs.YtmpdkagfplajjaaGreatDoor
open Go Go.Abs
def j09:(Rows.codifyDefaultPlanRow.inPlace==Tryz.prog.inPlace 8)=true:=by rw[D4Q];exact Z2V _
def j10:(Rows.codifyDefaultPlanRow.unfollowed==Tryz.prog.unfollowed 8)=true:=by rw[E4G];rfl
def j11:(Rows.codifyDefaultPlanRow.recurses==Tryz.prog.recurses 8)=true:=by rw[E7E];rfl
def j12:(Rows.codifyDefaultPlanRow.named==Tryz.prog.varsNamed 8)=true:=by rw[E3v];exact Z2V _
def D8F:joinedFacts Tryz.prog 8 Tryz.f8 Rows.codifyDefaultPlanSpec Rows.codifyDefaultPlanRow=true:=by simp only[joinedFacts,Z0g];exact⟨⟨⟨⟨⟨⟨⟨⟨⟨⟨⟨⟨⟨⟨⟨⟨⟨⟨⟨⟨⟨⟨⟨⟨⟨⟨⟨⟨⟨⟨⟨j00,j01⟩,j02⟩,j03⟩,j04⟩,j05⟩,j06⟩,j07⟩,j08⟩,j09⟩,j10⟩,j11⟩,j12⟩,j13⟩,j14⟩,j15⟩,j16⟩,j17⟩,j18⟩,j19⟩,j20⟩,j21⟩,j22⟩,j23⟩,j24⟩,j25⟩,j26⟩,j27⟩,j28⟩,j29⟩,j30⟩,j31⟩
def defaultPlanRow:Rows.CodifyDefaultPlanSaid:=
 OpenClaim.holds_of_wide 8 Tryz.f8 rfl rfl rfl rfl rfl rfl rfl ⟨rfl,rfl,rfl,rfl,rfl⟩ rfl rfl rfl rfl rfl (by as_aux_lemma=>kernel_rfl) Tryz.func8 D8F
  (Z2e (by as_aux_lemma=>kernel_rfl)) (by unfold Func.isWrapper;first|(rw[Z0d (by decide+kernel)];kernel_rfl)|(rw[Z0c (by decide+kernel)];exact⟨rfl,rfl⟩))
  (λos started H enc _=>Go.Abs.D8k os started H enc)
end Go.Proofs.YtmpdkagfplajjaaGreatDoor
