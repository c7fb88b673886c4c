/- A part of the proof. -/
import Derived.Test.YtmpdkagfplajjaaGreatDoorFG44
import Derived.Test.YtmpdkagfplajjaaGreatDoorFG09
import Derived.Test.YtmpdkagfplajjaaGreatDoorFG10
import Derived.Test.YtmpdkagfplajjaaGreatDoorFG45
set_option linter.all false
set_option maxRecDepth 1000000
namespace Go.Proofs.YtmpdkagfplajjaaGreatDoor
open Go Go.Abs
def j09:(Rows.codifyEnactsRow.inPlace==Tryz.prog.inPlace 6)=true:=by rw[D6i];exact Z2O _
def j10:(Rows.codifyEnactsRow.unfollowed==Tryz.prog.unfollowed 6)=true:=by rw[E2K];rfl
def j11:(Rows.codifyEnactsRow.recurses==Tryz.prog.recurses 6)=true:=by rw[E7Z];rfl
def j12:(Rows.codifyEnactsRow.named==Tryz.prog.varsNamed 6)=true:=by rw[E2l];exact Z2O _
def D7i:joinedFacts Tryz.prog 6 Tryz.f6 Rows.codifyEnactsSpec Rows.codifyEnactsRow=true:=by simp only[joinedFacts,Z0g];exact⟨⟨⟨⟨⟨⟨⟨⟨⟨⟨⟨⟨⟨⟨⟨⟨⟨⟨⟨⟨⟨⟨⟨⟨⟨⟨⟨⟨⟨⟨⟨j00,j01⟩,j02⟩,j03⟩,j04⟩,j05⟩,j06⟩,j07⟩,j08⟩,j09⟩,j10⟩,j11⟩,j12⟩,j13⟩,j14⟩,j15⟩,j16⟩,j17⟩,j18⟩,j19⟩,j20⟩,j21⟩,j22⟩,j23⟩,j24⟩,j25⟩,j26⟩,j27⟩,j28⟩,j29⟩,j30⟩,j31⟩
def enactsRow:Rows.CodifyEnactsSaid:=
 OpenClaim.holds_of_wide 6 Tryz.f6 rfl rfl rfl rfl rfl rfl rfl ⟨rfl,rfl,rfl,rfl,rfl⟩ rfl rfl rfl rfl rfl (by as_aux_lemma=>kernel_rfl) Tryz.func6 D7i
  (Z1R (by as_aux_lemma=>kernel_rfl)) (by unfold Func.isWrapper;first|(rw[Z0d (by decide+kernel)];kernel_rfl)|(rw[Z0e (by decide+kernel)];exact⟨rfl,rfl⟩))
  (λos started H enc _=>Go.Abs.D8r os started H enc)
end Go.Proofs.YtmpdkagfplajjaaGreatDoor
