/- A part of the proof. -/
import Derived.Test.YtmpdkagfplajjaaGreatDoorEG44
import Derived.Test.YtmpdkagfplajjaaGreatDoorEG09
import Derived.Test.YtmpdkagfplajjaaGreatDoorEG10
import Derived.Test.YtmpdkagfplajjaaGreatDoorEG45
set_option linter.all false
set_option maxRecDepth 1000000
namespace Go.Proofs.YtmpdkagfplajjaaGreatDoor
open Go Go.Abs
def j09:(Rows.codifyDestinationsRow.inPlace==Tryz.prog.inPlace 7)=true:=by rw[D3O];exact Z2M _
def j10:(Rows.codifyDestinationsRow.unfollowed==Tryz.prog.unfollowed 7)=true:=by rw[E3s];rfl
def j11:(Rows.codifyDestinationsRow.recurses==Tryz.prog.recurses 7)=true:=by rw[E5C];rfl
def j12:(Rows.codifyDestinationsRow.named==Tryz.prog.varsNamed 7)=true:=by rw[E2o];exact Z2M _
def D7p:joinedFacts Tryz.prog 7 Tryz.f7 Rows.codifyDestinationsSpec Rows.codifyDestinationsRow=true:=by simp only[joinedFacts,Z0g];exact⟨⟨⟨⟨⟨⟨⟨⟨⟨⟨⟨⟨⟨⟨⟨⟨⟨⟨⟨⟨⟨⟨⟨⟨⟨⟨⟨⟨⟨⟨⟨j00,j01⟩,j02⟩,j03⟩,j04⟩,j05⟩,j06⟩,j07⟩,j08⟩,j09⟩,j10⟩,j11⟩,j12⟩,j13⟩,j14⟩,j15⟩,j16⟩,j17⟩,j18⟩,j19⟩,j20⟩,j21⟩,j22⟩,j23⟩,j24⟩,j25⟩,j26⟩,j27⟩,j28⟩,j29⟩,j30⟩,j31⟩
def destinationsRow:Rows.CodifyDestinationsSaid:=
 OpenClaim.holds_of_wide 7 Tryz.f7 rfl rfl rfl rfl rfl rfl rfl ⟨rfl,rfl,rfl,rfl,rfl⟩ rfl rfl rfl rfl rfl (by as_aux_lemma=>kernel_rfl) Tryz.func7 D7p
  (Z1L (by as_aux_lemma=>kernel_rfl)) (by unfold Func.isWrapper;first|(rw[Z0d (by decide+kernel)];kernel_rfl)|(rw[Z0e (by decide+kernel)];exact⟨rfl,rfl⟩))
  (λos started H enc _=>Go.Abs.D5B os started H enc)
end Go.Proofs.YtmpdkagfplajjaaGreatDoor
