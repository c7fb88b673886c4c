/- A part of the proof. -/
import Derived.Test.YtmpdkagfplajjaaGreatDoorAG39
import Derived.Test.YtmpdkagfplajjaaGreatDoorAG40
import Derived.Test.YtmpdkagfplajjaaGreatDoorAG41
import Derived.Test.YtmpdkagfplajjaaGreatDoorAG42
import Derived.Test.YtmpdkagfplajjaaGreatDoorAG43
set_option linter.all false
set_option maxRecDepth 1000000
namespace Go.Proofs.YtmpdkagfplajjaaGreatDoor
open Go Go.Abs
def j09:(Rows.codifyActsRow.inPlace==Tryz.prog.inPlace 5)=true:=by rw[D1Q];exact Z3d _
def j10:(Rows.codifyActsRow.unfollowed==Tryz.prog.unfollowed 5)=true:=by rw[D9o];rfl
def j11:(Rows.codifyActsRow.recurses==Tryz.prog.recurses 5)=true:=by rw[E2M];rfl
def j12:(Rows.codifyActsRow.named==Tryz.prog.varsNamed 5)=true:=by rw[D8z];exact Z3d _
def D3A:joinedFacts Tryz.prog 5 Tryz.f5 Rows.codifyActsSpec Rows.codifyActsRow=true:=by simp only[joinedFacts,Z0f];exact⟨⟨⟨⟨⟨⟨⟨⟨⟨⟨⟨⟨⟨⟨⟨⟨⟨⟨⟨⟨⟨⟨⟨⟨⟨⟨⟨⟨⟨⟨⟨j00,j01⟩,j02⟩,j03⟩,j04⟩,j05⟩,j06⟩,j07⟩,j08⟩,j09⟩,j10⟩,j11⟩,j12⟩,j13⟩,j14⟩,j15⟩,j16⟩,j17⟩,j18⟩,j19⟩,j20⟩,j21⟩,j22⟩,j23⟩,j24⟩,j25⟩,j26⟩,j27⟩,j28⟩,j29⟩,j30⟩,j31⟩
def actsRow:Rows.CodifyActsSaid:=
 OpenClaim.holds_of_wide 5 Tryz.f5 rfl rfl rfl rfl rfl rfl rfl ⟨rfl,rfl,rfl,rfl,rfl⟩ rfl rfl rfl rfl rfl (by as_aux_lemma=>kernel_rfl) Tryz.func5 D3A
  (Z1K (by as_aux_lemma=>kernel_rfl)) (by unfold Func.isWrapper;first|(rw[Z0d (by decide+kernel)];kernel_rfl)|(rw[Z0e (by decide+kernel)];exact⟨rfl,rfl⟩))
  (λos started H enc _=>Go.Abs.D4i os started H enc)
end Go.Proofs.YtmpdkagfplajjaaGreatDoor
