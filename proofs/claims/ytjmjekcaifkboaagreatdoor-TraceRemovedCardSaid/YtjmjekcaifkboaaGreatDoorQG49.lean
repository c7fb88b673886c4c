/- A part of the proof. -/
import Derived.Test.YtjmjekcaifkboaaGreatDoorQG47
import Derived.Test.YtjmjekcaifkboaaGreatDoorQG07
import Derived.Test.YtjmjekcaifkboaaGreatDoorQG08
import Derived.Test.YtjmjekcaifkboaaGreatDoorQG48
set_option linter.all false
set_option maxRecDepth 1000000
namespace Go.Proofs.YtjmjekcaifkboaaGreatDoor.Em
open Go Go.Abs Go.Abs.Em
def j09:(Rows.traceRemovedRow.inPlace==Tryz.prog.inPlace 4)=true:=by rw[Em.B8o];exact Z2h _
def j10:(Rows.traceRemovedRow.unfollowed==Tryz.prog.unfollowed 4)=true:=by rw[Em.D4H];rfl
def j11:(Rows.traceRemovedRow.recurses==Tryz.prog.recurses 4)=true:=by rw[Em.D8G];rfl
def j12:(Rows.traceRemovedRow.named==Tryz.prog.varsNamed 4)=true:=by rw[Em.D4S];exact Z2h _
def C3b:joinedFacts Tryz.prog 4 Tryz.f4 Rows.traceRemovedSpec Rows.traceRemovedRow=true:=by simp only[joinedFacts,Z0h];exact⟨⟨⟨⟨⟨⟨⟨⟨⟨⟨⟨⟨⟨⟨⟨⟨⟨⟨⟨⟨⟨⟨⟨⟨⟨⟨⟨⟨⟨⟨⟨j00,j01⟩,j02⟩,j03⟩,j04⟩,j05⟩,j06⟩,j07⟩,j08⟩,j09⟩,j10⟩,j11⟩,j12⟩,j13⟩,j14⟩,j15⟩,j16⟩,j17⟩,j18⟩,j19⟩,j20⟩,j21⟩,j22⟩,j23⟩,j24⟩,j25⟩,j26⟩,j27⟩,j28⟩,j29⟩,j30⟩,j31⟩
def C7E:Rows.TraceRemovedSaid:=
 OpenClaim.holds_of_wide 4 Tryz.f4 rfl rfl rfl rfl rfl rfl rfl ⟨rfl,rfl,rfl,rfl,rfl⟩ rfl rfl rfl rfl rfl (by as_aux_lemma=>kernel_rfl) Tryz.func4 C3b
  (Z1C (by as_aux_lemma=>kernel_rfl)) (by unfold Func.isWrapper;first|(rw[Z0c (by decide+kernel)];kernel_rfl)|(rw[Z0d (by decide+kernel)];exact⟨rfl,rfl⟩))
  (λos started H enc _=>Go.Abs.Em.C2t os started H enc)
end Go.Proofs.YtjmjekcaifkboaaGreatDoor.Em
