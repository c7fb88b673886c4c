/- A part of the proof. -/
import Derived.Test.YtjmjekcaifkboaaGreatDoorQG41
import Derived.Test.YtjmjekcaifkboaaGreatDoorQG07
import Derived.Test.YtjmjekcaifkboaaGreatDoorQG08
import Derived.Test.YtjmjekcaifkboaaGreatDoorQG42
set_option linter.all false
set_option maxRecDepth 1000000
namespace Go.Proofs.YtjmjekcaifkboaaGreatDoor
open Go Go.Abs
def j09:(Rows.traceNeverLostRow.inPlace==Tryz.prog.inPlace 3)=true:=by rw[B8o];exact Z2h _
def j10:(Rows.traceNeverLostRow.unfollowed==Tryz.prog.unfollowed 3)=true:=by rw[D4H];rfl
def j11:(Rows.traceNeverLostRow.recurses==Tryz.prog.recurses 3)=true:=by rw[D8G];rfl
def j12:(Rows.traceNeverLostRow.named==Tryz.prog.varsNamed 3)=true:=by rw[D4S];exact Z2h _
def C3b:joinedFacts Tryz.prog 3 Tryz.f3 Rows.traceNeverLostSpec Rows.traceNeverLostRow=true:=by simp only[joinedFacts,Z0h];exact⟨⟨⟨⟨⟨⟨⟨⟨⟨⟨⟨⟨⟨⟨⟨⟨⟨⟨⟨⟨⟨⟨⟨⟨⟨⟨⟨⟨⟨⟨⟨j00,j01⟩,j02⟩,j03⟩,j04⟩,j05⟩,j06⟩,j07⟩,j08⟩,j09⟩,j10⟩,j11⟩,j12⟩,j13⟩,j14⟩,j15⟩,j16⟩,j17⟩,j18⟩,j19⟩,j20⟩,j21⟩,j22⟩,j23⟩,j24⟩,j25⟩,j26⟩,j27⟩,j28⟩,j29⟩,j30⟩,j31⟩
def C3i:Rows.TraceNeverLostSaid:=
 OpenClaim.holds_of_wide 3 Tryz.f3 rfl rfl rfl rfl rfl rfl rfl ⟨rfl,rfl,rfl,rfl,rfl⟩ rfl rfl rfl rfl rfl (by as_aux_lemma=>kernel_rfl) Tryz.func3 C3b
  (Z1C (by as_aux_lemma=>kernel_rfl)) (by unfold Func.isWrapper;first|(rw[Z0c (by decide+kernel)];kernel_rfl)|(rw[Z0d (by decide+kernel)];exact⟨rfl,rfl⟩))
  (λos started H enc _=>Go.Abs.C2t os started H enc)
end Go.Proofs.YtjmjekcaifkboaaGreatDoor
