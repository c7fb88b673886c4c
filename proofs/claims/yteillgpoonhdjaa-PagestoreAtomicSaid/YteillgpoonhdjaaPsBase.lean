/- The contexts in which the walks of this seat run; its types. -/
import Derived.Test.YteillgpoonhdjaaAbsW
import Derived.Test.YteillgpoonhdjaaPsTypes
set_option maxRecDepth 100000
namespace Go.Abs
open Go.Proofs

noncomputable def PC : Ctx := ⟨Try.prog, fun g => .val (.pointer (some ⟨g, 0, none⟩))⟩
@[simp] theorem PC_P : PC.P = Try.prog := rfl
def hint0 : Hint := ⟨fun _ => false, fun _ => false⟩
def hintB : Hint := ⟨fun _ => true, fun _ => true⟩
@[simp] theorem hint0_imm : hint0.imm = fun _ => false := rfl
@[simp] theorem hint0_own : hint0.own = fun _ => false := rfl
@[simp] theorem hintB_imm : hintB.imm = fun _ => true := rfl
@[simp] theorem hintB_own : hintB.own = fun _ => true := rfl
theorem follows : PC.P.follows .mixedOrders = true := by kernel_rfl
attribute [simp] Try.underlying3 Try.underlying4 Try.underlying5 Try.underlying9 Try.underlying22 Try.underlying24 Try.underlying27 Try.underlying32 Try.underlying34 Try.underlying44 Try.underlying47 Try.underlying49 Try.underlying38

attribute [simp] Env.of

def rowsS (l : List ByteArray) : List (List AV) := l.map fun s => [.val (.string s)]
@[simp] theorem rowsS_len (l : List ByteArray) : (rowsS l).length = l.length := by simp [rowsS]
abbrev I (n : Int) : AV := .val (.int .i64 n)
abbrev B (b : Bool) : AV := .val (.bool b)
abbrev S (s : ByteArray) : AV := .val (.string s)

/-- what a slot of pages holds -/
def pagesOf : AV → Option (List ByteArray)
  | .val (.slice none 0 0) => some []
  | _ => none
def Pg (M : Mem) (pv : AV) (l : List ByteArray) : Prop := (pv = .val (.slice none 0 0) ∧ l = []) ∨ ∃ f, pv = .list 1 (rowsS l) (.fam f) ∧ M[f]? = some (.fam l.length 1)
theorem Pg.len {M : Mem} {pv : AV} {l : List ByteArray} (h : Pg M pv l) : lenAV Try.prog 22 pv = some l.length := by
  rcases h with ⟨rfl, rfl⟩ | ⟨f, rfl, _⟩ <;> simp [lenAV]

end Go.Abs
