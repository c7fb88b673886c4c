/- The texts ShN, ShD: what each proves stands at its head. -/
import Derived.Test.YtmpdkagfplajjaaGreatDoorVG13
import Derived.Test.YtmpdkagfplajjaaGreatDoorVG12
section
/- Shapes of trees: a shaped row has a depth; words, units. -/
set_option linter.unusedVariables false
namespace Go.Abs


/-- shaped, with at most n steps into types that hold themselves -/
def ShapedN (E : ShEnv) : Nat → Sh → List AV → Prop
  | _, .bool, r => ∃ b, r = [.val (.bool b)]
  | _, .int k, r => ∃ n, r = [.val (.int k n)] ∧ (Lit.int k n).wf = true
  | _, .str, r => ∃ s : ByteArray, r = [.val (.string s)] ∧ s.size ≤ maxLen
  | n, .slice sz e, r => ∃ rows, r = [.list sz rows .no] ∧ rows.length ≤ maxLen ∧ ∀ x ∈ rows, ShapedN E n e x
  | _, .parts [], r => r = []
  | n, .parts (s :: l), r => ∃ a b, r = a ++ b ∧ ShapedN E n s a ∧ ShapedN E n (.parts l) b
  | 0, .ref _, _ => False
  | n + 1, .ref i, r => ShapedN E n (E.sh i) r
termination_by n s => (n, SizeOf.sizeOf s)
section
variable {E : ShEnv} {n : Nat}
theorem shN_bool {r : List AV} : ShapedN E n .bool r ↔ ∃ b, r = [.val (.bool b)] := by cases n <;> rw [ShapedN]
theorem shN_int {k : IntKind} {r : List AV} : ShapedN E n (.int k) r ↔ ∃ i, r = [.val (.int k i)] ∧ (Lit.int k i).wf = true := by cases n <;> rw [ShapedN]
theorem shN_str {r : List AV} : ShapedN E n .str r ↔ ∃ s : ByteArray, r = [.val (.string s)] ∧ s.size ≤ maxLen := by cases n <;> rw [ShapedN]
theorem shN_slice {sz : Nat} {e : Sh} {r : List AV} : ShapedN E n (.slice sz e) r ↔ ∃ rows, r = [.list sz rows .no] ∧ rows.length ≤ maxLen ∧ ∀ x ∈ rows, ShapedN E n e x := by cases n <;> rw [ShapedN]
theorem shN_nil {r : List AV} : ShapedN E n (.parts []) r ↔ r = [] := by cases n <;> rw [ShapedN]
theorem shN_cons {s : Sh} {l : List Sh} {r : List AV} : ShapedN E n (.parts (s :: l)) r ↔ ∃ a b, r = a ++ b ∧ ShapedN E n s a ∧ ShapedN E n (.parts l) b := by cases n <;> rw [ShapedN]
theorem shN_ref {i : Nat} {r : List AV} : ShapedN E (n + 1) (.ref i) r ↔ ShapedN E n (E.sh i) r := by rw [ShapedN]
end
theorem ShapedN.mono {E : ShEnv} : ∀ (n : Nat) (s : Sh) (r : List AV) (m : Nat), n ≤ m → ShapedN E n s r → ShapedN E m s r
  | n, .bool, r, m, h, k => shN_bool.2 (shN_bool.1 k)
  | n, .int _, r, m, h, k => shN_int.2 (shN_int.1 k)
  | n, .str, r, m, h, k => shN_str.2 (shN_str.1 k)
  | n, .slice sz e, r, m, h, k => by
    obtain ⟨rows, h1, h2, h3⟩ := shN_slice.1 k
    exact shN_slice.2 ⟨rows, h1, h2, fun x hx => ShapedN.mono n e x m h (h3 x hx)⟩
  | n, .parts [], r, m, h, k => shN_nil.2 (shN_nil.1 k)
  | n, .parts (s :: l), r, m, h, k => by
    obtain ⟨a, b, h1, h2, h3⟩ := shN_cons.1 k
    exact shN_cons.2 ⟨a, b, h1, ShapedN.mono n s a m h h2, ShapedN.mono n (.parts l) b m h h3⟩
  | 0, .ref i, r, m, h, k => by simp [ShapedN] at k
  | n + 1, .ref i, r, m, h, k => by
    obtain ⟨m, rfl⟩ : ∃ m', m = m' + 1 := ⟨m - 1, by omega⟩
    exact shN_ref.2 (ShapedN.mono n (E.sh i) r m (by omega) (shN_ref.1 k))
termination_by n s => (n, SizeOf.sizeOf s)
theorem bound_all {α : Type} {p : Nat → α → Prop} (hm : ∀ n m x, n ≤ m → p n x → p m x) : ∀ l : List α, (∀ x ∈ l, ∃ n, p n x) → ∃ n, ∀ x ∈ l, p n x
  | [], _ => ⟨0, fun x h => by simp at h⟩
  | x :: l, h => by
    obtain ⟨n, hn⟩ := h x (by simp)
    obtain ⟨m, hm'⟩ := bound_all hm l fun y hy => h y (by simp [hy])
    exact ⟨max n m, fun y hy => by
      rcases List.mem_cons.1 hy with rfl | hy
      · exact hm _ _ _ (Nat.le_max_left ..) hn
      · exact hm _ _ _ (Nat.le_max_right ..) (hm' y hy)⟩
theorem shaped_deep {E : ShEnv} {s : Sh} {r : List AV} (h : Shaped E s r) : ∃ n, ShapedN E n s r := by
  induction h with
  | bool b => exact ⟨0, shN_bool.2 ⟨b, rfl⟩⟩
  | int k n h => exact ⟨0, shN_int.2 ⟨n, rfl, h⟩⟩
  | str s h => exact ⟨0, shN_str.2 ⟨s, rfl, h⟩⟩
  | slice sz e rows hl h ih =>
    obtain ⟨n, hn⟩ := bound_all (fun n m x => ShapedN.mono n e x m) rows ih
    exact ⟨n, shN_slice.2 ⟨rows, rfl, hl, hn⟩⟩
  | nil => exact ⟨0, shN_nil.2 rfl⟩
  | cons s l a b h k ih1 ih2 =>
    obtain ⟨n, hn⟩ := ih1
    obtain ⟨m, hm⟩ := ih2
    exact ⟨max n m, shN_cons.2 ⟨a, b, rfl, ShapedN.mono _ _ _ _ (Nat.le_max_left ..) hn, ShapedN.mono _ _ _ _ (Nat.le_max_right ..) hm⟩⟩
  | ref i a h ih =>
    obtain ⟨n, hn⟩ := ih
    exact ⟨n + 1, shN_ref.2 hn⟩
/-- rows that are each the row of a datum -/
theorem rows_of {α : Type} {f : α → List AV} {Q : α → Prop} {p : List AV → Prop} (key : ∀ r, p r → ∃ x, r = f x ∧ Q x) : ∀ rows : List (List AV), (∀ r ∈ rows, p r) → ∃ l : List α, rows = l.map f ∧ ∀ x ∈ l, Q x
  | [], _ => ⟨[], rfl, fun _ h => by simp at h⟩
  | r :: rows, h => by
    obtain ⟨x, rfl, hx⟩ := key r (h r (by simp))
    obtain ⟨l, rfl, hl⟩ := rows_of key rows fun r hr => h r (by simp [hr])
    exact ⟨x :: l, rfl, fun y hy => (List.mem_cons.1 hy).elim (fun e => e ▸ hx) (hl y)⟩
end Go.Abs
end
section
/- Words and trees of units as plain data, and what shaped cells of their types are. -/
set_option linter.unusedVariables false
namespace Go.Abs

abbrev I (n : Int) : AV := .val (.int .i64 n)
abbrev B (b : Bool) : AV := .val (.bool b)
abbrev S (s : ByteArray) : AV := .val (.string s)
def inI (n : Int) : Prop := -9223372036854775808 ≤ n ∧ n ≤ 9223372036854775807

structure WordD where
  text : ByteArray
  act : Int
  item : Int
  at_ : Int
def WordD.row (w : WordD) : List AV := [S w.text, I w.act, I w.item, I w.at_]
def WordD.good (w : WordD) : Prop := w.text.size ≤ maxLen ∧ inI w.act ∧ inI w.item ∧ inI w.at_
def rowsW (l : List WordD) : List (List AV) := l.map WordD.row
@[simp] theorem rowsW_len (l : List WordD) : (rowsW l).length = l.length := by simp [rowsW]
@[simp] theorem rowsW_get {p : List WordD} {i : Nat} (h : i < (rowsW p).length) : (rowsW p)[i] = (p[i]'(by simpa using h)).row := by simp [rowsW]
theorem rowsW_drop {l : List WordD} {n : Nat} : (rowsW l).drop n = rowsW (l.drop n) := by simp [rowsW, List.map_drop]
theorem rowsW_take {l : List WordD} {n : Nat} : (rowsW l).take n = rowsW (l.take n) := by simp [rowsW, List.map_take]

structure IdD where
  act : Int
  item : Int
  n : Int
deriving DecidableEq
def IdD.row (x : IdD) : List AV := [I x.act, I x.item, I x.n]
def IdD.good (x : IdD) : Prop := inI x.act ∧ inI x.item ∧ inI x.n

inductive UnitD where
  | mk (id : IdD) (kind : Int) (label : ByteArray) (head words : List WordD) (kids : List UnitD)
def UnitD.id : UnitD → IdD | .mk i .. => i
def UnitD.kind : UnitD → Int | .mk _ k .. => k
def UnitD.label : UnitD → ByteArray | .mk _ _ l .. => l
def UnitD.head : UnitD → List WordD | .mk _ _ _ h .. => h
def UnitD.words : UnitD → List WordD | .mk _ _ _ _ w _ => w
def UnitD.kids : UnitD → List UnitD | .mk _ _ _ _ _ k => k
mutual
def UnitD.row : UnitD → List AV
  | .mk id kind label head words kids => [I id.act, I id.item, I id.n, I kind, S label, .list 4 (rowsW head) .no, .list 4 (rowsW words) .no, .list 8 (rowsU kids) .no]
def rowsU : List UnitD → List (List AV)
  | [] => []
  | u :: l => u.row :: rowsU l
end
theorem rowsU_map : ∀ l : List UnitD, rowsU l = l.map UnitD.row
  | [] => by simp [rowsU]
  | u :: l => by simp [rowsU, rowsU_map l]
@[simp] theorem rowsU_len (l : List UnitD) : (rowsU l).length = l.length := by simp [rowsU_map]
@[simp] theorem rowsU_get {p : List UnitD} {i : Nat} (h : i < (rowsU p).length) : (rowsU p)[i] = (p[i]'(by simpa using h)).row := by simp [rowsU_map]
theorem UnitD.row_eq (u : UnitD) : u.row = [I u.id.act, I u.id.item, I u.id.n, I u.kind, S u.label, .list 4 (rowsW u.head) .no, .list 4 (rowsW u.words) .no, .list 8 (rowsU u.kids) .no] := by
  obtain ⟨id, k, l, h, w, ks⟩ := u; rw [UnitD.row]; rfl
@[simp] theorem UnitD.row_len (u : UnitD) : u.row.length = 8 := by rw [UnitD.row_eq]; rfl
@[simp] theorem UnitD.row_take (u : UnitD) : List.take 8 u.row = u.row := List.take_of_length_le (by simp)
mutual
def UnitD.good : UnitD → Prop
  | .mk id kind label head words kids => id.good ∧ inI kind ∧ label.size ≤ maxLen ∧ head.length ≤ maxLen ∧ (∀ w ∈ head, w.good) ∧ words.length ≤ maxLen ∧ (∀ w ∈ words, w.good) ∧ kids.length ≤ maxLen ∧ goodU kids
def goodU : List UnitD → Prop
  | [] => True
  | u :: l => u.good ∧ goodU l
end
theorem goodU_iff : ∀ {l : List UnitD}, goodU l ↔ ∀ u ∈ l, u.good
  | [] => by simp [goodU]
  | u :: l => by simp [goodU, goodU_iff (l := l)]
theorem UnitD.good_iff (u : UnitD) : u.good ↔ u.id.good ∧ inI u.kind ∧ u.label.size ≤ maxLen ∧ u.head.length ≤ maxLen ∧ (∀ w ∈ u.head, w.good) ∧ u.words.length ≤ maxLen ∧ (∀ w ∈ u.words, w.good) ∧ u.kids.length ≤ maxLen ∧ ∀ k ∈ u.kids, k.good := by
  obtain ⟨id, k, l, h, w, ks⟩ := u; rw [UnitD.good, goodU_iff]; rfl
theorem UnitD.kid_lt {u k : UnitD} (h : k ∈ u.kids) : SizeOf.sizeOf k < SizeOf.sizeOf u := by
  obtain ⟨id, a, l, hd, w, ks⟩ := u
  have := List.sizeOf_lt_of_mem (show k ∈ ks from h)
  simp only [UnitD.mk.sizeOf_spec]
  omega

/-! ### shapes -/
def shInt : Sh := .int .i64
def shId : Sh := .parts [shInt, shInt, shInt]
def shWord : Sh := .parts [.str, shId]
def shUnit : Sh := .parts [shId, shInt, .str, .slice 4 shWord, .slice 4 shWord, .slice 8 (.ref 0)]
section
variable {E : ShEnv} {n : Nat} {r : List AV}
theorem sn_int (h : ShapedN E n shInt r) : ∃ i, r = [I i] ∧ inI i := by
  obtain ⟨i, rfl, hw⟩ := shN_int.1 h
  refine ⟨i, rfl, ?_⟩
  have hw' : (decide (IntKind.i64.min ≤ i) && decide (i ≤ IntKind.i64.max)) = true := hw
  simp only [Bool.and_eq_true, decide_eq_true_eq] at hw'
  exact hw'
theorem sn_str (h : ShapedN E n .str r) : ∃ s, r = [S s] ∧ s.size ≤ maxLen := shN_str.1 h
theorem sn_cons {s : Sh} {l : List Sh} (h : ShapedN E n (.parts (s :: l)) r) : ∃ a b, r = a ++ b ∧ ShapedN E n s a ∧ ShapedN E n (.parts l) b := shN_cons.1 h
theorem sn_nil (h : ShapedN E n (.parts []) r) : r = [] := shN_nil.1 h
theorem sn_id (h : ShapedN E n shId r) : ∃ x : IdD, r = x.row ∧ x.good := by
  obtain ⟨a, b, rfl, h1, h2⟩ := sn_cons h
  obtain ⟨c, d, rfl, h3, h4⟩ := sn_cons h2
  obtain ⟨e, f, rfl, h5, h6⟩ := sn_cons h4
  obtain rfl := sn_nil h6
  obtain ⟨x, rfl, hx⟩ := sn_int h1
  obtain ⟨y, rfl, hy⟩ := sn_int h3
  obtain ⟨z, rfl, hz⟩ := sn_int h5
  exact ⟨⟨x, y, z⟩, rfl, hx, hy, hz⟩
theorem sn_word (h : ShapedN E n shWord r) : ∃ w : WordD, r = w.row ∧ w.good := by
  obtain ⟨a, b, rfl, h1, h2⟩ := sn_cons h
  obtain ⟨c, d, rfl, h3, h4⟩ := sn_cons h2
  obtain rfl := sn_nil h4
  obtain ⟨s, rfl, hs⟩ := sn_str h1
  obtain ⟨x, rfl, hx⟩ := sn_id h3
  exact ⟨⟨s, x.act, x.item, x.n⟩, rfl, hs, hx⟩
theorem sn_slice {α : Type} {f : α → List AV} {Q : α → Prop} {sz : Nat} {e : Sh} (key : ∀ r, ShapedN E n e r → ∃ x, r = f x ∧ Q x) (h : ShapedN E n (.slice sz e) r) : ∃ l : List α, r = [.list sz (l.map f) .no] ∧ l.length ≤ maxLen ∧ ∀ x ∈ l, Q x := by
  obtain ⟨rows, rfl, hn, hr⟩ := shN_slice.1 h
  obtain ⟨l, rfl, hl⟩ := rows_of key rows hr
  exact ⟨l, rfl, by simpa using hn, hl⟩
theorem sn_unit (hE : E.sh 0 = shUnit) : ∀ (n : Nat) (r : List AV), ShapedN E n (.ref 0) r → ∃ u : UnitD, r = u.row ∧ u.good
  | 0, r, h => by rw [ShapedN] at h; exact h.elim
  | n + 1, r, h => by
    have h := shN_ref.1 h
    rw [hE] at h
    obtain ⟨a, b, rfl, h1, h2⟩ := sn_cons h
    obtain ⟨a3, b3, rfl, h3, h4⟩ := sn_cons h2
    obtain ⟨a5, b5, rfl, h5, h6⟩ := sn_cons h4
    obtain ⟨a7, b7, rfl, h7, h8⟩ := sn_cons h6
    obtain ⟨a9, b9, rfl, h9, h10⟩ := sn_cons h8
    obtain ⟨a11, b11, rfl, h11, h12⟩ := sn_cons h10
    obtain rfl := sn_nil h12
    obtain ⟨x, rfl, hx⟩ := sn_id h1
    obtain ⟨k, rfl, hk⟩ := sn_int h3
    obtain ⟨l, rfl, hl⟩ := sn_str h5
    obtain ⟨hd, rfl, hh1, hh2⟩ := sn_slice (fun r => sn_word) h7
    obtain ⟨ws, rfl, hw1, hw2⟩ := sn_slice (fun r => sn_word) h9
    obtain ⟨ks, rfl, hk1, hk2⟩ := sn_slice (fun r => sn_unit hE n r) h11
    refine ⟨.mk x k l hd ws ks, ?_, ?_⟩
    · rw [UnitD.row, rowsU_map]; rfl
    · rw [UnitD.good, goodU_iff]; exact ⟨hx, hk, hl, hh1, hh2, hw1, hw2, hk1, hk2⟩
end
end Go.Abs
end
