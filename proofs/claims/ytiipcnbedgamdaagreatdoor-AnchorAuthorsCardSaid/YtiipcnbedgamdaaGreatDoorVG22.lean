/- The texts ShN, ShD, ShI: what each proves stands at its head. -/
import Derived.Test.YtiipcnbedgamdaaGreatDoorVG17
import Derived.Test.YtiipcnbedgamdaaGreatDoorVG16
section
/- Shapes of trees: a shaped row has a depth; words, units. -/
set_option linter.unusedVariables false
namespace Go.Abs


/-- shaped, with at most n steps into types that hold themselves -/
def ShapedN (E : ShEnv) : Nat → Sh → List AV → Prop
  | _, .bool, r => ∃ b, r = [.val (.bool b)]
  | _, .int k, r => ∃ n, r = [.val (.int k n)] ∧ (Lit.int k n).wf = true
  | _, .str, r => ∃ s : ByteArray, r = [.val (.string s)] ∧ s.size ≤ maxLen
  | n, .slice sz e, r => ∃ rows, r = [.list sz rows .no] ∧ rows.length ≤ maxLen ∧ ∀ x ∈ rows, ShapedN E n e x
  | _, .parts [], r => r = []
  | n, .parts (s :: l), r => ∃ a b, r = a ++ b ∧ ShapedN E n s a ∧ ShapedN E n (.parts l) b
  | 0, .ref _, _ => False
  | n + 1, .ref i, r => ShapedN E n (E.sh i) r
termination_by n s => (n, SizeOf.sizeOf s)
section
variable {E : ShEnv} {n : Nat}
theorem shN_bool {r : List AV} : ShapedN E n .bool r ↔ ∃ b, r = [.val (.bool b)] := by cases n <;> rw [ShapedN]
theorem shN_int {k : IntKind} {r : List AV} : ShapedN E n (.int k) r ↔ ∃ i, r = [.val (.int k i)] ∧ (Lit.int k i).wf = true := by cases n <;> rw [ShapedN]
theorem shN_str {r : List AV} : ShapedN E n .str r ↔ ∃ s : ByteArray, r = [.val (.string s)] ∧ s.size ≤ maxLen := by cases n <;> rw [ShapedN]
theorem shN_slice {sz : Nat} {e : Sh} {r : List AV} : ShapedN E n (.slice sz e) r ↔ ∃ rows, r = [.list sz rows .no] ∧ rows.length ≤ maxLen ∧ ∀ x ∈ rows, ShapedN E n e x := by cases n <;> rw [ShapedN]
theorem shN_nil {r : List AV} : ShapedN E n (.parts []) r ↔ r = [] := by cases n <;> rw [ShapedN]
theorem shN_cons {s : Sh} {l : List Sh} {r : List AV} : ShapedN E n (.parts (s :: l)) r ↔ ∃ a b, r = a ++ b ∧ ShapedN E n s a ∧ ShapedN E n (.parts l) b := by cases n <;> rw [ShapedN]
theorem shN_ref {i : Nat} {r : List AV} : ShapedN E (n + 1) (.ref i) r ↔ ShapedN E n (E.sh i) r := by rw [ShapedN]
end
theorem ShapedN.mono {E : ShEnv} : ∀ (n : Nat) (s : Sh) (r : List AV) (m : Nat), n ≤ m → ShapedN E n s r → ShapedN E m s r
  | n, .bool, r, m, h, k => shN_bool.2 (shN_bool.1 k)
  | n, .int _, r, m, h, k => shN_int.2 (shN_int.1 k)
  | n, .str, r, m, h, k => shN_str.2 (shN_str.1 k)
  | n, .slice sz e, r, m, h, k => by
    obtain ⟨rows, h1, h2, h3⟩ := shN_slice.1 k
    exact shN_slice.2 ⟨rows, h1, h2, fun x hx => ShapedN.mono n e x m h (h3 x hx)⟩
  | n, .parts [], r, m, h, k => shN_nil.2 (shN_nil.1 k)
  | n, .parts (s :: l), r, m, h, k => by
    obtain ⟨a, b, h1, h2, h3⟩ := shN_cons.1 k
    exact shN_cons.2 ⟨a, b, h1, ShapedN.mono n s a m h h2, ShapedN.mono n (.parts l) b m h h3⟩
  | 0, .ref i, r, m, h, k => by simp [ShapedN] at k
  | n + 1, .ref i, r, m, h, k => by
    obtain ⟨m, rfl⟩ : ∃ m', m = m' + 1 := ⟨m - 1, by omega⟩
    exact shN_ref.2 (ShapedN.mono n (E.sh i) r m (by omega) (shN_ref.1 k))
termination_by n s => (n, SizeOf.sizeOf s)
theorem bound_all {α : Type} {p : Nat → α → Prop} (hm : ∀ n m x, n ≤ m → p n x → p m x) : ∀ l : List α, (∀ x ∈ l, ∃ n, p n x) → ∃ n, ∀ x ∈ l, p n x
  | [], _ => ⟨0, fun x h => by simp at h⟩
  | x :: l, h => by
    obtain ⟨n, hn⟩ := h x (by simp)
    obtain ⟨m, hm'⟩ := bound_all hm l fun y hy => h y (by simp [hy])
    exact ⟨max n m, fun y hy => by
      rcases List.mem_cons.1 hy with rfl | hy
      · exact hm _ _ _ (Nat.le_max_left ..) hn
      · exact hm _ _ _ (Nat.le_max_right ..) (hm' y hy)⟩
theorem shaped_deep {E : ShEnv} {s : Sh} {r : List AV} (h : Shaped E s r) : ∃ n, ShapedN E n s r := by
  induction h with
  | bool b => exact ⟨0, shN_bool.2 ⟨b, rfl⟩⟩
  | int k n h => exact ⟨0, shN_int.2 ⟨n, rfl, h⟩⟩
  | str s h => exact ⟨0, shN_str.2 ⟨s, rfl, h⟩⟩
  | slice sz e rows hl h ih =>
    obtain ⟨n, hn⟩ := bound_all (fun n m x => ShapedN.mono n e x m) rows ih
    exact ⟨n, shN_slice.2 ⟨rows, rfl, hl, hn⟩⟩
  | nil => exact ⟨0, shN_nil.2 rfl⟩
  | cons s l a b h k ih1 ih2 =>
    obtain ⟨n, hn⟩ := ih1
    obtain ⟨m, hm⟩ := ih2
    exact ⟨max n m, shN_cons.2 ⟨a, b, rfl, ShapedN.mono _ _ _ _ (Nat.le_max_left ..) hn, ShapedN.mono _ _ _ _ (Nat.le_max_right ..) hm⟩⟩
  | ref i a h ih =>
    obtain ⟨n, hn⟩ := ih
    exact ⟨n + 1, shN_ref.2 hn⟩
/-- rows that are each the row of a datum -/
theorem rows_of {α : Type} {f : α → List AV} {Q : α → Prop} {p : List AV → Prop} (key : ∀ r, p r → ∃ x, r = f x ∧ Q x) : ∀ rows : List (List AV), (∀ r ∈ rows, p r) → ∃ l : List α, rows = l.map f ∧ ∀ x ∈ l, Q x
  | [], _ => ⟨[], rfl, fun _ h => by simp at h⟩
  | r :: rows, h => by
    obtain ⟨x, rfl, hx⟩ := key r (h r (by simp))
    obtain ⟨l, rfl, hl⟩ := rows_of key rows fun r hr => h r (by simp [hr])
    exact ⟨x :: l, rfl, fun y hy => (List.mem_cons.1 hy).elim (fun e => e ▸ hx) (hl y)⟩
end Go.Abs
end
section
/- Words and trees of units as plain data, and what shaped cells of their types are. -/
set_option linter.unusedVariables false
namespace Go.Abs

abbrev I (n : Int) : AV := .val (.int .i64 n)
abbrev B (b : Bool) : AV := .val (.bool b)
abbrev S (s : ByteArray) : AV := .val (.string s)
def inI (n : Int) : Prop := -9223372036854775808 ≤ n ∧ n ≤ 9223372036854775807

structure WordD where
  text : ByteArray
  act : Int
  item : Int
  at_ : Int
def WordD.row (w : WordD) : List AV := [S w.text, I w.act, I w.item, I w.at_]
def WordD.good (w : WordD) : Prop := w.text.size ≤ maxLen ∧ inI w.act ∧ inI w.item ∧ inI w.at_
def rowsW (l : List WordD) : List (List AV) := l.map WordD.row
@[simp] theorem rowsW_len (l : List WordD) : (rowsW l).length = l.length := by simp [rowsW]
@[simp] theorem rowsW_get {p : List WordD} {i : Nat} (h : i < (rowsW p).length) : (rowsW p)[i] = (p[i]'(by simpa using h)).row := by simp [rowsW]
theorem rowsW_drop {l : List WordD} {n : Nat} : (rowsW l).drop n = rowsW (l.drop n) := by simp [rowsW, List.map_drop]
theorem rowsW_take {l : List WordD} {n : Nat} : (rowsW l).take n = rowsW (l.take n) := by simp [rowsW, List.map_take]

structure IdD where
  act : Int
  item : Int
  n : Int
deriving DecidableEq
def IdD.row (x : IdD) : List AV := [I x.act, I x.item, I x.n]
def IdD.good (x : IdD) : Prop := inI x.act ∧ inI x.item ∧ inI x.n

inductive UnitD where
  | mk (id : IdD) (kind : Int) (label : ByteArray) (head words : List WordD) (kids : List UnitD)
def UnitD.id : UnitD → IdD | .mk i .. => i
def UnitD.kind : UnitD → Int | .mk _ k .. => k
def UnitD.label : UnitD → ByteArray | .mk _ _ l .. => l
def UnitD.head : UnitD → List WordD | .mk _ _ _ h .. => h
def UnitD.words : UnitD → List WordD | .mk _ _ _ _ w _ => w
def UnitD.kids : UnitD → List UnitD | .mk _ _ _ _ _ k => k
mutual
def UnitD.row : UnitD → List AV
  | .mk id kind label head words kids => [I id.act, I id.item, I id.n, I kind, S label, .list 4 (rowsW head) .no, .list 4 (rowsW words) .no, .list 8 (rowsU kids) .no]
def rowsU : List UnitD → List (List AV)
  | [] => []
  | u :: l => u.row :: rowsU l
end
theorem rowsU_map : ∀ l : List UnitD, rowsU l = l.map UnitD.row
  | [] => by simp [rowsU]
  | u :: l => by simp [rowsU, rowsU_map l]
@[simp] theorem rowsU_len (l : List UnitD) : (rowsU l).length = l.length := by simp [rowsU_map]
@[simp] theorem rowsU_get {p : List UnitD} {i : Nat} (h : i < (rowsU p).length) : (rowsU p)[i] = (p[i]'(by simpa using h)).row := by simp [rowsU_map]
theorem UnitD.row_eq (u : UnitD) : u.row = [I u.id.act, I u.id.item, I u.id.n, I u.kind, S u.label, .list 4 (rowsW u.head) .no, .list 4 (rowsW u.words) .no, .list 8 (rowsU u.kids) .no] := by
  obtain ⟨id, k, l, h, w, ks⟩ := u; rw [UnitD.row]; rfl
@[simp] theorem UnitD.row_len (u : UnitD) : u.row.length = 8 := by rw [UnitD.row_eq]; rfl
@[simp] theorem UnitD.row_take (u : UnitD) : List.take 8 u.row = u.row := List.take_of_length_le (by simp)
mutual
def UnitD.good : UnitD → Prop
  | .mk id kind label head words kids => id.good ∧ inI kind ∧ label.size ≤ maxLen ∧ head.length ≤ maxLen ∧ (∀ w ∈ head, w.good) ∧ words.length ≤ maxLen ∧ (∀ w ∈ words, w.good) ∧ kids.length ≤ maxLen ∧ goodU kids
def goodU : List UnitD → Prop
  | [] => True
  | u :: l => u.good ∧ goodU l
end
theorem goodU_iff : ∀ {l : List UnitD}, goodU l ↔ ∀ u ∈ l, u.good
  | [] => by simp [goodU]
  | u :: l => by simp [goodU, goodU_iff (l := l)]
theorem UnitD.good_iff (u : UnitD) : u.good ↔ u.id.good ∧ inI u.kind ∧ u.label.size ≤ maxLen ∧ u.head.length ≤ maxLen ∧ (∀ w ∈ u.head, w.good) ∧ u.words.length ≤ maxLen ∧ (∀ w ∈ u.words, w.good) ∧ u.kids.length ≤ maxLen ∧ ∀ k ∈ u.kids, k.good := by
  obtain ⟨id, k, l, h, w, ks⟩ := u; rw [UnitD.good, goodU_iff]; rfl
theorem UnitD.kid_lt {u k : UnitD} (h : k ∈ u.kids) : SizeOf.sizeOf k < SizeOf.sizeOf u := by
  obtain ⟨id, a, l, hd, w, ks⟩ := u
  have := List.sizeOf_lt_of_mem (show k ∈ ks from h)
  simp only [UnitD.mk.sizeOf_spec]
  omega

/-! ### shapes -/
def shInt : Sh := .int .i64
def shId : Sh := .parts [shInt, shInt, shInt]
def shWord : Sh := .parts [.str, shId]
def shUnit : Sh := .parts [shId, shInt, .str, .slice 4 shWord, .slice 4 shWord, .slice 8 (.ref 0)]
section
variable {E : ShEnv} {n : Nat} {r : List AV}
theorem sn_int (h : ShapedN E n shInt r) : ∃ i, r = [I i] ∧ inI i := by
  obtain ⟨i, rfl, hw⟩ := shN_int.1 h
  refine ⟨i, rfl, ?_⟩
  have hw' : (decide (IntKind.i64.min ≤ i) && decide (i ≤ IntKind.i64.max)) = true := hw
  simp only [Bool.and_eq_true, decide_eq_true_eq] at hw'
  exact hw'
theorem sn_str (h : ShapedN E n .str r) : ∃ s, r = [S s] ∧ s.size ≤ maxLen := shN_str.1 h
theorem sn_cons {s : Sh} {l : List Sh} (h : ShapedN E n (.parts (s :: l)) r) : ∃ a b, r = a ++ b ∧ ShapedN E n s a ∧ ShapedN E n (.parts l) b := shN_cons.1 h
theorem sn_nil (h : ShapedN E n (.parts []) r) : r = [] := shN_nil.1 h
theorem sn_id (h : ShapedN E n shId r) : ∃ x : IdD, r = x.row ∧ x.good := by
  obtain ⟨a, b, rfl, h1, h2⟩ := sn_cons h
  obtain ⟨c, d, rfl, h3, h4⟩ := sn_cons h2
  obtain ⟨e, f, rfl, h5, h6⟩ := sn_cons h4
  obtain rfl := sn_nil h6
  obtain ⟨x, rfl, hx⟩ := sn_int h1
  obtain ⟨y, rfl, hy⟩ := sn_int h3
  obtain ⟨z, rfl, hz⟩ := sn_int h5
  exact ⟨⟨x, y, z⟩, rfl, hx, hy, hz⟩
theorem sn_word (h : ShapedN E n shWord r) : ∃ w : WordD, r = w.row ∧ w.good := by
  obtain ⟨a, b, rfl, h1, h2⟩ := sn_cons h
  obtain ⟨c, d, rfl, h3, h4⟩ := sn_cons h2
  obtain rfl := sn_nil h4
  obtain ⟨s, rfl, hs⟩ := sn_str h1
  obtain ⟨x, rfl, hx⟩ := sn_id h3
  exact ⟨⟨s, x.act, x.item, x.n⟩, rfl, hs, hx⟩
theorem sn_slice {α : Type} {f : α → List AV} {Q : α → Prop} {sz : Nat} {e : Sh} (key : ∀ r, ShapedN E n e r → ∃ x, r = f x ∧ Q x) (h : ShapedN E n (.slice sz e) r) : ∃ l : List α, r = [.list sz (l.map f) .no] ∧ l.length ≤ maxLen ∧ ∀ x ∈ l, Q x := by
  obtain ⟨rows, rfl, hn, hr⟩ := shN_slice.1 h
  obtain ⟨l, rfl, hl⟩ := rows_of key rows hr
  exact ⟨l, rfl, by simpa using hn, hl⟩
theorem sn_unit (hE : E.sh 0 = shUnit) : ∀ (n : Nat) (r : List AV), ShapedN E n (.ref 0) r → ∃ u : UnitD, r = u.row ∧ u.good
  | 0, r, h => by rw [ShapedN] at h; exact h.elim
  | n + 1, r, h => by
    have h := shN_ref.1 h
    rw [hE] at h
    obtain ⟨a, b, rfl, h1, h2⟩ := sn_cons h
    obtain ⟨a3, b3, rfl, h3, h4⟩ := sn_cons h2
    obtain ⟨a5, b5, rfl, h5, h6⟩ := sn_cons h4
    obtain ⟨a7, b7, rfl, h7, h8⟩ := sn_cons h6
    obtain ⟨a9, b9, rfl, h9, h10⟩ := sn_cons h8
    obtain ⟨a11, b11, rfl, h11, h12⟩ := sn_cons h10
    obtain rfl := sn_nil h12
    obtain ⟨x, rfl, hx⟩ := sn_id h1
    obtain ⟨k, rfl, hk⟩ := sn_int h3
    obtain ⟨l, rfl, hl⟩ := sn_str h5
    obtain ⟨hd, rfl, hh1, hh2⟩ := sn_slice (fun r => sn_word) h7
    obtain ⟨ws, rfl, hw1, hw2⟩ := sn_slice (fun r => sn_word) h9
    obtain ⟨ks, rfl, hk1, hk2⟩ := sn_slice (fun r => sn_unit hE n r) h11
    refine ⟨.mk x k l hd ws ks, ?_, ?_⟩
    · rw [UnitD.row, rowsU_map]; rfl
    · rw [UnitD.good, goodU_iff]; exact ⟨hx, hk, hl, hh1, hh2, hw1, hw2, hk1, hk2⟩
end
end Go.Abs
end
section
/- Instructions, acts and gazettes as plain data. -/
set_option linter.unusedVariables false
set_option maxRecDepth 100000
namespace Go.Abs

structure StepD where
  k : Int
  lab : ByteArray
def StepD.row (s : StepD) : List AV := [I s.k, S s.lab]
def StepD.good (s : StepD) : Prop := inI s.k ∧ s.lab.size ≤ maxLen
def rowsP (l : List StepD) : List (List AV) := l.map StepD.row
@[simp] theorem rowsP_len (l : List StepD) : (rowsP l).length = l.length := by simp [rowsP]
@[simp] theorem rowsP_get {p : List StepD} {i : Nat} (h : i < (rowsP p).length) : (rowsP p)[i] = (p[i]'(by simpa using h)).row := by simp [rowsP]
def rowsS (l : List ByteArray) : List (List AV) := l.map fun s => [S s]
@[simp] theorem rowsS_len (l : List ByteArray) : (rowsS l).length = l.length := by simp [rowsS]
@[simp] theorem rowsS_get {p : List ByteArray} {i : Nat} (h : i < (rowsS p).length) : (rowsS p)[i] = [S (p[i]'(by simpa using h))] := by simp [rowsS]

structure StartD where
  k : Int
  day : Int
  ev : ByteArray
def StartD.row (s : StartD) : List AV := [I s.k, I s.day, S s.ev]
def StartD.good (s : StartD) : Prop := inI s.k ∧ inI s.day ∧ s.ev.size ≤ maxLen

/-- all of an instruction but the instructions inside -/
structure ItemH where
  kind : Int
  at_ : List StepD
  to : List StepD
  where_ : Int
  nth : Int
  unit : UnitD
  old : List ByteArray
  new : List ByteArray
  lab : ByteArray
  for_ : ByteArray
  start : StartD
  act : Int
  item : Int
  day : Int
  ev : ByteArray
def goodPath (l : List StepD) : Prop := l.length ≤ maxLen ∧ ∀ s ∈ l, s.good
def goodStrs (l : List ByteArray) : Prop := l.length ≤ maxLen ∧ ∀ s ∈ l, s.size ≤ maxLen
def ItemH.good (h : ItemH) : Prop := inI h.kind ∧ goodPath h.at_ ∧ goodPath h.to ∧ inI h.where_ ∧ inI h.nth ∧ h.unit.good ∧ goodStrs h.old ∧ goodStrs h.new ∧ h.lab.size ≤ maxLen ∧ h.for_.size ≤ maxLen ∧ h.start.good ∧ inI h.act ∧ inI h.item ∧ inI h.day ∧ h.ev.size ≤ maxLen
inductive ItemD where
  | mk (h : ItemH) (by_ : List ItemD)
def ItemD.h : ItemD → ItemH | .mk h _ => h
def ItemD.by_ : ItemD → List ItemD | .mk _ b => b
def ItemH.row (h : ItemH) (by_ : AV) : List AV := [I h.kind, .list 2 (rowsP h.at_) .no, .list 2 (rowsP h.to) .no, I h.where_, I h.nth, I h.unit.id.act, I h.unit.id.item, I h.unit.id.n, I h.unit.kind, S h.unit.label, .list 4 (rowsW h.unit.head) .no, .list 4 (rowsW h.unit.words) .no, .list 8 (rowsU h.unit.kids) .no,
  .list 1 (rowsS h.old) .no, .list 1 (rowsS h.new) .no, S h.lab, S h.for_, I h.start.k, I h.start.day, S h.start.ev, I h.act, I h.item, I h.day, S h.ev, by_]
mutual
def ItemD.row : ItemD → List AV
  | .mk h by_ => h.row (.list 25 (rowsI by_) .no)
def rowsI : List ItemD → List (List AV)
  | [] => []
  | x :: l => x.row :: rowsI l
end
theorem rowsI_map : ∀ l : List ItemD, rowsI l = l.map ItemD.row
  | [] => by simp [rowsI]
  | x :: l => by simp [rowsI, rowsI_map l]
@[simp] theorem rowsI_len (l : List ItemD) : (rowsI l).length = l.length := by simp [rowsI_map]
@[simp] theorem rowsI_get {p : List ItemD} {i : Nat} (h : i < (rowsI p).length) : (rowsI p)[i] = (p[i]'(by simpa using h)).row := by simp [rowsI_map]
theorem ItemD.row_eq (x : ItemD) : x.row = x.h.row (.list 25 (rowsI x.by_) .no) := by obtain ⟨h, b⟩ := x; rw [ItemD.row]; rfl
@[simp] theorem ItemD.row_len (x : ItemD) : x.row.length = 25 := by rw [ItemD.row_eq]; rfl
@[simp] theorem ItemD.row_take (x : ItemD) : List.take 25 x.row = x.row := List.take_of_length_le (by simp)
mutual
def ItemD.good : ItemD → Prop
  | .mk h by_ => h.good ∧ by_.length ≤ maxLen ∧ goodI by_
def goodI : List ItemD → Prop
  | [] => True
  | x :: l => x.good ∧ goodI l
end
theorem goodI_iff : ∀ {l : List ItemD}, goodI l ↔ ∀ x ∈ l, x.good
  | [] => by simp [goodI]
  | x :: l => by simp [goodI, goodI_iff (l := l)]
theorem ItemD.good_iff (x : ItemD) : x.good ↔ x.h.good ∧ x.by_.length ≤ maxLen ∧ ∀ k ∈ x.by_, k.good := by
  obtain ⟨h, b⟩ := x; rw [ItemD.good, goodI_iff]; rfl
theorem ItemD.by_lt {x k : ItemD} (h : k ∈ x.by_) : SizeOf.sizeOf k < SizeOf.sizeOf x := by
  obtain ⟨a, b⟩ := x
  have := List.sizeOf_lt_of_mem (show k ∈ b from h)
  simp only [ItemD.mk.sizeOf_spec]
  omega

structure ActD where
  number : Int
  title : ByteArray
  day : Int
  start : StartD
  items : List ItemD
def ActD.row (a : ActD) : List AV := [I a.number, S a.title, I a.day, I a.start.k, I a.start.day, S a.start.ev, .list 25 (rowsI a.items) .no]
def ActD.good (a : ActD) : Prop := inI a.number ∧ a.title.size ≤ maxLen ∧ inI a.day ∧ a.start.good ∧ a.items.length ≤ maxLen ∧ ∀ x ∈ a.items, x.good
def rowsA (l : List ActD) : List (List AV) := l.map ActD.row
@[simp] theorem rowsA_len (l : List ActD) : (rowsA l).length = l.length := by simp [rowsA]
@[simp] theorem rowsA_get {p : List ActD} {i : Nat} (h : i < (rowsA p).length) : (rowsA p)[i] = (p[i]'(by simpa using h)).row := by simp [rowsA]
structure GazD where
  number : Int
  day : Int
  prior : ByteArray
  acts : List ActD
def GazD.row (g : GazD) : List AV := [I g.number, I g.day, S g.prior, .list 7 (rowsA g.acts) .no]
def GazD.good (g : GazD) : Prop := inI g.number ∧ inI g.day ∧ g.prior.size ≤ maxLen ∧ g.acts.length ≤ maxLen ∧ ∀ a ∈ g.acts, a.good
def rowsG (l : List GazD) : List (List AV) := l.map GazD.row
@[simp] theorem rowsG_len (l : List GazD) : (rowsG l).length = l.length := by simp [rowsG]
@[simp] theorem rowsG_get {p : List GazD} {i : Nat} (h : i < (rowsG p).length) : (rowsG p)[i] = (p[i]'(by simpa using h)).row := by simp [rowsG]

/-! ### shapes -/
def shStep : Sh := .parts [shInt, .str]
def shStart : Sh := .parts [shInt, shInt, .str]
def shPath : Sh := .slice 2 shStep
def shStrs : Sh := .slice 1 .str
def shItem : Sh := .parts [shInt, shPath, shPath, shInt, shInt, .ref 0, shStrs, shStrs, .str, .str, shStart, shInt, shInt, shInt, .str, .slice 25 (.ref 1)]
def shAct : Sh := .parts [shInt, .str, shInt, shStart, .slice 25 (.ref 1)]
def shGaz : Sh := .parts [shInt, shInt, .str, .slice 7 shAct]
def shGazs : Sh := .slice 4 shGaz
section
variable {E : ShEnv} {n : Nat} {r : List AV}
theorem sn_step (h : ShapedN E n shStep r) : ∃ s : StepD, r = s.row ∧ s.good := by
  obtain ⟨a, b, rfl, h1, h2⟩ := sn_cons h
  obtain ⟨c, d, rfl, h3, h4⟩ := sn_cons h2
  obtain rfl := sn_nil h4
  obtain ⟨k, rfl, hk⟩ := sn_int h1
  obtain ⟨s, rfl, hs⟩ := sn_str h3
  exact ⟨⟨k, s⟩, rfl, hk, hs⟩
theorem sn_start (h : ShapedN E n shStart r) : ∃ s : StartD, r = s.row ∧ s.good := by
  obtain ⟨a, b, rfl, h1, h2⟩ := sn_cons h
  obtain ⟨c, d, rfl, h3, h4⟩ := sn_cons h2
  obtain ⟨e, f, rfl, h5, h6⟩ := sn_cons h4
  obtain rfl := sn_nil h6
  obtain ⟨k, rfl, hk⟩ := sn_int h1
  obtain ⟨l, rfl, hl⟩ := sn_int h3
  obtain ⟨s, rfl, hs⟩ := sn_str h5
  exact ⟨⟨k, l, s⟩, rfl, hk, hl, hs⟩
theorem sn_path (h : ShapedN E n shPath r) : ∃ p : List StepD, r = [.list 2 (rowsP p) .no] ∧ goodPath p := sn_slice (fun r => sn_step) h
theorem sn_strs (h : ShapedN E n shStrs r) : ∃ p : List ByteArray, r = [.list 1 (rowsS p) .no] ∧ goodStrs p := sn_slice (f := fun s => [S s]) (fun r => sn_str) h
theorem sn_item (h0 : E.sh 0 = shUnit) (h1 : E.sh 1 = shItem) : ∀ (n : Nat) (r : List AV), ShapedN E n (.ref 1) r → ∃ x : ItemD, r = x.row ∧ x.good
  | 0, r, h => by rw [ShapedN] at h; exact h.elim
  | n + 1, r, h => by
    have h := shN_ref.1 h
    rw [h1] at h
    obtain ⟨a1, b1, rfl, k1, h⟩ := sn_cons h
    obtain ⟨a2, b2, rfl, k2, h⟩ := sn_cons h
    obtain ⟨a3, b3, rfl, k3, h⟩ := sn_cons h
    obtain ⟨a4, b4, rfl, k4, h⟩ := sn_cons h
    obtain ⟨a5, b5, rfl, k5, h⟩ := sn_cons h
    obtain ⟨a6, b6, rfl, k6, h⟩ := sn_cons h
    obtain ⟨a7, b7, rfl, k7, h⟩ := sn_cons h
    obtain ⟨a8, b8, rfl, k8, h⟩ := sn_cons h
    obtain ⟨a9, b9, rfl, k9, h⟩ := sn_cons h
    obtain ⟨a10, b10, rfl, k10, h⟩ := sn_cons h
    obtain ⟨a11, b11, rfl, k11, h⟩ := sn_cons h
    obtain ⟨a12, b12, rfl, k12, h⟩ := sn_cons h
    obtain ⟨a13, b13, rfl, k13, h⟩ := sn_cons h
    obtain ⟨a14, b14, rfl, k14, h⟩ := sn_cons h
    obtain ⟨a15, b15, rfl, k15, h⟩ := sn_cons h
    obtain ⟨a16, b16, rfl, k16, h⟩ := sn_cons h
    obtain rfl := sn_nil h
    obtain ⟨x1, rfl, y1⟩ := sn_int k1
    obtain ⟨x2, rfl, y2⟩ := sn_path k2
    obtain ⟨x3, rfl, y3⟩ := sn_path k3
    obtain ⟨x4, rfl, y4⟩ := sn_int k4
    obtain ⟨x5, rfl, y5⟩ := sn_int k5
    obtain ⟨x6, rfl, y6⟩ := sn_unit h0 n _ k6
    obtain ⟨x7, rfl, y7⟩ := sn_strs k7
    obtain ⟨x8, rfl, y8⟩ := sn_strs k8
    obtain ⟨x9, rfl, y9⟩ := sn_str k9
    obtain ⟨x10, rfl, y10⟩ := sn_str k10
    obtain ⟨x11, rfl, y11⟩ := sn_start k11
    obtain ⟨x12, rfl, y12⟩ := sn_int k12
    obtain ⟨x13, rfl, y13⟩ := sn_int k13
    obtain ⟨x14, rfl, y14⟩ := sn_int k14
    obtain ⟨x15, rfl, y15⟩ := sn_str k15
    obtain ⟨x16, rfl, y16, z16⟩ := sn_slice (fun r => sn_item h0 h1 n r) k16
    refine ⟨.mk ⟨x1, x2, x3, x4, x5, x6, x7, x8, x9, x10, x11, x12, x13, x14, x15⟩ x16, ?_, ?_⟩
    · rw [ItemD.row, rowsI_map, UnitD.row_eq]; rfl
    · rw [ItemD.good, goodI_iff]; exact ⟨⟨y1, y2, y3, y4, y5, y6, y7, y8, y9, y10, y11, y12, y13, y14, y15⟩, y16, z16⟩
theorem sn_act (h0 : E.sh 0 = shUnit) (h1 : E.sh 1 = shItem) (h : ShapedN E n shAct r) : ∃ a : ActD, r = a.row ∧ a.good := by
  obtain ⟨a1, b1, rfl, k1, h⟩ := sn_cons h
  obtain ⟨a2, b2, rfl, k2, h⟩ := sn_cons h
  obtain ⟨a3, b3, rfl, k3, h⟩ := sn_cons h
  obtain ⟨a4, b4, rfl, k4, h⟩ := sn_cons h
  obtain ⟨a5, b5, rfl, k5, h⟩ := sn_cons h
  obtain rfl := sn_nil h
  obtain ⟨x1, rfl, y1⟩ := sn_int k1
  obtain ⟨x2, rfl, y2⟩ := sn_str k2
  obtain ⟨x3, rfl, y3⟩ := sn_int k3
  obtain ⟨x4, rfl, y4⟩ := sn_start k4
  obtain ⟨x5, rfl, y5, z5⟩ := sn_slice (fun r => sn_item h0 h1 n r) k5
  exact ⟨⟨x1, x2, x3, x4, x5⟩, by rw [ActD.row, rowsI_map]; rfl, y1, y2, y3, y4, y5, z5⟩
theorem sn_gaz (h0 : E.sh 0 = shUnit) (h1 : E.sh 1 = shItem) (h : ShapedN E n shGaz r) : ∃ g : GazD, r = g.row ∧ g.good := by
  obtain ⟨a1, b1, rfl, k1, h⟩ := sn_cons h
  obtain ⟨a2, b2, rfl, k2, h⟩ := sn_cons h
  obtain ⟨a3, b3, rfl, k3, h⟩ := sn_cons h
  obtain ⟨a4, b4, rfl, k4, h⟩ := sn_cons h
  obtain rfl := sn_nil h
  obtain ⟨x1, rfl, y1⟩ := sn_int k1
  obtain ⟨x2, rfl, y2⟩ := sn_int k2
  obtain ⟨x3, rfl, y3⟩ := sn_str k3
  obtain ⟨x4, rfl, y4, z4⟩ := sn_slice (fun r => sn_act h0 h1) k4
  exact ⟨⟨x1, x2, x3, x4⟩, rfl, y1, y2, y3, y4, z4⟩
theorem sn_gazs (h0 : E.sh 0 = shUnit) (h1 : E.sh 1 = shItem) (h : ShapedN E n shGazs r) : ∃ l : List GazD, r = [.list 4 (rowsG l) .no] ∧ l.length ≤ maxLen ∧ ∀ g ∈ l, g.good := sn_slice (fun r => sn_gaz h0 h1) h
end
end Go.Abs
end
