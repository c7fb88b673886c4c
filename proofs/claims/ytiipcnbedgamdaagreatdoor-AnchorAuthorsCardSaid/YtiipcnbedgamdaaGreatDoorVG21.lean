/- An array of rows of many cells, which this run alone writes: its loads and stores. -/
import Derived.Test.YtiipcnbedgamdaaGreatDoorVG16
import Derived.Test.YtiipcnbedgamdaaGreatDoorVG19
import Derived.Test.YtiipcnbedgamdaaGreatDoorVG20
set_option linter.unusedVariables false
namespace Go.Abs
variable {α : Type}

theorem lookup_filterA {g n : Nat} (q : Nat × Nat → Bool) : ∀ {hist : List (Nat × Nat)}, hist.lookup g = some n → (hist.filter fun x => x.1 == g || q x).lookup g = some n
  | [], h => by simp at h
  | a :: l, h => by
    by_cases c : a.1 = g
    · have e : (a.1 == g || q a) = true := by simp [c]
      rw [List.filter_cons, if_pos e]
      obtain ⟨a1, a2⟩ := a
      simp only at c
      subst c
      simpa [List.lookup] using h
    · have hl : l.lookup g = some n := by
        obtain ⟨a1, a2⟩ := a
        have : (g == a1) = false := by simpa using fun e => c e.symm
        simpa [List.lookup, this] using h
      have ih := lookup_filterA q hl
      by_cases e : (a.1 == g || q a) = true
      · rw [List.filter_cons, if_pos e]
        obtain ⟨a1, a2⟩ := a
        have : (g == a1) = false := by simpa using fun e => c e.symm
        simpa [List.lookup, this] using ih
      · rw [List.filter_cons, if_neg e]; exact ih

/-- rows in a row -/
theorem flat_len {enc : α → List AV} {sz : Nat} (he : ∀ x, (enc x).length = sz) : ∀ l : List α, (l.flatMap enc).length = l.length * sz
  | [] => by simp
  | x :: l => by rw [List.flatMap_cons, List.length_append, he, flat_len he l, List.length_cons, Nat.succ_mul]; omega
theorem flat_drop {enc : α → List AV} {sz : Nat} (he : ∀ x, (enc x).length = sz) : ∀ (i : Nat) (l : List α), (l.flatMap enc).drop (i * sz) = (l.drop i).flatMap enc
  | 0, l => by simp
  | i + 1, [] => by simp
  | i + 1, x :: l => by
    rw [List.flatMap_cons, List.drop_succ_cons, Nat.succ_mul, Nat.add_comm, List.drop_append, he]
    rw [List.drop_eq_nil_of_le (by rw [he]; omega), List.nil_append, show sz + i * sz - sz = i * sz by omega]
    exact flat_drop he i l
theorem flat_take {enc : α → List AV} {sz : Nat} (he : ∀ x, (enc x).length = sz) : ∀ (i : Nat) (l : List α), (l.flatMap enc).take (i * sz) = (l.take i).flatMap enc
  | 0, l => by simp
  | i + 1, [] => by simp
  | i + 1, x :: l => by
    rw [List.flatMap_cons, List.take_succ_cons, Nat.succ_mul, Nat.add_comm, List.take_append, he]
    rw [List.take_of_length_le (by rw [he]; omega), show sz + i * sz - sz = i * sz by omega, List.flatMap_cons]
    rw [flat_take he i l]
theorem flat_set {enc : α → List AV} {sz : Nat} (he : ∀ x, (enc x).length = sz) (l : List α) (i : Nat) (x : α) (hi : i < l.length) : overwrite (l.flatMap enc) (i * sz) (enc x) = (l.set i x).flatMap enc := by
  rw [overwrite, he, show i * sz + sz = (i + 1) * sz by rw [Nat.succ_mul], flat_drop he, flat_take he, List.set_eq_take_append_cons_drop, if_pos hi]
  simp

/-- M is M0, but that its object f is an array (whose slice of time g reads as a whole) of the rows of D -/
def AtA (e sz f g n : Nat) (enc : α → List AV) (M0 : Mem) (D : Nat → α) (M : Mem) : Prop :=
  ∃ hist, M = M0.set f (.vec e sz ((ofD D n).flatMap enc) g hist) ∧ hist.lookup g = some n
section
variable {e sz f g n : Nat} {enc : α → List AV} {M0 M : Mem} {D : Nat → α}
theorem AtA.get (h : AtA e sz f g n enc M0 D M) (hf : f < M0.length) : ∃ hist, M[f]? = some (.vec e sz ((ofD D n).flatMap enc) g hist) ∧ hist.lookup g = some n := by
  obtain ⟨hist, rfl, hl⟩ := h
  exact ⟨hist, by simp [hf], hl⟩
theorem AtA.len (h : AtA e sz f g n enc M0 D M) : M.length = M0.length := by
  obtain ⟨hist, rfl, hl⟩ := h; simp
theorem AtA.else_ (h : AtA e sz f g n enc M0 D M) {i : Nat} (hi : i ≠ f) : M[i]? = M0[i]? := by
  obtain ⟨hist, rfl, hl⟩ := h
  rw [List.getElem?_set_ne (by omega)]
theorem AtA.load {P : Program} {t : TypeId} (h : AtA e sz f g n enc M0 D M) (hf : f < M0.length) (he : ∀ x, (enc x).length = sz) (ha : aggOf P t = some true) (hs : szOf P t = some sz) {i : Nat} (hi : i < n) : loadAV P t M (.vptr f g (i * sz)) = some (.agg (enc (D i))) := by
  obtain ⟨hist, hm, hl⟩ := h.get hf
  have hfl := flat_len he (ofD D n)
  rw [ofD_length] at hfl
  simp only [loadAV, memOf, hm, hl, Option.bind_some, loadCells_row, ha, hs]
  rw [List.take_of_length_le (by omega), flat_drop he, List.drop_eq_getElem_cons (by simpa using hi), List.flatMap_cons, ofD_get, loadRow]
  rw [if_pos (by rw [List.length_append, he]; omega), List.take_append, he, Nat.sub_self, List.take_of_length_le (by rw [he]; omega), List.take_zero, List.append_nil]
theorem AtA.store (h : AtA e sz f g n enc M0 D M) (hf : f < M0.length) (he : ∀ x, (enc x).length = sz) {i : Nat} (hi : i < n) (x : α) : ∃ M', storeAV (some sz) M (.vptr f g (i * sz)) (.agg (enc x)) = some M' ∧ AtA e sz f g n enc M0 (upd D i x) M' := by
  obtain ⟨hist, hm, hl⟩ := h.get hf
  have hle : i * sz + sz ≤ n * sz := by rw [← Nat.succ_mul]; exact Nat.mul_le_mul_right _ hi
  refine ⟨M.set f (.vec e sz (overwrite ((ofD D n).flatMap enc) (i * sz) (enc x)) g (keepHist sz g (i * sz) hist)), ?_, ?_⟩
  · simp only [storeAV, hm, hl, AV.storable, AV.cells, he, decide_eq_true hle, decide_true, Bool.and_self, if_true]
  · obtain ⟨hist0, rfl, _⟩ := h
    refine ⟨keepHist sz g (i * sz) hist, ?_, lookup_filterA _ hl⟩
    rw [List.set_set, flat_set he _ _ _ (by simpa using hi), ofD_set]
/-- the array as it stands -/
theorem AtA.start {hist : List (Nat × Nat)} (hM : M[f]? = some (.vec e sz ((ofD D n).flatMap enc) g hist)) (hl : hist.lookup g = some n) : AtA e sz f g n enc M D M := by
  refine ⟨hist, ?_, hl⟩
  obtain ⟨h1, h2⟩ := List.getElem?_eq_some_iff.1 hM
  rw [← h2, List.set_getElem_self]
end
end Go.Abs
