/- Copies of rows as whole rows; what shifting and inserting leaves. -/
import Derived.Test.YtiipcnbedgamdaaGreatDoorVG37
import Derived.Laws.CopyRow
set_option linter.unusedVariables false
namespace Go.Abs
variable {α : Type}
def ow (L : List α) (o : Nat) (cs : List α) : List α := L.take o ++ cs ++ L.drop (o + cs.length)
theorem ow_len {L cs : List α} {o : Nat} (h : o + cs.length ≤ L.length) : (ow L o cs).length = L.length := by
  simp only [ow, List.length_append, List.length_take, List.length_drop]; omega
theorem ow_get {L cs : List α} {o k : Nat} (h : o + cs.length ≤ L.length) : (ow L o cs)[k]? = if o ≤ k ∧ k < o + cs.length then cs[k - o]? else L[k]? := overwrite_get h
theorem get_app3 (A B D : List α) (k : Nat) : (A ++ B ++ D)[k]? = if k < A.length then A[k]? else if k < A.length + B.length then B[k - A.length]? else D[k - (A.length + B.length)]? := by
  rw [List.append_assoc]
  by_cases h1 : k < A.length
  · rw [if_pos h1, List.getElem?_append_left h1]
  · rw [if_neg h1, List.getElem?_append_right (by omega)]
    by_cases h2 : k < A.length + B.length
    · rw [if_pos h2, List.getElem?_append_left (by omega)]
    · rw [if_neg h2, List.getElem?_append_right (by omega), Nat.sub_sub]
/-- in place: what stood from a on goes b places on, then vs goes in -/
theorem shift_cells (L : List α) (o a b c : Nat) (vs olds : List α) (ha : a ≤ c) (hL : o + (c + b) ≤ L.length) (hv : vs.length = b) (ho : olds = (L.drop o).take c) :
    ((ow (ow L (o + (a + b)) (olds.drop a)) (o + a) vs).drop o).take (c + b) = olds.take a ++ vs ++ olds.drop a := by
  have hol : olds.length = c := by rw [ho, List.length_take, List.length_drop]; omega
  have h1 : o + (a + b) + (olds.drop a).length ≤ L.length := by rw [List.length_drop]; omega
  have h2 : o + a + vs.length ≤ (ow L (o + (a + b)) (olds.drop a)).length := by rw [ow_len h1]; omega
  have hta : (olds.take a).length = a := by rw [List.length_take]; omega
  have hog : ∀ k, k < c → olds[k]? = L[o + k]? := fun k hk => by rw [ho, List.getElem?_take, if_pos hk, List.getElem?_drop]
  apply List.ext_getElem?
  intro k
  rw [get_app3, hta, hv, List.getElem?_take]
  by_cases hk : k < c + b
  · rw [if_pos hk, List.getElem?_drop, ow_get h2, hv]
    by_cases k1 : k < a
    · rw [if_neg (by omega), if_pos k1, ow_get h1, if_neg (by omega), List.getElem?_take, if_pos k1, hog k (by omega)]
    · rw [if_neg k1]
      by_cases k2 : k < a + b
      · rw [if_pos (by omega), if_pos k2]; congr 1; omega
      · rw [if_neg (by omega), if_neg k2, ow_get h1, List.length_drop, hol, if_pos (by omega), List.getElem?_drop, List.getElem?_drop]; congr 1; omega
  · rw [if_neg hk, if_neg (by omega), if_neg (by omega), List.getElem?_drop, List.getElem?_eq_none (by omega)]
/-- in a new row -/
theorem grow_cells (R vs olds : List α) (a b c : Nat) (ha : a ≤ c) (hol : olds.length = c) (hv : vs.length = b) (hR : c + b ≤ R.length) (h0 : ∀ k, k < a → R[k]? = olds[k]?) :
    ((ow (ow R a vs) (a + b) (olds.drop a)).drop 0).take (c + b) = olds.take a ++ vs ++ olds.drop a := by
  have h1 : a + vs.length ≤ R.length := by omega
  have h2 : a + b + (olds.drop a).length ≤ (ow R a vs).length := by rw [ow_len h1, List.length_drop]; omega
  have hta : (olds.take a).length = a := by rw [List.length_take]; omega
  apply List.ext_getElem?
  intro k
  rw [get_app3, hta, hv, List.getElem?_take, List.drop_zero]
  by_cases hk : k < c + b
  · rw [if_pos hk, ow_get h2, List.length_drop, hol]
    by_cases k1 : k < a
    · rw [if_neg (by omega), if_pos k1, ow_get h1, if_neg (by omega), List.getElem?_take, if_pos k1, h0 k k1]
    · rw [if_neg k1]
      by_cases k2 : k < a + b
      · rw [if_neg (by omega), if_pos k2, ow_get h1, if_pos (by omega)]
      · rw [if_pos (by omega), if_neg k2]
  · rw [if_neg hk, if_neg (by omega), if_neg (by omega), List.getElem?_drop, List.getElem?_eq_none (by omega)]

variable {P : Program}
/-- copy, row by row: the target's whole row behind it -/
theorem run_copy_row (w : World) (dT sT ty elem et : TypeId) (sz b o dLen dCap : Nat) (a : Addr) (sLen sCap k : Nat) (cs : List Value) (cur : Array Value) (hu : P.underlying dT = some (.slice elem)) (hs : szOf P elem = some sz) (hk : Nat.min sLen dLen = k) (hn : cs.length = k * sz)
    (hsrc : ∀ j v, cs[j]? = some v → w.cell? (a.add j) = some v) (hc : w.heap[b]? = some (.cells cur et (0, 0))) (hf : o + cs.length ≤ cur.size) (h1 : ∀ v ∈ cs, v.oneCell' = true) :
    (Builtin.copy_ #[dT, sT] ty #[.slice (some ⟨b, o, none⟩) dLen dCap, .slice (some a) sLen sCap]).run P w = .ok (goInt k) (w.setRow b (ow cur.toList o cs).toArray) := by
  have hl := run_loadCells_list (P := P) w a cs hsrc
  have hst := run_storeCells_at (P := P) b o et cs 0 cur w hc (by simpa using hf) h1
  simp only [Nat.add_zero] at hst
  simp [Builtin.copy_, run_underlying hu, Builtin.lenOf, Builtin.firstCells, run_szOf hs, hk, ← hn, hl, hst, ow]
end Go.Abs
