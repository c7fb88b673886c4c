/- Contracts of package pagestore: Crash, Clone; of the reference. -/
import Derived.Test.YteillgpoonhdjaaPsB
set_option maxRecDepth 100000
set_option linter.unusedSimpArgs false
namespace Go.Abs
open Go.Proofs

theorem ACalls.adopt_nil {C : Ctx} {f : FuncId} {args : List AV} {M : Mem} {Q : AV → Mem → Prop} {sz : Nat} (h : ACalls C f args M (fun r M' => Q r M' ∨ (r = .val (.slice none 0 0) ∧ Q (.list sz [] (.fam M'.length)) (M' ++ [.fam 0 sz])))) : ACalls C f args M Q := by
  intro G w vs hi hr
  refine Calls.mono (h G w vs hi hr) ?_
  rintro e w' ⟨r, M', G', v, rfl, hq | ⟨rfl, hq⟩, h1, h2, h3, h4⟩
  · exact ⟨r, M', G', v, rfl, hq, h1, h2, h3, h4⟩
  · simp only [Rep] at h3
    subst h3
    obtain ⟨G2, i1, i2, i3, i4, i5⟩ := h2.adopt (n := 0) (sz := sz) (base := none) (by simp [maxLen])
    exact ⟨_, _, G2, _, rfl, hq, h1.trans i2, i1, rep_list rfl (by simp) (by simp [maxLen]) ⟨rfl, rfl⟩ ⟨i3, Nat.zero_le _, i5⟩, h4⟩

section
variable (M : Mem) (b : Nat) (pv : AV) (l r f n : Int) (d : Bool) (ps : List ByteArray)

theorem clone_ok (rows : List (List AV)) (own : Own) (hlen : rows.length * 16 ≤ 140737488355328) : ACalls PC 27 [.list 1 rows own] M (fun v M' => v = .list 1 rows (.fam M.length) ∧ M' = M ++ [.fam rows.length 1]) := by
  cases rows with
  | nil =>
    refine ACalls.adopt_nil (sz := 1) ((clone_empty_ok M own).mono ?_)
    rintro v M' (⟨rfl, rfl⟩ | ⟨rfl, rfl⟩)
    · exact .inl ⟨rfl, rfl⟩
    · exact .inr ⟨rfl, rfl, rfl⟩
  | cons rw rs => exact clone_cons_ok M rw rs own hlen
theorem clone_nil_ok : ACalls PC 27 [.val (.slice none 0 0)] M (fun v M' => v = .val (.slice none 0 0) ∧ M' = M) := by
  refine w_body hintB Try.func27 rfl rfl rfl rfl rfl rfl ?_
  simp (dsimp := false) (implicitDefEqProofs := false) []

theorem Pg.slice {M : Mem} {pv : AV} {l : List ByteArray} (h : Pg M pv l) (n : Int) (h0 : 0 ≤ n) (h1 : n ≤ l.length) : ∃ own, sliceAV Try.prog 22 pv none (some (I n)) none = some (.list 1 (rowsS (l.take n.toNat)) own) := by
  rcases h with ⟨rfl, rfl⟩ | ⟨fm, rfl, _⟩
  · have : n = 0 := by simp at h1; omega
    subst this
    exact ⟨_, by simp [sliceAV, sliceListAV, rowsS]; rfl⟩
  · exact ⟨_, by simp [sliceAV, sliceListAV, rowsS, h0, h1]; rfl⟩

theorem crash_ok (s : St) (hs : s.ok) (ha : At M b pv s) : ACalls PC 14 [.ptr b 0, I n] M (fun v M' => ∃ pv', v = .tuple [] ∧ At M' b pv' (mCrash s n) ∧ Fr M M' b pv pv') := by
  obtain ⟨hb, hp⟩ := ha
  have hlt := getElem?_lt hb
  obtain ⟨pages, lasting, root, fuse, down⟩ := s
  simp only [St.cells] at hb hp
  obtain ⟨k1, k2, k3, _, _⟩ := hs
  simp only at k1 k2 k3
  have e0 : IntKind.i64.wrap ((pages.length : Int) - lasting) = pages.length - lasting := IntWalk.i64_in _ (by omega)
  have e1 : (if n < 0 then 0 else n) = max n 0 := by omega
  have e2 : (if (pages.length : Int) - lasting < max n 0 then (pages.length : Int) - lasting else max n 0) = min (max n 0) (pages.length - lasting) := by omega
  have e3 : IntKind.i64.wrap (lasting + min (max n 0) (pages.length - lasting)) = lasting + min (max n 0) (pages.length - lasting) := IntWalk.i64_in _ (by omega)
  obtain ⟨own, hsl⟩ := hp.slice (lasting + min (max n 0) (pages.length - lasting)) (by omega) (by omega)
  refine w_body hintB Try.func14 rfl rfl rfl rfl rfl rfl ?_
  simp (dsimp := false) (implicitDefEqProofs := false) []
  refine w_drawn hintB follows (fun k => if k = 5 then 1 else if k = 10 then 1 else 0) rfl (by decide +kernel) ?_
  simp (dsimp := false) (implicitDefEqProofs := false) [loadAV_ptr hb, hp.len, e0, e1, e2]
  refine w_drawn hintB follows (fun k => if k = 4 then 1 else if k = 8 then 1 else if k = 12 then 2 else if k = 15 then 2 else 0) rfl (by decide +kernel) ?_
  simp (dsimp := false) (implicitDefEqProofs := false) [loadAV_ptr hb, e3, hsl]
  refine w_call2 (C := PC) Try.call27 (clone_ok M _ own (by simp; omega)) ?_
  generalize hq : pages.take (lasting + min (max n 0) (pages.length - lasting)).toNat = q
  have hb1 : (M ++ [AObj.fam (rowsS q).length 1])[b]? = some (.cells [pv, I lasting, I root, I fuse, B down]) := by rw [List.getElem?_append_left hlt]; exact hb
  have hb2 : ((M ++ [AObj.fam (rowsS q).length 1]).set b (.cells [.list 1 (rowsS q) (.fam M.length), I lasting, I root, I fuse, B down]))[b]? = some (.cells [.list 1 (rowsS q) (.fam M.length), I lasting, I root, I fuse, B down]) := by
    rw [List.getElem?_set_self (by simp; omega)]
  have hb3 : ((M ++ [AObj.fam (rowsS q).length 1]).set b (.cells [.list 1 (rowsS q) (.fam M.length), I q.length, I root, I fuse, B down]))[b]? = some (.cells [.list 1 (rowsS q) (.fam M.length), I q.length, I root, I fuse, B down]) := by
    rw [List.getElem?_set_self (by simp; omega)]
  have hb4 : ((M ++ [AObj.fam (rowsS q).length 1]).set b (.cells [.list 1 (rowsS q) (.fam M.length), I q.length, I root, I (-1), B down]))[b]? = some (.cells [.list 1 (rowsS q) (.fam M.length), I q.length, I root, I (-1), B down]) := by
    rw [List.getElem?_set_self (by simp; omega)]
  simp only [rowsS_len] at hb1 hb2 hb3 hb4
  simp (dsimp := false) (implicitDefEqProofs := false) [storeAV_ptr hb1, loadAV_ptr hb2, storeAV_ptr hb2, storeAV_ptr hb3, storeAV_ptr hb4]
  refine ⟨.list 1 (rowsS q) (.fam M.length), ⟨?_, .inr ⟨M.length, ?_, ?_⟩⟩, by simp, fun k hk h1 _ => ?_, fun k hk => by simp [famOf] at hk; omega⟩
  · rw [List.getElem?_set_self (by simp; omega)]
    simp only [mCrash, St.cells, hq]
  · simp only [mCrash, hq]
  · rw [List.getElem?_set, if_neg (by omega)]
    simp [mCrash, hq]
  · rw [List.getElem?_set, if_neg (Ne.symm h1), List.getElem?_append_left hk]

/-- the copy lies in a new box, its pages in a new family (or none) -/
theorem sclone_ok (s : St) (hs : s.ok) (ha : At M b pv s) : ACalls PC 22 [.ptr b 0] M (fun v M' => ∃ pv', v = .ptr M.length 0 ∧ At M' M.length pv' s ∧ M.length < M'.length ∧ (∀ k, k < M.length → M'[k]? = M[k]?) ∧ ∀ k, famOf pv' = some k → M.length < k) := by
  obtain ⟨hb, hp⟩ := ha
  have hlt := getElem?_lt hb
  obtain ⟨pages, lasting, root, fuse, down⟩ := s
  simp only [St.cells] at hb hp
  have hlen := hs.len
  simp only at hlen
  refine w_body hintB Try.func22 rfl rfl rfl rfl rfl rfl ?_
  have hn1 : (M ++ [AObj.cells [.val (.slice none 0 0), I 0, I 0, I 0, B false]])[M.length]? = some (.cells [.val (.slice none 0 0), I 0, I 0, I 0, B false]) := by simp
  simp (dsimp := false) (implicitDefEqProofs := false) [loadAV_ptr hb, allocAV, storeAV_ptr hn1]
  have hb1 : ∀ X, (M ++ X)[b]? = some (.cells [pv, I lasting, I root, I fuse, B down]) := fun X => by rw [List.getElem?_append_left hlt]; exact hb
  have hnx : ∀ (x : AObj) (X : Mem), (M ++ x :: X)[M.length]? = some x := fun x X => by simp
  have hne : b ≠ M.length := by omega
  rcases hp with ⟨rfl, rfl⟩ | ⟨fm, rfl, hfm⟩
  · simp (dsimp := false) (implicitDefEqProofs := false) [loadAV_ptr (hb1 _)]
    refine w_calls (C := PC) Try.call27 (clone_nil_ok _) ?_
    rintro _ _ ⟨rfl, rfl⟩
    simp (dsimp := false) (implicitDefEqProofs := false) [storeAV_ptr (hnx _ _)]
    exact ⟨.val (.slice none 0 0), ⟨by simp [St.cells], .inl ⟨rfl, rfl⟩⟩, fun k hk => by rw [List.getElem?_append_left hk], fun k hk => by simp [famOf] at hk⟩
  · simp (dsimp := false) (implicitDefEqProofs := false) [loadAV_ptr (hb1 _)]
    refine w_calls (C := PC) Try.call27 (clone_ok _ _ _ (by simp; omega)) ?_
    rintro _ _ ⟨rfl, rfl⟩
    have hn3 : ∀ (x y : AObj), ((M ++ [x]) ++ [y])[M.length]? = some x := fun x y => by simp
    simp (dsimp := false) (implicitDefEqProofs := false) [storeAV_ptr (hnx _ _)]
    refine ⟨.list 1 (rowsS pages) (.fam (M.length + 1)), ⟨by simp [St.cells], .inr ⟨M.length + 1, rfl, ?_⟩⟩, fun k hk => by rw [List.getElem?_append_left hk], fun k hk => by simp [famOf] at hk; omega⟩
    simp
end
end Go.Abs
