/- Contracts of package pagestore's functions. -/
import Derived.Test.YteillgpoonhdjaaPsBase
set_option maxRecDepth 100000
set_option linter.unusedSimpArgs false
namespace Go.Abs
open Go.Proofs

section
variable (M : Mem) (b : Nat) (pv : AV) (l r f n : Int) (d : Bool) (ps : List ByteArray)

theorem failed_ok (hb : M[b]? = some (.cells [pv, I l, I r, I f, B d])) : ACalls PC 13 [.ptr b 0] M (fun v M' => v = B d ∧ M' = M) := by
  refine w_body hint0 Try.func13 rfl rfl rfl rfl rfl rfl ?_
  simp (dsimp := false) (implicitDefEqProofs := false) [loadAV_ptr hb, Env.of]
theorem root_ok (hb : M[b]? = some (.cells [pv, I l, I r, I f, B d])) : ACalls PC 21 [.ptr b 0] M (fun v M' => v = I r ∧ M' = M) := by
  refine w_body hint0 Try.func21 rfl rfl rfl rfl rfl rfl ?_
  simp (dsimp := false) (implicitDefEqProofs := false) [loadAV_ptr hb, Env.of]
theorem len_ok (hb : M[b]? = some (.cells [pv, I l, I r, I f, B d])) (hp : Pg M pv ps) : ACalls PC 19 [.ptr b 0] M (fun v M' => v = I ps.length ∧ M' = M) := by
  refine w_body hint0 Try.func19 rfl rfl rfl rfl rfl rfl ?_
  simp (dsimp := false) (implicitDefEqProofs := false) [loadAV_ptr hb, Env.of, hp.len]
theorem failAfter_ok (hb : M[b]? = some (.cells [pv, I l, I r, I f, B d])) : ACalls PC 10 [.ptr b 0, I n] M (fun v M' => v = .tuple [] ∧ M' = M.set b (.cells [pv, I l, I r, I (max n (-1)), B d])) := by
  refine w_body hint0 Try.func10 rfl rfl rfl rfl rfl rfl ?_
  have e : (if n < -1 then -1 else n) = max n (-1) := by omega
  simp (dsimp := false) (implicitDefEqProofs := false) [storeAV_ptr hb, Env.of, e]
theorem there_ok (hb : M[b]? = some (.cells [pv, I l, I r, I f, B d])) (hp : Pg M pv ps) : ACalls PC 23 [.ptr b 0, I n] M (fun v M' => v = B (decide (0 ≤ n ∧ n < ps.length)) ∧ M' = M) := by
  refine w_body hint0 Try.func23 rfl rfl rfl rfl rfl rfl ?_
  by_cases h0 : 0 ≤ n
  · simp (dsimp := false) (implicitDefEqProofs := false) [loadAV_ptr hb, Env.of, hp.len, h0]
  · simp (dsimp := false) (implicitDefEqProofs := false) [loadAV_ptr hb, Env.of, hp.len, h0]
theorem new_ok : ACalls PC 9 [] M (fun v M' => v = .ptr M.length 0 ∧ M' = M ++ [.cells [.val (.slice none 0 0), I 0, I (-1), I (-1), B false]]) := by
  refine w_body hint0 Try.func9 rfl rfl rfl rfl rfl rfl ?_
  simp (dsimp := false) (implicitDefEqProofs := false) [buildAV, buildGo, putCells]
theorem read_ok (hb : M[b]? = some (.cells [pv, I l, I r, I f, B d])) (hp : Pg M pv ps) : ACalls PC 18 [.ptr b 0, I n] M (fun v M' => v = .tuple (if d then [S .empty, I 16] else if 0 ≤ n ∧ n < ps.length then [S (ps.getD n.toNat .empty), I 0] else [S .empty, I 3]) ∧ M' = M) := by
  refine w_body hint0 Try.func18 rfl rfl rfl rfl rfl rfl ?_
  cases d
  · simp (dsimp := false) (implicitDefEqProofs := false) [loadAV_ptr hb, Env.of]
    refine w_calls (C := PC) Try.call23 (there_ok M b pv l r f n false ps hb hp) ?_
    rintro _ _ ⟨rfl, rfl⟩
    by_cases hc : 0 ≤ n ∧ n < ps.length
    · obtain ⟨k, rfl⟩ := Int.eq_ofNat_of_zero_le hc.1
      have hk : k < ps.length := by omega
      rcases hp with ⟨rfl, rfl⟩ | ⟨fm, rfl, _⟩
      · simp at hk
      · have e1 : (rowsS ps)[k]? = some [S ps[k]] := by simp [rowsS, hk]
        have e2 : (rowsS ps)[k]'(by simpa using hk) = [S ps[k]] := by simp [rowsS]
        simp (dsimp := false) (implicitDefEqProofs := false) [loadAV_ptr hb, hc, e1, e2, hk]
    · simp (dsimp := false) (implicitDefEqProofs := false) [loadAV_ptr hb, hc]
      rfl
  · simp (dsimp := false) (implicitDefEqProofs := false) [loadAV_ptr hb, Env.of]
    rfl

/-- slices.Clone of a list -/
theorem clone_cons_ok (rw : List AV) (rs : List (List AV)) (own : Own) (hlen : (rs.length + 1) * 16 ≤ 140737488355328) : ACalls PC 27 [.list 1 (rw :: rs) own] M (fun v M' => v = .list 1 (rw :: rs) (.fam M.length) ∧ M' = M ++ [.fam (rs.length + 1) 1]) := by
  refine w_body hintB Try.func27 rfl rfl rfl rfl rfl rfl ?_
  simp (dsimp := false) (implicitDefEqProofs := false) [Env.of, buildSliceAV, rowsGo]
  refine w_append (e := 9) (sz := 1) (bytes := 16) TryTypes.elem22 TryTypes.src22 TryTypes.eok9 rfl rfl (by simp; omega) ?_
  simp (dsimp := false) (implicitDefEqProofs := false) [appendAV]
theorem clone_empty_ok (own : Own) : ACalls PC 27 [.list 1 [] own] M (fun v M' => (v = .list 1 [] (.fam M.length) ∧ M' = M ++ [.fam 0 1]) ∨ (v = .val (.slice none 0 0) ∧ M' = M)) := by
  refine w_body hintB Try.func27 rfl rfl rfl rfl rfl rfl ?_
  simp (dsimp := false) (implicitDefEqProofs := false) [Env.of, buildSliceAV, rowsGo, wBin_list_nil]
  refine w_append (e := 9) (sz := 1) (bytes := 16) TryTypes.elem22 TryTypes.src22 TryTypes.eok9 rfl rfl (by simp) ?_
  simp (dsimp := false) (implicitDefEqProofs := false) [appendAV]
end
end Go.Abs
