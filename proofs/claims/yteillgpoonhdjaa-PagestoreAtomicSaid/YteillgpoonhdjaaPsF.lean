/- PagestoreFailAfter: the simp (dsimp := false) (implicitDefEqProofs := false). -/
import Derived.Test.YteillgpoonhdjaaPsE
set_option maxRecDepth 100000
set_option linter.unusedSimpArgs false
namespace Go.Abs
open Go.Proofs

def fs (n : Int) (l : List ByteArray) (i : Nat) : St := if (i : Int) ≤ n then ⟨l.take i, 0, -1, n - i, false⟩ else ⟨l.take n.toNat, 0, -1, 0, true⟩

theorem crash_fs (n : Int) (l : List ByteArray) (h0 : 0 ≤ n) (h : l.length ≤ 20) : ((mCrash (fs n l l.length) 99).pages.length : Int) = min n l.length := by
  unfold fs mCrash
  split <;> simp <;> omega
theorem append_fs (s : St) (h : s.pages.length ≤ 20) (hf : s.fuse = -1) (hd : s.down = false) (x : ByteArray) (hx : x.size ≤ 100) :
    (mAppend s x).1 = ((s.pages.length : Int), (0 : Int)) ∧ (mAppend s x).2.down = false := by
  unfold mAppend
  rw [if_neg (by simp [hd]), if_neg (by omega), if_neg (by omega), if_neg (by omega)]
  exact ⟨rfl, hd⟩

theorem failafter_ok (n : Int) (l : List ByteArray) (own : Own) (M : Mem) (hn : n ≤ 9223372036854775807) : ACalls PC 3 [I n, .list 1 (rowsS l) own] M (fun v M' => v = B true) := by
  refine w_body hintB Try.func3 rfl rfl rfl rfl rfl rfl ?_
  simp (dsimp := false) (implicitDefEqProofs := false) []
  refine w_calls (C := PC) Try.call8 (awake_ok M) ?_
  rintro _ M1 rfl
  by_cases h20 : 20 < (l.length : Int)
  · simp (dsimp := false) (implicitDefEqProofs := false) [h20]
  by_cases hneg : n < 0
  · simp (dsimp := false) (implicitDefEqProofs := false) [h20, hneg]
  simp (dsimp := false) (implicitDefEqProofs := false) [h20, hneg]
  refine w_calls (C := PC) Try.call9 (new_ok M1) ?_
  rintro _ _ ⟨rfl, rfl⟩
  have a1 := at_new M1
  generalize M1 ++ [AObj.cells [.val (.slice none 0 0), I 0, I (-1), I (-1), B false]] = M2 at a1 ⊢
  generalize M1.length = b at a1 ⊢
  generalize AV.val (.slice none 0 0) = pv at a1
  simp (dsimp := false) (implicitDefEqProofs := false) []
  refine w_calls (C := PC) Try.call10 (failAfter_ok _ _ _ _ _ _ _ _ a1.1) ?_
  rintro _ _ ⟨rfl, rfl⟩
  have a2 := a1.fail n
  have e2 : mFail st0 n = fs n l 0 := by
    have : max n (-1) = n := by omega
    simp [mFail, st0, fs, this]; omega
  simp (dsimp := false) (implicitDefEqProofs := false) []
  refine w_looped hintB (fun T M => T 0 = I n ∧ T 1 = .list 1 (rowsS l) own ∧ T 5 = .ptr b 0 ∧ ∃ i : Nat, T 6 = I i ∧ i ≤ l.length ∧ ∃ pv, At M b pv (fs n l i)) (fun T _ => match T 6 with | .val (.int _ i) => l.length - i.toNat | _ => 0) rfl ?_ ?_
  · refine ⟨by simp (dsimp := false) (implicitDefEqProofs := false) [], by simp (dsimp := false) (implicitDefEqProofs := false) [], by simp (dsimp := false) (implicitDefEqProofs := false) [], 0, by simp (dsimp := false) (implicitDefEqProofs := false) [], by omega, pv, ?_⟩
    rw [← e2]; exact a2
  · rintro T M ⟨t0, t1, t5, i, t6, hi, pv, ha⟩
    by_cases hlt : i < l.length
    · have e1 : (rowsS l)[i]? = some [S l[i]] := by simp [rowsS, hlt]
      have e2 : (rowsS l)[i]'(by simpa using hlt) = [S l[i]] := by simp [rowsS]
      by_cases h100 : 100 < ((l[i]).size : Int)
      · simp (dsimp := false) (implicitDefEqProofs := false) [t0, t1, t5, t6, hlt, e1, e2, h100]
      by_cases hin : n < (i : Int)
      · have es : fs n l i = ⟨l.take n.toNat, 0, -1, 0, true⟩ := by simp [fs]; omega
        rw [es] at ha
        have hok : St.ok ⟨l.take n.toNat, 0, -1, 0, true⟩ := ⟨by simp; omega, by simp, by simp, by simp, by simp⟩
        simp (dsimp := false) (implicitDefEqProofs := false) [t0, t1, t5, t6, hlt, e1, e2, h100, hin]
        refine w_calls (C := PC) Try.call11 (setroot_ok _ _ _ 99 _ hok ha) ?_
        rintro _ _ ⟨rfl, rfl⟩
        have a3 := ha.root 99
        have em : mSet ⟨l.take n.toNat, 0, -1, 0, true⟩ 99 = (16, ⟨l.take n.toNat, 0, -1, 0, true⟩) := by simp [mSet]
        rw [em] at a3
        simp (dsimp := false) (implicitDefEqProofs := false) [em, t1, t5, t6, hlt, e1, e2]
        refine w_calls (C := PC) Try.call12 (append_ok _ _ _ (l[i]) _ hok a3) ?_
        rintro _ M5 ⟨pv5, rfl, a5, -⟩
        have en : mAppend ⟨l.take n.toNat, 0, -1, 0, true⟩ (l[i]) = ((0, 16), ⟨l.take n.toNat, 0, -1, 0, true⟩) := by simp [mAppend]
        rw [en] at a5
        have c1 : ¬ ((i : Int) < n) := by omega
        have c2 : n ≤ (i : Int) := by omega
        have c3 : IntKind.i64.wrap ((i : Int) + 1) = ((i + 1 : Nat) : Int) := by rw [IntWalk.i64_in _ (by omega)]; rfl
        have c4 : fs n l (i + 1) = ⟨l.take n.toNat, 0, -1, 0, true⟩ := by simp [fs]; omega
        simp (dsimp := false) (implicitDefEqProofs := false) [en, t0, t1, t5, t6, c1, c2, c3]
        exact ⟨⟨i + 1, by simp, by omega, pv5, by rw [c4]; exact a5⟩, by omega⟩
      · have es : fs n l i = ⟨l.take i, 0, -1, n - i, false⟩ := by simp [fs]; omega
        obtain ⟨f, hf⟩ : ∃ f, f = n - i := ⟨_, rfl⟩
        rw [es, ← hf] at ha
        have hlen : (l.take i).length = i := by simp; omega
        have hok : St.ok ⟨l.take i, 0, -1, f, false⟩ := ⟨by simp; omega, by simp, by simp, by simp; omega, by simp; omega⟩
        simp (dsimp := false) (implicitDefEqProofs := false) [t0, t1, t5, t6, hlt, e1, e2, h100, hin]
        refine w_calls (C := PC) Try.call11 (setroot_ok _ _ _ 99 _ hok ha) ?_
        rintro _ _ ⟨rfl, rfl⟩
        have a3 := ha.root 99
        have em : mSet ⟨l.take i, 0, -1, f, false⟩ 99 = ((3 : Int), (⟨l.take i, 0, -1, f, false⟩ : St)) := by
          simp only [mSet, hlen]; rw [if_neg (by simp), if_pos (by omega)]
        rw [em] at a3
        simp (dsimp := false) (implicitDefEqProofs := false) [em, t1, t5, t6, hlt, e1, e2]
        refine w_calls (C := PC) Try.call12 (append_ok _ _ _ (l[i]) _ hok a3) ?_
        rintro _ M5 ⟨pv5, rfl, a5, -⟩
        have c3 : IntKind.i64.wrap ((i : Int) + 1) = ((i + 1 : Nat) : Int) := by rw [IntWalk.i64_in _ (by omega)]; rfl
        by_cases c1 : (i : Int) < n
        · have en : mAppend ⟨l.take i, 0, -1, f, false⟩ (l[i]) = (((i : Int), (0 : Int)), (⟨l.take (i + 1), 0, -1, n - (i + 1 : Nat), false⟩ : St)) := by
            simp only [mAppend, hlen, St.burn]
            rw [if_neg (by simp), if_neg (by omega), if_neg (by omega), if_neg (by omega), if_pos (by omega), List.take_append_getElem hlt]
            simp; omega
          rw [en] at a5
          have c2 : ¬ n ≤ (i : Int) := by omega
          have c4 : fs n l (i + 1) = ⟨l.take (i + 1), 0, -1, n - (i + 1 : Nat), false⟩ := by simp [fs]; omega
          simp (dsimp := false) (implicitDefEqProofs := false) [en, t0, t1, t5, t6, c1, c2, c3]
          exact ⟨⟨i + 1, by simp, by omega, pv5, by rw [c4]; exact a5⟩, by omega⟩
        · have c2 : n = (i : Int) := by omega
          subst c2
          have en : mAppend ⟨l.take i, 0, -1, f, false⟩ (l[i]) = (((0 : Int), (16 : Int)), (⟨l.take i, 0, -1, 0, true⟩ : St)) := by
            simp only [mAppend, hlen]
            rw [if_neg (by simp), if_neg (by omega), if_neg (by omega), if_pos (by omega)]; simp; omega
          rw [en] at a5
          have c4 : fs i l (i + 1) = ⟨l.take i, 0, -1, 0, true⟩ := by simp [fs]; omega
          simp (dsimp := false) (implicitDefEqProofs := false) [en, t0, t1, t5, t6, c1, c3]
          exact ⟨⟨i + 1, by simp, by omega, pv5, by rw [c4]; exact a5⟩, by omega⟩
    · obtain rfl : i = l.length := by omega
      simp (dsimp := false) (implicitDefEqProofs := false) [t0, t1, t5, t6, hlt]
      refine w_calls (C := PC) Try.call13 (failed_ok _ _ _ _ _ _ _ ha.1) ?_
      rintro _ _ ⟨rfl, rfl⟩
      have ed : (fs n l l.length).down = decide (n < (l.length : Int)) := by
        unfold fs; split <;> simp <;> omega
      have hok : (fs n l l.length).ok := by
        unfold fs; split
        · exact ⟨by simp; omega, by simp, by simp, by simp; omega, by simp; omega⟩
        · exact ⟨by simp; omega, by simp, by simp, by simp, by simp⟩
      simp (dsimp := false) (implicitDefEqProofs := false) [t0, t1, t5, t6, ed]
      refine w_calls (C := PC) Try.call14 (crash_ok _ _ _ 99 _ hok ha) ?_
      rintro _ M5 ⟨pv5, rfl, a5, -⟩
      have hok5 := mCrash_ok hok 99
      simp (dsimp := false) (implicitDefEqProofs := false) [t5]
      refine w_calls (C := PC) Try.call12 (append_ok _ _ _ _ _ hok5 a5) ?_
      rintro _ M6 ⟨pv6, rfl, a6, -⟩
      have cl := crash_fs n l (by omega) (by omega)
      obtain ⟨en, ed6⟩ := append_fs (mCrash (fs n l l.length) 99) (by omega) rfl rfl (ByteArray.mk #[120]) (by decide)
      rw [cl] at en
      simp (dsimp := false) (implicitDefEqProofs := false) [t5, en]
      refine w_calls (C := PC) Try.call13 (failed_ok _ _ _ _ _ _ _ a6.1) ?_
      rintro _ _ ⟨rfl, rfl⟩
      simp (dsimp := false) (implicitDefEqProofs := false) [t0, t1, ed6]
      split <;> omega
end Go.Abs
