/- The law PagestoreImmutable: a call on a store and a reference in different states. -/
import Derived.Test.YteillgpoonhdjaaPsJ
set_option maxRecDepth 100000
set_option linter.unusedSimpArgs false
namespace Go.Abs
open Go.Proofs

structure Duo (M : Mem) (b : Nat) (pv : AV) (s : St) (c : Nat) (pw : AV) (t : St) : Prop where
  l : At M b pv s
  r : At M c pw t
  sep : Sep b pv c pw
  ok : s.ok
  ok' : t.ok

theorem done2_ok (M : Mem) (b c : Nat) (pv pw : AV) (s t : St) (h : Duo M b pv s c pw t) (x : CallD) (hx : x.n ≤ 9223372036854775807) :
    ACalls PC 17 [.ptr b 0, .ptr c 0, .agg x.cells] M (fun v M' => ∃ pv' pw', Duo M' b pv' (mDone s x) c pw' (mDone t x)) := by
  obtain ⟨hl, hr, sep, ok, ok'⟩ := h
  obtain ⟨kind, text, n⟩ := x
  simp only [CallD.cells, mDone] at hx ⊢
  refine w_body hintB Try.func17 rfl rfl rfl rfl rfl rfl ?_
  by_cases hA : kind = 0 ∨ kind = 1 ∨ kind = 2
  · rw [if_pos hA, if_pos hA]
    rcases hA with rfl | rfl | rfl
    · simp (dsimp := false) (implicitDefEqProofs := false) []
      refine w_calls (C := PC) Try.call12 (append_ok _ _ _ text s ok hl) ?_
      rintro _ M1 ⟨pv1, rfl, a1, fr1⟩
      have r1 := hr.keep sep fr1
      have sep1 := hr.step hl sep fr1
      simp (dsimp := false) (implicitDefEqProofs := false) []
      refine w_calls (C := PC) Try.call28 (rappend_ok _ _ _ text t ok' r1) ?_
      rintro _ M2 ⟨pw2, rfl, a2, fr2⟩
      by_cases hq : (mAppend s text).1.1 = (mAppend t text).1.1 <;> simp (dsimp := false) (implicitDefEqProofs := false) [hq] <;> exact ⟨pv1, pw2, ⟨a1.keep sep1.symm fr2.fr, a2, (a1.step r1 sep1.symm fr2.fr).symm, mAppend_ok ok text, mAppend_ok ok' text⟩⟩
    · simp (dsimp := false) (implicitDefEqProofs := false) []
      refine w_calls (C := PC) Try.call12 (append_ok _ _ _ text s ok hl) ?_
      rintro _ M1 ⟨pv1, rfl, a1, fr1⟩
      have r1 := hr.keep sep fr1
      have sep1 := hr.step hl sep fr1
      simp (dsimp := false) (implicitDefEqProofs := false) []
      refine w_calls (C := PC) Try.call28 (rappend_ok _ _ _ text t ok' r1) ?_
      rintro _ M2 ⟨pw2, rfl, a2, fr2⟩
      by_cases hq : (mAppend s text).1.1 = (mAppend t text).1.1 <;> simp (dsimp := false) (implicitDefEqProofs := false) [hq] <;> exact ⟨pv1, pw2, ⟨a1.keep sep1.symm fr2.fr, a2, (a1.step r1 sep1.symm fr2.fr).symm, mAppend_ok ok text, mAppend_ok ok' text⟩⟩
    · simp (dsimp := false) (implicitDefEqProofs := false) []
      refine w_calls (C := PC) Try.call12 (append_ok _ _ _ text s ok hl) ?_
      rintro _ M1 ⟨pv1, rfl, a1, fr1⟩
      have r1 := hr.keep sep fr1
      have sep1 := hr.step hl sep fr1
      simp (dsimp := false) (implicitDefEqProofs := false) []
      refine w_calls (C := PC) Try.call28 (rappend_ok _ _ _ text t ok' r1) ?_
      rintro _ M2 ⟨pw2, rfl, a2, fr2⟩
      by_cases hq : (mAppend s text).1.1 = (mAppend t text).1.1 <;> simp (dsimp := false) (implicitDefEqProofs := false) [hq] <;> exact ⟨pv1, pw2, ⟨a1.keep sep1.symm fr2.fr, a2, (a1.step r1 sep1.symm fr2.fr).symm, mAppend_ok ok text, mAppend_ok ok' text⟩⟩
  rw [if_neg hA, if_neg hA]
  have k0 : ¬ kind = 0 := fun e => hA (.inl e)
  have k1 : ¬ kind = 1 := fun e => hA (.inr (.inl e))
  have k2 : ¬ kind = 2 := fun e => hA (.inr (.inr e))
  clear hA
  by_cases hB : kind = 3 ∨ kind = 4
  · rw [if_pos hB, if_pos hB]
    rcases hB with rfl | rfl
    · simp (dsimp := false) (implicitDefEqProofs := false) []
      refine w_drawn hintB follows (fun k => if k = 3 then 2 else if k = 7 then 2 else 0) rfl (by decide +kernel) ?_
      simp (dsimp := false) (implicitDefEqProofs := false) []
      refine w_call2 (C := PC) Try.call11 (setroot_ok _ _ _ n s ok hl) ?_
      obtain ⟨M1, hM1⟩ : ∃ M1, M1 = M.set b (.cells ((mSet s n).2.cells pv)) := ⟨_, rfl⟩
      rw [← hM1]
      have fr1 : Fr M M1 b pv pv := hM1 ▸ Fr.put _
      have a1 : At M1 b pv (mSet s n).2 := hM1 ▸ hl.root n
      clear hM1
      have r1 := hr.keep sep fr1
      have sep1 := hr.step hl sep fr1
      simp (dsimp := false) (implicitDefEqProofs := false) []
      refine w_call2 (C := PC) Try.call29 (rsetroot_ok _ _ _ n t ok' r1) ?_
      obtain ⟨M2, hM2⟩ : ∃ M2, M2 = M1.set c (.cells ((mSet t n).2.cells pw)) := ⟨_, rfl⟩
      rw [← hM2]
      have fr2 : FrN M1 M2 c pw pw := hM2 ▸ FrN.put _
      have a2 : At M2 c pw (mSet t n).2 := hM2 ▸ r1.root n
      clear hM2
      simp (dsimp := false) (implicitDefEqProofs := false) []
      exact ⟨pv, pw, ⟨a1.keep sep1.symm fr2.fr, a2, (a1.step r1 sep1.symm fr2.fr).symm, mSet_ok ok n, mSet_ok ok' n⟩⟩
    · simp (dsimp := false) (implicitDefEqProofs := false) []
      refine w_drawn hintB follows (fun k => if k = 3 then 2 else if k = 7 then 2 else 0) rfl (by decide +kernel) ?_
      simp (dsimp := false) (implicitDefEqProofs := false) []
      refine w_call2 (C := PC) Try.call11 (setroot_ok _ _ _ n s ok hl) ?_
      obtain ⟨M1, hM1⟩ : ∃ M1, M1 = M.set b (.cells ((mSet s n).2.cells pv)) := ⟨_, rfl⟩
      rw [← hM1]
      have fr1 : Fr M M1 b pv pv := hM1 ▸ Fr.put _
      have a1 : At M1 b pv (mSet s n).2 := hM1 ▸ hl.root n
      clear hM1
      have r1 := hr.keep sep fr1
      have sep1 := hr.step hl sep fr1
      simp (dsimp := false) (implicitDefEqProofs := false) []
      refine w_call2 (C := PC) Try.call29 (rsetroot_ok _ _ _ n t ok' r1) ?_
      obtain ⟨M2, hM2⟩ : ∃ M2, M2 = M1.set c (.cells ((mSet t n).2.cells pw)) := ⟨_, rfl⟩
      rw [← hM2]
      have fr2 : FrN M1 M2 c pw pw := hM2 ▸ FrN.put _
      have a2 : At M2 c pw (mSet t n).2 := hM2 ▸ r1.root n
      clear hM2
      simp (dsimp := false) (implicitDefEqProofs := false) []
      exact ⟨pv, pw, ⟨a1.keep sep1.symm fr2.fr, a2, (a1.step r1 sep1.symm fr2.fr).symm, mSet_ok ok n, mSet_ok ok' n⟩⟩
  rw [if_neg hB, if_neg hB]
  have k3 : ¬ kind = 3 := fun e => hB (.inl e)
  have k4 : ¬ kind = 4 := fun e => hB (.inr e)
  clear hB
  by_cases k5 : kind = 5
  · rw [if_pos k5, if_pos k5]
    subst k5
    simp (dsimp := false) (implicitDefEqProofs := false) []
    refine w_calls (C := PC) Try.call14 (crash_ok _ _ _ n s ok hl) ?_
    rintro _ M1 ⟨pv1, rfl, a1, fr1⟩
    have r1 := hr.keep sep fr1
    have sep1 := hr.step hl sep fr1
    simp (dsimp := false) (implicitDefEqProofs := false) []
    refine w_calls (C := PC) Try.call30 (rcrash_ok _ _ _ n t ok' r1) ?_
    rintro _ M2 ⟨pw2, rfl, a2, fr2⟩
    simp (dsimp := false) (implicitDefEqProofs := false) []
    exact ⟨pv1, pw2, ⟨a1.keep sep1.symm fr2.fr, a2, (a1.step r1 sep1.symm fr2.fr).symm, mCrash_ok ok n, mCrash_ok ok' n⟩⟩
  rw [if_neg k5, if_neg k5]
  by_cases k6 : kind = 6
  · rw [if_pos k6, if_pos k6]
    subst k6
    simp (dsimp := false) (implicitDefEqProofs := false) []
    refine w_calls (C := PC) Try.call10 (failAfter_ok _ _ _ _ _ _ _ _ hl.1) ?_
    rintro _ M1 ⟨rfl, hM1⟩
    have fr1 : Fr M M1 b pv pv := hM1 ▸ Fr.put _
    have a1 : At M1 b pv (mFail s n) := hM1 ▸ hl.fail n
    clear hM1
    have r1 := hr.keep sep fr1
    have sep1 := hr.step hl sep fr1
    simp (dsimp := false) (implicitDefEqProofs := false) []
    refine w_calls (C := PC) Try.call31 (rfail_ok _ _ _ _ _ _ _ _ r1.1) ?_
    rintro _ M2 ⟨rfl, hM2⟩
    have fr2 : FrN M1 M2 c pw pw := hM2 ▸ FrN.put _
    have a2 : At M2 c pw (mFail t n) := hM2 ▸ r1.fail n
    clear hM2
    simp (dsimp := false) (implicitDefEqProofs := false) []
    exact ⟨pv, pw, ⟨a1.keep sep1.symm fr2.fr, a2, (a1.step r1 sep1.symm fr2.fr).symm, mFail_ok ok n hx, mFail_ok ok' n hx⟩⟩
  rw [if_neg k6, if_neg k6]
  simp (dsimp := false) (implicitDefEqProofs := false) [k0, k1, k2, k3, k4, k5, k6]
  exact ⟨pv, pw, ⟨hl, hr, sep, ok, ok'⟩⟩
end Go.Abs
