/- The law's helper functions: heavy, done, even. -/
import Derived.Test.YteillgpoonhdjaaPsE
set_option maxRecDepth 100000
set_option linter.unusedSimpArgs false
namespace Go.Abs
open Go.Proofs

structure CallD where
  kind : Int
  text : ByteArray
  n : Int
abbrev K (n : Int) : AV := .val (.int .u8 n)
def CallD.cells (c : CallD) : List AV := [K c.kind, S c.text, I c.n]
def rowsC (l : List CallD) : List (List AV) := l.map CallD.cells
@[simp] theorem rowsC_len (l : List CallD) : (rowsC l).length = l.length := by simp [rowsC]

theorem heavy_ok (l : List CallD) (n : Int) (own : Own) (M : Mem) (hl : l.length ≤ maxLen) :
    ACalls PC 15 [.list 3 (rowsC l) own, I n] M (fun v M' => M' = M ∧ ∃ b, v = B b ∧ (b = false → (l.length : Int) ≤ n)) := by
  refine w_body hintB Try.func15 rfl rfl rfl rfl rfl rfl ?_
  by_cases h0 : n < (l.length : Int)
  · simp (dsimp := false) (implicitDefEqProofs := false) [h0]
  simp (dsimp := false) (implicitDefEqProofs := false) [h0]
  refine w_looped hintB (fun T M' => M' = M ∧ T 0 = .list 3 (rowsC l) own ∧ T 1 = I n ∧ ∃ i : Nat, T 5 = I i ∧ i ≤ l.length) (fun T _ => match T 5 with | .val (.int _ i) => l.length - i.toNat | _ => 0) rfl ?_ ?_
  · exact ⟨rfl, by simp (dsimp := false) (implicitDefEqProofs := false) [], by simp (dsimp := false) (implicitDefEqProofs := false) [], 0, by simp (dsimp := false) (implicitDefEqProofs := false) [], by omega⟩
  · rintro T M1 ⟨rfl, t0, t1, i, t5, hi⟩
    by_cases hlt : i < l.length
    · have e1 : (rowsC l)[i]? = some (l[i]).cells := by simp [rowsC, hlt]
      have e2 : (rowsC l)[i]'(by simpa using hlt) = [K (l[i]).kind, S (l[i]).text, I (l[i]).n] := by simp [rowsC, CallD.cells]
      have c3 : IntKind.i64.wrap ((i : Int) + 1) = ((i + 1 : Nat) : Int) := by rw [IntWalk.i64_in _ (by simp [maxLen] at hl; omega)]; rfl
      by_cases hx : 20000 < ((l[i]).text.size : Int)
      · simp (dsimp := false) (implicitDefEqProofs := false) [t0, t1, t5, hlt, e1, e2, hx]
      · simp (dsimp := false) (implicitDefEqProofs := false) [t0, t1, t5, hlt, e1, e2, hx, c3]
        exact ⟨⟨i + 1, by simp, by omega⟩, by omega⟩
    · obtain rfl : i = l.length := by omega
      simp (dsimp := false) (implicitDefEqProofs := false) [t0, t1, t5, hlt]
      omega

def Sep (b : Nat) (pv : AV) (c : Nat) (pw : AV) : Prop := b ≠ c ∧ famOf pv ≠ some c ∧ famOf pw ≠ some b ∧ ∀ f, famOf pv = some f → famOf pw ≠ some f
theorem Sep.symm {b c : Nat} {pv pw : AV} (h : Sep b pv c pw) : Sep c pw b pv := ⟨h.1.symm, h.2.2.1, h.2.1, fun f h1 h2 => h.2.2.2 f h2 h1⟩
theorem Pg.fam_lt {M : Mem} {pv : AV} {l : List ByteArray} (h : Pg M pv l) {f : Nat} (hf : famOf pv = some f) : f < M.length := by
  rcases h with ⟨rfl, _⟩ | ⟨g, rfl, hg⟩
  · simp [famOf] at hf
  · simp [famOf] at hf
    subst hf
    exact getElem?_lt hg
theorem At.keep {M M' : Mem} {b c : Nat} {pv pv' pw : AV} {t : St} (h : At M c pw t) (sep : Sep b pv c pw) (fr : Fr M M' b pv pv') : At M' c pw t := by
  obtain ⟨hc, hp⟩ := h
  refine ⟨(fr.same c (getElem?_lt hc) sep.1.symm sep.2.1).trans hc, ?_⟩
  rcases hp with hp | ⟨f, rfl, hf⟩
  · exact .inl hp
  · refine .inr ⟨f, rfl, (fr.same f (getElem?_lt hf) ?_ ?_).trans hf⟩
    · rintro rfl; exact sep.2.2.1 rfl
    · intro e; exact sep.2.2.2 f e rfl
theorem At.step {M M' : Mem} {b c : Nat} {pv pv' pw : AV} {s t : St} (h : At M c pw t) (_ : At M b pv s) (sep : Sep b pv c pw) (fr : Fr M M' b pv pv') : Sep b pv' c pw := by
  refine ⟨sep.1, ?_, sep.2.2.1, ?_⟩
  · intro e
    rcases fr.fam c e with e | e
    · exact sep.2.1 e
    · have := getElem?_lt h.1; omega
  · intro f e1 e2
    rcases fr.fam f e1 with e | e
    · exact sep.2.2.2 f e e2
    · have := h.2.fam_lt e2; omega
theorem Fr.put {M : Mem} {b : Nat} {pv : AV} (x : AObj) : Fr M (M.set b x) b pv pv :=
  ⟨by simp, fun k _ hk _ => by rw [List.getElem?_set_ne (Ne.symm hk)], fun _ h => .inl h⟩

theorem FrN.put {M : Mem} {b : Nat} {pv : AV} (x : AObj) : FrN M (M.set b x) b pv pv :=
  ⟨by simp, fun k _ hk => by rw [List.getElem?_set_ne (Ne.symm hk)], fun _ h => .inl h⟩
theorem FrN.refl (M : Mem) (b : Nat) (pv : AV) : FrN M M b pv pv := ⟨Nat.le_refl _, fun _ _ _ => rfl, fun _ h => .inl h⟩
theorem Fr.refl (M : Mem) (b : Nat) (pv : AV) : Fr M M b pv pv := (FrN.refl M b pv).fr
/-- what a call on the boxes b and c may turn -/
def Fr2 (M M' : Mem) (b : Nat) (pv pv' : AV) (c : Nat) (pw pw' : AV) : Prop := ∃ M1, Fr M M1 b pv pv' ∧ FrN M1 M' c pw pw'
theorem Fr2.refl (M : Mem) (b : Nat) (pv : AV) (c : Nat) (pw : AV) : Fr2 M M b pv pv c pw pw := ⟨M, Fr.refl _ _ _, FrN.refl _ _ _⟩

/-- a store and its reference, in one state -/
structure Two (M : Mem) (b : Nat) (pv : AV) (c : Nat) (pw : AV) (s : St) : Prop where
  l : At M b pv s
  r : At M c pw s
  sep : Sep b pv c pw
  ok : s.ok

def mDone (s : St) (c : CallD) : St :=
  if c.kind = 0 ∨ c.kind = 1 ∨ c.kind = 2 then (mAppend s c.text).2
  else if c.kind = 3 ∨ c.kind = 4 then (mSet s c.n).2
  else if c.kind = 5 then mCrash s c.n
  else if c.kind = 6 then mFail s c.n else s

theorem done_ok (M : Mem) (b c : Nat) (pv pw : AV) (s : St) (h : Two M b pv c pw s) (x : CallD) (hx : x.n ≤ 9223372036854775807) :
    ACalls PC 17 [.ptr b 0, .ptr c 0, .agg x.cells] M (fun v M' => v = B true ∧ ∃ pv' pw', Two M' b pv' c pw' (mDone s x) ∧ Fr2 M M' b pv pv' c pw pw') := by
  obtain ⟨hl, hr, sep, ok⟩ := h
  obtain ⟨kind, text, n⟩ := x
  simp only [CallD.cells, mDone] at hx ⊢
  refine w_body hintB Try.func17 rfl rfl rfl rfl rfl rfl ?_
  by_cases hA : kind = 0 ∨ kind = 1 ∨ kind = 2
  · rw [if_pos hA]
    rcases hA with rfl | rfl | rfl
    · simp (dsimp := false) (implicitDefEqProofs := false) []
      refine w_calls (C := PC) Try.call12 (append_ok _ _ _ text s ok hl) ?_
      rintro _ M1 ⟨pv1, rfl, a1, fr1⟩
      have r1 := hr.keep sep fr1
      have sep1 := hr.step hl sep fr1
      simp (dsimp := false) (implicitDefEqProofs := false) []
      refine w_calls (C := PC) Try.call28 (rappend_ok _ _ _ text s ok r1) ?_
      rintro _ M2 ⟨pw2, rfl, a2, fr2⟩
      simp (dsimp := false) (implicitDefEqProofs := false) []
      exact ⟨pv1, pw2, ⟨a1.keep sep1.symm fr2.fr, a2, (a1.step r1 sep1.symm fr2.fr).symm, mAppend_ok ok text⟩, _, fr1, fr2⟩
    · simp (dsimp := false) (implicitDefEqProofs := false) []
      refine w_calls (C := PC) Try.call12 (append_ok _ _ _ text s ok hl) ?_
      rintro _ M1 ⟨pv1, rfl, a1, fr1⟩
      have r1 := hr.keep sep fr1
      have sep1 := hr.step hl sep fr1
      simp (dsimp := false) (implicitDefEqProofs := false) []
      refine w_calls (C := PC) Try.call28 (rappend_ok _ _ _ text s ok r1) ?_
      rintro _ M2 ⟨pw2, rfl, a2, fr2⟩
      simp (dsimp := false) (implicitDefEqProofs := false) []
      exact ⟨pv1, pw2, ⟨a1.keep sep1.symm fr2.fr, a2, (a1.step r1 sep1.symm fr2.fr).symm, mAppend_ok ok text⟩, _, fr1, fr2⟩
    · simp (dsimp := false) (implicitDefEqProofs := false) []
      refine w_calls (C := PC) Try.call12 (append_ok _ _ _ text s ok hl) ?_
      rintro _ M1 ⟨pv1, rfl, a1, fr1⟩
      have r1 := hr.keep sep fr1
      have sep1 := hr.step hl sep fr1
      simp (dsimp := false) (implicitDefEqProofs := false) []
      refine w_calls (C := PC) Try.call28 (rappend_ok _ _ _ text s ok r1) ?_
      rintro _ M2 ⟨pw2, rfl, a2, fr2⟩
      simp (dsimp := false) (implicitDefEqProofs := false) []
      exact ⟨pv1, pw2, ⟨a1.keep sep1.symm fr2.fr, a2, (a1.step r1 sep1.symm fr2.fr).symm, mAppend_ok ok text⟩, _, fr1, fr2⟩
  rw [if_neg hA]
  have k0 : ¬ kind = 0 := fun e => hA (.inl e)
  have k1 : ¬ kind = 1 := fun e => hA (.inr (.inl e))
  have k2 : ¬ kind = 2 := fun e => hA (.inr (.inr e))
  clear hA
  by_cases hB : kind = 3 ∨ kind = 4
  · rw [if_pos hB]
    rcases hB with rfl | rfl
    · simp (dsimp := false) (implicitDefEqProofs := false) []
      refine w_drawn hintB follows (fun k => if k = 3 then 2 else if k = 7 then 2 else 0) rfl (by decide +kernel) ?_
      simp (dsimp := false) (implicitDefEqProofs := false) []
      refine w_call2 (C := PC) Try.call11 (setroot_ok _ _ _ n s ok hl) ?_
      obtain ⟨M1, hM1⟩ : ∃ M1, M1 = M.set b (.cells ((mSet s n).2.cells pv)) := ⟨_, rfl⟩
      rw [← hM1]
      have fr1 : Fr M M1 b pv pv := hM1 ▸ Fr.put _
      have a1 : At M1 b pv (mSet s n).2 := hM1 ▸ hl.root n
      clear hM1
      have r1 := hr.keep sep fr1
      have sep1 := hr.step hl sep fr1
      simp (dsimp := false) (implicitDefEqProofs := false) []
      refine w_call2 (C := PC) Try.call29 (rsetroot_ok _ _ _ n s ok r1) ?_
      obtain ⟨M2, hM2⟩ : ∃ M2, M2 = M1.set c (.cells ((mSet s n).2.cells pw)) := ⟨_, rfl⟩
      rw [← hM2]
      have fr2 : FrN M1 M2 c pw pw := hM2 ▸ FrN.put _
      have a2 : At M2 c pw (mSet s n).2 := hM2 ▸ r1.root n
      clear hM2
      simp (dsimp := false) (implicitDefEqProofs := false) []
      exact ⟨pv, pw, ⟨a1.keep sep1.symm fr2.fr, a2, (a1.step r1 sep1.symm fr2.fr).symm, mSet_ok ok n⟩, _, fr1, fr2⟩
    · simp (dsimp := false) (implicitDefEqProofs := false) []
      refine w_drawn hintB follows (fun k => if k = 3 then 2 else if k = 7 then 2 else 0) rfl (by decide +kernel) ?_
      simp (dsimp := false) (implicitDefEqProofs := false) []
      refine w_call2 (C := PC) Try.call11 (setroot_ok _ _ _ n s ok hl) ?_
      obtain ⟨M1, hM1⟩ : ∃ M1, M1 = M.set b (.cells ((mSet s n).2.cells pv)) := ⟨_, rfl⟩
      rw [← hM1]
      have fr1 : Fr M M1 b pv pv := hM1 ▸ Fr.put _
      have a1 : At M1 b pv (mSet s n).2 := hM1 ▸ hl.root n
      clear hM1
      have r1 := hr.keep sep fr1
      have sep1 := hr.step hl sep fr1
      simp (dsimp := false) (implicitDefEqProofs := false) []
      refine w_call2 (C := PC) Try.call29 (rsetroot_ok _ _ _ n s ok r1) ?_
      obtain ⟨M2, hM2⟩ : ∃ M2, M2 = M1.set c (.cells ((mSet s n).2.cells pw)) := ⟨_, rfl⟩
      rw [← hM2]
      have fr2 : FrN M1 M2 c pw pw := hM2 ▸ FrN.put _
      have a2 : At M2 c pw (mSet s n).2 := hM2 ▸ r1.root n
      clear hM2
      simp (dsimp := false) (implicitDefEqProofs := false) []
      exact ⟨pv, pw, ⟨a1.keep sep1.symm fr2.fr, a2, (a1.step r1 sep1.symm fr2.fr).symm, mSet_ok ok n⟩, _, fr1, fr2⟩
  rw [if_neg hB]
  have k3 : ¬ kind = 3 := fun e => hB (.inl e)
  have k4 : ¬ kind = 4 := fun e => hB (.inr e)
  clear hB
  by_cases k5 : kind = 5
  · rw [if_pos k5]
    subst k5
    simp (dsimp := false) (implicitDefEqProofs := false) []
    refine w_calls (C := PC) Try.call14 (crash_ok _ _ _ n s ok hl) ?_
    rintro _ M1 ⟨pv1, rfl, a1, fr1⟩
    have r1 := hr.keep sep fr1
    have sep1 := hr.step hl sep fr1
    simp (dsimp := false) (implicitDefEqProofs := false) []
    refine w_calls (C := PC) Try.call30 (rcrash_ok _ _ _ n s ok r1) ?_
    rintro _ M2 ⟨pw2, rfl, a2, fr2⟩
    simp (dsimp := false) (implicitDefEqProofs := false) []
    exact ⟨pv1, pw2, ⟨a1.keep sep1.symm fr2.fr, a2, (a1.step r1 sep1.symm fr2.fr).symm, mCrash_ok ok n⟩, _, fr1, fr2⟩
  rw [if_neg k5]
  by_cases k6 : kind = 6
  · rw [if_pos k6]
    subst k6
    simp (dsimp := false) (implicitDefEqProofs := false) []
    refine w_calls (C := PC) Try.call10 (failAfter_ok _ _ _ _ _ _ _ _ hl.1) ?_
    rintro _ M1 ⟨rfl, hM1⟩
    have fr1 : Fr M M1 b pv pv := hM1 ▸ Fr.put _
    have a1 : At M1 b pv (mFail s n) := hM1 ▸ hl.fail n
    clear hM1
    have r1 := hr.keep sep fr1
    have sep1 := hr.step hl sep fr1
    simp (dsimp := false) (implicitDefEqProofs := false) []
    refine w_calls (C := PC) Try.call31 (rfail_ok _ _ _ _ _ _ _ _ r1.1) ?_
    rintro _ M2 ⟨rfl, hM2⟩
    have fr2 : FrN M1 M2 c pw pw := hM2 ▸ FrN.put _
    have a2 : At M2 c pw (mFail s n) := hM2 ▸ r1.fail n
    clear hM2
    simp (dsimp := false) (implicitDefEqProofs := false) []
    exact ⟨pv, pw, ⟨a1.keep sep1.symm fr2.fr, a2, (a1.step r1 sep1.symm fr2.fr).symm, mFail_ok ok n hx⟩, _, fr1, fr2⟩
  rw [if_neg k6]
  simp (dsimp := false) (implicitDefEqProofs := false) [k0, k1, k2, k3, k4, k5, k6]
  exact ⟨pv, pw, ⟨hl, hr, sep, ok⟩, Fr2.refl _ _ _ _ _⟩
end Go.Abs
