/- The law PagestoreImmutable: its simp (dsimp := false) (implicitDefEqProofs := false). -/
import Derived.Test.YteillgpoonhdjaaPsK
set_option maxRecDepth 100000
set_option linter.unusedSimpArgs false
namespace Go.Abs
open Go.Proofs

/-- what was kept of the state o is there in the state s, and no budget is set -/
structure Kept (o s : St) : Prop where
  fuse : s.fuse = -1
  down : s.down = false
  len : (o.pages.length : Int) ≤ s.lasting
  same : s.pages.take o.pages.length = o.pages
theorem kept_crash (s : St) (k : Int) : Kept (mCrash s k) (mCrash s k) := ⟨rfl, rfl, by simp [mCrash], by simp⟩
theorem Kept.done {o s : St} (h : Kept o s) (ok : s.ok) (x : CallD) (hk : x.kind ≠ 6) : Kept o (mDone s x) := by
  obtain ⟨h1, h2, h3, h4⟩ := h
  obtain ⟨k1, k2, k3, -, -⟩ := ok
  have hlen : o.pages.length ≤ s.pages.length := by omega
  unfold mDone
  split
  · unfold mAppend
    rw [if_neg (by simp [h2])]
    split
    · exact ⟨h1, h2, h3, h4⟩
    split
    · exact ⟨h1, h2, h3, h4⟩
    rw [if_neg (by omega)]
    refine ⟨by simp only [St.burn]; rw [if_neg (by omega)]; exact h1, h2, h3, ?_⟩
    simp only
    rw [List.take_append_of_le_length hlen]; exact h4
  split
  · unfold mSet
    rw [if_neg (by simp [h2])]
    split
    · exact ⟨h1, h2, h3, h4⟩
    rw [if_neg (by omega)]
    exact ⟨by simp only [St.burn]; rw [if_neg (by omega)]; exact h1, h2, by simp only; omega, h4⟩
  split
  · refine ⟨rfl, rfl, ?_, ?_⟩
    · simp only [mCrash, List.length_take]; omega
    · simp only [mCrash, List.take_take]
      rw [Nat.min_eq_left (by omega)]; exact h4
  first
    | exact ⟨h1, h2, h3, h4⟩
    | (rw [if_neg hk]; exact ⟨h1, h2, h3, h4⟩)
theorem Kept.get {o s : St} (h : Kept o s) {n : Nat} (hn : n < o.pages.length) : s.pages.getD n .empty = o.pages.getD n .empty := by
  have : o.pages.getD n .empty = (s.pages.take o.pages.length).getD n .empty := by rw [h.same]
  rw [this]
  simp only [List.getD_eq_getElem?_getD, List.getElem?_take, hn, if_true]

theorem duo_new (M : Mem) (o : AObj) (ho : o = .cells [.val (.slice none 0 0), I 0, I (-1), I (-1), B false]) : Duo (M ++ [o] ++ [o]) M.length (.val (.slice none 0 0)) st0 (M ++ [o]).length (.val (.slice none 0 0)) st0 := by
  have t := two_new M o ho
  exact ⟨t.l, t.r, t.sep, t.ok, t.ok⟩

theorem immutable_ok (l1 l2 : List CallD) (n : Int) (o1 o2 : Own) (M : Mem) (hl1 : l1.length ≤ maxLen) (hl2 : l2.length ≤ maxLen) (hx1 : ∀ x ∈ l1, x.n ≤ 9223372036854775807) (hx2 : ∀ x ∈ l2, x.n ≤ 9223372036854775807) :
    ACalls PC 4 [.list 3 (rowsC l1) o1, .list 3 (rowsC l2) o2, I n] M (fun v _ => v = B true) := by
  refine w_body hintB Try.func4 rfl rfl rfl rfl rfl rfl ?_
  simp (dsimp := false) (implicitDefEqProofs := false) []
  refine w_calls (C := PC) Try.call8 (awake_ok M) ?_
  rintro _ M1 rfl
  simp (dsimp := false) (implicitDefEqProofs := false) []
  refine w_calls (C := PC) Try.call15 (heavy_ok l1 30 o1 M1 hl1) ?_
  rintro _ M' ⟨hM', hv, rfl, -⟩
  clear hM'
  cases hv
  case true => simp (dsimp := false) (implicitDefEqProofs := false) []
  simp (dsimp := false) (implicitDefEqProofs := false) []
  refine w_calls (C := PC) Try.call15 (heavy_ok l2 10 o2 M' hl2) ?_
  rintro _ M' ⟨hM', hv, rfl, -⟩
  clear hM'
  cases hv
  case true => simp (dsimp := false) (implicitDefEqProofs := false) []
  simp (dsimp := false) (implicitDefEqProofs := false) []
  refine w_calls (C := PC) Try.call9 (new_ok _) ?_
  rintro _ M2 ⟨rfl, hM2⟩
  simp (dsimp := false) (implicitDefEqProofs := false) []
  refine w_calls (C := PC) Try.call16 (rnew_ok _) ?_
  rintro _ M3 ⟨rfl, hM3⟩
  have t := duo_new M' _ rfl
  rw [← hM2, ← hM3] at t
  clear hM3 hM2
  generalize M'.length = b at t ⊢
  generalize M2.length = c at t ⊢
  simp (dsimp := false) (implicitDefEqProofs := false) []
  refine w_looped hintB (fun T M => T 0 = .list 3 (rowsC l1) o1 ∧ T 1 = .list 3 (rowsC l2) o2 ∧ T 2 = I n ∧ T 7 = .ptr b 0 ∧ T 8 = .ptr c 0 ∧ ∃ i : Nat, T 9 = I i ∧ i ≤ l1.length ∧ ∃ pv pw s s', Duo M b pv s c pw s') (fun T _ => match T 9 with | .val (.int _ i) => l1.length - i.toNat | _ => 0) rfl ?_ ?_
  · exact ⟨by simp (dsimp := false) (implicitDefEqProofs := false) [], by simp (dsimp := false) (implicitDefEqProofs := false) [], by simp (dsimp := false) (implicitDefEqProofs := false) [], by simp (dsimp := false) (implicitDefEqProofs := false) [], by simp (dsimp := false) (implicitDefEqProofs := false) [], 0, by simp (dsimp := false) (implicitDefEqProofs := false) [], by omega, _, _, _, _, t⟩
  · rintro T M4 ⟨t0, t1, t2, t7, t8, i, t9, hi, pv, pw, s, s', h⟩
    by_cases hlt : i < l1.length
    · have e1 := rowsC_get hlt
      have e2 : (rowsC l1)[i]'(by simpa using hlt) = (l1[i]).cells := by simp [rowsC]
      have c3 : IntKind.i64.wrap ((i : Int) + 1) = ((i + 1 : Nat) : Int) := by rw [IntWalk.i64_in _ (by simp [maxLen] at hl1; omega)]; rfl
      simp (dsimp := false) (implicitDefEqProofs := false) [t0, t1, t2, t7, t8, t9, hlt, e1, e2]
      refine ⟨by simp [CallD.cells], ?_⟩
      rw [show List.take 3 (l1[i]).cells = (l1[i]).cells from rfl]
      refine w_calls (C := PC) Try.call17 (done2_ok _ _ _ _ _ s s' h (l1[i]) (hx1 _ (List.getElem_mem hlt))) ?_
      rintro v5 M5 ⟨pv5, pw5, h5⟩
      simp (dsimp := false) (implicitDefEqProofs := false) [t0, t1, t2, t7, t8, t9, c3]
      exact ⟨⟨i + 1, by simp, by omega, _, _, _, _, h5⟩, by omega⟩
    · simp (dsimp := false) (implicitDefEqProofs := false) [t0, t1, t2, t7, t8, t9, hlt]
      refine w_calls (C := PC) Try.call14 (crash_ok _ _ _ 99 s h.ok h.l) ?_
      rintro _ M5 ⟨p5, rfl, a5, f5⟩
      have d5 : Duo M5 b p5 (mCrash s 99) c pw s' := ⟨a5, h.r.keep h.sep f5, h.r.step h.l h.sep f5, mCrash_ok h.ok 99, h.ok'⟩
      have k5 := kept_crash s 99
      clear h f5 a5
      revert d5 k5
      generalize mCrash s 99 = o
      intro d5 k5
      obtain ⟨x, e, hx⟩ := reads o n
      simp (dsimp := false) (implicitDefEqProofs := false) [t0, t1, t2, t7, t8, t9]
      refine w_calls (C := PC) Try.call18 (read_ok _ _ _ _ _ _ _ _ _ d5.l.1 d5.l.2) ?_
      rintro _ _ ⟨rfl, rfl⟩
      rw [hx]
      simp (dsimp := false) (implicitDefEqProofs := false) [t0, t1, t2, t7, t8, t9]
      refine w_calls (C := PC) Try.call19 (len_ok _ _ _ _ _ _ _ _ d5.l.1 d5.l.2) ?_
      rintro _ _ ⟨rfl, rfl⟩
      simp (dsimp := false) (implicitDefEqProofs := false) [t0, t1, t2, t7, t8, t9]
      refine w_looped hintB (fun T M => T 1 = .list 3 (rowsC l2) o2 ∧ T 2 = I n ∧ T 7 = .ptr b 0 ∧ T 8 = .ptr c 0 ∧ T 10 = S x ∧ T 11 = I e ∧ T 12 = I o.pages.length ∧ ∃ i : Nat, T 13 = I i ∧ i ≤ l2.length ∧ ∃ pv pw s s', Duo M b pv s c pw s' ∧ Kept o s) (fun T _ => match T 13 with | .val (.int _ i) => l2.length - i.toNat | _ => 0) rfl ?_ ?_
      · exact ⟨by simp (dsimp := false) (implicitDefEqProofs := false) [t1], by simp (dsimp := false) (implicitDefEqProofs := false) [t2], by simp (dsimp := false) (implicitDefEqProofs := false) [t7], by simp (dsimp := false) (implicitDefEqProofs := false) [t8], by simp (dsimp := false) (implicitDefEqProofs := false) [], by simp (dsimp := false) (implicitDefEqProofs := false) [], by simp (dsimp := false) (implicitDefEqProofs := false) [], 0, by simp (dsimp := false) (implicitDefEqProofs := false) [], by omega, _, _, _, _, d5, k5⟩
      have ko := k5.down
      clear t0 t1 t2 t7 t8 t9 hlt hi d5 k5
      rintro T M6 ⟨t1, t2, t7, t8, t10, t11, t12, i, t13, hi, pv, pw, s, s', h, k⟩
      have hb := h.l.1
      have hlen : o.pages.length ≤ s.pages.length := by have := k.len; have := h.ok.hi; omega
      by_cases hlt : i < l2.length
      · have e1 := rowsC_get hlt
        have e2 : (rowsC l2)[i]'(by simpa using hlt) = [K (l2[i]).kind, S (l2[i]).text, I (l2[i]).n] := by simp [rowsC, CallD.cells]
        have c3 : IntKind.i64.wrap ((i : Int) + 1) = ((i + 1 : Nat) : Int) := by rw [IntWalk.i64_in _ (by simp [maxLen] at hl2; omega)]; rfl
        by_cases h6 : (l2[i]).kind = 6
        · have c4 : ¬ s.pages.length < o.pages.length := by omega
          simp (dsimp := false) (implicitDefEqProofs := false) [t1, t2, t7, t8, t10, t11, t12, t13, hlt, e1, e2, h6]
          refine w_calls (C := PC) Try.call19 (len_ok _ _ _ _ _ _ _ _ h.l.1 h.l.2) ?_
          rintro _ _ ⟨rfl, rfl⟩
          simp (dsimp := false) (implicitDefEqProofs := false) [t1, t2, t7, t8, t10, t11, t12, t13, c4, c3]
          exact ⟨⟨i + 1, by simp, by omega, _, _, _, ⟨_, h⟩, k⟩, by omega⟩
        · simp (dsimp := false) (implicitDefEqProofs := false) [t1, t2, t7, t8, t10, t11, t12, t13, hlt, e1, e2, h6]
          refine w_calls (C := PC) Try.call17 (done2_ok _ _ _ _ _ s s' h (l2[i]) (hx2 _ (List.getElem_mem hlt))) ?_
          rintro v7 M7 ⟨pv7, pw7, h7⟩
          have k7 := k.done h.ok (l2[i]) h6
          have c4 : ¬ (mDone s (l2[i])).pages.length < o.pages.length := by have := k7.len; have := h7.ok.hi; omega
          simp (dsimp := false) (implicitDefEqProofs := false) [t1, t2, t7, t8, t10, t11, t12, t13]
          refine w_calls (C := PC) Try.call19 (len_ok _ _ _ _ _ _ _ _ h7.l.1 h7.l.2) ?_
          rintro _ _ ⟨rfl, rfl⟩
          simp (dsimp := false) (implicitDefEqProofs := false) [t1, t2, t7, t8, t10, t11, t12, t13, c4, c3]
          exact ⟨⟨i + 1, by simp, by omega, _, _, _, ⟨_, h7⟩, k7⟩, by omega⟩
      · simp (dsimp := false) (implicitDefEqProofs := false) [t1, t2, t7, t8, t10, t11, t12, t13, hlt]
        refine w_calls (C := PC) Try.call18 (read_ok _ _ _ _ _ _ _ _ _ h.l.1 h.l.2) ?_
        rintro _ _ ⟨rfl, rfl⟩
        obtain ⟨y, f, hy⟩ := reads s n
        rw [hy]
        rw [ko, if_neg (by simp)] at hx
        rw [k.down, if_neg (by simp)] at hy
        by_cases hc : 0 ≤ n ∧ n < o.pages.length
        · have hs : 0 ≤ n ∧ n < s.pages.length := ⟨hc.1, by omega⟩
          rw [if_pos hc] at hx
          rw [if_pos hs, k.get (by omega)] at hy
          simp only [List.cons.injEq, AV.val.injEq, Value.string.injEq, Value.int.injEq, true_and, and_true] at hx hy
          obtain ⟨rfl, rfl⟩ := hx
          obtain ⟨rfl, rfl⟩ := hy
          simp (dsimp := false) (implicitDefEqProofs := false) [t1, t2, t7, t8, t10, t11, t12, t13]
        · rw [if_neg hc] at hx
          simp only [List.cons.injEq, AV.val.injEq, Value.string.injEq, Value.int.injEq, true_and, and_true] at hx
          obtain ⟨rfl, rfl⟩ := hx
          simp (dsimp := false) (implicitDefEqProofs := false) [t1, t2, t7, t8, t10, t11, t12, t13]
end Go.Abs
