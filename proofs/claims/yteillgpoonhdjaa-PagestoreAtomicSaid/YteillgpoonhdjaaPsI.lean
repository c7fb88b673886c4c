/- The law PagestoreModel: its simp (dsimp := false) (implicitDefEqProofs := false). -/
import Derived.Test.YteillgpoonhdjaaPsH
set_option maxRecDepth 100000
set_option linter.unusedSimpArgs false
namespace Go.Abs
open Go.Proofs

theorem At.push {M : Mem} {b : Nat} {pv : AV} {s : St} (h : At M b pv s) (o : AObj) : At (M ++ [o]) b pv s := by
  obtain ⟨hb, hp⟩ := h
  refine ⟨by rw [List.getElem?_append_left (getElem?_lt hb)]; exact hb, ?_⟩
  rcases hp with hp | ⟨f, rfl, hf⟩
  · exact .inl hp
  · exact .inr ⟨f, rfl, by rw [List.getElem?_append_left (getElem?_lt hf)]; exact hf⟩
theorem two_new (M : Mem) (o : AObj) (ho : o = .cells [.val (.slice none 0 0), I 0, I (-1), I (-1), B false]) : Two (M ++ [o] ++ [o]) M.length (.val (.slice none 0 0)) (M ++ [o]).length (.val (.slice none 0 0)) st0 := by
  subst ho
  refine ⟨(at_new M).push _, at_new _, ⟨by simp, by simp [famOf], by simp [famOf], by simp [famOf]⟩, st0_ok⟩
theorem rowsC_get {l : List CallD} {i : Nat} (hlt : i < l.length) : (rowsC l)[i]? = some (l[i]).cells := by simp [rowsC, hlt]

theorem model_ok (l : List CallD) (n : Int) (own : Own) (M : Mem) (hl : l.length ≤ maxLen) (hx : ∀ x ∈ l, x.n ≤ 9223372036854775807) :
    ACalls PC 5 [.list 3 (rowsC l) own, I n] M (fun v _ => v = B true) := by
  refine w_body hintB Try.func5 rfl rfl rfl rfl rfl rfl ?_
  simp (dsimp := false) (implicitDefEqProofs := false) []
  refine w_calls (C := PC) Try.call8 (awake_ok M) ?_
  rintro _ M1 rfl
  simp (dsimp := false) (implicitDefEqProofs := false) []
  refine w_calls (C := PC) Try.call15 (heavy_ok l 40 own M1 hl) ?_
  rintro _ M' ⟨hM', hv, rfl, -⟩
  clear hM'
  cases hv
  case true => simp (dsimp := false) (implicitDefEqProofs := false) []
  simp (dsimp := false) (implicitDefEqProofs := false) []
  refine w_calls (C := PC) Try.call9 (new_ok _) ?_
  rintro _ M2 ⟨rfl, hM2⟩
  simp (dsimp := false) (implicitDefEqProofs := false) []
  refine w_calls (C := PC) Try.call16 (rnew_ok _) ?_
  rintro _ M3 ⟨rfl, hM3⟩
  have t := two_new M' _ rfl
  rw [← hM2, ← hM3] at t
  clear hM3 hM2
  generalize M'.length = b at t ⊢
  generalize M2.length = c at t ⊢
  simp (dsimp := false) (implicitDefEqProofs := false) []
  refine w_looped hintB (fun T M => T 0 = .list 3 (rowsC l) own ∧ T 1 = I n ∧ T 5 = .ptr b 0 ∧ T 6 = .ptr c 0 ∧ ∃ i : Nat, T 7 = I i ∧ i ≤ l.length ∧ ∃ pv pw s, Two M b pv c pw s) (fun T _ => match T 7 with | .val (.int _ i) => l.length - i.toNat | _ => 0) rfl ?_ ?_
  · exact ⟨by simp (dsimp := false) (implicitDefEqProofs := false) [], by simp (dsimp := false) (implicitDefEqProofs := false) [], by simp (dsimp := false) (implicitDefEqProofs := false) [], by simp (dsimp := false) (implicitDefEqProofs := false) [], 0, by simp (dsimp := false) (implicitDefEqProofs := false) [], by omega, _, _, _, t⟩
  · rintro T M4 ⟨t0, t1, t5, t6, i, t7, hi, pv, pw, s, h⟩
    by_cases hlt : i < l.length
    · have e1 := rowsC_get hlt
      have e2 : (rowsC l)[i]'(by simpa using hlt) = (l[i]).cells := by simp [rowsC]
      have c3 : IntKind.i64.wrap ((i : Int) + 1) = ((i + 1 : Nat) : Int) := by rw [IntWalk.i64_in _ (by simp [maxLen] at hl; omega)]; rfl
      simp (dsimp := false) (implicitDefEqProofs := false) [t0, t1, t5, t6, t7, hlt, e1, e2]
      refine ⟨by simp [CallD.cells], ?_⟩
      rw [show List.take 3 (l[i]).cells = (l[i]).cells from rfl]
      refine w_calls (C := PC) Try.call17 (done_ok _ _ _ _ _ s h (l[i]) (hx _ (List.getElem_mem hlt))) ?_
      rintro _ M5 ⟨rfl, pv5, pw5, h5, -⟩
      simp (dsimp := false) (implicitDefEqProofs := false) [t0, t1, t5, t6, t7]
      refine w_calls (C := PC) Try.call20 (even_ok _ _ _ _ _ _ h5 n) ?_
      rintro _ _ ⟨rfl, rfl⟩
      simp (dsimp := false) (implicitDefEqProofs := false) [t0, t1, t5, t6, t7, c3]
      exact ⟨⟨i + 1, by simp, by omega, _, _, _, h5⟩, by omega⟩
    · simp (dsimp := false) (implicitDefEqProofs := false) [t0, t1, t5, t6, t7, hlt]
      refine w_calls (C := PC) Try.call20 (even_ok _ _ _ _ _ s h n) ?_
      rintro _ _ ⟨rfl, rfl⟩
      simp (dsimp := false) (implicitDefEqProofs := false) []
end Go.Abs
