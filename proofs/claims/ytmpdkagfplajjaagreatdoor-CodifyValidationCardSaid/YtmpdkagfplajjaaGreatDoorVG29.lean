/- The texts CvZe, CvZf: what each proves stands at its head. -/
import Derived.Test.YtmpdkagfplajjaaGreatDoorVG27
import Derived.Test.YtmpdkagfplajjaaGreatDoorVG28
import Derived.Test.YtmpdkagfplajjaaGreatDoorVG22
section
/- Contracts: default plans, equality of slots (both ways). -/
set_option maxRecDepth 100000
set_option linter.unusedSimpArgs false
set_option linter.unusedVariables false
namespace Go.Abs
open Go.Proofs TryTypes

@[simp] theorem zero100 : zeroCells? Tryz.prog 100 = some [.nilFunc] := by kernel_rfl
theorem stood69 : Tryz.prog.stoodInHeld 69 = false := by kernel_rfl
theorem eqGuard69 : Tryz.prog.eqGuardType Tryz.prog.depth 69 = false := by kernel_rfl
theorem neqSlot (s : SlotD) : binAV Tryz.prog .neq 69 (.agg [I s.id.act, I s.id.item, I s.id.n, I s.parent, S s.label]) (.agg [I s.id.act, I s.id.item, I s.id.n, I s.parent, S s.label]) = some (B false) := by
  have h0 : binAV0 Tryz.prog .neq 69 (.agg [I s.id.act, I s.id.item, I s.id.n, I s.parent, S s.label]) (.agg [I s.id.act, I s.id.item, I s.id.n, I s.parent, S s.label]) = none := by simp [binAV0, nilKind]
  have h1 : eqAV Tryz.prog 30 69 (.agg [I s.id.act, I s.id.item, I s.id.n, I s.parent, S s.label]) (.agg [I s.id.act, I s.id.item, I s.id.n, I s.parent, S s.label]) = some true := by
    simp [eqAV, eqFieldsAV, loadCells_row, stood69, stood23]
  simp only [binAV, h0, binMore, eqGuard69, h1]
  rfl
/-! ### labels of a book -/
theorem rightU_alone {u : UnitD} (h : rightU u = true) : aloneR u = true := by
  obtain ⟨a, b, c, d, e, f⟩ := u
  rw [rightU, Bool.and_eq_true] at h; exact h.1
theorem nests_nz {p k : Int} (h : nestsB p k = true) : k ≠ 0 := by
  rintro rfl
  have hp : 0 ≤ p ∧ p ≤ 7 := by
    refine Classical.byContradiction fun hc => ?_
    have : nestsB p 0 = false := by
      simp only [nestsB, Bool.and_eq_false_iff, decide_eq_false_iff_not]
      left; simp [belowL]; omega
    rw [this] at h; simp at h
  obtain ⟨n, rfl⟩ : ∃ n : Nat, p = n := ⟨p.toNat, by omega⟩
  have : n = 0 ∨ n = 1 ∨ n = 2 ∨ n = 3 ∨ n = 4 ∨ n = 5 ∨ n = 6 ∨ n = 7 := by omega
  rcases this with rfl | rfl | rfl | rfl | rfl | rfl | rfl | rfl <;> simp [nestsB, belowL] at h
theorem rightL_mem (kind : Int) : ∀ (ks before : List UnitD), rightL kind ks before = true → (∀ k ∈ ks, labelOk k.label = true ∧ rightU k = true) ∧ (before ++ ks).Pairwise (fun a b => sameKL a b = false) ∨ ¬ before.Pairwise (fun a b => sameKL a b = false)
  | [], before, h => by
    by_cases c : before.Pairwise (fun a b => sameKL a b = false)
    · left; exact ⟨by simp, by simpa using c⟩
    · exact .inr c
  | k :: ks, before, h => by
    rw [rightL] at h
    simp only [Bool.and_eq_true, Bool.not_eq_true'] at h
    obtain ⟨⟨⟨h1, h2⟩, h3⟩, h4⟩ := h
    by_cases c : before.Pairwise (fun a b => sameKL a b = false)
    case neg => exact .inr c
    have hb : (before ++ [k]).Pairwise (fun a b => sameKL a b = false) := by
      rw [List.pairwise_append]
      refine ⟨c, by simp, fun a ha b hb => ?_⟩
      simp only [List.mem_cons, List.not_mem_nil, or_false] at hb
      subst hb
      have := List.any_eq_false.1 h3 a ha
      simpa using this
    rcases rightL_mem kind ks (before ++ [k]) h4 with ⟨q1, q2⟩ | q
    · left
      refine ⟨fun x hx => ?_, by simpa using q2⟩
      rcases List.mem_cons.1 hx with rfl | hx
      · have ha := rightU_alone h2
        have hk := nests_nz h1
        simp only [aloneR, if_neg hk, Bool.and_eq_true] at ha
        exact ⟨ha.2, h2⟩
      · exact q1 x hx
    · exact absurd hb q
theorem labs_of : ∀ u : UnitD, rightU u = true → labsU u
  | .mk id k l h w ks => fun hr => by
    rw [rightU, Bool.and_eq_true] at hr
    rw [labsU]
    rcases rightL_mem k ks [] hr.2 with ⟨q1, q2⟩ | q
    · rw [List.nil_append] at q2
      refine ⟨labsL_iff.2 fun x hx => ?_, ?_⟩
      · have := UnitD.kid_lt (u := .mk id k l h w ks) hx
        exact ⟨(q1 x hx).1, labs_of x (q1 x hx).2⟩
      · rw [List.pairwise_iff_getElem] at q2 ⊢
        intro i j hi hj hij e
        have hs := q2 i j hi hj hij
        simp only [keyU, Prod.mk.injEq] at e
        obtain ⟨e1, e2, e3⟩ := e
        have hl := label_inj ks[i].label ks[j].label (q1 _ (List.getElem_mem hi)).1 (q1 _ (List.getElem_mem hj)).1 e2 (by
          have h : (labTail ks[i].label).data = (labTail ks[j].label).data := by
            have := congrArg (fun l : List UInt8 => (⟨l.toArray⟩ : ByteArray)) e3
            simpa [ByteArray.toList_eq] using this
          exact ByteArray.ext h)
        simp [sameKL, e1, hl] at hs
    · exact absurd .nil q
termination_by u => SizeOf.sizeOf u

section
variable (gl : Nat → AV)
theorem rSortedP_ok (u : UnitD) (M : Mem) (hfit : Fit u) : ACalls (WC gl) 16 [.agg u.row] M (fun v M' => OwnR 69 5 SlotD.row M' v (if bookR u then slotsL (sortK u.kids) [] (-1) else []) ∧ Grow M M' ∧ Later M.length v) := by
  have hbk := rBook_ok gl u M hfit
  have hlab : bookR u = true → labsU u := fun h => labs_of u (by
    simp only [bookR, mayR, Bool.and_eq_true] at h; exact h.1.2.1.1.1)
  have hso := fun (h : bookR u = true) => rSorted_ok gl (countN u) u [] (-1) (.vref M.length 0 5 0 0) (M ++ [.vec 69 5 [] 0 [(0, 0)]]) (Nat.le_refl _) hfit.1 (hlab h) (by have := hfit.2.2; simp; omega) OwnR.new0
  have hrow := u.row_eq
  rw [hrow] at hbk hso ⊢
  refine w_body (hQ [6, 7]) Tryz.func16 rfl rfl rfl rfl rfl rfl ?_
  simp (dsimp := false) (implicitDefEqProofs := false)
  refine w_calls (inv_of Tryz.func35 rfl rfl hbk) ?_
  rintro _ M ⟨rfl, rfl⟩
  cases c : bookR u with
  | false =>
    simp (dsimp := false) (implicitDefEqProofs := false) [vbuild28z, OwnR.new0, KeepsBut.app, Later]
  | true =>
    simp (dsimp := false) (implicitDefEqProofs := false) [vbuild28z]
    refine w_calls (inv_of Tryz.func58 rfl rfl (hso c)) ?_
    rintro r M1 ⟨h1, h2, h3⟩
    simp (dsimp := false) (implicitDefEqProofs := false) [h1]
    refine ⟨⟨by have := h2.1; simp at this; omega, fun i hi _ => by rw [h2.2 i (by simp; omega) (by simp; omega), List.getElem?_append_left hi]⟩, fun q hq => ?_⟩
    rcases h3 with e | e
    · rw [e] at hq; simp at hq; omega
    · have := e q hq; simp at this; omega
theorem plan_ok (hg0 : gl 0 = belowAV) (hg1 : gl 1 = namesAV) (u : UnitD) (M : Mem) (hfit : Fit u) (h40 : countN u ≤ 40) : ACalls (WC gl) 15 [.agg u.row] M (fun v M' => OwnR 69 5 SlotD.row M' v (if bookR u then slotsL (sortK u.kids) [] (-1) else []) ∧ Grow M M' ∧ Later M.length v) := by
  have hbk := isBook_ok gl hg0 hg1 u M hfit
  rw [book_same] at hbk
  have hlab : bookR u = true → labsU u := fun h => labs_of u (by
    simp only [bookR, mayR, Bool.and_eq_true] at h; exact h.1.2.1.1.1)
  obtain ⟨M1, hM1⟩ : ∃ M1, M1 = M ++ [AObj.cells 28 [.val (.slice none 0 0)], AObj.cells 100 [walkF M.length (M.length + 1)]] := ⟨_, rfl⟩
  have ho : M1[M.length]? = some (AObj.cells 28 [.val (.slice none 0 0)]) := by rw [hM1]; simp
  have hw : M1[M.length + 1]? = some (AObj.cells 100 [walkF M.length (M.length + 1)]) := by rw [hM1]; simp
  have hso := fun (h : bookR u = true) => walk_ok gl M.length (M.length + 1) (by omega) (countN u) u [] (-1) (.val (.slice none 0 0)) M1 (Nat.le_refl _) h40 hfit.1 (hlab h) (by simp; omega) OwnR.nil ho hw (by simp) (by simp)
  have hrow := u.row_eq
  rw [hrow] at hbk hso ⊢
  refine w_body (hQ []) Tryz.func15 rfl rfl rfl rfl rfl rfl ?_
  simp (dsimp := false) (implicitDefEqProofs := false)
  refine w_calls (inv_of Tryz.func50 rfl rfl hbk) ?_
  rintro _ M ⟨rfl, rfl⟩
  cases c : bookR u with
  | false =>
    simp (dsimp := false) (implicitDefEqProofs := false) [OwnR.nil, KeepsBut.refl, Later]
  | true =>
    simp (dsimp := false) (implicitDefEqProofs := false) [allocAV, storeAV, overwrite, agg_st, agg_cs]
    rw [← hM1]
    simp (dsimp := false) (implicitDefEqProofs := false) [loadAV_ptr hw]
    refine w_calls (inv_of Tryz.func51 rfl rfl (hso c)) ?_
    rintro r M2 ⟨v', h1, _, h3, h4, h5⟩
    have hlat : Later M.length v' := fun q hq => by
      rcases h5 with e | e
      · rw [e] at hq; simp at hq
      · have := e q hq; rw [hM1] at this; simp at this; omega
    have hgr : Grow M M2 := by
      have hl : M1.length = M.length + 2 := by rw [hM1]; simp
      refine ⟨by have := h4.1; omega, fun i hi _ => ?_⟩
      rw [h4.2 i (by omega) (by omega) (by simp), hM1, List.getElem?_append_left hi]
    simp (dsimp := false) (implicitDefEqProofs := false) [loadAV_ptr h1, h3, hgr, hlat]
theorem slots_ok (l : List SlotD) (M : Mem) (hl : l.length ≤ 1000) : ACalls (WC gl) 14 [.list 5 (rowsX l) .no, .list 5 (rowsX l) .no] M (fun r M' => r = B true ∧ M' = M) := by
  refine w_body hB Tryz.func14 rfl rfl rfl rfl rfl rfl ?_
  simp (dsimp := false) (implicitDefEqProofs := false)
  refine w_looped hB (fun T M1 => ∃ i : Nat, i ≤ l.length ∧ M1 = M ∧ T 0 = .list 5 (rowsX l) .no ∧ T 1 = .list 5 (rowsX l) .no ∧ T 5 = I i)
    (fun T M1 => match T 5 with | .val (.int _ i) => l.length - i.toNat | _ => 0) (by kernel_rfl) ?_ ?_
  · exact ⟨0, by omega, rfl, by simp, by simp, by simp⟩
  rintro T M1 ⟨i, i1, rfl, t0, t1, t5⟩
  by_cases hi : i < l.length
  case neg =>
    have hi' : ¬ (i : Int) < l.length := by omega
    simp (dsimp := false) (implicitDefEqProofs := false) [t0, t1, t5, hi']
  have hi' : (i : Int) < l.length := by omega
  have w1 := wadd1 (i := i) (by omega)
  simp (dsimp := false) (implicitDefEqProofs := false) [t0, t1, t5, hi']
  refine w_drawn hB (cfollows gl) (fun k => 0) (fun k => 0) (by rfl) (by kernel_rfl) ?_
  simp (dsimp := false) (implicitDefEqProofs := false) [t0, t1, t5, hi, SlotD.row, neqSlot, w1]
  exact ⟨⟨i + 1, by clear w1; omega, rfl⟩, by clear w1; omega⟩
theorem rSortedD_ok (u : UnitD) (M : Mem) (hfit : Fit u) : ACalls (WC gl) 16 [.agg u.row] M (fun v M' => v = .list 5 (rowsX (if bookR u then slotsL (sortK u.kids) [] (-1) else [])) .no ∧ M' = M) :=
  ACalls.still (fun _ => rfl) (fun n x => by simp [SlotD.row, bddL, bdd]) (rSortedP_ok gl u M hfit)
theorem planD_ok (hg0 : gl 0 = belowAV) (hg1 : gl 1 = namesAV) (u : UnitD) (M : Mem) (hfit : Fit u) (h40 : countN u ≤ 40) : ACalls (WC gl) 15 [.agg u.row] M (fun v M' => v = .list 5 (rowsX (if bookR u then slotsL (sortK u.kids) [] (-1) else [])) .no ∧ M' = M) :=
  ACalls.still (fun _ => rfl) (fun n x => by simp [SlotD.row, bddL, bdd]) (plan_ok gl hg0 hg1 u M hfit h40)
end
end Go.Abs
end
section
/- Contracts: Few of chapter 46; the law CodifyValidation. -/
set_option maxRecDepth 100000
set_option linter.unusedSimpArgs false
set_option linter.unusedVariables false
namespace Go.Abs
open Go.Proofs TryTypes

mutual
theorem size_count : ∀ (u : UnitD) (deep most : Int), sizeU u deep most ≤ most → sizeU u deep most = countN u
  | .mk _ _ _ _ _ ks, deep, most, h => by
    rw [sizeU] at h ⊢
    rw [countN]
    by_cases c : 20 < deep
    · rw [if_pos c] at h; omega
    · rw [if_neg c] at h ⊢
      have := sizeL_count ks deep most 1 h
      omega
theorem sizeL_count : ∀ (ks : List UnitD) (deep most n : Int), sizeL ks deep most n ≤ most → sizeL ks deep most n = n + countL ks
  | [], deep, most, n, h => by rw [sizeL, countL]; omega
  | k :: ks, deep, most, n, h => by
    rw [sizeL] at h ⊢
    rw [countL]
    by_cases c : n ≤ most
    · rw [if_pos c] at h ⊢
      have h1 := sizeL_count ks deep most _ h
      have h2 := size_count k (deep + 1) (most - n) (by omega)
      omega
    · rw [if_neg c] at h; omega
end
theorem shortW_len {l : List WordD} (h : shortW l = true) : l.length ≤ 300 := by
  simp only [shortW, Bool.and_eq_true, decide_eq_true_eq] at h; exact h.2
mutual
theorem words_lims : ∀ u : UnitD, wordsU u = true → countN u ≤ 1000 → u.lims
  | .mk id k l h w ks, hw, hc => by
    rw [wordsU] at hw
    simp only [Bool.and_eq_true, decide_eq_true_eq] at hw
    obtain ⟨⟨⟨h1, h2⟩, h3⟩, h4⟩ := hw
    rw [countN] at hc
    have := countL_len ks
    rw [UnitD.lims]
    exact ⟨⟨shortW_len h2, shortW_len h3, by show ks.length ≤ 1000; omega, by show l.size ≤ 1000; omega⟩, wordsL_lims ks h4 (by omega)⟩
theorem wordsL_lims : ∀ ks : List UnitD, wordsL ks = true → countL ks ≤ 1000 → limsL ks
  | [], _, _ => by rw [limsL]; trivial
  | k :: ks, hw, hc => by
    rw [wordsL, Bool.and_eq_true] at hw
    rw [countL] at hc
    rw [limsL]
    exact ⟨words_lims k hw.1 (by omega), wordsL_lims ks hw.2 (by omega)⟩
end
theorem few_fit (u : UnitD) (hg : u.good) (h : few06 u 30 = true) : Fit u ∧ countN u ≤ 30 := by
  simp only [few06, Bool.and_eq_true, decide_eq_true_eq] at h
  have := size_count u 0 30 h.1
  have hc : countN u ≤ 30 := by omega
  exact ⟨⟨hg, words_lims u h.2 (by omega), by omega⟩, hc⟩
def few46 (u : UnitD) (l : List SlotD) : Bool := few06 u 30 && decide (l.length ≤ 40) && l.all fun s => decide (s.label.size ≤ 100)
section
variable (gl : Nat → AV)
theorem few46_ok (u : UnitD) (l : List SlotD) (M : Mem) (hg : u.good) (hl : l.length ≤ maxLen) : ACalls (WC gl) 11 [.agg u.row, .list 5 (rowsX l) .no, .val (.slice none 0 0)] M (fun v M' => v = B (few46 u l) ∧ M' = M) := by
  have hl' : l.length ≤ 9223372036854775807 := by simpa [maxLen] using hl
  have hf := few06_ok gl u 30 M hg (by omega) (by omega)
  obtain ⟨R, hR⟩ : ∃ R, R = few46 u l := ⟨_, rfl⟩
  have hR2 : R = (few06 u 30 && decide (l.length ≤ 40) && l.all fun s => decide (s.label.size ≤ 100)) := hR
  rw [← hR]
  rw [u.row_eq] at hf ⊢
  refine w_body hB Tryz.func11 rfl rfl rfl rfl rfl rfl ?_
  simp (dsimp := false) (implicitDefEqProofs := false)
  refine w_calls (inv_of Tryz.func46 rfl rfl hf) ?_
  rintro _ M ⟨rfl, rfl⟩
  cases c1 : few06 u 30 with
  | false =>
    rw [c1] at hR2
    simp only [Bool.false_and] at hR2
    simp (dsimp := false) (implicitDefEqProofs := false) [hR2]
  | true =>
  rw [c1, Bool.true_and] at hR2
  by_cases c2 : l.length ≤ 40
  case neg =>
    have c2' : (40 : Int) < l.length := by omega
    have c2g : (l.length : Int) > 40 := c2'
    rw [decide_eq_false c2, Bool.false_and] at hR2
    simp (dsimp := false) (implicitDefEqProofs := false) [c2', c2g, hR2]
  have c2' : ¬ (40 : Int) < l.length := by omega
  have c2g : ¬ (l.length : Int) > 40 := c2'
  rw [decide_eq_true c2, Bool.true_and] at hR2
  simp (dsimp := false) (implicitDefEqProofs := false) [c2', c2g]
  refine w_looped hB (fun T M1 => ∃ i : Nat, i ≤ l.length ∧ M1 = M ∧ T 1 = .list 5 (rowsX l) .no ∧ T 2 = .val (.slice none 0 0) ∧ T 7 = I i ∧ R = (l.drop i).all fun s => decide (s.label.size ≤ 100))
    (fun T M1 => match T 7 with | .val (.int _ i) => l.length - i.toNat | _ => 0) (by kernel_rfl) ?_ ?_
  · exact ⟨0, by omega, rfl, by simp, by simp, by simp, by simpa using hR2⟩
  rintro T M1 ⟨i, i1, rfl, t1, t2, t7, ho⟩
  by_cases hi : i < l.length
  case neg =>
    have hi' : ¬ (i : Int) < l.length := by omega
    rw [show l.drop i = [] from List.drop_eq_nil_of_le (by omega), List.all_nil] at ho
    simp (dsimp := false) (implicitDefEqProofs := false) [t1, t2, t7, hi']
    refine w_looped hB (fun T M2 => M2 = M1 ∧ T 2 = .val (.slice none 0 0) ∧ T 8 = I 0) (fun T M1 => 0) (by kernel_rfl) ?_ ?_
    · exact ⟨rfl, by simp [t2], by simp⟩
    · rintro T M2 ⟨rfl, t2, t8⟩
      simp (dsimp := false) (implicitDefEqProofs := false) [t2, t8, ho]
  have hi' : (i : Int) < l.length := by omega
  have w1 := wadd1 (i := i) (by omega)
  rw [List.drop_eq_getElem_cons hi, List.all_cons] at ho
  by_cases c3 : l[i].label.size ≤ 100
  · have c3' : ¬ (100 : Int) < l[i].label.size := by omega
    have c3g : ¬ (l[i].label.size : Int) > 100 := c3'
    rw [decide_eq_true c3, Bool.true_and] at ho
    simp (dsimp := false) (implicitDefEqProofs := false) [t1, t2, t7, hi, hi', SlotD.row, c3', c3g, w1]
    exact ⟨⟨i + 1, by clear w1; omega, rfl, ho⟩, by clear w1; omega⟩
  · have c3' : (100 : Int) < l[i].label.size := by omega
    have c3g : (l[i].label.size : Int) > 100 := c3'
    rw [decide_eq_false c3, Bool.false_and] at ho
    simp (dsimp := false) (implicitDefEqProofs := false) [t1, t2, t7, hi, hi', SlotD.row, c3', c3g, ho]
theorem law3_ok (hg0 : gl 0 = belowAV) (hg1 : gl 1 = namesAV) (u : UnitD) (l : List SlotD) (hg : u.good) (hl : l.length ≤ maxLen) (hs : ∀ s ∈ l, s.good) (haw : Invk (WC gl) 10 [] [] (fun r _ => r = .val (.bool true))) :
    ACalls (WC gl) 3 [.agg u.row, .list 5 (rowsX l) .no] [] (fun v _ => v = B true) := by
  have hfew := fun M => few46_ok gl u l M hg hl
  have hfit := few_fit u hg
  have hr := u.row_eq
  have hval := fun M hf hl => validate_ok gl hg0 hg1 (fun x => findU x u) u rfl l M hf hl hs
  have hmay := fun M hf hl => rMayP_ok gl (fun x => findU x u) u rfl l M hf hl hs
  have hpl := fun M hf h40 => planD_ok gl hg0 hg1 u M hf h40
  have hso := fun M hf => rSortedD_ok gl u M hf
  rw [hr] at hfew hval hmay hpl hso ⊢
  refine w_body hB Tryz.func3 rfl rfl rfl rfl rfl rfl ?_
  simp (dsimp := false) (implicitDefEqProofs := false)
  refine w_calls haw ?_
  rintro _ M ⟨rfl⟩
  simp (dsimp := false) (implicitDefEqProofs := false)
  refine w_calls (inv_of Tryz.func11 rfl rfl (hfew M)) ?_
  rintro _ M ⟨rfl, rfl⟩
  cases c1 : few46 u l with
  | false => simp (dsimp := false) (implicitDefEqProofs := false)
  | true =>
  have c1' := c1
  simp only [few46, Bool.and_eq_true, decide_eq_true_eq] at c1'
  obtain ⟨hf, h30⟩ := hfit c1'.1.1
  have h40 := c1'.1.2
  have hsl := slots_ok gl (if bookR u then slotsL (sortK u.kids) [] (-1) else [])
  have hcs := countL_perm (sortK_perm u.kids)
  have hcu := countN_eq u
  have hlen : (if bookR u then slotsL (sortK u.kids) [] (-1) else []).length ≤ 1000 := by
    split
    · rw [slotsL_len]; simp; omega
    · simp
  simp (dsimp := false) (implicitDefEqProofs := false)
  refine w_drawn hB (cfollows gl) (fun k => 0) (fun k => 0) (by rfl) (by kernel_rfl) ?_
  simp (dsimp := false) (implicitDefEqProofs := false)
  refine w_call0 (fun M => inv_of Tryz.func12 rfl rfl (hval M hf (by omega))) ?_
  simp (dsimp := false) (implicitDefEqProofs := false)
  refine w_call0 (fun M => inv_of Tryz.func13 rfl rfl (hmay M hf (by omega))) ?_
  simp (dsimp := false) (implicitDefEqProofs := false)
  refine w_call0 (fun M => inv_of Tryz.func15 rfl rfl (hpl M hf (by omega))) ?_
  simp (dsimp := false) (implicitDefEqProofs := false)
  refine w_call0 (fun M => inv_of Tryz.func16 rfl rfl (hso M hf)) ?_
  simp (dsimp := false) (implicitDefEqProofs := false)
  refine w_call0 (fun M => inv_of Tryz.func14 rfl rfl (hsl M hlen)) ?_
  simp (dsimp := false) (implicitDefEqProofs := false)
end
end Go.Abs
end
