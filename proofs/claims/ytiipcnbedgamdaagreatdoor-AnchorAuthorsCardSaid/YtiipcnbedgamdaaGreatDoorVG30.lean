/- The texts AoF, AoG, AoH: what each proves stands at its head. -/
import Derived.Test.YtiipcnbedgamdaaGreatDoorVG29
section
/- Contracts: how small gazettes are (the reference's Few), told in part. -/
set_option maxRecDepth 100000
set_option linter.unusedSimpArgs false
set_option linter.unusedVariables false
namespace Go.Abs
open Go.Proofs TryTypes

def isB (v : AV) : Prop := ∃ b, v = B b
theorem isB_of (b : Bool) : isB (.val (.bool b)) := ⟨b, rfl⟩
section
variable (gl : Nat → AV)
set_option maxHeartbeats 4000000 in
theorem few17_ok : ∀ (x : ItemD) (M : Mem), x.good → ACalls (WC gl) 32 [.agg x.row] M (fun v M' => isB v ∧ M' = M)
  | .mk h by_, M, hg => by
    obtain ⟨hgh, hgb, hgk⟩ := (ItemD.good_iff _).1 hg
    have hgu := hgh.2.2.2.2.2.1
    have hf6 := few06_ok gl h.unit 30 M hgu (by omega) (by omega)
    have hgk : ∀ k ∈ by_, k.good := hgk
    rw [UnitD.row_eq] at hf6
    obtain ⟨kind, at_, to, wh, nth, unit, old, new, lab, for_, start, act, item, day, ev⟩ := h
    rw [ItemD.row, ItemH.row]
    simp only at hf6 ⊢
    generalize few06 unit 30 = f6 at *
    refine w_body hB Tryz.func32 rfl rfl rfl rfl rfl rfl ?_
    by_cases c1 : (12 : Int) < at_.length
    · have d1 : (at_.length : Int) > 12 := c1
      simp (dsimp := false) (implicitDefEqProofs := false) [c1, d1, isB_of]
    have d1 : ¬ (at_.length : Int) > 12 := c1
    by_cases c2 : (12 : Int) < to.length
    · have d2 : (to.length : Int) > 12 := c2
      simp (dsimp := false) (implicitDefEqProofs := false) [c1, d1, c2, d2, isB_of]
    have d2 : ¬ (to.length : Int) > 12 := c2
    by_cases c3 : (300 : Int) < old.length
    · have d3 : (old.length : Int) > 300 := c3
      simp (dsimp := false) (implicitDefEqProofs := false) [c1, d1, c2, d2, c3, d3, isB_of]
    have d3 : ¬ (old.length : Int) > 300 := c3
    by_cases c4 : (300 : Int) < new.length
    · have d4 : (new.length : Int) > 300 := c4
      simp (dsimp := false) (implicitDefEqProofs := false) [c1, d1, c2, d2, c3, d3, c4, d4, isB_of]
    have d4 : ¬ (new.length : Int) > 300 := c4
    by_cases c5 : (100 : Int) < lab.size
    · have d5 : (lab.size : Int) > 100 := c5
      simp (dsimp := false) (implicitDefEqProofs := false) [c1, d1, c2, d2, c3, d3, c4, d4, c5, d5, isB_of]
    have d5 : ¬ (lab.size : Int) > 100 := c5
    by_cases c6 : (100 : Int) < for_.size
    · have d6 : (for_.size : Int) > 100 := c6
      simp (dsimp := false) (implicitDefEqProofs := false) [c1, d1, c2, d2, c3, d3, c4, d4, c5, d5, c6, d6, isB_of]
    have d6 : ¬ (for_.size : Int) > 100 := c6
    by_cases c7 : (100 : Int) < start.ev.size
    · have d7 : (start.ev.size : Int) > 100 := c7
      simp (dsimp := false) (implicitDefEqProofs := false) [c1, d1, c2, d2, c3, d3, c4, d4, c5, d5, c6, d6, c7, d7, isB_of]
    have d7 : ¬ (start.ev.size : Int) > 100 := c7
    by_cases c8 : (100 : Int) < ev.size
    · have d8 : (ev.size : Int) > 100 := c8
      simp (dsimp := false) (implicitDefEqProofs := false) [c1, d1, c2, d2, c3, d3, c4, d4, c5, d5, c6, d6, c7, d7, c8, d8, isB_of]
    have d8 : ¬ (ev.size : Int) > 100 := c8
    by_cases c9 : (2 : Int) < by_.length
    · have d9 : (by_.length : Int) > 2 := c9
      simp (dsimp := false) (implicitDefEqProofs := false) [c1, d1, c2, d2, c3, d3, c4, d4, c5, d5, c6, d6, c7, d7, c8, d8, c9, d9, isB_of]
    have d9 : ¬ (by_.length : Int) > 2 := c9
    simp (dsimp := false) (implicitDefEqProofs := false) [c1, d1, c2, d2, c3, d3, c4, d4, c5, d5, c6, d6, c7, d7, c8, d8, c9, d9]
    refine w_calls (inv_of Tryz.func57 rfl rfl hf6) ?_
    rintro _ M ⟨rfl, rfl⟩
    cases f6 with
    | false => simp (dsimp := false) (implicitDefEqProofs := false) [isB_of]
    | true =>
    simp (dsimp := false) (implicitDefEqProofs := false)
    refine w_looped hB (fun T M1 => ∃ i : Nat, i ≤ old.length ∧ T 1 = .cptr [I kind, .list 2 (rowsP at_) .no, .list 2 (rowsP to) .no, I wh, I nth, I unit.id.act, I unit.id.item, I unit.id.n, I unit.kind, S unit.label, .list 4 (rowsW unit.head) .no, .list 4 (rowsW unit.words) .no, .list 8 (rowsU unit.kids) .no, .list 1 (rowsS old) .no, .list 1 (rowsS new) .no, S lab, S for_, I start.k, I start.day, S start.ev, I act, I item, I day, S ev, .list 25 (rowsI by_) .no] ∧ T 3 = I i ∧ M1 = M) (fun T _ => match T 3 with | .val (.int _ i) => old.length - i.toNat | _ => 0) (by kernel_rfl) ?_ ?_
    · exact ⟨0, by omega, by simp, by simp, rfl⟩
    rintro T1 M ⟨i1, hle1, t1, t3, rfl⟩
    by_cases hi1 : i1 < old.length
    case pos =>
      have hi' : (i1 : Int) < old.length := by omega
      have w1 := wadd1 (i := i1) (by omega)
      by_cases c : (100 : Int) < old[i1].size
      · have d : (old[i1].size : Int) > 100 := c
        simp (dsimp := false) (implicitDefEqProofs := false) [t1, t3, hi1, hi', c, d, isB_of]
      · have d : ¬ (old[i1].size : Int) > 100 := c
        simp (dsimp := false) (implicitDefEqProofs := false) [t1, t3, hi1, hi', c, d, w1]
        exact ⟨⟨i1 + 1, by clear w1; omega, rfl⟩, by clear w1; omega⟩
    have hi' : ¬ (i1 : Int) < old.length := by omega
    simp (dsimp := false) (implicitDefEqProofs := false) [t1, t3, hi']
    refine w_looped hB (fun T M1 => ∃ i : Nat, i ≤ new.length ∧ T 1 = .cptr [I kind, .list 2 (rowsP at_) .no, .list 2 (rowsP to) .no, I wh, I nth, I unit.id.act, I unit.id.item, I unit.id.n, I unit.kind, S unit.label, .list 4 (rowsW unit.head) .no, .list 4 (rowsW unit.words) .no, .list 8 (rowsU unit.kids) .no, .list 1 (rowsS old) .no, .list 1 (rowsS new) .no, S lab, S for_, I start.k, I start.day, S start.ev, I act, I item, I day, S ev, .list 25 (rowsI by_) .no] ∧ T 4 = I i ∧ M1 = M) (fun T _ => match T 4 with | .val (.int _ i) => new.length - i.toNat | _ => 0) (by kernel_rfl) ?_ ?_
    · exact ⟨0, by omega, by simp [t1], by simp, rfl⟩
    rintro T2 M ⟨i2, hle2, t1, t4, rfl⟩
    by_cases hi2 : i2 < new.length
    case pos =>
      have hi' : (i2 : Int) < new.length := by omega
      have w1 := wadd1 (i := i2) (by omega)
      by_cases c : (100 : Int) < new[i2].size
      · have d : (new[i2].size : Int) > 100 := c
        simp (dsimp := false) (implicitDefEqProofs := false) [t1, t4, hi2, hi', c, d, isB_of]
      · have d : ¬ (new[i2].size : Int) > 100 := c
        simp (dsimp := false) (implicitDefEqProofs := false) [t1, t4, hi2, hi', c, d, w1]
        exact ⟨⟨i2 + 1, by clear w1; omega, rfl⟩, by clear w1; omega⟩
    have hi' : ¬ (i2 : Int) < new.length := by omega
    simp (dsimp := false) (implicitDefEqProofs := false) [t1, t4, hi']
    refine w_looped hB (fun T M1 => ∃ i : Nat, i ≤ at_.length ∧ T 1 = .cptr [I kind, .list 2 (rowsP at_) .no, .list 2 (rowsP to) .no, I wh, I nth, I unit.id.act, I unit.id.item, I unit.id.n, I unit.kind, S unit.label, .list 4 (rowsW unit.head) .no, .list 4 (rowsW unit.words) .no, .list 8 (rowsU unit.kids) .no, .list 1 (rowsS old) .no, .list 1 (rowsS new) .no, S lab, S for_, I start.k, I start.day, S start.ev, I act, I item, I day, S ev, .list 25 (rowsI by_) .no] ∧ T 5 = I i ∧ M1 = M) (fun T _ => match T 5 with | .val (.int _ i) => at_.length - i.toNat | _ => 0) (by kernel_rfl) ?_ ?_
    · exact ⟨0, by omega, by simp [t1], by simp, rfl⟩
    rintro T3 M ⟨i3, hle3, t1, t5, rfl⟩
    by_cases hi3 : i3 < at_.length
    case pos =>
      have hi' : (i3 : Int) < at_.length := by omega
      have w1 := wadd1 (i := i3) (by omega)
      by_cases c : (100 : Int) < at_[i3].lab.size
      · have d : (at_[i3].lab.size : Int) > 100 := c
        simp (dsimp := false) (implicitDefEqProofs := false) [t1, t5, hi3, hi', StepD.row, c, d, isB_of]
      · have d : ¬ (at_[i3].lab.size : Int) > 100 := c
        simp (dsimp := false) (implicitDefEqProofs := false) [t1, t5, hi3, hi', StepD.row, c, d, w1]
        exact ⟨⟨i3 + 1, by clear w1; omega, rfl⟩, by clear w1; omega⟩
    have hi' : ¬ (i3 : Int) < at_.length := by omega
    simp (dsimp := false) (implicitDefEqProofs := false) [t1, t5, hi']
    refine w_looped hB (fun T M1 => ∃ i : Nat, i ≤ to.length ∧ T 1 = .cptr [I kind, .list 2 (rowsP at_) .no, .list 2 (rowsP to) .no, I wh, I nth, I unit.id.act, I unit.id.item, I unit.id.n, I unit.kind, S unit.label, .list 4 (rowsW unit.head) .no, .list 4 (rowsW unit.words) .no, .list 8 (rowsU unit.kids) .no, .list 1 (rowsS old) .no, .list 1 (rowsS new) .no, S lab, S for_, I start.k, I start.day, S start.ev, I act, I item, I day, S ev, .list 25 (rowsI by_) .no] ∧ T 6 = I i ∧ M1 = M) (fun T _ => match T 6 with | .val (.int _ i) => to.length - i.toNat | _ => 0) (by kernel_rfl) ?_ ?_
    · exact ⟨0, by omega, by simp [t1], by simp, rfl⟩
    rintro T4 M ⟨i4, hle4, t1, t6, rfl⟩
    by_cases hi4 : i4 < to.length
    case pos =>
      have hi' : (i4 : Int) < to.length := by omega
      have w1 := wadd1 (i := i4) (by omega)
      by_cases c : (100 : Int) < to[i4].lab.size
      · have d : (to[i4].lab.size : Int) > 100 := c
        simp (dsimp := false) (implicitDefEqProofs := false) [t1, t6, hi4, hi', StepD.row, c, d, isB_of]
      · have d : ¬ (to[i4].lab.size : Int) > 100 := c
        simp (dsimp := false) (implicitDefEqProofs := false) [t1, t6, hi4, hi', StepD.row, c, d, w1]
        exact ⟨⟨i4 + 1, by clear w1; omega, rfl⟩, by clear w1; omega⟩
    have hi' : ¬ (i4 : Int) < to.length := by omega
    simp (dsimp := false) (implicitDefEqProofs := false) [t1, t6, hi']
    refine w_looped hB (fun T M1 => ∃ i : Nat, i ≤ by_.length ∧ T 1 = .cptr [I kind, .list 2 (rowsP at_) .no, .list 2 (rowsP to) .no, I wh, I nth, I unit.id.act, I unit.id.item, I unit.id.n, I unit.kind, S unit.label, .list 4 (rowsW unit.head) .no, .list 4 (rowsW unit.words) .no, .list 8 (rowsU unit.kids) .no, .list 1 (rowsS old) .no, .list 1 (rowsS new) .no, S lab, S for_, I start.k, I start.day, S start.ev, I act, I item, I day, S ev, .list 25 (rowsI by_) .no] ∧ T 7 = I i ∧ M1 = M) (fun T _ => match T 7 with | .val (.int _ i) => by_.length - i.toNat | _ => 0) (by kernel_rfl) ?_ ?_
    · exact ⟨0, by omega, by simp [t1], by simp, rfl⟩
    rintro T5 M ⟨j, hlej, t1, t7, rfl⟩
    by_cases hj : j < by_.length
    case neg =>
      have hj' : ¬ (j : Int) < by_.length := by omega
      simp (dsimp := false) (implicitDefEqProofs := false) [t1, t7, hj', isB_of]
    have hj' : (j : Int) < by_.length := by omega
    have w1 := wadd1 (i := j) (by omega)
    have hmem : by_[j] ∈ by_ := List.getElem_mem hj
    have hlt := ItemD.by_lt (x := .mk ⟨kind, at_, to, wh, nth, unit, old, new, lab, for_, start, act, item, day, ev⟩ by_) hmem
    have ih := few17_ok by_[j] M (hgk _ hmem)
    obtain ⟨h2, b2, hb⟩ : ∃ h2 b2, by_[j] = .mk h2 b2 := by
      cases hq : by_[j] with
      | mk a b => exact ⟨a, b, rfl⟩
    have hr : by_[j].row = h2.row (.list 25 (rowsI b2) .no) := by rw [hb, ItemD.row]
    rw [hr, ItemH.row] at ih
    rw [ItemH.row] at hr
    by_cases c : 0 < b2.length
    case neg =>
      have c' : ¬ (0 : Int) < b2.length := by omega
      have d : ¬ (b2.length : Int) > 0 := c'
      simp (dsimp := false) (implicitDefEqProofs := false) [t1, t7, hj, hj', hr, c, c', d]
      refine w_calls (inv_of Tryz.func32 rfl rfl ih) ?_
      rintro _ M ⟨⟨b, rfl⟩, rfl⟩
      cases b with
      | false => simp (dsimp := false) (implicitDefEqProofs := false) [isB_of]
      | true =>
        simp (dsimp := false) (implicitDefEqProofs := false) [t1, t7, w1]
        exact ⟨⟨j + 1, by clear w1; omega, rfl⟩, by clear w1; omega⟩
    have c' : (0 : Int) < b2.length := by omega
    have d : (b2.length : Int) > 0 := c'
    obtain ⟨h3, b3, hb3⟩ : ∃ h3 b3, b2[0] = .mk h3 b3 := by
      cases hq : b2[0] with
      | mk a b => exact ⟨a, b, rfl⟩
    have hr3 : b2[0].row = h3.row (.list 25 (rowsI b3) .no) := by rw [hb3, ItemD.row]
    rw [ItemH.row] at hr3
    by_cases e : 0 < b3.length
    case pos =>
      have e' : (0 : Int) < b3.length := by omega
      have f : (b3.length : Int) > 0 := e'
      simp (dsimp := false) (implicitDefEqProofs := false) [t1, t7, hj, hj', hr, c, c', d, hr3, e, e', f, isB_of]
    have e' : ¬ (0 : Int) < b3.length := by omega
    have f : ¬ (b3.length : Int) > 0 := e'
    simp (dsimp := false) (implicitDefEqProofs := false) [t1, t7, hj, hj', hr, c, c', d, hr3, e, e', f]
    refine w_calls (inv_of Tryz.func32 rfl rfl ih) ?_
    rintro _ M ⟨⟨b, rfl⟩, rfl⟩
    cases b with
    | false => simp (dsimp := false) (implicitDefEqProofs := false) [isB_of]
    | true =>
      simp (dsimp := false) (implicitDefEqProofs := false) [t1, t7, w1]
      exact ⟨⟨j + 1, by clear w1; omega, rfl⟩, by clear w1; omega⟩
termination_by x => SizeOf.sizeOf x
end
end Go.Abs
end
section
/- Contracts: Few of chapters 28 and 42, Short of chapter 22. -/
set_option maxRecDepth 100000
set_option linter.unusedSimpArgs false
set_option linter.unusedVariables false
namespace Go.Abs
open Go.Proofs TryTypes

def smallG (l : List GazD) : Prop := l.length ≤ 8 ∧ ∀ g ∈ l, g.acts.length ≤ 8
/-- a bool, which is true only where p -/
def onlyIf (p : Prop) (x : Value) : Prop := ∃ b, x = .bool b ∧ (b = true → p)
theorem onlyIf_false (p : Prop) : onlyIf p (.bool false) := ⟨false, rfl, by simp⟩
section
variable (gl : Nat → AV)
set_option maxHeartbeats 4000000 in
theorem few28_ok (l : List GazD) (most : Int) (M : Mem) (hl : l.length ≤ maxLen) (hg : ∀ g ∈ l, g.good) :
    ACalls (WC gl) 14 [.list 4 (rowsG l) .no, I most] M (fun v M' => (∃ x, v = .val x ∧ onlyIf (smallG l) x) ∧ M' = M) := by
  refine grow_cut ?_
  have hl' : l.length ≤ 9223372036854775807 := by simpa [maxLen] using hl
  refine w_body (hQ []) Tryz.func14 rfl rfl rfl rfl rfl rfl ?_
  by_cases c0 : (8 : Int) < l.length
  · have d0 : (l.length : Int) > 8 := c0
    simp (dsimp := false) (implicitDefEqProofs := false) [c0, d0, onlyIf_false, KeepsBut.refl]
  have d0 : ¬ (l.length : Int) > 8 := c0
  simp (dsimp := false) (implicitDefEqProofs := false) [c0, d0]
  refine w_looped (hQ []) (fun T M1 => ∃ (i : Nat) (z : Int), i ≤ l.length ∧ T 0 = .list 4 (rowsG l) .no ∧ T 1 = I most ∧ T 5 = I z ∧ T 6 = I i ∧ Grow M M1 ∧ ∀ k, (h : k < l.length) → k < i → l[k].acts.length ≤ 8)
    (fun T _ => match T 6 with | .val (.int _ i) => l.length - i.toNat | _ => 0) (by kernel_rfl) ?_ ?_
  · exact ⟨0, 0, by omega, by simp, by simp, by simp, by simp, .refl _ _, by omega⟩
  rintro T M1 ⟨i, z, hi1, t0, t1, t5, t6, hgr, hb⟩
  by_cases hi : i < l.length
  case neg =>
    have hi' : ¬ (i : Int) < l.length := by omega
    simp (dsimp := false) (implicitDefEqProofs := false) [t0, t1, t5, t6, hi', hgr]
    refine ⟨true, rfl, fun _ => ⟨by omega, fun g hgm => ?_⟩⟩
    obtain ⟨k, hk, rfl⟩ := List.mem_iff_getElem.1 hgm
    exact hb k hk (by omega)
  have hi' : (i : Int) < l.length := by omega
  have w1 := wadd1 (i := i) (by omega)
  obtain ⟨x, hx⟩ : ∃ x, x = l[i] := ⟨_, rfl⟩
  have hxg : x.good := by rw [hx]; exact hg _ (List.getElem_mem hi)
  obtain ⟨_, _, _, hal, hag⟩ := hxg
  by_cases c1 : (8 : Int) < x.acts.length
  · have d1 : (x.acts.length : Int) > 8 := c1
    simp (dsimp := false) (implicitDefEqProofs := false) [t0, t1, t5, t6, hi, hi', ← hx, GazD.row, c1, d1, onlyIf_false, hgr]
  have d1 : ¬ (x.acts.length : Int) > 8 := c1
  by_cases c2 : (60 : Int) < x.prior.size
  · have d2 : (x.prior.size : Int) > 60 := c2
    simp (dsimp := false) (implicitDefEqProofs := false) [t0, t1, t5, t6, hi, hi', ← hx, GazD.row, c1, d1, c2, d2, onlyIf_false, hgr]
  have d2 : ¬ (x.prior.size : Int) > 60 := c2
  simp (dsimp := false) (implicitDefEqProofs := false) [t0, t1, t5, t6, hi, hi', ← hx, GazD.row, c1, d1, c2, d2]
  refine w_looped (hQ []) (fun T M2 => ∃ (j : Nat) (z : Int), j ≤ x.acts.length ∧ T 0 = .list 4 (rowsG l) .no ∧ T 1 = I most ∧ T 5 = I z ∧ T 6 = I i ∧ T 7 = I j ∧ Grow M M2)
    (fun T _ => match T 7 with | .val (.int _ j) => x.acts.length - j.toNat | _ => 0) (by kernel_rfl) ?_ ?_
  · exact ⟨0, z, by omega, by simp [t0], by simp [t1], by simp [t5], by simp [t6], by simp, hgr⟩
  rintro T2 M2 ⟨j, y, hj1, u0, u1, u5, u6, u7, hgr⟩
  by_cases hj : j < x.acts.length
  case neg =>
    have hj' : ¬ (j : Int) < x.acts.length := by omega
    simp (dsimp := false) (implicitDefEqProofs := false) [u0, u1, u5, u6, u7, hj', hi, hi', ← hx, GazD.row, w1, t6]
    refine ⟨⟨i + 1, by clear w1; omega, rfl, hgr, fun k hk hlt => ?_⟩, by clear w1; omega⟩
    by_cases e : k = i
    · subst e; rw [← hx]; clear w1; omega
    · exact hb k hk (by clear w1; omega)
  have hj' : (j : Int) < x.acts.length := by omega
  have w2 := wadd1 (i := j) (by omega)
  obtain ⟨a, ha⟩ : ∃ a, a = x.acts[j] := ⟨_, rfl⟩
  have hagd : a.good := by rw [ha]; exact hag _ (List.getElem_mem hj)
  obtain ⟨_, _, _, _, hil, hig⟩ := hagd
  have hil' : a.items.length ≤ 9223372036854775807 := by simpa [maxLen] using hil
  obtain ⟨M3, hM3⟩ : ∃ M3, M3 = M2 ++ [.cells 84 [I a.number, S a.title, I a.day, I a.start.k, I a.start.day, S a.start.ev, .list 25 (rowsI a.items) .no]] := ⟨_, rfl⟩
  have h8 : M3[M2.length]? = some (.cells 84 [I a.number, S a.title, I a.day, I a.start.k, I a.start.day, S a.start.ev, .list 25 (rowsI a.items) .no]) := by rw [hM3]; simp
  have hgr3 : Grow M M3 := by rw [hM3]; exact hgr.trans (KeepsBut.app none M2 _)
  obtain ⟨s, hs⟩ : ∃ s, s = IntKind.i64.wrap (y + a.items.length) := ⟨_, rfl⟩
  by_cases c3 : most < s
  · have d3 : s > most := c3
    simp (dsimp := false) (implicitDefEqProofs := false) [u0, u1, u5, u6, u7, hj, hj', hi, hi', ← hx, ← ha, GazD.row, ActD.row, allocAV, storeAV, overwrite, ← hM3, loadAV_ptr h8, ← hs, c3, d3, onlyIf_false, hgr3]
  have d3 : ¬ s > most := c3
  by_cases c4 : (100 : Int) < a.title.size
  · have d4 : (a.title.size : Int) > 100 := c4
    simp (dsimp := false) (implicitDefEqProofs := false) [u0, u1, u5, u6, u7, hj, hj', hi, hi', ← hx, ← ha, GazD.row, ActD.row, allocAV, storeAV, overwrite, ← hM3, loadAV_ptr h8, ← hs, c3, d3, c4, d4, onlyIf_false, hgr3]
  have d4 : ¬ (a.title.size : Int) > 100 := c4
  by_cases c5 : (60 : Int) < a.start.ev.size
  · have d5 : (a.start.ev.size : Int) > 60 := c5
    simp (dsimp := false) (implicitDefEqProofs := false) [u0, u1, u5, u6, u7, hj, hj', hi, hi', ← hx, ← ha, GazD.row, ActD.row, allocAV, storeAV, overwrite, ← hM3, loadAV_ptr h8, ← hs, c3, d3, c4, d4, c5, d5, onlyIf_false, hgr3]
  have d5 : ¬ (a.start.ev.size : Int) > 60 := c5
  simp (dsimp := false) (implicitDefEqProofs := false) [u0, u1, u5, u6, u7, hj, hj', hi, hi', ← hx, ← ha, GazD.row, ActD.row, allocAV, storeAV, overwrite, ← hM3, loadAV_ptr h8, ← hs, c3, d3, c4, d4, c5, d5]
  refine w_looped (hQ []) (fun T M4 => ∃ (q : Nat), q ≤ a.items.length ∧ T 0 = .list 4 (rowsG l) .no ∧ T 1 = I most ∧ T 5 = I s ∧ T 6 = I i ∧ T 7 = I j ∧ T 8 = .ptr M2.length 0 ∧ T 9 = I q ∧ M4 = M3)
    (fun T _ => match T 9 with | .val (.int _ q) => a.items.length - q.toNat | _ => 0) (by kernel_rfl) ?_ ?_
  · exact ⟨0, by omega, by simp [u0], by simp [u1], by simp, by simp [u6], by simp [u7], by simp, by simp, rfl⟩
  rintro T3 M4 ⟨q, hq1, v0, v1, v5, v6, v7, v8, v9, rfl⟩
  by_cases hq : q < a.items.length
  case neg =>
    have hq' : ¬ (q : Int) < a.items.length := by omega
    simp (dsimp := false) (implicitDefEqProofs := false) [v0, v1, v5, v6, v7, v8, v9, loadAV_ptr h8, hq', w2, u7]
    exact ⟨⟨j + 1, by clear w1 w2; omega, rfl, hgr3⟩, by clear w1 w2; omega⟩
  have hq' : (q : Int) < a.items.length := by omega
  have w3 : IntKind.i64.wrap ((q : Int) + 1) = (q + 1 : Nat) := by rw [wrap_in (by omega) (by omega)]; omega
  simp (dsimp := false) (implicitDefEqProofs := false) [v0, v1, v5, v6, v7, v8, v9, loadAV_ptr h8, hq, hq']
  refine w_calls (inv_of Tryz.func32 rfl rfl (few17_ok gl a.items[q] _ (hig _ (List.getElem_mem hq)))) ?_
  rintro _ M5 ⟨⟨b, rfl⟩, rfl⟩
  cases b with
  | false => simp (dsimp := false) (implicitDefEqProofs := false) [onlyIf_false, hgr3]
  | true =>
    simp (dsimp := false) (implicitDefEqProofs := false) [v0, v1, v5, v6, v7, v8, v9, w3]
    exact ⟨⟨q + 1, by clear w1 w2 w3; omega, rfl⟩, by clear w1 w2 w3; omega⟩
end
end Go.Abs
end
section
/- The law. -/
set_option maxRecDepth 100000
set_option linter.unusedSimpArgs false
set_option linter.unusedVariables false
namespace Go.Abs
open Go.Proofs TryTypes

theorem stood31 : Tryz.prog.stoodInHeld 31 = false := by kernel_rfl
theorem eqGuard31 : Tryz.prog.eqGuardType Tryz.prog.depth 31 = false := by kernel_rfl
theorem eqRef (a b : Int) : binAV Tryz.prog .eql 31 (.agg [I a, I b]) (.agg [I a, I b]) = some (B true) := by
  have h0 : binAV0 Tryz.prog .eql 31 (.agg [I a, I b]) (.agg [I a, I b]) = none := by simp [binAV0, nilKind]
  have h1 : eqAV Tryz.prog 30 31 (.agg [I a, I b]) (.agg [I a, I b]) = some true := by
    simp [eqAV, eqFieldsAV, loadCells_row, stood31]
  simp only [binAV, h0, binMore, eqGuard31, h1]
  rfl
theorem few_sum : ∀ (l : List GazD) (n : Nat), (∀ g ∈ l, g.acts.length ≤ n) → (l.flatMap GazD.acts).length ≤ l.length * n
  | [], n, _ => by simp
  | g :: l, n, h => by
    have h1 := h g (by simp)
    have h2 := few_sum l n fun x hx => h x (by simp [hx])
    rw [List.flatMap_cons, List.length_append, List.length_cons, Nat.add_mul]; omega
section
variable (gl : Nat → AV)
theorem short22_ok (w : List WordD) (M : Mem) (hl : w.length ≤ maxLen) : ACalls (WC gl) 6 [.list 4 (rowsW w) .no] M (fun v M' => (∃ x, v = .val x ∧ onlyIf (w.length ≤ 300) x) ∧ M' = M) := by
  have hl' : w.length ≤ 9223372036854775807 := by simpa [maxLen] using hl
  refine w_body hB Tryz.func6 rfl rfl rfl rfl rfl rfl ?_
  simp (dsimp := false) (implicitDefEqProofs := false)
  refine w_looped hB (fun T M1 => ∃ i : Nat, i ≤ w.length ∧ T 0 = .list 4 (rowsW w) .no ∧ T 3 = I i ∧ M1 = M) (fun T _ => match T 3 with | .val (.int _ i) => w.length - i.toNat | _ => 0) (by kernel_rfl) ?_ ?_
  · exact ⟨0, by omega, by simp, by simp, rfl⟩
  rintro T M1 ⟨i, i1, t0, t3, rfl⟩
  by_cases hi : i < w.length
  case neg =>
    have hi' : ¬ (i : Int) < w.length := by omega
    by_cases c : (w.length : Int) ≤ 300
    · simp (dsimp := false) (implicitDefEqProofs := false) [t0, t3, hi', c]
      exact ⟨true, rfl, fun _ => by omega⟩
    · simp (dsimp := false) (implicitDefEqProofs := false) [t0, t3, hi', c, onlyIf_false]
  have hi' : (i : Int) < w.length := by omega
  have w1 : IntKind.i64.wrap ((i : Int) + 1) = (i + 1 : Nat) := by rw [wrap_in (by omega) (by omega)]; omega
  by_cases c : (100 : Int) < w[i].text.size
  · have d : (w[i].text.size : Int) > 100 := c
    simp (dsimp := false) (implicitDefEqProofs := false) [t0, t3, hi, hi', WordD.row, c, d, onlyIf_false]
  · have d : ¬ (w[i].text.size : Int) > 100 := c
    simp (dsimp := false) (implicitDefEqProofs := false) [t0, t3, hi, hi', WordD.row, c, d, w1]
    exact ⟨⟨i + 1, by clear w1; omega, rfl⟩, by clear w1; omega⟩
theorem few42_ok (l : List GazD) (M : Mem) (hl : l.length ≤ maxLen) (hg : ∀ g ∈ l, g.good) : ACalls (WC gl) 5 [.list 4 (rowsG l) .no, S ⟨#[]⟩] M (fun v M' => (∃ x, v = .val x ∧ onlyIf (fewA l) x) ∧ M' = M) := by
  refine w_body hB Tryz.func5 rfl rfl rfl rfl rfl rfl ?_
  by_cases c : (l.length : Int) ≤ 4
  case neg => simp (dsimp := false) (implicitDefEqProofs := false) [c, onlyIf_false]
  simp (dsimp := false) (implicitDefEqProofs := false) [c]
  refine w_calls (inv_of Tryz.func14 rfl rfl (few28_ok gl l 16 M hl hg)) ?_
  rintro _ M ⟨⟨_, rfl, b, rfl, hb⟩, rfl⟩
  cases b with
  | false => simp (dsimp := false) (implicitDefEqProofs := false) [onlyIf_false]
  | true =>
    simp (dsimp := false) (implicitDefEqProofs := false)
    refine ⟨true, rfl, fun _ => ?_⟩
    obtain ⟨h1, h2⟩ := hb rfl
    have := few_sum l 8 h2
    exact ⟨by omega, by omega⟩
theorem law3_ok (w : List WordD) (c : CiteD) (l : List GazD) (hw : w.length ≤ maxLen) (hl : l.length ≤ maxLen) (hg : ∀ g ∈ l, g.good) (haw : Invk (WC gl) 4 [] [] (fun r m => r = .val (.bool true) ∧ m = [])) :
    ACalls (WC gl) 3 [.list 4 (rowsW w) .no, .agg c.row, .list 4 (rowsG l) .no] [] (fun v _ => v = B true) := by
  have hau := fun M hf hw => author_ok gl w c l M hf hw
  have hwr := fun M hf hw => to_WC (rWriter_ok gl w c l M hf hw)
  rw [CiteD.row] at hau hwr ⊢
  refine w_body hB Tryz.func3 rfl rfl rfl rfl rfl rfl ?_
  simp (dsimp := false) (implicitDefEqProofs := false)
  refine w_calls haw ?_
  rintro _ M ⟨rfl, rfl⟩
  simp (dsimp := false) (implicitDefEqProofs := false)
  refine w_calls (inv_of Tryz.func5 rfl rfl (few42_ok gl l [] hl hg)) ?_
  rintro _ M ⟨⟨_, rfl, b, rfl, hb⟩, rfl⟩
  cases b with
  | false => simp (dsimp := false) (implicitDefEqProofs := false)
  | true =>
  simp (dsimp := false) (implicitDefEqProofs := false)
  refine w_calls (inv_of Tryz.func6 rfl rfl (short22_ok gl w [] hw)) ?_
  rintro _ M ⟨⟨_, rfl, b2, rfl, hb2⟩, rfl⟩
  cases b2 with
  | false => simp (dsimp := false) (implicitDefEqProofs := false)
  | true =>
  have hf := hb rfl
  have h300 := hb2 rfl
  simp (dsimp := false) (implicitDefEqProofs := false)
  refine w_drawn hB (cfollows gl) (fun _ => 0) (fun _ => 0) (by rfl) (by kernel_rfl) ?_
  simp (dsimp := false) (implicitDefEqProofs := false)
  refine w_call0 (fun M => inv_of Tryz.func7 rfl rfl (hau M hf (by omega))) ?_
  simp (dsimp := false) (implicitDefEqProofs := false)
  refine w_call0 (fun M => inv_of Tryz.func8 rfl rfl (hwr M hf (by omega))) ?_
  simp (dsimp := false) (implicitDefEqProofs := false) [eqRef]
end
end Go.Abs
end
