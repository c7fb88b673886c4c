/- The law's helper even: a store and its reference in one state answer alike. -/
import Derived.Test.YteillgpoonhdjaaPsG
set_option maxRecDepth 100000
set_option linter.unusedSimpArgs false
namespace Go.Abs
open Go.Proofs

theorem reads (s : St) (n : Int) : ∃ x e, (if s.down then [S .empty, I 16] else if 0 ≤ n ∧ n < s.pages.length then [S (s.pages.getD n.toNat .empty), I 0] else [S .empty, I 3]) = [S x, I e] := by
  split
  · exact ⟨_, _, rfl⟩
  split
  · exact ⟨_, _, rfl⟩
  · exact ⟨_, _, rfl⟩

theorem even_ok (M : Mem) (b c : Nat) (pv pw : AV) (s : St) (h : Two M b pv c pw s) (n : Int) :
    ACalls PC 20 [.ptr b 0, .ptr c 0, I n] M (fun v M' => v = B true ∧ M' = M) := by
  obtain ⟨hl, hr, sep, ok⟩ := h
  have rd := reads s
  obtain ⟨pages, lasting, root, fuse, down⟩ := s
  have hb := hl.1
  have hc := hr.1
  simp only [St.cells] at hb hc rd
  have hp := hl.2
  have hq := hr.2
  simp only at hp hq
  have lw := hq.len
  have hlen := ok.len
  simp only at hlen
  clear hl hr
  refine w_body hintB Try.func20 rfl rfl rfl rfl rfl rfl ?_
  simp (dsimp := false) (implicitDefEqProofs := false) []
  refine w_drawn hintB follows (fun k => if k = 1 then 1 else if k = 5 then 1 else if k = 10 then 1 else if k = 14 then 1 else if k = 19 then 1 else if k = 23 then 1 else 0) rfl (by decide +kernel) ?_
  simp (dsimp := false) (implicitDefEqProofs := false) [loadAV_ptr hc, lw]
  refine w_call1 (C := PC) Try.call19 (len_ok _ _ _ _ _ _ _ _ hb hp) ?_
  simp (dsimp := false) (implicitDefEqProofs := false) [loadAV_ptr hc, lw]
  refine w_call1 (C := PC) Try.call21 (root_ok _ _ _ _ _ _ _ hb) ?_
  simp (dsimp := false) (implicitDefEqProofs := false) [loadAV_ptr hc, lw]
  refine w_call1 (C := PC) Try.call13 (failed_ok _ _ _ _ _ _ _ hb) ?_
  simp (dsimp := false) (implicitDefEqProofs := false) [loadAV_ptr hc, lw]
  refine w_looped hintB (fun T M' => M' = M ∧ T 0 = .ptr b 0 ∧ T 1 = .ptr c 0 ∧ T 2 = I n ∧ ∃ i : Int, T 7 = I i ∧ -1 ≤ i ∧ i ≤ pages.length + 1) (fun T _ => match T 7 with | .val (.int _ i) => (pages.length + 1 - i).toNat | _ => 0) rfl ?_ ?_
  · exact ⟨rfl, by simp (dsimp := false) (implicitDefEqProofs := false) [], by simp (dsimp := false) (implicitDefEqProofs := false) [], by simp (dsimp := false) (implicitDefEqProofs := false) [], -1, by simp (dsimp := false) (implicitDefEqProofs := false) [], by omega, by omega⟩
  · rintro T M1 ⟨rfl, t0, t1, t2, i, t7, h1, h2⟩
    by_cases hlt : i ≤ (pages.length : Int)
    · have c3 : IntKind.i64.wrap (i + 1) = i + 1 := IntWalk.i64_in _ (by omega)
      obtain ⟨x, e, hx⟩ := rd i
      simp (dsimp := false) (implicitDefEqProofs := false) [t0, t1, t2, t7, hlt, loadAV_ptr hc, lw]
      refine w_calls (C := PC) Try.call18 (read_ok _ _ _ _ _ _ _ _ _ hb hp) ?_
      rintro _ _ ⟨rfl, rfl⟩
      rw [hx]
      simp (dsimp := false) (implicitDefEqProofs := false) [t0, t1, t2, t7]
      refine w_calls (C := PC) Try.call32 (rread_ok _ _ _ _ _ _ _ _ _ hc hq) ?_
      rintro _ _ ⟨rfl, rfl⟩
      rw [hx]
      simp (dsimp := false) (implicitDefEqProofs := false) [t0, t1, t2, t7, c3]
      exact ⟨⟨by omega, by omega⟩, by omega⟩
    · obtain ⟨x, e, hx⟩ := rd n
      simp (dsimp := false) (implicitDefEqProofs := false) [t0, t1, t2, t7, hlt, loadAV_ptr hc, lw]
      refine w_calls (C := PC) Try.call18 (read_ok _ _ _ _ _ _ _ _ _ hb hp) ?_
      rintro _ _ ⟨rfl, rfl⟩
      rw [hx]
      simp (dsimp := false) (implicitDefEqProofs := false) [t0, t1, t2, t7]
      refine w_calls (C := PC) Try.call32 (rread_ok _ _ _ _ _ _ _ _ _ hc hq) ?_
      rintro _ _ ⟨rfl, rfl⟩
      rw [hx]
      simp (dsimp := false) (implicitDefEqProofs := false) [t0, t1, t2, t7]
end Go.Abs
