/- CodifyRewrites: the row. -/
import Derived.Test.YtmpdkagfplajjaaGreatDoorG35
import Derived.Test.YtmpdkagfplajjaaGreatDoorG36
import Derived.Stop.Joined
set_option maxRecDepth 1000000
namespace Go.Abs
open Go Go.Proofs Go.Proofs.YtmpdkagfplajjaaGreatDoor Go.RowKit Go.ChangeShapes Go.WideShapes Go.ChangeAt
theorem w0_shaped (os : Os) (args : Array Value) : ((w0 os).forCall (fun _ _ => 0) ⟨#[], args, []⟩).Shaped Tryz.prog := World.shaped_of_RefB (by kernel_rfl) (by kernel_rfl)
theorem lifted4 (os : Os) (started : os.Started) (H : Type) (enc : TypeId × Value → H) :
    ReturnsInHanded {} Tryz.checked os 4 .any (fun w args => (Rows.codifyRewritesSpec.pre enc Tryz.prog Tryz.f4 [] false w args ∧ laidMetH Tryz.prog laidL w) ∧ sizedMet enc Tryz.prog Tryz.f4 (OpenSpec.ofChange Rows.codifyRewritesSpec) false w args)
      (Rows.codifyRewritesSpec.post enc Tryz.prog Tryz.f4 false true false false) := by
  refine returnsInHanded_of_change_and (C := Tryz.checked) (X := fun w _ => laidMetH Tryz.prog laidL w) (fun _ _ _ hh h => laidMetH.of_heap hh h) own started (by kernel_rfl) Tryz.func4
    (ChangeSpec.witness_shaped (enc := enc) (C := Tryz.checked) (os := os) (X := fun w _ => laidMetH Tryz.prog laidL w) false (w0 os) #[.slice none 0 0, .slice none 0 0, .slice none 0 0] 8 (World.layVars_os _ _ _) (w0_shaped os _) (by kernel_rfl) (by kernel_rfl) (by kernel_rfl) (door_met os _)) ?_
  intro W base args ds gs before hval0 hW _ _ hL _
  have hval : ∀ (j : Nat) t v, Tryz.f4.params[j]? = some t → args[j]? = some v → Value.okWide Tryz.prog W .any base t v := hval0
  have hW' := hW
  obtain ⟨p, q, hA0, hV, rfl, hfz, hnd⟩ := hW
  have hA : DataW.TrodAll enc Tryz.prog W 0 (fun _ => true) true Tryz.f4.params.toList args.toList ds p := hA0
  rw [Tryz.params4] at hA hval
  obtain ⟨v0, vs0, d0, ds0, p0, q0, hargs, rfl, rfl, h0, r0⟩ := trodAll_cons hA
  obtain ⟨v1, vs1, d1, ds1, p1, q1, rfl, rfl, rfl, h1, r1⟩ := trodAll_cons r0
  obtain ⟨v2, vs2, d2, ds2, p2, q2, rfl, rfl, rfl, h2, r2⟩ := trodAll_cons r1
  obtain ⟨rfl, rfl, rfl⟩ := trodAll_nil r2
  obtain rfl : args = #[v0, v1, v2] := by cases args; simp_all
  obtain ⟨rfl, rfl⟩ := trodVars_none hV
  obtain ⟨b0, n0, c0, e0⟩ := okWide_slice Tryz.underlying37 (hval 0 37 v0 rfl rfl)
  obtain ⟨b1, n1, c1, e1⟩ := okWide_slice Tryz.underlying38 (hval 1 38 v1 rfl rfl)
  obtain ⟨b2, n2, c2, e2⟩ := okWide_slice Tryz.underlying39 (hval 2 39 v2 rfl rfl)
  obtain ⟨a0, s0, x0⟩ := rep_arg (sh := .slice 1 .str) (by kernel_rfl) (by rw [e0]; rfl) h0
  obtain ⟨a1, s1, x1⟩ := rep_arg (sh := .slice 5 shCite) (by kernel_rfl) (by rw [e1]; rfl) h1
  obtain ⟨a2, s2, x2⟩ := rep_arg (sh := .slice 1 (.slice 2 shStep)) (by kernel_rfl) (by rw [e2]; rfl) h2
  obtain ⟨l, rfl, hl⟩ := sh_strs s0
  obtain ⟨old, rfl⟩ := sh_cites s1
  obtain ⟨names, rfl, hn⟩ := sh_names s2
  have lt0 : ∀ x ∈ p0, x.block < W.heap.size := by obtain ⟨m, hm⟩ := h0; exact DataW.trod_lt m _ _ _ hm
  have lt1 : ∀ x ∈ p1, x.block < W.heap.size := by obtain ⟨m, hm⟩ := h1; exact DataW.trod_lt m _ _ _ hm
  have lt2 : ∀ x ∈ p2, x.block < W.heap.size := by obtain ⟨m, hm⟩ := h2; exact DataW.trod_lt m _ _ _ hm
  clear hA0 hval0
  have hr : RepL (fixedG W) [.list 1 (rowsS l) .no, .list 5 (rowsC old) .no, .list 1 (rowsN names) .no] [v0, v1, v2] := by
    simp only [RepL] at x0 x1 x2 ⊢
    obtain ⟨y0, _, f0, g0, rfl⟩ := x0
    obtain ⟨y1, _, f1, g1, rfl⟩ := x1
    obtain ⟨y2, _, f2, g2, rfl⟩ := x2
    cases f0; cases f1; cases f2
    exact ⟨_, _, rfl, g0, _, _, rfl, g1, _, _, rfl, g2, rfl⟩
  refine Calls.mono (lift hL (law4 l old names hl hn) hr) fun e W' ⟨he, bel⟩ => ?_
  subst he
  exact ⟨_, rfl, _, _, _, [], _, [], hW', trodAll_mk1 (shut_bool Tryz.underlying4 _),
    (trodAll_cons_mk (Below.trod laidOut (by kernel_rfl) (of_decide_eq_true (by kernel_rfl)) h0 bel lt0) (trodAll_cons_mk (Below.trod laidOut (by kernel_rfl) (of_decide_eq_true (by kernel_rfl)) h1 bel lt1) (trodAll_cons_mk (Below.trod laidOut (by kernel_rfl) (of_decide_eq_true (by kernel_rfl)) h2 bel lt2) trodAll_mk0))), rfl, bel.frame _, fun h => by cases h⟩
end Go.Abs
