/- CodifyValidation: the row. -/
import Derived.Test.YtmpdkagfplajjaaGreatDoorVG41
import Derived.Test.YtmpdkagfplajjaaGreatDoorVG42
import Derived.Stop.Joined
set_option maxRecDepth 1000000
namespace Go.Abs
open Go Go.Proofs Go.Proofs.YtmpdkagfplajjaaGreatDoor Go.RowKit Go.ChangeShapes Go.WideShapes Go.ChangeAt
theorem w0_shaped (os : Os) (args : Array Value) : ((w0 os).forCall (fun _ _ => 0) ⟨#[], args, []⟩).Shaped Tryz.prog := World.shaped_of_RefB (by kernel_rfl) (by kernel_rfl)
theorem lifted3 (os : Os) (started : os.Started) (H : Type) (enc : TypeId × Value → H) :
    ReturnsInHanded {} Tryz.checked os 3 .any (fun w args => (Rows.codifyValidationSpec.pre enc Tryz.prog Tryz.f3 [] false w args ∧ laidMetH Tryz.prog laidL w) ∧ sizedMet enc Tryz.prog Tryz.f3 (OpenSpec.ofChange Rows.codifyValidationSpec) false w args)
      (Rows.codifyValidationSpec.post enc Tryz.prog Tryz.f3 false true false false) := by
  refine returnsInHanded_of_change_and (C := Tryz.checked) (X := fun w _ => laidMetH Tryz.prog laidL w) (fun _ _ _ hh h => laidMetH.of_heap hh h) own started (by kernel_rfl) Tryz.func3
    (ChangeSpec.witness_shaped (enc := enc) (C := Tryz.checked) (os := os) (X := fun w _ => laidMetH Tryz.prog laidL w) false (w0 os) #[.agg #[.int .i64 0, .int .i64 0, .int .i64 0, .int .i64 0, .string ⟨#[]⟩, .slice none 0 0, .slice none 0 0, .slice none 0 0], .slice none 0 0] 8 (World.layVars_os _ _ _) (w0_shaped os _) (by kernel_rfl) (by kernel_rfl) (by kernel_rfl) (door_met os _)) ?_
  intro W base args ds gs before hval0 hW _ _ hL _
  have hval : ∀ (j : Nat) t v, Tryz.f3.params[j]? = some t → args[j]? = some v → Value.okWide Tryz.prog W .any base t v := hval0
  have hW' := hW
  obtain ⟨p, q, hA0, hV, rfl, hfz, hnd⟩ := hW
  have hA : DataW.TrodAll enc Tryz.prog W 0 (fun _ => true) true Tryz.f3.params.toList args.toList ds p := hA0
  rw [Tryz.params3] at hA hval
  obtain ⟨v0, vs0, d0, ds0, p0, q0, hargs, rfl, rfl, h0, r0⟩ := trodAll_cons hA
  obtain ⟨v1, vs1, d1, ds1, p1, q1, rfl, rfl, rfl, h1, r1⟩ := trodAll_cons r0
  obtain ⟨rfl, rfl, rfl⟩ := trodAll_nil r1
  obtain rfl : args = #[v0, v1] := by cases args; simp_all
  obtain ⟨rfl, rfl⟩ := trodVars_none hV
  obtain ⟨cs, rfl, _⟩ := okWide_struct Tryz.underlying27 (hval 0 27 v0 rfl rfl)
  obtain ⟨b1, n1, c1, e1⟩ := okWide_slice Tryz.underlying28 (hval 1 28 v1 rfl rfl)
  obtain ⟨a0, s0, x0⟩ := rep_row (sh := .ref 0) (by kernel_rfl) h0
  obtain ⟨a1, s1, x1⟩ := rep_arg (sh := .slice 5 shSlot) (by kernel_rfl) (by rw [e1]; rfl) h1
  obtain ⟨u, rfl, hg⟩ := sh_unit s0
  obtain ⟨l, rfl, hl, hs⟩ := sh_slots s1
  have lt0 : ∀ x ∈ p0, x.block < W.heap.size := by obtain ⟨m, hm⟩ := h0; exact DataW.trod_lt m _ _ _ hm
  have lt1 : ∀ x ∈ p1, x.block < W.heap.size := by obtain ⟨m, hm⟩ := h1; exact DataW.trod_lt m _ _ _ hm
  clear hA0 hval0
  have hr : RepL (fixedG W) [.agg u.row, .list 5 (rowsX l) .no] [.agg cs, v1] := by
    simp only [RepL] at x1 ⊢
    obtain ⟨y1, _, f1, g1, rfl⟩ := x1
    cases f1
    exact ⟨_, _, rfl, x0, _, _, rfl, g1, rfl⟩
  refine Calls.mono (lift hL (law3 u l hg hl hs) hr) fun e W' ⟨he, bel⟩ => ?_
  subst he
  exact ⟨_, rfl, _, _, _, [], _, [], hW', trodAll_mk1 (shut_bool Tryz.underlying4 _),
    (trodAll_cons_mk (Below.trod laidOut (by kernel_rfl) (of_decide_eq_true (by kernel_rfl)) h0 bel lt0) (trodAll_cons_mk (Below.trod laidOut (by kernel_rfl) (of_decide_eq_true (by kernel_rfl)) h1 bel lt1) trodAll_mk0)), rfl, bel.frame _, fun h => by cases h⟩
end Go.Abs
