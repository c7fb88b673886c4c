/- The table of functions among the laid variables; all of the walk's globals. -/
import Derived.Test.YtiipcnbedgamdaaGreatDoorVG35
import Derived.ChangeSame
set_option maxRecDepth 1000000
namespace Go.Abs
open Go Go.Proofs Go.Proofs.YtiipcnbedgamdaaGreatDoor Go.ChangeShapes

section
variable {W : World} (h : laidMetH Tryz.prog laidL W)
include h
theorem rep_g0 : Rep (fixedG W) (K1.glT 0) (.pointer (some ⟨0, 0, none⟩)) := by
  obtain ⟨g, t, cs, fuel, p, hg, ht, hv, hd⟩ := h.funcs (n := "pandect/syntax.order") (d := .agg [.iface "func" (.lit (.string [112, 97, 110, 100, 101, 99, 116, 47, 115, 121, 110, 116, 97, 120, 46, 111, 114, 100, 101, 114, 36, 49])), .iface "func" (.lit (.string [112, 97, 110, 100, 101, 99, 116, 47, 115, 121, 110, 116, 97, 120, 46, 111, 114, 100, 101, 114, 36, 50]))])
    (by simp [laidL, Rows.anchorAuthorsRow, Rows.laid_pandect_syntax_order])
  obtain rfl := Option.some.inj ((show Tryz.prog.globalNamed "pandect/syntax.order" = some 0 by kernel_rfl).symm.trans hg)
  obtain rfl := Option.some.inj ((show (Tryz.prog.globals[0]?).map (·.type) = some 258 by kernel_rfl).symm.trans ht)
  have hd' : DataW.trod (funcToken Tryz.prog) Tryz.prog W 0 (fun _ => true) true fuel 258 cs.toList = some (.agg [.held [112, 97, 110, 100, 101, 99, 116, 47, 115, 121, 110, 116, 97, 120, 46, 111, 114, 100, 101, 114, 36, 49], .held [112, 97, 110, 100, 101, 99, 116, 47, 115, 121, 110, 116, 97, 120, 46, 111, 114, 100, 101, 114, 36, 50]], p) := hd
  obtain ⟨y0, y1, n, hy, hl, h0, h1⟩ := trod_struct2 Tryz.underlying258 hd'
  have c1 : Tryz.prog.cellsOf 256 = 1 := by kernel_rfl
  have c2 : Tryz.prog.cellsOf 99 = 1 := by kernel_rfl
  have c3 : Tryz.prog.cellsOf 258 = 2 := by kernel_rfl
  rw [c3] at hl
  obtain ⟨l⟩ := cs
  simp only [c1, c2] at h0 h1
  match l, hl with
  | [v0, v1], _ =>
    simp only [List.drop_zero, List.take_succ_cons, List.take_zero, List.drop_succ_cons] at h0 h1
    simp only [Prod.mk.injEq, DataW.agg.injEq, List.cons.injEq] at hy
    obtain ⟨⟨e0, e1, -⟩, -⟩ := hy
    obtain ⟨d0, q0⟩ := y0
    obtain ⟨d1, q1⟩ := y1
    simp only at e0 e1
    subst e0; subst e1
    obtain rfl := func_of_trod (f0 := 388) Tryz.underlying256 (by kernel_rfl) h0
    obtain rfl := func_of_trod (f0 := 389) Tryz.underlying99 (by kernel_rfl) h1
    show Rep (fixedG W) (.cptr [.func (.func 388) [] [], .func (.func 389) [] []]) _
    simp only [Rep]
    refine ⟨0, 0, rfl, ?_⟩
    have k0 := World.var?_cell hg hv 0
    have k1 := World.var?_cell hg hv 1
    refine ⟨⟨_, (show W.cell? _ = some _ by simpa using k0), rfl, ?_⟩, ⟨_, (show W.cell? _ = some _ by simpa using k1), rfl, ?_⟩, trivial⟩
    · simp only [Rep]; exact ⟨#[], #[], rfl, by simp [RepL], by simp [RepL]⟩
    · simp only [Rep]; exact ⟨#[], #[], rfl, by simp [RepL], by simp [RepL]⟩
theorem inv_laid : Inv K1.C0 (fixedG W) [] W :=
  ⟨rfl, fun _ _ _ h => h, fun _ _ h => h, fun _ _ h => by simp at h, fun _ _ _ _ _ h => by simp at h, fun g => by
    show Rep (fixedG W) (K1.glT g) _
    match g with
    | 0 => exact rep_g0 h
    | 1 => exact rep_g1 h
    | 2 => trivial
    | 3 => exact rep_g3 h
    | 4 => exact rep_g4 h
    | 5 => exact rep_g5 h
    | n + 6 => trivial, fun g cs hg => by simp [K1.C0, WC] at hg⟩
end
end Go.Abs
