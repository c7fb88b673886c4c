/- Contracts of the shelf (stated over worlds) as contracts of the abstract layer. -/
import Derived.Test.YtiipcnbedgamdaaGreatDoorVG09
import Derived.Sort.Grow
import Derived.Deep.Draws
import Derived.Below
set_option linter.unusedVariables false
set_option linter.unusedSimpArgs false
namespace Go.Abs
open Go.Sort

theorem Inv.below {C : Ctx} {G : Ghost} {M : Mem} {w w' : World} (hi : Inv C G M w) (hb : Go.RowKit.Below w.heap.size w w') : Inv C G M w' := by
  refine ⟨hi.n, fun b i v h => ?_, fun b o h => ?_, fun j o h => ?_, hi.apart, hi.gl, hi.tab⟩
  · have h0 := hi.st b i v h
    have hl := World.block_lt_of_cell? w ⟨b, i, none⟩ h0
    simpa [World.cell?, hb.block b hl] using h0
  · have h0 := hi.keep b o h
    rw [hb.block b (heap_lt h0)]; exact h0
  · have h0 := hi.obj j o h
    exact h0.keeps (.refl _) (by rw [hi.n]; exact getElem?_lt h) rfl ⟨rfl, rfl⟩ (fun _ _ _ _ h => h) (fun _ => rfl) (fun b hb' => hb.block b (h0.owns_lt hb'))
theorem Ext.below {w w' : World} (h : Go.RowKit.Below w.heap.size w w') : Ext w w' := ⟨h.os, h.tape, h.output, h.size⟩
theorem below_grown (w : World) (k : Nat) (os : Array Obj) : Go.RowKit.Below w.heap.size w (grow (w.drewN k) os) :=
  ⟨rfl, rfl, rfl, by simp [grow, World.drewN], fun b h => by simp [grow, World.drewN, Array.getElem?_append, h]⟩
/-- a call that lays new memory alone -/
theorem acalls_of_below {C : Ctx} {f : FuncId} {args : List AV} {M : Mem} {v : Value}
    (h : ∀ G w (vs : List Value), Inv C G M w → RepL G args vs → Calls C.P f vs.toArray w fun e w' => e = .returned v ∧ Go.RowKit.Below w.heap.size w w') :
    ACalls C f args M (fun r M' => r = .val v ∧ M' = M) := by
  intro G w vs hi hr
  refine Calls.mono (h G w vs hi hr) ?_
  rintro e w' ⟨rfl, hb⟩
  exact ⟨.val v, M, G, v, rfl, ⟨rfl, rfl⟩, .refl _, hi.below hb, by simp [Rep], .below hb⟩
theorem acalls_of_grow {C : Ctx} {f : FuncId} {args : List AV} {M : Mem} {v : Value}
    (h : ∀ G w (vs : List Value), Inv C G M w → RepL G args vs → Calls C.P f vs.toArray w fun e w' => e = .returned v ∧ ∃ k os, w' = grow (w.drewN k) os) :
    ACalls C f args M (fun r M' => r = .val v ∧ M' = M) :=
  acalls_of_below fun G w vs hi hr => Calls.mono (h G w vs hi hr) (by rintro e w' ⟨he, k, os, rfl⟩; exact ⟨he, below_grown w k os⟩)
end Go.Abs
