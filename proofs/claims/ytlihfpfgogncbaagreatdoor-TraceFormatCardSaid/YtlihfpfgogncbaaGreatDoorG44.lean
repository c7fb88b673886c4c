/- TraceFormat returns true whatever its argument is, and changes nothing that was there. -/
import Derived.Test.YtlihfpfgogncbaaGreatDoorG31
import Derived.Test.YtlihfpfgogncbaaGreatDoorG38
import Derived.Test.YtlihfpfgogncbaaGreatDoorG43
import Derived.WalkKit
import Derived.ProofKit
import Derived.OpenShut
import Derived.ShutString
import Derived.ChangeOld
import Derived.Below
import Derived.Carry
import Derived.SliceStrings
import Derived.LaidMore
namespace Go.Abs
open Go Go.Proofs Go.Proofs.YtlihfpfgogncbaaGreatDoor Go.RowKit Go.ChangeShapes Go.WideShapes Go.ChangeAt

theorem lift {f : FuncId} {args : List AV} {vs : List Value} {W : World} (hL : laidMetH Tryz.prog laidL W) (h : ACalls K1.C0 f args [] (fun v _ => v = B true)) (hr : RepL (fixedG W) args vs) :
    Calls Tryz.prog f vs.toArray W (fun e W' => e = .returned (.bool true) ∧ Below W.heap.size W W') := by
  refine Calls.mono (h (fixedG W) W vs (inv_laid hL) hr) ?_
  rintro e w' ⟨r, M', G', v, rfl, rfl, hle, hi, hv, hx⟩
  simp only [Rep] at hv
  subst hv
  refine ⟨rfl, hx.os, hx.tape, hx.output, hx.size, ?_⟩
  intro k hk
  have : W.heap[k]? = some W.heap[k] := by simp [hk]
  rw [this]
  exact hi.keep k _ (hle.keep k _ this)
theorem law3 (f : StatusD) (hn : f.path.length ≤ maxLen) (hl : ∀ s ∈ f.path, s.lab.size ≤ maxLen) (ha : inI f.act) (hi : inI f.item) :
    ACalls K1.C0 3 [f.v .no] [] (fun v _ => v = B true) :=
  law3_ok K1.glT f .no hl hn ha hi K1.awake43
theorem rep_row {H : Type} {enc : TypeId × Value → H} {W : World} {sp : Nat → Bool} {hd : Bool} {t : TypeId} {cs : Array Value} {d : DataW H} {p : List MemPlace} {sh : Sh} (hf : Sh.fits Tryz.prog K1.E0 sh t = true)
    (h : DataW.Trod enc Tryz.prog W 0 sp hd t (.agg cs) d p) : ∃ avs, Shaped K1.E0 sh avs ∧ Rep (fixedG W) (.agg avs) (.agg cs) := by
  obtain ⟨fuel, hf'⟩ := h
  obtain ⟨⟨avs, _, hr, hs⟩, h1⟩ := reads_of_trod (E := K1.E0) (fun i hi => absurd hi (Nat.not_lt_zero i)) fuel sh t cs.toList d p hf hf'
  refine ⟨avs, hs, ?_⟩
  simp only [Rep]
  exact ⟨cs, rfl, hr, h1⟩
theorem own : ownKnob Tryz.prog.godebug = none := by kernel_rfl
theorem laidOut : laidOutB Tryz.prog = true := by kernel_rfl
end Go.Abs
