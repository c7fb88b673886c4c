/- CodifyRewrites returns true whatever its arguments are, and changes nothing that was there. -/
import Derived.Test.YtmpdkagfplajjaaGreatDoorG23
import Derived.Test.YtmpdkagfplajjaaGreatDoorG29
import Derived.Test.YtmpdkagfplajjaaGreatDoorG34
import Derived.WalkKit
import Derived.ProofKit
import Derived.OpenShut
import Derived.ShutString
import Derived.ChangeOld
import Derived.Below
import Derived.Carry
import Derived.SliceStrings
import Derived.LaidMore
namespace Go.Abs
open Go Go.Proofs Go.Proofs.YtmpdkagfplajjaaGreatDoor Go.RowKit Go.ChangeShapes Go.WideShapes Go.ChangeAt

theorem lift {f : FuncId} {args : List AV} {vs : List Value} {W : World} (hL : laidMetH Tryz.prog laidL W) (h : ACalls K1.C0 f args [] (fun v _ => v = B true)) (hr : RepL (fixedG W) args vs) :
    Calls Tryz.prog f vs.toArray W (fun e W' => e = .returned (.bool true) ∧ Below W.heap.size W W') := by
  refine Calls.mono (h (fixedG W) W vs (inv_laid hL) hr) ?_
  rintro e w' ⟨r, M', G', v, rfl, rfl, hle, hi, hv, hx⟩
  simp only [Rep] at hv
  subst hv
  refine ⟨rfl, hx.os, hx.tape, hx.output, hx.size, ?_⟩
  intro k hk
  have : W.heap[k]? = some W.heap[k] := by simp [hk]
  rw [this]
  exact hi.keep k _ (hle.keep k _ this)
theorem law4 (l : List ByteArray) (old : List CiteD) (names : List (List Step)) (hls : ∀ s ∈ l, s.size ≤ maxLen) (hns : ∀ p ∈ names, ∀ s ∈ p, s.lab.size ≤ maxLen) :
    ACalls K1.C0 4 [.list 1 (rowsS l) .no, .list 5 (rowsC old) .no, .list 1 (rowsN names) .no] [] (fun v _ => v = B true) :=
  law4_ok K1.glT l old names .no .no .no hls hns (K1.awake46.mono fun _ _ h => h.1)
theorem rep_arg {H : Type} {enc : TypeId × Value → H} {W : World} {sp : Nat → Bool} {hd : Bool} {t : TypeId} {v : Value} {d : DataW H} {p : List MemPlace} {sh : Sh} (hf : Sh.fits Tryz.prog K1.E0 sh t = true) (hc : v.cells.toList = [v])
    (h : DataW.Trod enc Tryz.prog W 0 sp hd t v d p) : ∃ avs, Shaped K1.E0 sh avs ∧ RepL (fixedG W) avs [v] := by
  obtain ⟨fuel, hf'⟩ := h
  obtain ⟨⟨avs, _, hr, hs⟩, _⟩ := reads_of_trod (E := K1.E0) (fun i hi => absurd hi (Nat.not_lt_zero i)) fuel sh t v.cells.toList d p hf hf'
  rw [hc] at hr
  exact ⟨avs, hs, hr⟩
theorem own : ownKnob Tryz.prog.godebug = none := by kernel_rfl
theorem laidOut : laidOutB Tryz.prog = true := by kernel_rfl
end Go.Abs
