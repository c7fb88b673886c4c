/- CodifyValidation returns true whatever its arguments are, and changes nothing that was there. -/
import Derived.Test.YtmpdkagfplajjaaGreatDoorVG29
import Derived.Test.YtmpdkagfplajjaaGreatDoorVG35
import Derived.Test.YtmpdkagfplajjaaGreatDoorVG40
import Derived.WalkKit
import Derived.ProofKit
import Derived.OpenShut
import Derived.ShutString
import Derived.ChangeOld
import Derived.Below
import Derived.Carry
import Derived.SliceStrings
import Derived.LaidMore
set_option maxRecDepth 100000
namespace Go.Abs
open Go Go.Proofs Go.Proofs.YtmpdkagfplajjaaGreatDoor Go.RowKit Go.ChangeShapes Go.WideShapes Go.ChangeAt

def shSlot : Sh := .parts [shId, shInt, .str]
def E1 : ShEnv := ⟨fun _ => shUnit, fun _ => 27, 1⟩
theorem sn_slot {E : ShEnv} {n : Nat} {r : List AV} (h : ShapedN E n shSlot r) : ∃ s : SlotD, r = s.row ∧ s.good := by
  obtain ⟨a, b, rfl, h1, h2⟩ := sn_cons h
  obtain ⟨a3, b3, rfl, h3, h4⟩ := sn_cons h2
  obtain ⟨a5, b5, rfl, h5, h6⟩ := sn_cons h4
  obtain rfl := sn_nil h6
  obtain ⟨x, rfl, hx⟩ := sn_id h1
  obtain ⟨k, rfl, hk⟩ := sn_int h3
  obtain ⟨l, rfl, hl⟩ := sn_str h5
  exact ⟨⟨x, k, l⟩, rfl, hx, hk, hl⟩
theorem sh_unit {r : List AV} (h : Shaped E1 (.ref 0) r) : ∃ u : UnitD, r = u.row ∧ u.good := by
  obtain ⟨n, hn⟩ := shaped_deep h
  exact sn_unit rfl n r hn
theorem sh_slots {r : List AV} (h : Shaped E1 (.slice 5 shSlot) r) : ∃ l : List SlotD, r = [.list 5 (rowsX l) .no] ∧ l.length ≤ maxLen ∧ ∀ s ∈ l, s.good := by
  obtain ⟨n, hn⟩ := shaped_deep h
  exact sn_slice (fun r => sn_slot) hn
theorem gl0 : K1.glT 0 = belowAV := by kernel_rfl
theorem gl1 : K1.glT 1 = namesAV := by kernel_rfl
theorem lift {f : FuncId} {args : List AV} {vs : List Value} {W : World} (hL : laidMetH Tryz.prog laidL W) (h : ACalls K1.C0 f args [] (fun v _ => v = B true)) (hr : RepL (fixedG W) args vs) :
    Calls Tryz.prog f vs.toArray W (fun e W' => e = .returned (.bool true) ∧ Below W.heap.size W W') := by
  refine Calls.mono (h (fixedG W) W vs (inv_laid hL) hr) ?_
  rintro e w' ⟨r, M', G', v, rfl, rfl, hle, hi, hv, hx⟩
  simp only [Rep] at hv
  subst hv
  refine ⟨rfl, hx.os, hx.tape, hx.output, hx.size, ?_⟩
  intro k hk
  have : W.heap[k]? = some W.heap[k] := by simp [hk]
  rw [this]
  exact hi.keep k _ (hle.keep k _ this)
theorem law3 (u : UnitD) (l : List SlotD) (hg : u.good) (hl : l.length ≤ maxLen) (hs : ∀ s ∈ l, s.good) :
    ACalls K1.C0 3 [.agg u.row, .list 5 (rowsX l) .no] [] (fun v _ => v = B true) :=
  law3_ok K1.glT gl0 gl1 u l hg hl hs (K1.awake46.mono fun _ _ h => h.1)
theorem fits1 : ∀ i, i < E1.n → Sh.fits Tryz.prog E1 (E1.sh i) (E1.ty i) = true ∧ ∀ j, E1.sh i ≠ .ref j := fun i _ => ⟨(show Sh.fits Tryz.prog E1 shUnit 27 = true by kernel_rfl), fun j h => by cases h⟩
theorem rep_row {H : Type} {enc : TypeId × Value → H} {W : World} {sp : Nat → Bool} {hd : Bool} {t : TypeId} {cs : Array Value} {d : DataW H} {p : List MemPlace} {sh : Sh} (hf : Sh.fits Tryz.prog E1 sh t = true)
    (h : DataW.Trod enc Tryz.prog W 0 sp hd t (.agg cs) d p) : ∃ avs, Shaped E1 sh avs ∧ Rep (fixedG W) (.agg avs) (.agg cs) := by
  obtain ⟨fuel, hf'⟩ := h
  obtain ⟨⟨avs, _, hr, hs⟩, h1⟩ := reads_of_trod (E := E1) fits1 fuel sh t cs.toList d p hf hf'
  refine ⟨avs, hs, ?_⟩
  simp only [Rep]
  exact ⟨cs, rfl, hr, h1⟩
theorem rep_arg {H : Type} {enc : TypeId × Value → H} {W : World} {sp : Nat → Bool} {hd : Bool} {t : TypeId} {v : Value} {d : DataW H} {p : List MemPlace} {sh : Sh} (hf : Sh.fits Tryz.prog E1 sh t = true) (hc : v.cells.toList = [v])
    (h : DataW.Trod enc Tryz.prog W 0 sp hd t v d p) : ∃ avs, Shaped E1 sh avs ∧ RepL (fixedG W) avs [v] := by
  obtain ⟨fuel, hf'⟩ := h
  obtain ⟨⟨avs, _, hr, hs⟩, _⟩ := reads_of_trod (E := E1) fits1 fuel sh t v.cells.toList d p hf hf'
  rw [hc] at hr
  exact ⟨avs, hs, hr⟩
theorem own : ownKnob Tryz.prog.godebug = none := by kernel_rfl
theorem laidOut : laidOutB Tryz.prog = true := by kernel_rfl
end Go.Abs
