/- AnchorAuthors returns true whatever its arguments are, and changes nothing that was there. -/
import Derived.Test.YtiipcnbedgamdaaGreatDoorVG30
import Derived.Test.YtiipcnbedgamdaaGreatDoorVG36
import Derived.Test.YtiipcnbedgamdaaGreatDoorVG43
import Derived.WalkKit
import Derived.ProofKit
import Derived.OpenShut
import Derived.ShutString
import Derived.ChangeOld
import Derived.Below
import Derived.Carry
import Derived.SliceStrings
import Derived.LaidMore
set_option maxRecDepth 100000
namespace Go.Abs
open Go Go.Proofs Go.Proofs.YtiipcnbedgamdaaGreatDoor Go.RowKit Go.ChangeShapes Go.WideShapes Go.ChangeAt

def shCite : Sh := .parts [shInt, shPath, .str, shInt, shInt]
def shWords : Sh := .slice 4 shWord
def E1 : ShEnv := ⟨fun i => if i = 0 then shUnit else shItem, fun i => if i = 0 then 65 else 71, 2⟩
theorem sn_cite {E : ShEnv} {n : Nat} {r : List AV} (h : ShapedN E n shCite r) : ∃ c : CiteD, r = c.row := by
  obtain ⟨a1, b1, rfl, k1, h⟩ := sn_cons h
  obtain ⟨a2, b2, rfl, k2, h⟩ := sn_cons h
  obtain ⟨a3, b3, rfl, k3, h⟩ := sn_cons h
  obtain ⟨a4, b4, rfl, k4, h⟩ := sn_cons h
  obtain ⟨a5, b5, rfl, k5, h⟩ := sn_cons h
  obtain rfl := sn_nil h
  obtain ⟨x1, rfl, _⟩ := sn_int k1
  obtain ⟨x2, rfl, _⟩ := sn_path k2
  obtain ⟨x3, rfl, _⟩ := sn_str k3
  obtain ⟨x4, rfl, _⟩ := sn_int k4
  obtain ⟨x5, rfl, _⟩ := sn_int k5
  exact ⟨⟨x1, x2, x3, x4, x5⟩, rfl⟩
theorem sh_cite {r : List AV} (h : Shaped E1 shCite r) : ∃ c : CiteD, r = c.row := by
  obtain ⟨n, hn⟩ := shaped_deep h
  exact sn_cite hn
theorem sh_words {r : List AV} (h : Shaped E1 shWords r) : ∃ l : List WordD, r = [.list 4 (rowsW l) .no] ∧ l.length ≤ maxLen := by
  obtain ⟨n, hn⟩ := shaped_deep h
  obtain ⟨l, h1, h2, _⟩ : ∃ l : List WordD, r = [.list 4 (rowsW l) .no] ∧ l.length ≤ maxLen ∧ ∀ w ∈ l, w.good := sn_slice (fun r => sn_word) hn
  exact ⟨l, h1, h2⟩
theorem sh_gazs {r : List AV} (h : Shaped E1 shGazs r) : ∃ l : List GazD, r = [.list 4 (rowsG l) .no] ∧ l.length ≤ maxLen ∧ ∀ g ∈ l, g.good := by
  obtain ⟨n, hn⟩ := shaped_deep h
  exact sn_gazs rfl rfl hn
theorem lift {f : FuncId} {args : List AV} {vs : List Value} {W : World} (hL : laidMetH Tryz.prog laidL W) (h : ACalls K1.C0 f args [] (fun v _ => v = B true)) (hr : RepL (fixedG W) args vs) :
    Calls Tryz.prog f vs.toArray W (fun e W' => e = .returned (.bool true) ∧ Below W.heap.size W W') := by
  refine Calls.mono (h (fixedG W) W vs (inv_laid hL) hr) ?_
  rintro e w' ⟨r, M', G', v, rfl, rfl, hle, hi, hv, hx⟩
  simp only [Rep] at hv
  subst hv
  refine ⟨rfl, hx.os, hx.tape, hx.output, hx.size, ?_⟩
  intro k hk
  have : W.heap[k]? = some W.heap[k] := by simp [hk]
  rw [this]
  exact hi.keep k _ (hle.keep k _ this)
theorem law3 (w : List WordD) (c : CiteD) (l : List GazD) (hw : w.length ≤ maxLen) (hl : l.length ≤ maxLen) (hg : ∀ g ∈ l, g.good) :
    ACalls K1.C0 3 [.list 4 (rowsW w) .no, .agg c.row, .list 4 (rowsG l) .no] [] (fun v _ => v = B true) :=
  law3_ok K1.glT w c l hw hl hg K1.awake42
theorem fits1 : ∀ i, i < E1.n → Sh.fits Tryz.prog E1 (E1.sh i) (E1.ty i) = true ∧ ∀ j, E1.sh i ≠ .ref j := fun i hi => by
  match i, hi with
  | 0, _ => exact ⟨(show Sh.fits Tryz.prog E1 shUnit 65 = true by kernel_rfl), fun j h => by cases h⟩
  | 1, _ => exact ⟨(show Sh.fits Tryz.prog E1 shItem 71 = true by kernel_rfl), fun j h => by cases h⟩
theorem rep_row {H : Type} {enc : TypeId × Value → H} {W : World} {sp : Nat → Bool} {hd : Bool} {t : TypeId} {cs : Array Value} {d : DataW H} {p : List MemPlace} {sh : Sh} (hf : Sh.fits Tryz.prog E1 sh t = true)
    (h : DataW.Trod enc Tryz.prog W 0 sp hd t (.agg cs) d p) : ∃ avs, Shaped E1 sh avs ∧ Rep (fixedG W) (.agg avs) (.agg cs) := by
  obtain ⟨fuel, hf'⟩ := h
  obtain ⟨⟨avs, _, hr, hs⟩, h1⟩ := reads_of_trod (E := E1) fits1 fuel sh t cs.toList d p hf hf'
  refine ⟨avs, hs, ?_⟩
  simp only [Rep]
  exact ⟨cs, rfl, hr, h1⟩
theorem rep_arg {H : Type} {enc : TypeId × Value → H} {W : World} {sp : Nat → Bool} {hd : Bool} {t : TypeId} {v : Value} {d : DataW H} {p : List MemPlace} {sh : Sh} (hf : Sh.fits Tryz.prog E1 sh t = true) (hc : v.cells.toList = [v])
    (h : DataW.Trod enc Tryz.prog W 0 sp hd t v d p) : ∃ avs, Shaped E1 sh avs ∧ RepL (fixedG W) avs [v] := by
  obtain ⟨fuel, hf'⟩ := h
  obtain ⟨⟨avs, _, hr, hs⟩, _⟩ := reads_of_trod (E := E1) fits1 fuel sh t v.cells.toList d p hf hf'
  rw [hc] at hr
  exact ⟨avs, hs, hr⟩
theorem own : ownKnob Tryz.prog.godebug = none := by kernel_rfl
theorem laidOut : laidOutB Tryz.prog = true := by kernel_rfl
end Go.Abs
