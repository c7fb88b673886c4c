/- From a law's walk over plain data to the model's calls. -/
import Derived.Test.YteillgpoonhdjaaPsF
import Derived.Test.YteillgpoonhdjaaRows
import Derived.WalkKit
import Derived.ProofKit
import Derived.OpenShut
import Derived.ShutString
import Derived.ChangeOld
import Derived.Below
import Derived.Carry
import Derived.SliceStrings
set_option maxRecDepth 100000
namespace Go.Abs
open Go.Proofs Go.RowKit Go.ChangeShapes Go.WideShapes Go.ChangeAt

def G0 (w : World) : Ghost := ⟨0, fun _ => 0, fun b i => w.cell? ⟨b, i, none⟩, fun b => w.heap[b]?, fun _ _ => (none, 0), fun _ => 0⟩
theorem inv0 (w : World) : Inv PC (G0 w) [] w :=
  ⟨rfl, fun _ _ _ h => h, fun _ _ h => h, fun _ _ h => by simp at h, fun _ _ _ _ _ h => by simp at h, fun g => by simp [PC, Rep]⟩

theorem lift {f : FuncId} {args : List AV} {vs : List Value} {W : World} (h : ACalls PC f args [] (fun v _ => v = B true)) (hr : RepL (G0 W) args vs) :
    Calls Try.prog f vs.toArray W (fun e W' => e = .returned (.bool true) ∧ Below W.heap.size W W') := by
  refine Calls.mono (h (G0 W) W vs (inv0 W) hr) ?_
  rintro e w' ⟨r, M', G', v, rfl, rfl, hle, hi, hv, hx⟩
  simp only [Rep] at hv
  subst hv
  refine ⟨rfl, hx.os, hx.tape, hx.output, hx.size, ?_⟩
  intro k hk
  have : W.heap[k]? = some W.heap[k] := by simp [hk]
  rw [this]
  exact hi.keep k _ (hle.keep k _ this)

theorem spot_of_ok {W : World} {a : Addr} {len cap base : Nat} (h : Value.okWide Try.prog W .any base 22 (.slice (some a) len cap)) : a.spot = none := by
  simp only [Value.okWide, Try.underlying22, Cell.okWide, Cell.ok, World.has] at h
  exact h.2.2.2.1

theorem rows_of (G : Ghost) : ∀ (l : List ByteArray) (b i : Nat), (∀ j, j < l.length → G.st b (i + j) = some (.string (l.getD j ByteArray.empty))) → RepRows G 1 (rowsS l) b i
  | [], _, _, _ => by simp [rowsS, RepRows]
  | x :: l, b, i, h => by
    have h0 := h 0 (by simp)
    simp only [rowsS, List.map_cons, RepRows]
    refine ⟨⟨rfl, ?_⟩, ?_⟩
    · simp only [RepMem]
      exact ⟨⟨_, h0, rfl, by simp [Rep]⟩, trivial⟩
    · refine rows_of G l b (i + 1) fun j hj => ?_
      have := h (j + 1) (by simp; omega)
      rw [show i + 1 + j = i + (j + 1) by omega]
      simpa using this

theorem rep_strings {H : Type} {enc : TypeId × Value → H} {W : World} {base : Nat} {v : Value} {d : DataW H} {p : List MemPlace}
    (ho : Value.okWide Try.prog W .any base 22 v) (h : DataW.Trod enc Try.prog W 0 (fun _ => true) true 22 v d p) : ∃ l : List ByteArray, Rep (G0 W) (.list 1 (rowsS l) .no) v := by
  obtain ⟨a, len, cap, rfl⟩ := okWide_slice Try.underlying22 ho
  obtain ⟨fuel, hf⟩ := h
  rcases open_strings Try.underlying22 Try.underlying9 (by kernel_rfl) hf with ⟨hcs, _⟩ | ⟨x, l, c, ss, hcs, _, hl, hm, hz, _, hcell, _⟩
  · simp [Value.cells] at hcs
    obtain ⟨rfl, rfl, rfl⟩ := hcs
    exact ⟨[], by simp only [Rep, rowsS, List.map_nil, List.length_nil]; exact ⟨none, 0, rfl, Nat.le_refl _, Nat.zero_le _, by simp, trivial⟩⟩
  · simp [Value.cells] at hcs
    obtain ⟨rfl, rfl, rfl⟩ := hcs
    have hs := spot_of_ok ho
    obtain ⟨b, off, spot⟩ := x
    simp only at hs
    subst hs
    simp only [if_true] at hz
    refine ⟨ss.take len, ?_⟩
    have hlen : (ss.take len).length = len := by simp; omega
    simp only [Rep, rowsS_len, hlen]
    refine ⟨some ⟨b, off, none⟩, cap, rfl, hl, hm, ⟨rfl, ?_⟩, trivial⟩
    refine rows_of _ _ _ _ fun j hj => ?_
    rw [hlen] at hj
    have := hcell j (by omega)
    simp only [G0]
    rw [show (List.take len ss).getD j ByteArray.empty = ss.getD j ByteArray.empty by simp [List.getD, hj]]
    rcases Nat.eq_zero_or_pos j with rfl | hp
    · simpa [Addr.add] using this
    · have hj0 : j ≠ 0 := by omega
      simpa [Addr.add, hj0] using this
end Go.Abs
