/- Slices of calls among a law's arguments: what the model reads is what the walk is told. -/
import Derived.Test.YteillgpoonhdjaaPsZ
import Derived.Test.YteillgpoonhdjaaPsI
set_option maxRecDepth 100000
namespace Go.Abs
open Go.Proofs Go.RowKit Go.ChangeShapes Go.WideShapes Go.ChangeAt

theorem add_none (b off k : Nat) : (⟨b, off, none⟩ : Addr).add k = ⟨b, off + k, none⟩ := by
  rcases Nat.eq_zero_or_pos k with rfl | hp
  · simp [Addr.add]
  · have hk : k ≠ 0 := by omega
    simp [Addr.add, hk]

theorem pick_list {α : Type} (len : Nat) (p : Nat → α → Prop) (h : ∀ i, i < len → ∃ c, p i c) : ∃ l : List α, l.length = len ∧ ∀ i (hi : i < l.length), p i l[i] := by
  refine ⟨List.ofFn fun i : Fin len => Classical.choose (h i.1 i.2), by simp, fun i hi => ?_⟩
  simp only [List.length_ofFn] at hi
  rw [List.getElem_ofFn]
  exact Classical.choose_spec (h i hi)

structure CellsAt (G : Ghost) (b i : Nat) (c : CallD) : Prop where
  k : G.st b i = some (.int .u8 c.kind)
  t : G.st b (i + 1) = some (.string c.text)
  n : G.st b (i + 2) = some (.int .i64 c.n)

theorem rows_ofC (G : Ghost) : ∀ (l : List CallD) (b i : Nat), (∀ j (h : j < l.length), CellsAt G b (i + j * 3) l[j]) → RepRows G 3 (rowsC l) b i
  | [], _, _, _ => by simp [rowsC, RepRows]
  | x :: l, b, i, h => by
    obtain ⟨h0, h1, h2⟩ := h 0 (by simp)
    simp only [Nat.zero_mul, Nat.add_zero, List.getElem_cons_zero] at h0 h1 h2
    simp only [rowsC, List.map_cons, RepRows, CallD.cells]
    refine ⟨⟨rfl, ?_⟩, ?_⟩
    · simp only [RepMem]
      exact ⟨⟨_, h0, rfl, by simp [Rep]⟩, ⟨_, h1, rfl, by simp [Rep]⟩, ⟨_, h2, rfl, by simp [Rep]⟩, trivial⟩
    · refine rows_ofC G l b (i + 3) fun j hj => ?_
      have := h (j + 1) (by simp; omega)
      rw [show i + 3 + j * 3 = i + (j + 1) * 3 by omega]
      simpa using this

theorem cells3 {w : World} {a : Addr} {cs : List Value} (h : w.cells? 0 a 3 = some cs) : ∃ x y z, cs = [x, y, z] ∧ w.cell? (a.add 0) = some x ∧ w.cell? (a.add 1) = some y ∧ w.cell? (a.add 2) = some z := by
  unfold World.cells? at h
  rw [if_pos (Nat.zero_le _), show List.range 3 = [0, 1, 2] from rfl] at h
  simp only [List.mapM_cons, List.mapM_nil, Option.bind_eq_bind, Option.bind_eq_some_iff, Option.pure_def, Option.some.injEq] at h
  obtain ⟨x, hx, l1, ⟨y, hy, l2, ⟨z, hz, l3, rfl, rfl⟩, rfl⟩, rfl⟩ := h
  exact ⟨x, y, z, rfl, hx, hy, hz⟩

theorem spot_of_ok32 {W : World} {a : Addr} {len cap base : Nat} (h : Value.okWide Try.prog W .any base 32 (.slice (some a) len cap)) : a.spot = none := by
  simp only [Value.okWide, Try.underlying32, Cell.okWide, Cell.ok, World.has] at h
  exact h.2.2.2.1

theorem rep_calls {H : Type} {enc : TypeId × Value → H} {W : World} {base : Nat} {v : Value} {d : DataW H} {p : List MemPlace}
    (ho : Value.okWide Try.prog W .any base 32 v) (h : DataW.Trod enc Try.prog W 0 (fun _ => true) true 32 v d p) :
    ∃ l : List CallD, Rep (G0 W) (.list 3 (rowsC l) .no) v ∧ l.length ≤ maxLen ∧ ∀ x ∈ l, x.n ≤ 9223372036854775807 := by
  obtain ⟨a, len, cap, rfl⟩ := okWide_slice Try.underlying32 ho
  obtain ⟨fuel, hf⟩ := h
  rcases DataW.trod_slice Try.underlying32 hf with ⟨hcs, _⟩ | ⟨x, l, c, elems, rest, n, _, hcs, _, _, hl, hm, hlen, hel, -, -⟩
  · simp [Value.cells] at hcs
    obtain ⟨rfl, rfl, rfl⟩ := hcs
    exact ⟨[], by simp only [Rep, rowsC, List.map_nil, List.length_nil]; exact ⟨none, 0, rfl, Nat.le_refl _, Nat.zero_le _, by simp, trivial⟩, by simp, by simp⟩
  · simp [Value.cells] at hcs
    obtain ⟨rfl, rfl, rfl⟩ := hcs
    have hs := spot_of_ok32 ho
    obtain ⟨b, off, spot⟩ := x
    simp only at hs
    subst hs
    have e3 : Try.prog.cellsOf 38 = 3 := by kernel_rfl
    have e5 : Try.prog.cellsOf 5 = 1 := by kernel_rfl
    have e9 : Try.prog.cellsOf 9 = 1 := by kernel_rfl
    have ei : Try.prog.cellsOf 3 = 1 := by kernel_rfl
    obtain ⟨l, h1, h2⟩ := pick_list len (fun i c => CellsAt (G0 W) b (off + i * 3) c ∧ c.n ≤ 9223372036854775807) (by
      intro i hi
      have := hel i hi
      rw [e3, List.getElem?_eq_getElem (by omega), Option.bind_eq_some_iff] at this
      obtain ⟨cs, hc, ht⟩ := this
      obtain ⟨x, y, z, rfl, hx, hy, hz⟩ := cells3 hc
      obtain ⟨xs, m, _, _, _, hxs, hfs⟩ := DataW.trod_struct Try.underlying38 ht
      have f0 := hfs 0 { name := "Kind", type := 5, offset := 0, embedded := false, tag := "", pkgPath := "", byteOffset := 0 } rfl
      have f1 := hfs 1 { name := "Text", type := 9, offset := 1, embedded := false, tag := "", pkgPath := "", byteOffset := 8 } rfl
      have f2 := hfs 2 { name := "N", type := 3, offset := 2, embedded := false, tag := "", pkgPath := "", byteOffset := 24 } rfl
      rw [List.getElem?_eq_getElem (by rw [hxs]; decide)] at f0 f1 f2
      simp only [e5, e9, ei, List.drop, List.take] at f0 f1 f2
      obtain ⟨k, g0, -, -⟩ := DataW.trod_int Try.underlying5 f0
      obtain ⟨s, g1, -, -⟩ := DataW.trod_string Try.underlying9 f1
      obtain ⟨q, g2, -, wf⟩ := DataW.trod_int Try.underlying3 f2
      simp only [List.cons.injEq, and_true] at g0 g1 g2
      subst g0 g1 g2
      simp only [add_none] at hx hy hz
      have wf' : -9223372036854775808 ≤ q ∧ q ≤ 9223372036854775807 := by simpa [Lit.wf, IntKind.min, IntKind.max, IntKind.signed, IntKind.bits] using wf
      exact ⟨⟨k, s, q⟩, ⟨hx, hy, hz⟩, wf'.2⟩)
    refine ⟨l, ?_, by omega, ?_⟩
    · simp only [Rep, rowsC_len, h1]
      exact ⟨some ⟨b, off, none⟩, cap, rfl, hl, hm, ⟨rfl, rows_ofC _ _ _ _ fun j hj => (h2 j hj).1⟩, trivial⟩
    · intro x hx
      obtain ⟨i, hi, rfl⟩ := List.getElem_of_mem hx
      exact (h2 i hi).2
end Go.Abs
