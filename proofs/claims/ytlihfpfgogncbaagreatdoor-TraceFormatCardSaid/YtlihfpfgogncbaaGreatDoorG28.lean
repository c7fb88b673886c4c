/- Contracts of the library, from the shelf: strings.Join, strconv.Itoa. -/
import Derived.Test.YtlihfpfgogncbaaGreatDoorG13
import Derived.Test.YtlihfpfgogncbaaGreatDoorG26
import Derived.Test.YtlihfpfgogncbaaGreatDoorG27
import Derived.Lib.LaidTab
set_option maxRecDepth 100000
set_option linter.unusedSimpArgs false
set_option linter.unusedVariables false
namespace Go.Abs
open Go.Proofs TryTypes

theorem repRows_cells {C : Ctx} {G : Ghost} {M : Mem} {w : World} (hi : Inv C G M w) : ∀ (l : List ByteArray) (b off : Nat), RepRows G 1 (rowsS l) b off → ∀ (j : Nat) x, l[j]? = some x → w.cell? ⟨b, off + j, none⟩ = some (.string x)
  | [], _, _, _, j, x, hx => by simp at hx
  | s :: l, b, off, h, j, x, hx => by
    simp only [rowsS, List.map_cons, RepRows, RepMem] at h
    obtain ⟨⟨_, ⟨v, hv, _, hr⟩, _⟩, h2⟩ := h
    cases j with
    | zero =>
      simp at hx; subst hx
      simp only [Rep] at hr; subst hr
      exact hi.st _ _ _ hv
    | succ j =>
      have := repRows_cells hi l b (off + 1) h2 j x (by simpa using hx)
      rw [show off + (j + 1) = off + 1 + j by omega]; exact this
theorem tabIs_of {C : Ctx} {G : Ghost} {M : Mem} {w : World} (hi : Inv C G M w) {g : Nat} {name : String} {k : IntKind} {zs : List Int} (hg : C.P.globalNamed name = some g) (ht : C.tab g = some (zs.map fun z => Value.int k z).toArray) : Lib.TabIs C.P w name k zs := by
  obtain ⟨t, f, hk⟩ := hi.tab g _ ht
  have := hi.keep _ _ hk
  simp [Lib.TabIs, World.var?, hg, this]
theorem repL_get {G : Ghost} : ∀ {cs : List AV} {ys : List Value}, RepL G cs ys → ∀ {j : Nat} {c : AV}, cs[j]? = some c → ∃ y, ys[j]? = some y ∧ Rep G c y
  | [], ys, _, j, c, hc => by simp at hc
  | a :: cs, ys, h, j, c, hc => by
    simp only [RepL] at h
    obtain ⟨y, ys', rfl, h1, h2⟩ := h
    cases j with
    | zero => simp at hc; subst hc; exact ⟨y, rfl, h1⟩
    | succ j =>
      obtain ⟨z, hz, hr⟩ := repL_get h2 (j := j) (by simpa using hc)
      exact ⟨z, by simpa using hz, hr⟩
theorem lookup_mem2 {l : List (Nat × Nat)} {g n : Nat} (h : l.lookup g = some n) : (g, n) ∈ l := by
  induction l with
  | nil => simp at h
  | cons p l ih =>
    obtain ⟨a, b⟩ := p
    simp only [List.lookup_cons] at h
    split at h
    · rename_i e
      have e' : g = a := by simpa using e
      simp only [Option.some.injEq] at h
      subst h e'; simp
    · exact List.mem_cons_of_mem _ (ih h)
/-- a slice that this run alone writes, seen in the world -/
theorem own1_slice {C : Ctx} {G : Ghost} {M : Mem} {w : World} (hi : Inv C G M w) {e : TypeId} {v : AV} {l : List ByteArray} {x : Value} (h : Own1 e M v (l.map S)) (hr : Rep G v x) :
    ∃ a cap, x = .slice a l.length cap ∧ l.length ≤ cap ∧ (l ≠ [] → ∃ b off, a = some ⟨b, off, none⟩ ∧ b < w.heap.size ∧ ∀ (j : Nat) y, l[j]? = some y → w.cell? ⟨b, off + j, none⟩ = some (.string y)) := by
  rcases h with ⟨rfl, hn⟩ | ⟨f, g, hist, rfl, hm, hl⟩
  · simp only [Rep] at hr; subst hr
    have : l = [] := by simpa using hn
    subst this
    exact ⟨none, 0, rfl, Nat.le_refl _, fun h => absurd rfl h⟩
  · simp only [Rep] at hr
    obtain ⟨_, _, a, a', cap, q1, q2, q3, rfl, q5, _, q7⟩ := hr
    have ho := hi.obj f _ hm
    obtain ⟨_, p2, b, o, cap', vs, r1, r2, r3, r4, r5, r6, _⟩ := ho.2.1 _ _ (lookup_mem2 hl)
    rw [q1] at r1
    simp only [Prod.mk.injEq, Option.some.injEq] at r1
    obtain ⟨rfl, rfl⟩ := r1
    simp only [List.length_map, Nat.mul_one, Nat.zero_add, Nat.sub_zero, Nat.zero_mul, Nat.add_zero] at *
    refine ⟨some a', cap, rfl, r2, fun hne => ?_⟩
    have hpos : 0 < l.length := List.length_pos_iff.2 hne
    have ha := q7 (by omega)
    refine ⟨b, o, by rw [ha], heap_lt r4, fun j y hj => ?_⟩
    have hjl : j < l.length := getElem?_lt hj
    obtain ⟨z, hz, hzr⟩ := repL_get r6 (j := j) (c := S y) (by rw [List.getElem?_take_of_lt hjl]; simp [hj])
    simp only [Rep] at hzr
    subst hzr
    have : vs[o + j]? = some (.string y) := by
      rw [List.getElem?_take_of_lt hjl, List.getElem?_drop] at hz
      simpa using hz
    simp [World.cell?, r4, this]
def bytesL (l : List UInt8) : ByteArray := ⟨l.toArray⟩
def joinB (l : List ByteArray) (sep : ByteArray) : ByteArray := bytesL (Lib.join (l.map (·.data.toList)) sep.data.toList)
section
variable (gl : Nat → AV) (M : Mem)
theorem Join_ok (l : List ByteArray) (o : Own) (sep : ByteArray) (hN : l.length ≤ 140737488355328) (hlen : (Lib.join (l.map (·.data.toList)) sep.data.toList).length ≤ 140737488355328) :
    ACalls (WC gl) 33 [.list 1 (rowsS l) o, S sep] M (fun v M' => v = S (joinB l sep) ∧ M' = M) := by
  refine acalls_of_below fun G w vs hi hr => ?_
  simp only [RepL] at hr
  obtain ⟨y, _, rfl, hy, z, _, rfl, hz, rfl⟩ := hr
  simp only [Rep] at hy hz
  obtain ⟨base, cap, rfl, hc, hm, hb, ho⟩ := hy
  subst hz
  rw [rowsS_len] at hc
  have none_case : ∀ a, l = [] → Calls Tryz.prog 33 #[.slice a l.length cap, .string sep] w fun e w' => e = .returned (.string (joinB l sep)) ∧ RowKit.Below w.heap.size w w' := by
    rintro a rfl
    exact Calls.mono (Tryz.strings_Join_none a cap sep w) fun e w' ⟨he, hw⟩ => ⟨he, hw ▸ RowKit.Below.refl _ _⟩
  show Calls Tryz.prog 33 #[.slice base (rowsS l).length cap, .string sep] w _
  rw [rowsS_len]
  cases base with
  | none =>
    have : l = [] := by simpa [rowsS] using hb.1
    exact none_case _ this
  | some a =>
    by_cases hl : l = []
    · exact none_case _ hl
    · have hs := hb.1 (by simpa [rowsS] using hl)
      obtain ⟨b, off, spot⟩ := a
      subst hs
      have hcells := repRows_cells hi l b off hb.2
      have hlt : b < w.heap.size := by
        cases l with
        | nil => exact absurd rfl hl
        | cons s l => exact World.block_lt_of_cell? w ⟨b, off + 0, none⟩ (hcells 0 s rfl)
      exact Tryz.strings_Join b off cap l sep w hcells hlt hN hc hlen
theorem JoinV_ok (l : List ByteArray) (v0 : AV) {e : TypeId} (h0 : Own1 e M v0 (l.map S)) (sep : ByteArray) (hN : l.length ≤ 140737488355328) (hlen : (Lib.join (l.map (·.data.toList)) sep.data.toList).length ≤ 140737488355328) :
    ACalls (WC gl) 33 [v0, S sep] M (fun v M' => v = S (joinB l sep) ∧ M' = M) := by
  refine acalls_of_below fun G w vs hi hr => ?_
  simp only [RepL] at hr
  obtain ⟨y, _, rfl, hy, z, _, rfl, hz, rfl⟩ := hr
  obtain ⟨a, cap, rfl, hc, hx⟩ := own1_slice hi h0 hy
  simp only [Rep] at hz
  subst hz
  by_cases hl : l = []
  · subst hl
    exact Calls.mono (Tryz.strings_Join_none a cap sep w) fun e w' ⟨he, hw⟩ => ⟨he, hw ▸ RowKit.Below.refl _ _⟩
  · obtain ⟨b, off, rfl, hlt, hcells⟩ := hx hl
    exact Tryz.strings_Join b off cap l sep w hcells hlt hN hc hlen
theorem Itoa_ok (n : Int) (h0 : -9223372036854775808 ≤ n) (h1 : n ≤ 9223372036854775807) :
    ACalls (WC gl) 18 [I n] M (fun v M' => v = S (bytesL (Lib.itoa n)) ∧ M' = M) := by
  refine acalls_of_grow fun G w vs hi hr => ?_
  simp only [RepL] at hr
  obtain ⟨y, _, rfl, hy, rfl⟩ := hr
  simp only [Rep] at hy
  subst hy
  exact Tryz.strconv_Itoa n h0 h1 w (tabIs_of (g := 0) hi (by kernel_rfl) rfl)
end
end Go.Abs
