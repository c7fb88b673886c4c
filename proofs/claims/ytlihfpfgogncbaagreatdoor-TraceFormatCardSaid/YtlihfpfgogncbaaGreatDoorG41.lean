/- awake's intrinsics answer as the functions do. -/
import Derived.Test.YtlihfpfgogncbaaGreatDoorG36
import Derived.Test.YtlihfpfgogncbaaGreatDoorG28
import Derived.Test.YtlihfpfgogncbaaGreatDoorG39
set_option maxRecDepth 1000000
open Go Go.Abs Go.Proofs K1
namespace Go.Abs
/-- strings.Join of a view of an array that this run alone writes -/
theorem JoinW_ok (gl : Nat → AV) (M : Mem) (l : List ByteArray) (f t g : Nat) (e : TypeId) (hist : List (Nat × Nat)) (hm : M[f]? = some (.vec e 1 (l.map S) g hist)) (hl : hist.lookup t = some l.length) (sep : ByteArray) (hN : l.length ≤ 140737488355328) (hlen : (Lib.join (l.map (·.data.toList)) sep.data.toList).length ≤ 140737488355328) :
    ACalls (WC gl) 33 [.vref f t 1 0 l.length, S sep] M (fun v M' => v = S (joinB l sep) ∧ M' = M) := by
  refine acalls_of_below fun G w vs hi hr => ?_
  simp only [RepL] at hr
  obtain ⟨y, _, rfl, hy, z, _, rfl, hz, rfl⟩ := hr
  have key : ∃ a cap, y = .slice a l.length cap ∧ l.length ≤ cap ∧ (l ≠ [] → ∃ b off, a = some ⟨b, off, none⟩ ∧ b < w.heap.size ∧ ∀ (j : Nat) y, l[j]? = some y → w.cell? ⟨b, off + j, none⟩ = some (.string y)) := by
    simp only [Rep] at hy
    obtain ⟨_, _, a, a', cap, q1, q2, q3, rfl, q5, _, q7⟩ := hy
    have ho := hi.obj f _ hm
    obtain ⟨_, p2, b, o, cap', vs, r1, r2, r3, r4, r5, r6, _⟩ := ho.2.1 _ _ (lookup_mem2 hl)
    rw [q1] at r1
    simp only [Prod.mk.injEq, Option.some.injEq] at r1
    obtain ⟨rfl, rfl⟩ := r1
    simp only [List.length_map, Nat.mul_one, Nat.zero_add, Nat.sub_zero, Nat.add_zero] at *
    refine ⟨some a', cap, rfl, r2, fun hne => ?_⟩
    have hpos : 0 < l.length := List.length_pos_iff.2 hne
    have ha := q7 (by omega)
    refine ⟨b, o, by rw [ha], heap_lt r4, fun j y hj => ?_⟩
    have hjl : j < l.length := getElem?_lt hj
    obtain ⟨z, hz, hzr⟩ := repL_get r6 (j := j) (c := S y) (by rw [List.getElem?_take_of_lt hjl]; simp [hj])
    simp only [Rep] at hzr
    subst hzr
    have : vs[o + j]? = some (.string y) := by
      rw [List.getElem?_take_of_lt hjl, List.getElem?_drop] at hz
      simpa using hz
    simp [World.cell?, r4, this]
  obtain ⟨a, cap, rfl, hc, hx⟩ := key
  simp only [Rep] at hz
  subst hz
  by_cases hl : l = []
  · subst hl
    exact Calls.mono (Tryz.strings_Join_none a cap sep w) fun e w' ⟨he, hw⟩ => ⟨he, hw ▸ RowKit.Below.refl _ _⟩
  · obtain ⟨b, off, rfl, hlt, hcells⟩ := hx hl
    exact Tryz.strings_Join b off cap l sep w hcells hlt hN hc hlen
end Go.Abs
namespace K1
theorem strsOf_eq : ∀ {cs : List AV} {l : List ByteArray}, strsOf cs = some l → cs = l.map S
  | [], l, h => by simp [strsOf] at h; subst h; rfl
  | c :: cs, l, h => by
    unfold strsOf at h
    split at h
    case h_2 => simp at h
    split at h
    case h_2 => simp at h
    rename_i s l' h2
    simp only [Option.some.injEq] at h
    subst h
    rw [List.map_cons, ← strsOf_eq h2]
theorem join_at : IntrAt C0 33 (fun (args : List AV) (M : Mem) => match yJoin args (fun i => M[i]?) with | some v => some (v, M, ([] : List Nat)) | none => none) := by
  intro args M v M1 ws h
  have key : ∃ f t len sep e cs g hist l, args = [.vref f t 1 0 len, S sep] ∧ M[f]? = some (.vec e 1 cs g hist) ∧ hist.lookup t = some len ∧ strsOf cs = some l ∧ cs.length = len ∧ len ≤ 1000 ∧ (joinL l sep).length ≤ 100000 ∧ v = S (joinB l sep) ∧ M1 = M ∧ ws = [] := by
    revert h
    simp only [yJoin]
    split
    case h_2 => intro h; simp at h
    rename_i v' hv
    intro h
    simp only [Option.some.injEq, Prod.mk.injEq] at h
    obtain ⟨rfl, rfl, rfl⟩ := h
    split at hv
    case h_2 => simp at hv
    rename_i f t len sep
    split at hv
    case h_2 => simp at hv
    rename_i e cs g hist hm
    split at hv
    case h_2 => simp at hv
    rename_i n l h1 h2
    split at hv
    case isFalse => simp at hv
    rename_i hc
    obtain ⟨rfl, h4, h5, h6⟩ := hc
    simp only [Option.some.injEq] at hv
    exact ⟨f, t, _, sep, e, cs, g, hist, l, rfl, hm, h1, h2, h4, h5, h6, hv.symm, rfl, rfl⟩
  obtain ⟨f, t, len, sep, e, cs, g, hist, l, rfl, hm, h1, h2, h3, h4, h5, rfl, rfl, rfl⟩ := key
  obtain rfl := strsOf_eq h2
  obtain rfl : l.length = len := by simpa using h3
  constructor
  · exact inv_of Tryz.func33 rfl rfl (JoinW_ok glT _ l f t g e hist hm h1 sep (by omega) (by simp only [joinL] at h5; omega))
  · refine .same fun s X hs => ?_
    have hne : s ≠ f := by
      rintro rfl
      rw [hm] at hs
      simp only [Option.some.injEq, Go.Abs.blank, AObj.vec.injEq] at hs
      rw [hs.2.2.2.2] at h1
      simp at h1
    have hm' : (M1.set s X)[f]? = some (AObj.vec e 1 (l.map S) g hist) := by rw [List.getElem?_set_ne hne]; exact hm
    simp only [yJoin, hm', h1, h2, List.length_map]
    rw [if_pos ⟨trivial, trivial, h4, h5⟩]
    rfl
end K1
