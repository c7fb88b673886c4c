/- awake's run stands on what the functions do: slices.Insert over units, in abstract memory. -/
import Derived.Test.YtiipcnbedgamdaaGreatDoorVG34
import Derived.Test.YtiipcnbedgamdaaGreatDoorVG39
set_option maxRecDepth 1000000
set_option linter.unusedVariables false
open Go Go.Abs Go.Proofs TryTypes
namespace Go.Abs
/-- a window of an array, in the world -/
theorem vref_cells {C : Ctx} {G : Ghost} {M : Mem} {w : World} (hi : Inv C G M w) {f h s lo len n : Nat} {ty s' : Nat} {cs : List AV} {g : Nat} {hist : List (Nat × Nat)} {x : Value} (hr : Rep G (.vref f h s lo len) x)
    (hM : M[f]? = some (.vec ty s cs g hist)) (hn : hist.lookup h = some n) (hlen : lo + len ≤ n) (h0 : 0 < len) :
    ∃ b off cap vs, x = .slice (some ⟨b, off, none⟩) len cap ∧ len ≤ cap ∧ cap ≤ maxLen ∧ owns G f (.vec ty s cs g hist) b ∧ w.heap[b]? = some (.cells vs ty (0, 0)) ∧ off + cap * s ≤ vs.size ∧
      RepL G ((cs.drop (lo * s)).take (len * s)) ((vs.toList.drop off).take (len * s)) ∧ (∀ v ∈ (vs.toList.drop off).take (len * s), v.oneCell' = true) ∧ (∀ i, G.st b i = none) ∧ G.keep b = none := by
  simp only [Rep] at hr
  obtain ⟨hf, hg, a, a', cap, hd, hsp, hsp', rfl, hle, hcm, ha'⟩ := hr
  obtain ⟨_, p2, _⟩ := hi.obj f _ hM
  have hmem := lookup_mem hn
  obtain ⟨_, q0, b, o, cap', vs, q1, q2, q3, q4, q5, q6, q7, q8, q9⟩ := p2 h n hmem
  have hown : owns G f (.vec ty s cs g hist) b := ⟨h, n, _, hmem, congrArg Prod.fst q1, rfl⟩
  rw [hd] at q1
  simp only [Prod.mk.injEq, Option.some.injEq] at q1
  obtain ⟨rfl, rfl⟩ := q1
  have ha := ha' (by omega)
  subst ha
  have e1 : (((vs.toList.drop o).take (n * s)).drop (lo * s)).take (len * s) = (vs.toList.drop (o + lo * s)).take (len * s) := by
    rw [List.drop_take, List.drop_drop, List.take_take, Nat.min_eq_left]
    have : lo * s + len * s ≤ n * s := by rw [← Nat.add_mul]; exact Nat.mul_le_mul_right _ hlen
    omega
  have e2 : ((cs.take (n * s)).drop (lo * s)).take (len * s) = (cs.drop (lo * s)).take (len * s) := by
    rw [List.drop_take, List.take_take, Nat.min_eq_left]
    have : lo * s + len * s ≤ n * s := by rw [← Nat.add_mul]; exact Nat.mul_le_mul_right _ hlen
    omega
  have hR := (q6.drop (lo * s)).take (len * s)
  rw [e1, e2] at hR
  refine ⟨b, o + lo * s, cap - lo, vs, rfl, by omega, by omega, hown, q4, ?_, hR, ?_, q8, q9⟩
  · have : lo * s + (cap - lo) * s = cap * s := by rw [← Nat.add_mul]; congr 1; omega
    omega
  · rw [← e1]
    intro v hv
    exact q7 v (List.mem_of_mem_drop (List.mem_of_mem_take hv))
/-- slices.Insert ahead of the end -/
theorem insert_ok {C : Ctx} (hP : C.P = Tryz.prog) {f t lo len i f2 t2 lo2 m n n2 tm tm2 : Nat} {ty2 : Nat} {cs cs2 : List AV} {hist hist2 : List (Nat × Nat)} {M : Mem} (hM : M[f]? = some (.vec 65 8 cs tm hist)) (hn : hist.lookup t = some n)
    (hM2 : M[f2]? = some (.vec ty2 8 cs2 tm2 hist2)) (hn2 : hist2.lookup t2 = some n2) (hlen2 : lo2 + m ≤ n2) (hne : f ≠ f2) (hlen : lo + len ≤ n) (hilt : i < len) (hm : 0 < m) (hb : (len + m) * 120 ≤ 140737488355328) :
    ACalls C 226 [.vref f t 8 lo len, .val (.int .i64 i), .vref f2 t2 8 lo2 m] M (fun r M' => r = .vref f (tm + 1) 8 0 (len + m) ∧
      M' = M.set f (.vec 65 8 (((cs.drop (lo * 8)).take (len * 8)).take (i * 8) ++ (cs2.drop (lo2 * 8)).take (m * 8) ++ ((cs.drop (lo * 8)).take (len * 8)).drop (i * 8)) (tm + 1) [(tm + 1, len + m)])) := by
  intro G w vs hi hr
  rw [hP]
  simp only [RepL] at hr
  obtain ⟨y1, _, rfl, h1, y2, _, rfl, h2, y3, _, rfl, h3, rfl⟩ := hr
  simp only [Rep] at h2
  subst h2
  obtain ⟨b, off, cap, cur, rfl, k1, k2, k3, k4, k5, k6, k7, k8, k9⟩ := vref_cells (s' := 8) hi h1 hM hn hlen (by omega)
  obtain ⟨vb, voff, vcap, curV, rfl, l1, l2, l3, l4, l5, l6, l7, _, _⟩ := vref_cells (s' := 8) hi h3 hM2 hn2 hlen2 hm
  have hvb : vb ≠ b := fun e => by subst e; exact hne (hi.apart f f2 _ _ _ hM hM2 k3 l3)
  simp only [maxLen] at k2
  obtain ⟨olds, hol⟩ : ∃ olds, olds = (cur.toList.drop off).take (len * 8) := ⟨_, rfl⟩
  obtain ⟨nv, hnv⟩ : ∃ nv, nv = (curV.toList.drop voff).take (m * 8) := ⟨_, rfl⟩
  rw [← hol] at k6 k7
  rw [← hnv] at l6 l7
  have hoL : olds.length = len * 8 := by rw [hol, List.length_take, List.length_drop, Array.length_toList]; omega
  have hnL : nv.length = m * 8 := by rw [hnv, List.length_take, List.length_drop, Array.length_toList]; omega
  have hnc : ∀ j v, nv[j]? = some v → w.cell? ⟨vb, voff + j, none⟩ = some v := fun j v hj => by
    rw [hnv, List.getElem?_take] at hj
    split at hj
    · rw [List.getElem?_drop] at hj
      simp only [World.cell?, l4]
      simpa using hj
    · simp at hj
  have hrep : RepL G (((cs.drop (lo * 8)).take (len * 8)).take (i * 8) ++ (cs2.drop (lo2 * 8)).take (m * 8) ++ ((cs.drop (lo * 8)).take (len * 8)).drop (i * 8)) (olds.take (i * 8) ++ nv ++ olds.drop (i * 8)) :=
    ((k6.take (i * 8)).append l6).append (k6.drop (i * 8))
  have hlenV : (olds.take (i * 8) ++ nv ++ olds.drop (i * 8)).length = (len + m) * 8 := by
    simp only [List.length_append, List.length_take, List.length_drop, hoL, hnL]; omega
  have hlenA := hrep.length
  rw [hlenV] at hlenA
  have hone : ∀ v ∈ olds.take (i * 8) ++ nv ++ olds.drop (i * 8), v.oneCell' = true := fun v hv => by
    rcases List.mem_append.1 hv with hv | hv
    · rcases List.mem_append.1 hv with hv | hv
      · exact k7 v (List.mem_of_mem_take hv)
      · exact l7 v hv
    · exact k7 v (List.mem_of_mem_drop hv)
  have hdl : (olds.drop (i * 8)).length = (len - i) * 8 := by rw [List.length_drop, hoL]; omega
  by_cases hroom : len + m ≤ cap
  · refine Calls.mono (ins_room b off len cap i vb voff m vcap cur curV ty2 olds nv w hilt hm hroom k2 hvb k4 k5 hol k7 l4 hnL hnc l7) ?_
    rintro e w' ⟨rfl, rfl⟩
    obtain ⟨L1, hL1⟩ : ∃ L1, L1 = ow cur.toList (off + (i * 8 + m * 8)) (olds.drop (i * 8)) := ⟨_, rfl⟩
    have hL1l : L1.length = cur.size := by rw [hL1, ow_len (by rw [hdl, Array.length_toList]; omega), Array.length_toList]
    obtain ⟨L2, hL2⟩ : ∃ L2, L2 = ow L1 (off + i * 8) nv := ⟨_, rfl⟩
    have hL2l : L2.length = cur.size := by rw [hL2, ow_len (by rw [hnL]; omega), hL1l]
    rw [← hL1, ← hL2]
    have hB1 : (w.drew.setRow b L1.toArray).heap[b]? = some (.cells L1.toArray 65 (0, 0)) := setRow_heap w.drew b cur L1.toArray 65 (0, 0) k4
    have hB2 : ((w.drew.setRow b L1.toArray).setRow b L2.toArray).heap[b]? = some (.cells L2.toArray 65 (0, 0)) := setRow_heap _ b L1.toArray L2.toArray 65 (0, 0) hB1
    have hcells : (L2.toArray.toList.drop off).take ((len + m) * 8) = olds.take (i * 8) ++ nv ++ olds.drop (i * 8) := by
      rw [show (L2.toArray.toList : List Value) = L2 from rfl, hL2, hL1, show (len + m) * 8 = len * 8 + m * 8 by omega]
      exact shift_cells cur.toList off (i * 8) (m * 8) (len * 8) nv olds (by omega) (by rw [Array.length_toList]; omega) hnL hol
    obtain ⟨G', g1, g2, g3⟩ := hi.retime hM (w1 := (w.drew.setRow b L1.toArray).setRow b L2.toArray) (.inl k3) (fun b' hlt hne' => by rw [setRow_other _ _ _ _ hne', setRow_other _ _ _ _ hne']; rfl) hB2 hroom (by simp only [maxLen]; omega) (by simp only [List.size_toArray]; omega) hcells hrep hlenA.symm hone k8 k9
    exact ⟨_, _, G', _, rfl, ⟨rfl, rfl⟩, g1, g2, g3, ((Ext.drew w).trans (Ext.setRow _ _ _)).trans (Ext.setRow _ _ _)⟩
  · obtain ⟨R, hR, hR0, hcall⟩ := ins_grow b off len cap i vb voff m vcap cur curV ty2 olds nv w hilt hm k1 (by omega) hb k4 k5 hol k7 l4 hnL hnc l7
    refine Calls.mono hcall ?_
    rintro e w' ⟨rfl, rfl⟩
    have h63 : len + m ≤ maxLen := by unfold maxLen; omega
    have hge := grownCap_ge w (len + m) cap 65
    have hcl := grownCap_le_maxLen w (len + m) cap 65 h63
    generalize grownCap w (len + m) cap 65 = nc at *
    obtain ⟨L1, hL1⟩ : ∃ L1, L1 = ow R (i * 8) nv := ⟨_, rfl⟩
    have hL1l : L1.length = nc * 8 := by rw [hL1, ow_len (by rw [hnL, hR]; omega), hR]
    obtain ⟨L2, hL2⟩ : ∃ L2, L2 = ow L1 (i * 8 + m * 8) (olds.drop (i * 8)) := ⟨_, rfl⟩
    have hL2l : L2.length = nc * 8 := by rw [hL2, ow_len (by rw [hdl]; omega), hL1l]
    rw [← hL1, ← hL2]
    have hN : (w.drew.alloc (.cells R.toArray 65)).heap[w.heap.size]? = some (.cells R.toArray 65 (0, 0)) := heap_alloc_new w.drew _
    have hB1 : ((w.drew.alloc (.cells R.toArray 65)).setRow w.heap.size L1.toArray).drew.heap[w.heap.size]? = some (.cells L1.toArray 65 (0, 0)) := setRow_heap _ w.heap.size R.toArray L1.toArray 65 (0, 0) hN
    have hB2 : (((w.drew.alloc (.cells R.toArray 65)).setRow w.heap.size L1.toArray).drew.setRow w.heap.size L2.toArray).heap[w.heap.size]? = some (.cells L2.toArray 65 (0, 0)) := setRow_heap _ w.heap.size L1.toArray L2.toArray 65 (0, 0) hB1
    have hcells : (L2.toArray.toList.drop 0).take ((len + m) * 8) = olds.take (i * 8) ++ nv ++ olds.drop (i * 8) := by
      rw [show (L2.toArray.toList : List Value) = L2 from rfl, hL2, hL1, show (len + m) * 8 = len * 8 + m * 8 by omega]
      exact grow_cells R nv olds (i * 8) (m * 8) (len * 8) (by omega) hoL hnL (by rw [hR]; omega) hR0
    have hst1 : ∀ i, G.st w.heap.size i = none := by
      intro i
      cases h : G.st w.heap.size i with
      | none => rfl
      | some v => have := hi.st_lt h; simp at this
    have hk1 : G.keep w.heap.size = none := by
      cases h : G.keep w.heap.size with
      | none => rfl
      | some v => have := hi.keep_lt h; simp at this
    obtain ⟨G', g1, g2, g3⟩ := hi.retime hM (w1 := ((w.drew.alloc (.cells R.toArray 65)).setRow w.heap.size L1.toArray).drew.setRow w.heap.size L2.toArray) (.inr (Nat.le_refl _)) (fun b' hlt hne' => by
      rw [setRow_other _ _ _ _ hne']
      exact (setRow_other _ _ _ _ hne').trans (heap_alloc_lt w.drew _ b' hlt)) hB2 hge hcl (by simp only [List.size_toArray]; omega) hcells hrep hlenA.symm hone hst1 hk1
    exact ⟨_, _, G', _, rfl, ⟨rfl, rfl⟩, g1, g2, g3, ((((Ext.drew w).trans (Ext.alloc _ _)).trans (Ext.setRow _ _ _)).trans (Ext.drew _)).trans (Ext.setRow _ _ _)⟩
end Go.Abs
