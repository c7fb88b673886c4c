/- slices.Insert over units, in the world: where there is room, and where there is none. -/
import Derived.Test.YtiipcnbedgamdaaGreatDoorVG23
import Derived.Test.YtiipcnbedgamdaaGreatDoorVG38
import Derived.Shelf.RegionOpenPlain
import Derived.Lib.SliceRun
import Derived.Lib.Overlaps
import Derived.Lib.AppendZerosOnto
set_option maxRecDepth 100000
set_option linter.unusedVariables false
set_option linter.unusedSimpArgs false
namespace Go.Abs
open Go.Proofs Go.Shelf Go.RowKit Go.Lib TryTypes
theorem wp_copy_known {P : Program} (w : World) {o : Oper} {a : Act} {K : Act → World → Prop} {Q : Exit → Act → World → Prop} (d s : Operand) (t t' : TypeId)
    (ho : o.op = .call { callee := .builtin .copy, args := #[d, s], argTypes := #[t, t'] }) (v u : Value) (hd : a.eval d = v) (hs : a.eval s = u) {v' : Value} {w' : World}
    (hr : (Builtin.copy_ #[t, t'] o.type #[v, u]).run P w = .ok v' w') (h : K (a.put o.dst v') w') : o.wp P a w K Q := by
  unfold Oper.wp execOp
  simp only [ho, resolve, invoke, builtin, Sem.run_bind, Sem.run_pure, Result.andThen_ok, List.map_toArray, List.map_cons, List.map_nil, hd, hs, hr]
  exact h
theorem wpList_copy_known {P : Program} (w : World) {ops : Array Oper} {rest : List Oper} {o : Oper} {a : Act} {Q : Exit → Act → World → Prop} (hgd : o.guard = none) (d s : Operand) (t t' : TypeId)
    (ho : o.op = .call { callee := .builtin .copy, args := #[d, s], argTypes := #[t, t'] }) (v u : Value) (hd : a.eval d = v) (hs : a.eval s = u) {v' : Value} {w' : World}
    (hr : (Builtin.copy_ #[t, t'] o.type #[v, u]).run P w = .ok v' w') (h : wpList P ops Q rest (a.put o.dst v') w') : wpList P ops Q (o :: rest) a w :=
  wpList_plain hgd fun _ hK => wp_copy_known w d s t t' ho v u hd hs hr (hK _ _ h)
theorem step_copy_known {P : Program} {ops : Array Oper} {o : Oper} {a : Act} {w : World} {K : Act → World → Prop} {Q : Exit → Act → World → Prop} {E : Prop}
    (hg : o.guard = none) (d x : Operand) (dT sT : TypeId) (hop : o.op = Op.call { callee := Callee.builtin Builtin.copy, args := #[d, x], argTypes := #[dT, sT] })
    (v u : Value) (hd : a.eval d = v) (hx : a.eval x = u) {v' : Value} {w' : World} (hr : (Builtin.copy_ #[dT, sT] o.type #[v, u]).run P w = .ok v' w') (hK : K (a.put o.dst v') w') :
    if Region.wanted o (yielded ops a.tmps) = true then Oper.wp P o a w K Q else E := by
  rw [if_pos (by simp [Region.wanted, hg])]
  exact wp_copy_known w d x dT sT hop v u hd hx hr hK
set_option maxHeartbeats 4000000 in
theorem ins_room (b off n c i vb voff m vc : Nat) (cur curV : Array Value) (tV : TypeId) (olds vs : List Value) (w : World) (hi : i < n) (hm : 0 < m) (hroom : n + m ≤ c) (hc63 : c ≤ 9223372036854775807) (hvb : vb ≠ b)
    (hB : w.heap[b]? = some (.cells cur 65 (0, 0))) (hfit : off + c * 8 ≤ cur.size) (hol : olds = (cur.toList.drop off).take (n * 8)) (ho1 : ∀ v ∈ olds, v.oneCell' = true)
    (hV : w.heap[vb]? = some (.cells curV tV (0, 0))) (hvl : vs.length = m * 8) (hvs : ∀ j v, vs[j]? = some v → w.cell? ⟨vb, voff + j, none⟩ = some v) (h1v : ∀ v ∈ vs, v.oneCell' = true) :
    Calls Tryz.prog 226 #[.slice (some ⟨b, off, none⟩) n c, .int .i64 i, .slice (some ⟨vb, voff, none⟩) m vc] w fun e w' =>
      e = .returned (.slice (some ⟨b, off, none⟩) (n + m) c) ∧ w' = (w.drew.setRow b (ow cur.toList (off + (i * 8 + m * 8)) (olds.drop (i * 8))).toArray).setRow b (ow (ow cur.toList (off + (i * 8 + m * 8)) (olds.drop (i * 8))) (off + i * 8) vs).toArray := by
  have hz1 : ¬ ((m : Int) = 0) := by omega
  have hz2 : ¬ ((i : Int) = (n : Int)) := by omega
  have hszo : szOf Tryz.prog 65 = some 8 := sz65
  have hsz : ∀ w, (Go.sizeOf 65).run Tryz.prog w = .ok 8 w := run_szOf hszo
  have u63 : Tryz.prog.underlying 63 = some (.slice 65) := Tryz.underlying63
  have hcz : cur.size ≠ 0 := by omega
  have hov : ∀ o lb cb, (callFunc 286 #[.slice (some ⟨vb, voff, none⟩) m vc, .slice (some ⟨b, o, none⟩) lb cb]).run Tryz.prog w = .ok (.value (.bool false)) w := fun o lb cb => by
    rw [run_callFunc_extern Tryz.func286 (by kernel_rfl) (by kernel_rfl) (by kernel_rfl) (e := Extern.SlicesOverlaps.overlaps #[63, 63] #[4]) (by kernel_rfl),
      Lib.run_overlaps_apart w 63 4 65 u63 8 hsz ⟨vb, voff, none⟩ ⟨b, o, none⟩ m vc lb cb hvb tV 65 curV.size cur.size (by simp [World.shape?, hV]) (by simp [World.shape?, hB]) hcz (by simp [World.frozen?, hV]) (by simp [World.frozen?, hV])]
    rfl
  have hoL : olds.length = n * 8 := by rw [hol, List.length_take, List.length_drop, Array.length_toList]; omega
  have hdl : (olds.drop (i * 8)).length = (n - i) * 8 := by rw [List.length_drop, hoL]; omega
  have hw1 : IntKind.i64.wrap ((i : Int) + (m : Int)) = (i : Int) + (m : Int) := by rw [IntKind.wrap_i64]; omega
  have hb1 : (0 : Int) ≤ (i : Int) + (m : Int) := by omega
  have hin : i ≤ n := by omega
  have htn : ((i : Int) + (m : Int)).toNat = i + m := by omega
  have hb2 : ¬ (c = i + m) := by omega
  have hb3 : (i : Int) ≤ (n : Int) + (m : Int) := by omega
  have hb4 : ¬ (c = i) := by omega
  have hBd : w.drew.heap[b]? = some (.cells cur 65 (0, 0)) := hB
  have hcell : ∀ j v, olds[j]? = some v → w.cell? ⟨b, off + j, none⟩ = some v := fun j v hj => by
    rw [hol, List.getElem?_take] at hj
    split at hj
    · rw [List.getElem?_drop] at hj
      simp only [World.cell?, hB]
      simpa using hj
    · simp at hj
  have hmin1 : Nat.min (n + m - i) (n + m - (i + m)) = n - i := by simp only [Nat.min_def]; split <;> omega
  have hmin2 : Nat.min m (n + m - i) = m := by simp only [Nat.min_def]; split <;> omega
  obtain ⟨L1, hL1⟩ : ∃ L1, L1 = ow cur.toList (off + (i * 8 + m * 8)) (olds.drop (i * 8)) := ⟨_, rfl⟩
  have hcp1 : ∀ o ty dc sc, o = off + (i * 8 + m * 8) → (Builtin.copy_ #[63, 63] ty #[.slice (some ⟨b, o, none⟩) (n + m - (i + m)) dc, .slice (some ⟨b, off + i * 8, none⟩) (n + m - i) sc]).run Tryz.prog w.drew = .ok (goInt (n - i : Nat)) (w.drew.setRow b L1.toArray) := fun o ty dc sc he => by
    subst he
    rw [hL1]
    exact run_copy_row w.drew _ _ ty 65 65 8 b _ _ dc ⟨b, off + i * 8, none⟩ _ sc (n - i) (olds.drop (i * 8)) cur u63 hszo hmin1 hdl
      (fun j v hj => by rw [Addr.add_lit, Nat.add_assoc]; exact hcell (i * 8 + j) v (by rwa [List.getElem?_drop] at hj))
      hBd (by rw [hdl]; omega) (fun v hv => ho1 v (List.mem_of_mem_drop hv))
  have hL1l : L1.length = cur.size := by rw [hL1, ow_len (by rw [hdl, Array.length_toList]; omega), Array.length_toList]
  have hB1 : (w.drew.setRow b L1.toArray).heap[b]? = some (.cells L1.toArray 65 (0, 0)) := setRow_heap w.drew b cur L1.toArray 65 (0, 0) hBd
  have hcp2 : ∀ ty dc, (Builtin.copy_ #[63, 63] ty #[.slice (some ⟨b, off + i * 8, none⟩) (n + m - i) dc, .slice (some ⟨vb, voff, none⟩) m vc]).run Tryz.prog (w.drew.setRow b L1.toArray) = .ok (goInt m) ((w.drew.setRow b L1.toArray).setRow b (ow L1 (off + i * 8) vs).toArray) := fun ty dc =>
    run_copy_row (w.drew.setRow b L1.toArray) _ _ ty 65 65 8 b _ _ dc ⟨vb, voff, none⟩ _ vc m vs L1.toArray u63 hszo hmin2 hvl
      (fun j v hj => by
        rw [Addr.add_lit]
        have := hvs j v hj
        simp only [World.cell?] at this ⊢
        rw [setRow_other w.drew b vb _ hvb]
        exact this)
      hB1 (by rw [hvl]; simp only [List.size_toArray]; omega) h1v
  rw [← hL1]
  have mixed : Tryz.prog.follows .mixedOrders = true := by kernel_rfl
  have hcp1' := fun ty dc sc => hcp1 (off + (i + m) * 8) ty dc sc (by omega)
  clear hL1 hol
  go_enter Tryz.func226, Tryz.ntmps226
  go_wp2_with (simp only [hov])
  go_region_law_o (refine step_copy_known rfl _ _ 63 63 rfl _ _ (by simp [Act.eval, Act.put]) (by simp [Act.eval, Act.put]) (hcp1' _ _ _) ?_)
  go_wp2_with (at_builtin; refine wpList_copy_known _ rfl _ _ 63 63 rfl _ _ rfl rfl (hcp2 _ _) ?_)

  go_ret
  first | exact ⟨rfl, rfl⟩ | trace_state
theorem wp_app_known {P : Program} (w : World) {o : Oper} {a : Act} {K : Act → World → Prop} {Q : Exit → Act → World → Prop} (d s : Operand) (t t' : TypeId)
    (ho : o.op = .call { callee := .builtin .append, args := #[d, s], argTypes := #[t, t'] }) (v u : Value) (hd : a.eval d = v) (hs : a.eval s = u) {v' : Value} {w' : World}
    (hr : (Builtin.append_ #[t, t'] o.type #[v, u]).run P w = .ok v' w') (h : K (a.put o.dst v') w') : o.wp P a w K Q := by
  unfold Oper.wp execOp
  simp only [ho, resolve, invoke, builtin, Sem.run_bind, Sem.run_pure, Result.andThen_ok, List.map_toArray, List.map_cons, List.map_nil, hd, hs, hr]
  exact h
theorem wpList_app_known {P : Program} (w : World) {ops : Array Oper} {rest : List Oper} {o : Oper} {a : Act} {Q : Exit → Act → World → Prop} (hgd : o.guard = none) (d s : Operand) (t t' : TypeId)
    (ho : o.op = .call { callee := .builtin .append, args := #[d, s], argTypes := #[t, t'] }) (v u : Value) (hd : a.eval d = v) (hs : a.eval s = u) {v' : Value} {w' : World}
    (hr : (Builtin.append_ #[t, t'] o.type #[v, u]).run P w = .ok v' w') (h : wpList P ops Q rest (a.put o.dst v') w') : wpList P ops Q (o :: rest) a w :=
  wpList_plain hgd fun _ hK => wp_app_known w d s t t' ho v u hd hs hr (hK _ _ h)
set_option maxHeartbeats 4000000 in
theorem ins_grow (b off n c i vb voff m vc : Nat) (cur curV : Array Value) (tV : TypeId) (olds vs : List Value) (w : World) (hi : i < n) (hm : 0 < m) (hnc : n ≤ c) (hroom : c < n + m) (hbig : (n + m) * 120 ≤ 140737488355328)
    (hB : w.heap[b]? = some (.cells cur 65 (0, 0))) (hfit : off + c * 8 ≤ cur.size) (hol : olds = (cur.toList.drop off).take (n * 8)) (ho1 : ∀ v ∈ olds, v.oneCell' = true)
    (hV : w.heap[vb]? = some (.cells curV tV (0, 0))) (hvl : vs.length = m * 8) (hvs : ∀ j v, vs[j]? = some v → w.cell? ⟨vb, voff + j, none⟩ = some v) (h1v : ∀ v ∈ vs, v.oneCell' = true) :
    ∃ R : List Value, R.length = grownCap w (n + m) c 65 * 8 ∧ (∀ k, k < i * 8 → R[k]? = olds[k]?) ∧ Calls Tryz.prog 226 #[.slice (some ⟨b, off, none⟩) n c, .int .i64 i, .slice (some ⟨vb, voff, none⟩) m vc] w fun e w' =>
      e = .returned (.slice (some ⟨w.heap.size, 0, none⟩) (n + m) (grownCap w (n + m) c 65)) ∧
      w' = (((w.drew.alloc (.cells R.toArray 65)).setRow w.heap.size (ow R (i * 8) vs).toArray).drew).setRow w.heap.size (ow (ow R (i * 8) vs) (i * 8 + m * 8) (olds.drop (i * 8))).toArray := by
  have hz1 : ¬ ((m : Int) = 0) := by omega
  have hz2 : ¬ ((i : Int) = (n : Int)) := by omega
  have hz3 : (c : Int) < (n : Int) + (m : Int) := by omega
  have hszo : szOf Tryz.prog 65 = some 8 := sz65
  have u63 : Tryz.prog.underlying 63 = some (.slice 65) := Tryz.underlying63
  have u3 : Tryz.prog.underlying 3 = some (.int .i64) := Tryz.underlying3
  obtain ⟨i0, z, hi0, hz0, hzs, hzb, hzc, _⟩ := eok65
  have hoL : olds.length = n * 8 := by rw [hol, List.length_take, List.length_drop, Array.length_toList]; omega
  have hdl : (olds.drop (i * 8)).length = (n - i) * 8 := by rw [List.length_drop, hoL]; omega
  have htl : (olds.take (i * 8)).length = i * 8 := by rw [List.length_take, hoL]; omega
  have hbw : b < w.heap.size := heap_lt hB
  have hvw : vb < w.heap.size := heap_lt hV
  have hkk : (n : Int) + (m : Int) - (i : Int) = ((n + m - i : Nat) : Int) := by omega
  have hik : i + (n + m - i) = n + m := by omega
  have hcell : ∀ j v, olds[j]? = some v → w.cell? ⟨b, off + j, none⟩ = some v := fun j v hj => by
    rw [hol, List.getElem?_take] at hj
    split at hj
    · rw [List.getElem?_drop] at hj
      simp only [World.cell?, hB]
      simpa using hj
    · simp at hj
  have hold : (Builtin.firstCells i0.size i (.slice (some ⟨b, off, none⟩) i c)).run Tryz.prog w.drew = .ok (olds.take (i * 8)).toArray w.drew := by
    rw [hzs]
    exact run_firstCells_some w.drew 8 i ⟨b, off, none⟩ i c (olds.take (i * 8)) htl (fun j v hj => by
      rw [Addr.add_lit]
      rw [List.getElem?_take] at hj
      split at hj
      · exact hcell j v hj
      · simp at hj)
  obtain ⟨Gc, hG⟩ : ∃ Gc, Gc = grownCap w (n + m) c 65 := ⟨_, rfl⟩
  have hGn : n + m ≤ Gc := by rw [hG]; exact grownCap_ge w _ _ _
  have h63 : n + m ≤ maxLen := by unfold maxLen; omega
  have hG63 : Gc ≤ 9223372036854775807 := by
    have := grownCap_le_maxLen w (n + m) c 65 h63
    rw [← hG] at this
    simpa [maxLen] using this
  obtain ⟨R, hR⟩ : ∃ R : List Value, R.toArray = (olds.take (i * 8)).toArray ++ Builtin.zeroCells z.cells (n + m - i) ++ Builtin.zeroCells z.cells (Gc - (n + m)) := ⟨((olds.take (i * 8)).toArray ++ Builtin.zeroCells z.cells (n + m - i) ++ Builtin.zeroCells z.cells (Gc - (n + m))).toList, by simp⟩
  have hRl : R.length = Gc * 8 := by
    have := congrArg Array.size hR
    simp only [List.size_toArray, Array.size_append, size_zeroCells, hzc, htl] at this
    omega
  have hR0 : ∀ k, k < i * 8 → R[k]? = olds[k]? := fun k hk => by
    have := congrArg (fun a : Array Value => a.toList[k]?) hR
    simp only [Array.toList_append] at this
    rw [this, List.append_assoc, List.getElem?_append_left (by simpa using (by omega : k < (olds.take (i * 8)).length)), List.getElem?_take, if_pos hk]
  have hrz : ∀ ty, (Builtin.append_ #[63, 3] ty #[.slice (some ⟨b, off, none⟩) i c, .int .i64 ((n : Int) + (m : Int) - (i : Int))]).run Tryz.prog w =
      .ok (.slice (some ⟨w.heap.size, 0, none⟩) (n + m) Gc) (w.drew.alloc (.cells R.toArray 65)) := fun ty => by
    have h := Lib.run_append_grow_zeros w 63 3 ty 65 i0 z .i64 .i64 u63 u3 hi0 hz0 (some ⟨b, off, none⟩) i c (olds.take (i * 8)) hold (n + m - i) (by omega) (by omega) (by omega) (by omega) (by rw [hzb]; omega) (by rw [hzb, hik]; exact growslice_fits hroom hbig)
    rw [hik] at h
    rw [hkk, h, hR, hG]
  have hG2 : grownCap w (n + m) c 65 = Gc := hG.symm
  rw [hG2]
  refine ⟨R, hRl, hR0, ?_⟩
  obtain ⟨W1, hW1⟩ : ∃ W1, W1 = w.drew.alloc (.cells R.toArray 65) := ⟨_, rfl⟩
  rw [← hW1] at hrz ⊢
  have hN : W1.heap[w.heap.size]? = some (.cells R.toArray 65 (0, 0)) := by rw [hW1]; exact heap_alloc_new w.drew _
  have hold1 : ∀ b', b' < w.heap.size → W1.heap[b']? = w.heap[b']? := fun b' h => by rw [hW1]; exact heap_alloc_lt w.drew _ b' h
  have hmin1 : Nat.min m (n + m - i) = m := by simp only [Nat.min_def]; split <;> omega
  have hmin2 : Nat.min (n - i) (n + m - (i + m)) = n - i := by simp only [Nat.min_def]; split <;> omega
  obtain ⟨L1, hL1⟩ : ∃ L1, L1 = ow R (i * 8) vs := ⟨_, rfl⟩
  rw [← hL1]
  have hL1l : L1.length = Gc * 8 := by rw [hL1, ow_len (by rw [hvl, hRl]; omega), hRl]
  have hcp1 : ∀ ty dc, (Builtin.copy_ #[63, 63] ty #[.slice (some ⟨w.heap.size, i * 8, none⟩) (n + m - i) dc, .slice (some ⟨vb, voff, none⟩) m vc]).run Tryz.prog W1 = .ok (goInt m) (W1.setRow w.heap.size L1.toArray) := fun ty dc => by
    rw [hL1]
    exact run_copy_row W1 _ _ ty 65 65 8 w.heap.size _ _ dc ⟨vb, voff, none⟩ _ vc m vs R.toArray u63 hszo hmin1 hvl
      (fun j v hj => by
        rw [Addr.add_lit]
        have := hvs j v hj
        simp only [World.cell?] at this ⊢
        rw [hold1 vb hvw]
        exact this)
      hN (by rw [hvl]; simp only [List.size_toArray]; omega) h1v
  have hN1 : ((W1.setRow w.heap.size L1.toArray).drew).heap[w.heap.size]? = some (.cells L1.toArray 65 (0, 0)) := setRow_heap W1 w.heap.size R.toArray L1.toArray 65 (0, 0) hN
  have hcp2 : ∀ o ty dc sc, o = i * 8 + m * 8 → (Builtin.copy_ #[63, 63] ty #[.slice (some ⟨w.heap.size, o, none⟩) (n + m - (i + m)) dc, .slice (some ⟨b, off + i * 8, none⟩) (n - i) sc]).run Tryz.prog ((W1.setRow w.heap.size L1.toArray).drew) = .ok (goInt (n - i : Nat)) (((W1.setRow w.heap.size L1.toArray).drew).setRow w.heap.size (ow L1 (i * 8 + m * 8) (olds.drop (i * 8))).toArray) := fun o ty dc sc he => by
    subst he
    exact run_copy_row ((W1.setRow w.heap.size L1.toArray).drew) _ _ ty 65 65 8 w.heap.size _ _ dc ⟨b, off + i * 8, none⟩ _ sc (n - i) (olds.drop (i * 8)) L1.toArray u63 hszo hmin2 hdl
      (fun j v hj => by
        rw [Addr.add_lit, Nat.add_assoc]
        have := hcell (i * 8 + j) v (by rwa [List.getElem?_drop] at hj)
        simp only [World.cell?] at this ⊢
        rw [show ((W1.setRow w.heap.size L1.toArray).drew).heap[b]? = w.heap[b]? from (setRow_other W1 w.heap.size b _ (by omega)).trans (hold1 b hbw)]
        exact this)
      hN1 (by rw [hdl]; simp only [List.size_toArray]; omega) (fun v hv => ho1 v (List.mem_of_mem_drop hv))
  have mixed : Tryz.prog.follows .mixedOrders = true := by kernel_rfl
  have hcp2' := fun ty dc sc => hcp2 ((i + m) * 8) ty dc sc (by omega)
  have hGi : ¬ (Gc = i) := by omega
  have hGim : ¬ (Gc = i + m) := by omega
  have hci : ¬ (c = i) := by omega
  have hw1 : IntKind.i64.wrap ((i : Int) + (m : Int)) = (i : Int) + (m : Int) := by rw [IntKind.wrap_i64]; omega
  have hb1 : (0 : Int) ≤ (i : Int) + (m : Int) := by omega
  have hin : i ≤ n := by omega
  have htn : ((i : Int) + (m : Int)).toNat = i + m := by omega
  have hb3 : (i : Int) ≤ (n : Int) := by omega
  clear hkk hik hold hR hG hG2 hRl hL1 hW1 hol
  go_enter Tryz.func226, Tryz.ntmps226
  go_wp2_with (first
    | (at_builtin; refine wpList_app_known _ rfl _ _ _ _ rfl _ _ rfl rfl (hrz _) ?_)
    | (at_builtin; refine wpList_copy_known _ rfl _ _ 63 63 rfl _ _ rfl rfl (hcp1 _ _) ?_))
  go_region_law_o (refine step_copy_known rfl _ _ 63 63 rfl (.slice (some ⟨w.heap.size, (i + m) * 8, none⟩) (n + m - (i + m)) (Gc - (i + m))) (.slice (some ⟨b, off + i * 8, none⟩) (n - i) (c - i)) (by simp [Act.eval, Act.put]) (by simp [Act.eval, Act.put]) (hcp2' _ _ _) ?_)
  go_wp2
  go_ret
  exact ⟨rfl, rfl⟩
end Go.Abs
