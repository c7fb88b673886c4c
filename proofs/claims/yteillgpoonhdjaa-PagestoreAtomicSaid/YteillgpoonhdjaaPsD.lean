/- Contracts of the reference of package pagestore. -/
import Derived.Test.YteillgpoonhdjaaPsC
set_option maxRecDepth 100000
set_option linter.unusedSimpArgs false
namespace Go.Abs
open Go.Proofs
section
variable (M : Mem) (b : Nat) (pv : AV) (l r f n : Int) (d : Bool) (ps : List ByteArray)

theorem rnew_ok : ACalls PC 16 [] M (fun v M' => v = .ptr M.length 0 ∧ M' = M ++ [.cells [.val (.slice none 0 0), I 0, I (-1), I (-1), B false]]) := by
  refine w_body hint0 Try.func16 rfl rfl rfl rfl rfl rfl ?_
  simp (dsimp := false) (implicitDefEqProofs := false) [buildAV, buildGo, putCells]
theorem rfail_ok (hb : M[b]? = some (.cells [pv, I l, I r, I f, B d])) : ACalls PC 31 [.ptr b 0, I n] M (fun v M' => v = .tuple [] ∧ M' = M.set b (.cells [pv, I l, I r, I (max n (-1)), B d])) := by
  refine w_body hint0 Try.func31 rfl rfl rfl rfl rfl rfl ?_
  by_cases h0 : n < 0
  · have e : max n (-1) = -1 := by omega
    simp (dsimp := false) (implicitDefEqProofs := false) [storeAV_ptr hb, h0, e]
  · have e : max n (-1) = n := by omega
    simp (dsimp := false) (implicitDefEqProofs := false) [storeAV_ptr hb, h0, e]
theorem rread_ok (hb : M[b]? = some (.cells [pv, I l, I r, I f, B d])) (hp : Pg M pv ps) : ACalls PC 32 [.ptr b 0, I n] M (fun v M' => v = .tuple (if d then [S .empty, I 16] else if 0 ≤ n ∧ n < ps.length then [S (ps.getD n.toNat .empty), I 0] else [S .empty, I 3]) ∧ M' = M) := by
  refine w_body hint0 Try.func32 rfl rfl rfl rfl rfl rfl ?_
  cases d
  · by_cases hc : 0 ≤ n ∧ n < ps.length
    · obtain ⟨k, rfl⟩ := Int.eq_ofNat_of_zero_le hc.1
      have hk : k < ps.length := by omega
      have h0 : ¬ ((k : Int) < 0) := by omega
      have h1 : ¬ (ps.length ≤ k) := by omega
      rcases hp with ⟨rfl, rfl⟩ | ⟨fm, rfl, _⟩
      · simp at hk
      · have e1 : (rowsS ps)[k]? = some [S ps[k]] := by simp [rowsS, hk]
        have e2 : (rowsS ps)[k]'(by simpa using hk) = [S ps[k]] := by simp [rowsS]
        simp (dsimp := false) (implicitDefEqProofs := false) [loadAV_ptr hb, hc, e1, e2, hk, h0, h1]
    · by_cases h0 : n < 0
      · simp (dsimp := false) (implicitDefEqProofs := false) [loadAV_ptr hb, hc, h0]
        rfl
      · have h1 : (ps.length : Int) ≤ n := by omega
        simp (dsimp := false) (implicitDefEqProofs := false) [loadAV_ptr hb, hc, h0, hp.len, h1]
        rfl
  · simp (dsimp := false) (implicitDefEqProofs := false) [loadAV_ptr hb]
    rfl
theorem rcall_ok (hb : M[b]? = some (.cells [pv, I l, I r, I f, B d])) (h1 : f ≤ 9223372036854775807) : ACalls PC 33 [.ptr b 0] M (fun v M' => v = B (decide (f ≠ 0)) ∧ M' = if f = 0 then M.set b (.cells [pv, I l, I r, I f, B true]) else M.set b (.cells [pv, I l, I r, I (if 0 < f then f - 1 else f), B d])) := by
  refine w_body hint0 Try.func33 rfl rfl rfl rfl rfl rfl ?_
  by_cases hf : f = 0
  · subst hf
    simp (dsimp := false) (implicitDefEqProofs := false) [loadAV_ptr hb, storeAV_ptr hb]
  · by_cases hp : 0 < f
    · have e := wrap_dec hp h1
      simp (dsimp := false) (implicitDefEqProofs := false) [loadAV_ptr hb, storeAV_ptr hb, hf, hp, e]
    · have e : M.set b (.cells [pv, I l, I r, I f, B d]) = M := by
        have hlt := getElem?_lt hb
        rw [List.getElem?_eq_getElem hlt] at hb
        rw [← Option.some.inj hb]; exact List.set_getElem_self hlt
      simp (dsimp := false) (implicitDefEqProofs := false) [loadAV_ptr hb, storeAV_ptr hb, hf, hp]
      exact e.symm

theorem rsetroot_ok (s : St) (hs : s.ok) (ha : At M b pv s) : ACalls PC 29 [.ptr b 0, I n] M (fun v M' => v = I (mSet s n).1 ∧ M' = M.set b (.cells ((mSet s n).2.cells pv))) := by
  obtain ⟨hb, hp⟩ := ha
  have hlt := getElem?_lt hb
  have hself : M.set b (.cells (s.cells pv)) = M := by
    rw [List.getElem?_eq_getElem hlt] at hb
    rw [← Option.some.inj hb]; exact List.set_getElem_self hlt
  obtain ⟨pages, lasting, root, fuse, down⟩ := s
  simp only [St.cells] at hb hp hself
  refine w_body hintB Try.func29 rfl rfl rfl rfl rfl rfl ?_
  cases down
  · by_cases hc : 0 ≤ n ∧ n < pages.length
    · have h0 : ¬ (n < 0) := by omega
      have h1 : ¬ ((pages.length : Int) ≤ n) := by omega
      simp (dsimp := false) (implicitDefEqProofs := false) [loadAV_ptr hb, h0, hp.len, h1]
      refine w_calls (C := PC) Try.call33 (rcall_ok M b pv lasting root fuse false hb hs.f1) ?_
      rintro _ _ ⟨rfl, rfl⟩
      by_cases hf : fuse = 0
      · subst hf
        simp (dsimp := false) (implicitDefEqProofs := false) [mSet, hc, St.cells]
      · have hb1 : ∀ cs, (M.set b (.cells cs))[b]? = some (.cells cs) := fun cs => by rw [List.getElem?_set_self hlt]
        have hp1 := Pg.set M b pv lasting root fuse false pages hb hp
        simp (dsimp := false) (implicitDefEqProofs := false) [hf, mSet, hc, St.cells, St.burn, storeAV_ptr (hb1 _), loadAV_ptr (hb1 _), hp.len]
    · by_cases h0 : n < 0
      · simp (dsimp := false) (implicitDefEqProofs := false) [loadAV_ptr hb, h0, hc, mSet, St.cells, hself]
      · have h1 : (pages.length : Int) ≤ n := by omega
        simp (dsimp := false) (implicitDefEqProofs := false) [loadAV_ptr hb, h0, hp.len, h1, hc, mSet, St.cells, hself]
  · simp (dsimp := false) (implicitDefEqProofs := false) [loadAV_ptr hb, mSet, St.cells, hself]

theorem rappend_ok (x : ByteArray) (s : St) (hs : s.ok) (ha : At M b pv s) : ACalls PC 28 [.ptr b 0, S x] M (fun v M' => ∃ pv', v = .tuple [I (mAppend s x).1.1, I (mAppend s x).1.2] ∧ At M' b pv' (mAppend s x).2 ∧ FrN M M' b pv pv') := by
  obtain ⟨hb, hp⟩ := ha
  have hlt := getElem?_lt hb
  have frefl : FrN M M b pv pv := ⟨Nat.le_refl _, fun _ _ _ => rfl, fun _ h => .inl h⟩
  have hAt : At M b pv s := ⟨hb, hp⟩
  obtain ⟨pages, lasting, root, fuse, down⟩ := s
  simp only [St.cells] at hb hp
  have hk := hs.len
  simp only at hk
  refine w_body hintB Try.func28 rfl rfl rfl rfl rfl rfl ?_
  cases down
  · simp (dsimp := false) (implicitDefEqProofs := false) [loadAV_ptr hb]
    by_cases h1 : 16384 < (x.size : Int)
    · simp (dsimp := false) (implicitDefEqProofs := false) [h1, mAppend]
      exact ⟨pv, hAt, frefl⟩
    · simp (dsimp := false) (implicitDefEqProofs := false) [h1, loadAV_ptr hb, hp.len]
      by_cases h2 : 4096 ≤ (pages.length : Int)
      · simp (dsimp := false) (implicitDefEqProofs := false) [h2, h1, mAppend]
        exact ⟨pv, hAt, frefl⟩
      · simp (dsimp := false) (implicitDefEqProofs := false) [h2, h1]
        refine w_calls (C := PC) Try.call33 (rcall_ok M b pv lasting root fuse false hb hs.f1) ?_
        rintro _ _ ⟨rfl, rfl⟩
        by_cases hf : fuse = 0
        · subst hf
          simp (dsimp := false) (implicitDefEqProofs := false) [mAppend, h1, h2]
          refine ⟨pv, ⟨by rw [List.getElem?_set_self hlt]; rfl, Pg.set M b pv lasting root 0 false pages hb hp _⟩, by simp, fun k hk h3 => by rw [List.getElem?_set, if_neg (Ne.symm h3)], fun k hk => .inl hk⟩
        · have hb1 : ∀ cs, (M.set b (.cells cs))[b]? = some (.cells cs) := fun cs => by rw [List.getElem?_set_self hlt]
          have hb2 : ∀ cs X, (M.set b (.cells cs) ++ X)[b]? = some (.cells cs) := fun cs X => by rw [List.getElem?_append_left (by simpa using hlt)]; exact hb1 cs
          have e0 : IntKind.i64.wrap ((pages.length : Int) + 1 - 1) = pages.length := by rw [IntWalk.i64_in _ (by omega)]; omega
          have hsl : ∀ cs, (M.set b (AObj.cells cs)).length = M.length := fun cs => by simp
          have hfm : ∀ cs (o : AObj), (M.set b (AObj.cells cs) ++ [o])[M.length]? = some o := fun cs o => by rw [List.getElem?_append_right (by simp)]; simp
          have hsa : ∀ cs (o o' : AObj), (M.set b (AObj.cells cs) ++ [o]).set M.length o' = M.set b (AObj.cells cs) ++ [o'] := fun cs o o' => by rw [List.set_append_right _ _ (by simp)]; simp
          have hss : ∀ cs cs' X, (M.set b (AObj.cells cs) ++ X).set b (.cells cs') = M.set b (.cells cs') ++ X := fun cs cs' X => by rw [List.set_append_left _ _ (by simpa using hlt)]; simp
          have hend : At (M.set b (.cells [.list 1 (rowsS pages ++ [[S x]]) (.fam M.length), I lasting, I root, I (if 0 < fuse then fuse - 1 else fuse), B false]) ++ [.fam (pages.length + 1) 1]) b (.list 1 (rowsS pages ++ [[S x]]) (.fam M.length)) (mAppend ⟨pages, lasting, root, fuse, false⟩ x).2 ∧
              FrN M (M.set b (.cells [.list 1 (rowsS pages ++ [[S x]]) (.fam M.length), I lasting, I root, I (if 0 < fuse then fuse - 1 else fuse), B false]) ++ [.fam (pages.length + 1) 1]) b pv (.list 1 (rowsS pages ++ [[S x]]) (.fam M.length)) := by
            have em : (mAppend ⟨pages, lasting, root, fuse, false⟩ x).2 = { pages := pages ++ [x], lasting := lasting, root := root, fuse := if 0 < fuse then fuse - 1 else fuse, down := false } := by simp [mAppend, h1, h2, hf, St.burn]
            rw [em]
            refine ⟨⟨hb2 _ _, .inr ⟨M.length, by simp [rowsS], by rw [hfm]; simp⟩⟩, by simp, fun k hk h3 => by rw [List.getElem?_append_left (by simpa using hk), List.getElem?_set, if_neg (Ne.symm h3)], fun k hk => by simp [famOf] at hk; omega⟩
          simp (dsimp := false) (implicitDefEqProofs := false) [hf, loadAV_ptr (hb1 _), buildSliceAV, rowsGo]
          rcases hp with ⟨rfl, rfl⟩ | ⟨fm, rfl, _⟩
          · refine w_append (e := 9) (sz := 1) (bytes := 16) TryTypes.elem22 TryTypes.src22 TryTypes.eok9 rfl trivial (by simp) ?_
            simp (dsimp := false) (implicitDefEqProofs := false) [appendAV, buildSliceAV, rowsGo]
            refine w_append (e := 9) (sz := 1) (bytes := 16) TryTypes.elem22 TryTypes.src22 TryTypes.eok9 rfl rfl (by simp) ?_
            simp (dsimp := false) (implicitDefEqProofs := false) [appendAV, hfm, hsa, storeAV_ptr (hb2 _ _), loadAV_ptr (hb2 _ _), hss]
            refine ⟨by simp [mAppend, h1, hf]; rw [IntWalk.i64_in _ (by omega)], _, hend⟩
          · refine w_append (e := 9) (sz := 1) (bytes := 16) TryTypes.elem22 TryTypes.src22 TryTypes.eok9 rfl rfl (by simp; omega) ?_
            simp (dsimp := false) (implicitDefEqProofs := false) [appendAV, buildSliceAV, rowsGo]
            refine w_append (e := 9) (sz := 1) (bytes := 16) TryTypes.elem22 TryTypes.src22 TryTypes.eok9 rfl rfl (by simp; omega) ?_
            simp (dsimp := false) (implicitDefEqProofs := false) [appendAV, hfm, hsa, storeAV_ptr (hb2 _ _), loadAV_ptr (hb2 _ _), hss]
            refine ⟨by simp [mAppend, h1, h2, hf]; rw [IntWalk.i64_in _ (by omega)], _, hend⟩
  · simp (dsimp := false) (implicitDefEqProofs := false) [loadAV_ptr hb, mAppend]
    exact ⟨pv, hAt, frefl⟩

theorem rcrash_ok (s : St) (hs : s.ok) (ha : At M b pv s) : ACalls PC 30 [.ptr b 0, I n] M (fun v M' => ∃ pv', v = .tuple [] ∧ At M' b pv' (mCrash s n) ∧ FrN M M' b pv pv') := by
  obtain ⟨hb, hp⟩ := ha
  have hlt := getElem?_lt hb
  obtain ⟨pages, lasting, root, fuse, down⟩ := s
  simp only [St.cells] at hb hp
  obtain ⟨k1, k2, k3, _, _⟩ := hs
  simp only at k1 k2 k3
  have e0 : IntKind.i64.wrap ((pages.length : Int) - lasting) = pages.length - lasting := IntWalk.i64_in _ (by omega)
  have hb1 : ∀ cs, (M.set b (.cells cs))[b]? = some (.cells cs) := fun cs => by rw [List.getElem?_set_self hlt]
  have hb2 : ∀ cs X, (M.set b (.cells cs) ++ X)[b]? = some (.cells cs) := fun cs X => by rw [List.getElem?_append_left (by simpa using hlt)]; exact hb1 cs
  have hb3 : ∀ X, (M ++ X)[b]? = some (.cells [pv, I lasting, I root, I fuse, B down]) := fun X => by rw [List.getElem?_append_left hlt]; exact hb
  have hss : ∀ cs X, (M ++ X).set b (.cells cs) = M.set b (.cells cs) ++ X := fun cs X => by rw [List.set_append_left _ _ hlt]
  have hss2 : ∀ cs cs' X, (M.set b (AObj.cells cs) ++ X).set b (.cells cs') = M.set b (.cells cs') ++ X := fun cs cs' X => by rw [List.set_append_left _ _ (by simpa using hlt)]; simp
  -- nothing is cut off
  have whole : ∀ k : Int, k = max n 0 → ¬ k < (pages.length : Int) - lasting → At (M.set b (.cells [pv, I pages.length, I root, I (-1), B false])) b pv (mCrash ⟨pages, lasting, root, fuse, down⟩ n) ∧ FrN M (M.set b (.cells [pv, I pages.length, I root, I (-1), B false])) b pv pv := by
    intro k hk hc
    have et : pages.take (lasting + min (max n 0) (pages.length - lasting)).toNat = pages := List.take_of_length_le (by omega)
    refine ⟨⟨?_, ?_⟩, by simp, fun j hj h1 => by rw [List.getElem?_set, if_neg (Ne.symm h1)], fun _ h => .inl h⟩
    · rw [hb1]; simp only [mCrash, St.cells, et]
    · simp only [mCrash, et]; exact Pg.set M b pv lasting root fuse down pages hb hp _
  have cut : ∀ k : Int, k = max n 0 → k < (pages.length : Int) - lasting → ∀ q, pages.take (lasting + k).toNat = q →
      At (M.set b (.cells [.list 1 (rowsS q) (.fam M.length), I q.length, I root, I (-1), B false]) ++ [.fam q.length 1]) b (.list 1 (rowsS q) (.fam M.length)) (mCrash ⟨pages, lasting, root, fuse, down⟩ n) ∧
      FrN M (M.set b (.cells [.list 1 (rowsS q) (.fam M.length), I q.length, I root, I (-1), B false]) ++ [.fam q.length 1]) b pv (.list 1 (rowsS q) (.fam M.length)) := by
    intro k hk hc q hq
    have em : min (max n 0) ((pages.length : Int) - lasting) = k := by omega
    refine ⟨⟨?_, .inr ⟨M.length, ?_, ?_⟩⟩, by simp, fun j hj h1 => by rw [List.getElem?_append_left (by simpa using hj), List.getElem?_set, if_neg (Ne.symm h1)], fun j hj => by simp [famOf] at hj; omega⟩
    · rw [hb2]; simp only [mCrash, St.cells, em, hq]
    · simp only [mCrash, em, hq]
    · rw [List.getElem?_append_right (by simp)]; simp [mCrash, em, hq]
  refine w_body hintB Try.func30 rfl rfl rfl rfl rfl rfl ?_
  by_cases h0 : n < 0
  · simp (dsimp := false) (implicitDefEqProofs := false) [h0]
    refine w_drawn hintB follows (fun k => if k = 4 then 1 else if k = 9 then 1 else 0) rfl (by decide +kernel) ?_
    simp (dsimp := false) (implicitDefEqProofs := false) [loadAV_ptr hb, hp.len, e0]
    by_cases hc : (0 : Int) < (pages.length : Int) - lasting
    · have e3 : IntKind.i64.wrap lasting = lasting := IntWalk.i64_in _ (by omega)
      obtain ⟨own, hsl⟩ := hp.slice lasting (by omega) (by omega)
      have hc' : lasting < (pages.length : Int) := by omega
      simp (dsimp := false) (implicitDefEqProofs := false) [hc']
      refine w_drawn hintB follows (fun k => if k = 5 then 1 else if k = 9 then 1 else if k = 13 then 2 else if k = 16 then 2 else 0) rfl (by decide +kernel) ?_
      simp (dsimp := false) (implicitDefEqProofs := false) [loadAV_ptr hb, buildSliceAV, rowsGo, e3, hsl]
      refine w_append (e := 9) (sz := 1) (bytes := 16) TryTypes.elem22 TryTypes.src22 TryTypes.eok9 rfl rfl (by simp; omega) ?_
      have hmain := cut (0 : Int) (by omega) hc
      simp only [Int.add_zero] at hmain
      generalize hq : pages.take lasting.toNat = q at hmain ⊢
      simp (dsimp := false) (implicitDefEqProofs := false) [appendAV, storeAV_ptr (hb3 _), hss, loadAV_ptr (hb2 _ _), storeAV_ptr (hb2 _ _), hss2]
      exact ⟨_, hmain q rfl⟩
    · have hc' : ¬ lasting < (pages.length : Int) := by omega
      simp (dsimp := false) (implicitDefEqProofs := false) [hc', loadAV_ptr hb, hp.len, storeAV_ptr hb, storeAV_ptr (hb1 _)]
      exact ⟨_, whole (0 : Int) (by omega) hc⟩
  · simp (dsimp := false) (implicitDefEqProofs := false) [h0]
    refine w_drawn hintB follows (fun k => if k = 4 then 1 else if k = 9 then 1 else 0) rfl (by decide +kernel) ?_
    simp (dsimp := false) (implicitDefEqProofs := false) [loadAV_ptr hb, hp.len, e0]
    by_cases hc : n < (pages.length : Int) - lasting
    · have e3 : IntKind.i64.wrap (lasting + n) = lasting + n := IntWalk.i64_in _ (by omega)
      obtain ⟨own, hsl⟩ := hp.slice (lasting + n) (by omega) (by omega)
      simp (dsimp := false) (implicitDefEqProofs := false) [hc]
      refine w_drawn hintB follows (fun k => if k = 5 then 1 else if k = 9 then 1 else if k = 13 then 2 else if k = 16 then 2 else 0) rfl (by decide +kernel) ?_
      simp (dsimp := false) (implicitDefEqProofs := false) [loadAV_ptr hb, buildSliceAV, rowsGo, e3, hsl]
      refine w_append (e := 9) (sz := 1) (bytes := 16) TryTypes.elem22 TryTypes.src22 TryTypes.eok9 rfl rfl (by simp; omega) ?_
      have hmain := cut n (by omega) hc
      generalize hq : pages.take (lasting + n).toNat = q at hmain ⊢
      simp (dsimp := false) (implicitDefEqProofs := false) [appendAV, storeAV_ptr (hb3 _), hss, loadAV_ptr (hb2 _ _), storeAV_ptr (hb2 _ _), hss2]
      exact ⟨_, hmain q rfl⟩
    · simp (dsimp := false) (implicitDefEqProofs := false) [hc, loadAV_ptr hb, hp.len, storeAV_ptr hb, storeAV_ptr (hb1 _)]
      exact ⟨_, whole n (by omega) hc⟩
end
end Go.Abs
