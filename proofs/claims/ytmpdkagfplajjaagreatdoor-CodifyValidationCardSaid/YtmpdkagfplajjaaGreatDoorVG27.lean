/- The texts CvW, CvX, CvY, CvZa, CvZb, CvZc, CvZd: what each proves stands at its head. -/
import Derived.Test.YtmpdkagfplajjaaGreatDoorVG25
import Derived.Test.YtmpdkagfplajjaaGreatDoorVG26
section
/- Contracts: a plan (the program's). -/
set_option maxRecDepth 100000
set_option linter.unusedSimpArgs false
set_option linter.unusedVariables false
namespace Go.Abs
open Go.Proofs TryTypes

/-! ### the units by their IDs, when these are distinct -/
mutual
theorem findU_pre (x : IdD) : ∀ u : UnitD, findU x u = (preU u).find? fun v => decide (v.id = x)
  | .mk id k l h w ks => by
    rw [findU, preU, List.find?_cons]
    have hid : (UnitD.mk id k l h w ks).id = id := rfl
    rw [hid]
    by_cases c : id = x
    · rw [if_pos c, decide_eq_true c]
    · rw [if_neg c, decide_eq_false c]; exact findL_pre x ks
theorem findL_pre (x : IdD) : ∀ ks : List UnitD, findL x ks = (preL ks).find? fun v => decide (v.id = x)
  | [] => by rw [findL, preL]; rfl
  | k :: ks => by
    rw [findL, preL, List.find?_append, findU_pre x k, findL_pre x ks]
    cases (preU k).find? (fun v => decide (v.id = x)) <;> rfl
end
theorem putAll_new : ∀ (us : List UnitD) (L : List (IdD × UnitD)), (L.map (·.1) ++ us.map UnitD.id).Nodup → putAll L us = L ++ us.map fun u => (u.id, u)
  | [], L, _ => by simp [putAll]
  | u :: us, L, h => by
    have hn : u.id ∉ L.map (·.1) := by
      intro hm
      rw [List.nodup_append] at h
      exact h.2.2 _ hm u.id (by simp) rfl
    rw [putAll, putL_new hn, putAll_new us]
    · simp
    · simpa using h
theorem getL_mapU (x : IdD) : ∀ us : List UnitD, getL (us.map fun u => (u.id, u)) x = us.find? fun v => decide (v.id = x)
  | [] => rfl
  | u :: us => by
    rw [List.map_cons, getL, List.find?_cons]
    by_cases c : x = u.id
    · rw [if_pos c, decide_eq_true c.symm]
    · rw [if_neg c, decide_eq_false (fun e => c e.symm)]; exact getL_mapU x us
theorem distL_nodup {K : Type} [DecidableEq K] : ∀ (r S : List K), S.Nodup → distL r S = true → (S ++ r).Nodup
  | [], S, h, _ => by simpa using h
  | x :: r, S, h, hd => by
    rw [distL, Bool.and_eq_true, any_mem] at hd
    have hx : x ∉ S := by simpa using hd.1
    have := distL_nodup r (S ++ [x]) (by
      rw [List.nodup_append]
      exact ⟨h, by simp, fun a ha b hb => by simp only [List.mem_cons, List.not_mem_nil, or_false] at hb; subst hb; rintro rfl; exact hx ha⟩) hd.2
    simpa using this
theorem units_find (u : UnitD) (h : distL (idsU u) [] = true) : getL (putAll [] (preU u)) = fun x => findU x u := by
  have hn := distL_nodup (idsU u) [] (by simp) h
  rw [← preU_ids, List.nil_append] at hn
  funext x
  rw [putAll_new _ _ (by simpa using hn), List.nil_append, getL_mapU, findU_pre]
abbrev z96 : List AV := [.val (.slice none 0 0), .val (.map none), .val (.map none), .val (.map none)]
@[simp] theorem build96 : buildAV Tryz.prog 96 [] = some (.agg z96) := by simp [buildAV, buildGo]
@[simp] theorem build96' {l : List (List AV)} {a b c : Nat} : buildAV Tryz.prog 96 [(0, .list 5 l .no), (1, .mapr a), (2, .mapr b), (3, .mapr c)] = some (.agg [.list 5 l .no, .mapr a, .mapr b, .mapr c]) := by
  simp [buildAV, buildGo, putCells, overwrite, agg_cs]
theorem int_st {n : Int} : (I n).storable = true := rfl
theorem int_cs {n : Int} : (I n).cells = [I n] := rfl
theorem elem130 : elemOf? Tryz.prog 130 = some 3 := by kernel_rfl
theorem src130 : srcOk Tryz.prog 130 := .inl ⟨3, by kernel_rfl⟩
theorem eok3 : elemOk Tryz.prog 3 1 8 := ⟨_, _, Tryz.type3, rfl, rfl, rfl, rfl, by decide⟩
def valK (KL : List (Int × AV)) (p : Int) : AV := (getL KL p).getD nilV
/-- the plan's maps after its first i slots -/
structure PlanAt (M0 : Mem) (l : List SlotD) (L : List (IdD × UnitD)) (r a b c p i : Nat) (M : Mem) : Prop where
  grow : Grow M0 M
  res : M[r]? = some (.cells 96 z96)
  pl : M[p]? = some (.cells 96 [.list 5 (rowsX l) .no, .mapr a, .mapr b, .mapr c])
  units : MapAt encId encU M a L
  ix : ∃ IL, MapAt encId (fun n : Nat => I n) M b IL ∧ ∀ y, (getL IL y).isSome = (l.take i).any (fun s => decide (s.id = y))
  kd : ∃ KL, MapAt I (fun v => v) M c KL ∧ (∀ q, OwnR 3 1 encN M (valK KL q) (besL l q i)) ∧ (∀ q f, obj (valK KL q) = some f → p < f) ∧ ∀ q q' f, obj (valK KL q) = some f → obj (valK KL q') = some f → q = q'
theorem PlanAt.keep {M0 : Mem} {l : List SlotD} {L : List (IdD × UnitD)} {r a b c p i : Nat} {M M' : Mem} (h : PlanAt M0 l L r a b c p i M) (hk : Grow M M') : PlanAt M0 l L r a b c p i M' := by
  obtain ⟨h1, h2, h3, h4, ⟨IL, h5, h6⟩, KL, h7, h8, h9⟩ := h
  exact ⟨h1.trans hk, hk.get h2 (by simp), hk.get h3 (by simp), h4.keep hk (by simp), ⟨IL, h5.keep hk (by simp), h6⟩, KL, h7.keep hk (by simp), fun q => (h8 q).keep hk (by simp), h9⟩
section
variable (gl : Nat → AV)
set_option maxHeartbeats 1000000 in
theorem build_ok (hg0 : gl 0 = belowAV) (hg1 : gl 1 = namesAV) (F : IdD → Option UnitD) (u : UnitD) (hF : F = fun x => findU x u) (l : List SlotD) (M : Mem) (hfit : Fit u) (hl : l.length ≤ 1000) (hs : ∀ s ∈ l, s.good) : ACalls (WC gl) 47 [.agg u.row, .list 5 (rowsX l) .no] M (fun v M' => (∃ r, v = .tuple [.agg r, I (planE F u l)] ∧ r.length = 4) ∧ Grow M M') := by
  have hbk := fun M => isBook_ok gl hg0 hg1 u M hfit
  rw [book_same] at hbk
  obtain ⟨R, hR⟩ : ∃ R, R = planE F u l := ⟨_, rfl⟩
  rw [← hR]
  simp only [planE] at hR
  have hcol := fun M => collect_ok gl u [] M.length (M ++ [.map [] 0]) hfit.1 (MapAt.new M)
  rw [u.row_eq] at hbk hcol ⊢
  refine w_body (hQ [52]) Tryz.func47 rfl rfl rfl rfl rfl rfl ?_
  simp (dsimp := false) (implicitDefEqProofs := false) [allocAV]
  refine w_calls (inv_of Tryz.func50 rfl rfl (hbk _)) ?_
  rintro _ M1 ⟨rfl, hM1⟩
  have hgr1 : Grow M M1 := by rw [hM1]; exact KeepsBut.app none _ _
  have hr1 : M1[M.length]? = some (.cells 96 z96) := by rw [hM1]; simp
  cases c1 : bookR u
  case false =>
    simp only [c1, Bool.not_false, if_true] at hR
    have hlt1 : M.length < M1.length := (List.getElem?_eq_some_iff.1 hr1).1
    simp (dsimp := false) (implicitDefEqProofs := false) [storeAV_ptr hr1, agg_st, agg_cs, hR, memOf_set hlt1, loadCells_row, grow_set hgr1]
  simp only [c1, Bool.not_true, Bool.false_eq_true, if_false] at hR
  obtain ⟨q1, q2⟩ := collectM_map u [] M1.length (M1 ++ [.map [] 0]) (MapAt.new M1)
  simp (dsimp := false) (implicitDefEqProofs := false)
  refine w_calls (inv_of Tryz.func102 rfl rfl (hcol M1)) ?_
  rintro _ M2 ⟨rfl, hM2⟩
  rw [← hM2] at q1 q2
  have hlt2 : M1.length < M2.length := q1.lt
  have hlt1 : M.length < M1.length := (List.getElem?_eq_some_iff.1 hr1).1
  have hr2 : M2[M.length]? = some (.cells 96 z96) := by
    rw [q2.2 _ (by simp; omega) (by simp; omega), List.getElem?_append_left hlt1]; exact hr1
  have hgr2 : Grow M M2 := by
    refine ⟨by omega, fun j hj _ => ?_⟩
    rw [q2.2 j (by simp; omega) (by simp; omega), List.getElem?_append_left (by omega)]
    exact hgr1.2 j hj (by simp)
  obtain ⟨L, hL⟩ : ∃ L, L = putAll [] (preU u) := ⟨_, rfl⟩
  rw [← hL] at q1
  have hFL : getL L = F := by
    rw [hL, hF]; refine units_find u ?_
    simp only [bookR, Bool.and_eq_true] at c1
    exact c1.2
  have hLn : (L.length : Int) = countN u := by
    have h1 := putAll_keys (preU u) []
    rw [preU_ids, ← hL] at h1
    have h2 : (addS [] (idsU u)).length = countN u := by
      have := (addS_full (idsU u) ([] : List IdD)).2 (by simp only [bookR, Bool.and_eq_true] at c1; exact c1.2)
      rw [idsU_len] at this
      simpa using this
    have h3 := congrArg List.length h1
    simp only [List.length_map, List.map_nil] at h3
    omega
  have hcp := countN_pos u
  have hcc := hfit.2.2
  obtain ⟨E, hE⟩ : ∃ E, E = errS F u.id l := ⟨_, rfl⟩
  rw [← hE] at hR
  have hall : ∀ n, (∀ j, j < n → E j = 0) → ∀ j, j < n → OrdS l j := by rw [hE]; exact fun n => errS_all
  obtain ⟨a, ha⟩ : ∃ a, a = M1.length := ⟨_, rfl⟩
  obtain ⟨b, hb⟩ : ∃ b, b = M2.length := ⟨_, rfl⟩
  have hM20 : MapAt encId (fun n : Nat => I n) (M2 ++ [AObj.map [] 0]) b [] := by rw [hb]; exact MapAt.new M2
  obtain ⟨M3, hM3⟩ : ∃ M3, M3 = M2 ++ [AObj.map [] 0, AObj.map [] 0, AObj.cells 96 [.list 5 (rowsX l) .no, .mapr a, .mapr b, .mapr (b + 1)]] := ⟨_, rfl⟩
  have hPA : PlanAt M l L M.length a b (b + 1) (b + 2) 0 M3 := by
    have hg23 : Grow M2 M3 := by rw [hM3]; exact KeepsBut.app none _ _
    refine ⟨hgr2.trans hg23, hg23.get hr2 (by simp), ?_, ?_, ⟨[], ⟨[], 0, ?_, rfl⟩, fun y => by simp [getL]⟩, ⟨[], ⟨[], 0, ?_, rfl⟩, fun q => ?_, fun q f hf => by simp [valK, getL, nilV] at hf, fun q q' f hf => by simp [valK, getL, nilV] at hf⟩⟩
    · rw [hM3, hb]; simp
    · rw [ha]; exact q1.keep hg23 (by simp)
    · rw [hM3, hb]; simp
    · rw [hM3, hb]; simp
    · simp only [valK, getL, Option.getD_none, besL, List.range_zero, List.filter_nil]; exact .nil
  simp (dsimp := false) (implicitDefEqProofs := false) [allocAV, storeAV, overwrite, agg_st, agg_cs]
  rw [← ha, ← hb, ← hM3]
  have hab : M.length < a ∧ a < b := by omega
  clear hbk hcol hM1 hgr1 hr1 hM2 q1 q2 hlt2 hlt1 hr2 hgr2 hM20 hM3 ha hb
  have hchk := fun IL KL n M hM hI hK hIx hKx hn hord => check_ok gl hg0 u l L IL KL a b (b + 1) n M hM hI hK hIx hKx hl hs hn hord
  rw [hFL, ← hE, u.row_eq] at hchk
  refine w_looped (hQ [52]) (fun T M3 => ∃ i : Nat, i ≤ l.length ∧ T 1 = .list 5 (rowsX l) .no ∧ T 2 = .cptr [I u.id.act, I u.id.item, I u.id.n, I u.kind, S u.label, .list 4 (rowsW u.head) .no, .list 4 (rowsW u.words) .no, .list 8 (rowsU u.kids) .no] ∧ T 4 = .ptr M.length 0 ∧ T 6 = .ptr (b + 2) 0 ∧ T 21 = .list 5 (rowsX l) .no ∧ T 22 = I l.length ∧ T 23 = I i ∧ PlanAt M l L M.length a b (b + 1) (b + 2) i M3 ∧ firstE E l.length 0 = firstE E (l.length - i) i ∧ ∀ j, j < i → E j = 0)
    (fun T M1 => match T 23 with | .val (.int _ i) => l.length - i.toNat | _ => 0) (by kernel_rfl) ?_ ?_
  · exact ⟨0, by omega, by simp, by simp, by simp, by simp, by simp, by simp, by simp, hPA, by simp, by simp⟩
  clear hPA
  rintro T M3 ⟨i, i1, t1, t2, t4, t6, t21, t22, t23, hPA, ho, hz⟩
  by_cases hi : i < l.length
  case neg =>
    have hi' : ¬ (i : Int) < l.length := by omega
    rw [show l.length - i = 0 by omega, firstE] at ho
    rw [ho, if_pos rfl] at hR
    obtain ⟨h1, h2, h3, h4, -, -⟩ := hPA
    have hlm : lenMore Tryz.prog 92 M3 (.mapr a) = some L.length := h4.len (kt := 23) (et := 27) (by simp)
    have w2 : IntKind.i64.wrap ((countN u : Int) - 1) = countN u - 1 := wrap_in (by omega) (by omega)
    have hlt3 : M.length < M3.length := (List.getElem?_eq_some_iff.1 h2).1
    by_cases c3 : (l.length : Int) = countN u - 1
    · rw [if_pos c3] at hR
      simp (dsimp := false) (implicitDefEqProofs := false) [t1, t2, t4, t6, t21, t22, t23, hi', loadAV_ptr h3, lenAV_map, hlm, hLn, w2, eq_true c3, storeAV_ptr h2, agg_st, agg_cs, memOf_set hlt3, loadCells_row, hR, grow_set h1]
    · rw [if_neg c3] at hR
      simp (dsimp := false) (implicitDefEqProofs := false) [t1, t2, t4, t6, t21, t22, t23, hi', loadAV_ptr h3, lenAV_map, hlm, hLn, w2, c3, storeAV_ptr h2, agg_st, agg_cs, memOf_set hlt3, loadCells_row, hR, grow_set h1]
  have hi' : (i : Int) < l.length := by omega
  have w1 := wadd1 (i := i) (by omega)
  obtain ⟨x, hx⟩ : ∃ x, x = l[i] := ⟨_, rfl⟩
  have hxe := hx.symm
  rw [show l.length - i = (l.length - (i + 1)) + 1 by omega, firstE] at ho
  obtain ⟨M4, hM4⟩ : ∃ M4, M4 = M3 ++ [AObj.cells 69 [I x.id.act, I x.id.item, I x.id.n, I x.parent, S x.label]] := ⟨_, rfl⟩
  have hX4 : M4[M3.length]? = some (AObj.cells 69 [I x.id.act, I x.id.item, I x.id.n, I x.parent, S x.label]) := by rw [hM4]; simp
  have hk34 : Grow M3 M4 := by rw [hM4]; exact KeepsBut.app none _ _
  obtain ⟨h1, h2, h3, h4, ⟨IL, h5, h6⟩, KL, h7, h8, h9, h10⟩ := hPA
  have hltb : b + 2 < M3.length := (List.getElem?_eq_some_iff.1 h3).1
  have hlt8 : ∀ q f, obj (valK KL q) = some f → f < M3.length := fun q f hf => (h8 q).lt hf
  replace h1 := h1.trans hk34
  replace h2 := hk34.get h2 (by simp)
  replace h3 := hk34.get h3 (by simp)
  replace h4 := h4.keep hk34 (by simp)
  replace h5 := h5.keep hk34 (by simp)
  replace h7 := h7.keep hk34 (by simp)
  replace h8 := fun q => (h8 q).keep hk34 (by simp)
  simp (dsimp := false) (implicitDefEqProofs := false) [t1, t2, t4, t6, t21, t22, t23, hi, hi', hxe, SlotD.row, allocAV, storeAV, overwrite, agg_st, agg_cs]
  rw [← hM4]
  simp (dsimp := false) (implicitDefEqProofs := false) [t1, t2, t4, t6, t21, t22, t23, loadAV_ptr h3]
  refine w_calls (inv_of Tryz.func103 rfl rfl (hchk IL KL i M4 h4 h5 h7 h6 h8 hi (hall i hz))) ?_
  rintro _ M4 ⟨rfl, rfl⟩
  by_cases c2 : E i = 0
  case neg =>
    rw [if_neg c2] at ho
    rw [ho, if_neg c2] at hR
    have hlt4 := (List.getElem?_eq_some_iff.1 h2).1
    simp (dsimp := false) (implicitDefEqProofs := false) [t1, t2, t4, t6, t21, t22, t23, c2, storeAV_ptr h2, agg_st, agg_cs, memOf_set hlt4, loadCells_row, hR, grow_set h1]
  rw [if_pos c2] at ho
  obtain ⟨M5, p1, p2, p3⟩ := h5.put (keyId 93 3 (by kernel_rfl)) x.id i
  have p1' : mapPutAV Tryz.prog 93 M4 (.mapr b) (.agg [I x.id.act, I x.id.item, I x.id.n]) (I i) = some M5 := p1
  obtain ⟨xo, hxo⟩ : ∃ xo, xo = M3.length := ⟨_, rfl⟩
  rw [← hxo] at hX4 hltb hlt8
  simp (dsimp := false) (implicitDefEqProofs := false) [t1, t2, t4, t6, t21, t22, t23, eq_true c2, loadAV_ptr h3, ← hxo]
  rw [loadAV_ptr hX4]
  simp (dsimp := false) (implicitDefEqProofs := false) [p1']
  replace h1 : Grow M M5 := ⟨Nat.le_trans h1.1 p3.1, fun j hj _ => (p3.2 j (by have := h1.1; omega) (by simp; omega)).trans (h1.2 j hj (by simp))⟩
  replace h2 := p3.get h2 (by simp; omega)
  replace h3 := p3.get h3 (by simp)
  replace h4 := h4.keep p3 (by simp; omega)
  replace h7 := h7.keep p3 (by simp)
  replace h8 := fun q => (h8 q).keep p3 (by intro f hf; have := h9 q f hf; simp; omega)
  have hX5 := p3.get hX4 (by simp; omega)
  have hgk : lookupAV Tryz.prog 94 M5 (.mapr (b + 1)) (I x.parent) false = some (valK KL x.parent) := by
    rw [h7.get (keyInt 94 130 (by kernel_rfl)) x.parent zero130 false, valK]
    cases getL KL x.parent <;> rfl
  refine w_drawnR (hQ [52]) (cfollows gl) (fun k => if k = 1 ∨ k = 3 ∨ k = 5 ∨ k = 7 ∨ k = 8 then 1 else if k = 11 ∨ k = 12 then 2 else 0) (fun k => if k = 1 ∨ k = 5 then b + 2 else if k = 8 then b + 1 else xo) (fun k => k == 8) [b + 2, xo] ?_ (by rfl) (by kernel_rfl) ?_
  · intro k _ h
    have h : ¬ k = 8 := by simpa using h
    by_cases e : k = 1 ∨ k = 5 <;> simp [e, h]
  simp (dsimp := false) (implicitDefEqProofs := false) [t1, t2, t4, t6, t21, t22, t23, ← hxo, readObj, loadAV_ptr h3, loadAV_ptr hX5, hgk, buildSliceAV, rowsGo, int_st, int_cs]
  have hbl := besL_len l x.parent i
  have hps : parS l i = x.parent := by simp [parS, hi, hx]
  refine pushR (C := WC gl) (enc := encN) (e := 3) (sz := 1) (news := [i]) elem130 src130 eok3 (fun _ => rfl) (h8 x.parent) (by simp [srcCells, encN]) (by simp; omega) rfl ?_
  intro v' M6 k1 k2 k3 _
  have hkb : M6[b + 2]? = M5[b + 2]? := k2.2 _ (by have := (List.getElem?_eq_some_iff.1 h3).1; exact this) (fun e => by have := h9 _ _ e; omega)
  have hkx : M6[xo]? = M5[xo]? := k2.2 _ (by have := (List.getElem?_eq_some_iff.1 hX5).1; exact this) (fun e => by have := hlt8 _ _ e; omega)
  have hov : obj (valK KL x.parent) ≠ some (b + 1) := fun e => by have := h9 _ _ e; omega
  obtain ⟨M7, m1, m2, m3⟩ := (h7.keep k2 hov).put (keyInt 94 130 (by kernel_rfl)) x.parent v'
  have m1' : mapPutAV Tryz.prog 94 M6 (.mapr (b + 1)) (I x.parent) v' = some M7 := m1
  have hqb : M7[b + 2]? = M6[b + 2]? := m3.2 _ (by have := (List.getElem?_eq_some_iff.1 (hkb.trans h3)).1; exact this) (by simp)
  have hqx : M7[xo]? = M6[xo]? := m3.2 _ (by have := (List.getElem?_eq_some_iff.1 (hkx.trans hX5)).1; exact this) (by simp; omega)
  simp (dsimp := false) (implicitDefEqProofs := false) [t1, t2, t4, t6, t21, t22, t23, hkb, hkx, m1', hqb, hqx, w1]
  have hpa : PlanAt M l L M.length a b (b + 1) (b + 2) (i + 1) M7 := by
    have hval : ∀ q, valK (putL KL x.parent v') q = if q = x.parent then v' else valK KL q := fun q => by
      simp only [valK, getL_putL]
      by_cases e : q = x.parent <;> simp [e]
    have hlt5 : b + 2 < M5.length := (List.getElem?_eq_some_iff.1 h3).1
    have hvb : ∀ f, obj v' = some f → b + 2 < f := fun f hf => by
      rcases k3 with e | e
      · exact h9 _ f (by rw [← e]; exact hf)
      · have := e f hf; omega
    have hlow : ∀ j, j < b + 1 → M7[j]? = M5[j]? := fun j hj => by
      have e6 : M6[j]? = M5[j]? := k2.2 j (by omega) (fun e => by have := h9 _ _ e; omega)
      rw [m3.2 j (by have := k2.1; omega) (by simp; omega), e6]
    have hsu : ∀ q, besL l q (i + 1) = besL l q i ++ if q = x.parent then [i] else [] := fun q => by
      rw [besL_succ, hps]
      by_cases e : q = x.parent
      · rw [if_pos e.symm, if_pos e]
      · rw [if_neg (fun h => e h.symm), if_neg e]
    refine ⟨⟨by have := h1.1; have := k2.1; have := m3.1; omega, fun j hj _ => (hlow j (by omega)).trans (h1.2 j hj (by simp))⟩, by rw [hlow _ (by omega)]; exact h2, by rw [hqb, hkb]; exact h3, (h4.keep k2 (fun e => by have := h9 _ _ e; omega)).keep m3 (by simp; omega),
      ⟨_, (p2.keep k2 (fun e => by have := h9 _ _ e; omega)).keep m3 (by simp), fun y => ?_⟩, _, m2, fun q => ?_, fun q f hf => ?_, fun q q' f hf hf' => ?_⟩
    · rw [getL_putL, List.take_add_one, List.getElem?_eq_getElem hi, Option.toList_some, List.any_append, ← h6, hxe]
      by_cases e : y = x.id
      · rw [if_pos e, e]; simp
      · rw [if_neg e]
        have : ¬ x.id = y := fun h => e h.symm
        simp [this]
    · rw [hval, hsu]
      by_cases e : q = x.parent
      · rw [if_pos e, if_pos e, e]
        exact k1.keep m3 (fun f hf => by have := hvb f hf; simp; omega)
      · rw [if_neg e, if_neg e, List.append_nil]
        exact ((h8 q).keep k2 (fun f hf hs => e (h10 _ _ f hf hs))).keep m3 (fun f hf => by have := h9 _ f hf; simp; omega)
    · rw [hval] at hf
      by_cases e : q = x.parent
      · rw [if_pos e] at hf; exact hvb f hf
      · rw [if_neg e] at hf; exact h9 q f hf
    · have hold : ∀ q, obj (valK KL q) = some f → obj v' = some f → q = x.parent := fun q h1 h2 => by
        rcases k3 with e | e
        · exact h10 _ _ f h1 (by rw [← e]; exact h2)
        · have := e f h2; have := (h8 q).lt h1; omega
      rw [hval] at hf hf'
      by_cases e : q = x.parent
      · rw [if_pos e] at hf
        by_cases e' : q' = x.parent
        · rw [e, e']
        · rw [if_neg e'] at hf'
          exact absurd (hold q' hf' hf) e'
      · rw [if_neg e] at hf
        by_cases e' : q' = x.parent
        · rw [if_pos e'] at hf'
          exact absurd (hold q hf hf') e
        · rw [if_neg e'] at hf'
          exact h10 _ _ f hf hf'
  exact ⟨⟨i + 1, by clear w1; omega, rfl, hpa, ho, fun j hj => by
    by_cases e : j = i
    · rw [e]; exact c2
    · exact hz j (by clear w1; omega)⟩, by clear w1; omega⟩
theorem validate_ok (hg0 : gl 0 = belowAV) (hg1 : gl 1 = namesAV) (F : IdD → Option UnitD) (u : UnitD) (hF : F = fun x => findU x u) (l : List SlotD) (M : Mem) (hfit : Fit u) (hl : l.length ≤ 1000) (hs : ∀ s ∈ l, s.good) : ACalls (WC gl) 12 [.agg u.row, .list 5 (rowsX l) .no] M (fun v M' => v = I (planE F u l) ∧ M' = M) := by
  refine grow_cutB (fun _ => trivial) ?_
  have hb := build_ok gl hg0 hg1 F u hF l M hfit hl hs
  rw [u.row_eq] at hb ⊢
  refine w_body hB Tryz.func12 rfl rfl rfl rfl rfl rfl ?_
  simp (dsimp := false) (implicitDefEqProofs := false)
  refine w_calls (inv_of Tryz.func47 rfl rfl hb) ?_
  rintro _ M1 ⟨⟨r, rfl, hr⟩, hgr⟩
  have hd : List.drop 4 z96 = [] := rfl
  have hz : z96.length = 4 := rfl
  have h2 : Grow M (M1 ++ [AObj.cells 96 r]) := hgr.trans (KeepsBut.app none _ _)
  simp (dsimp := false) (implicitDefEqProofs := false) [allocAV, storeAV, overwrite, agg_st, agg_cs, hr, hz, hd, h2]
end
end Go.Abs
end
section
/- Contracts: the number and the letters of a label (both ways). -/
set_option maxRecDepth 100000
set_option linter.unusedSimpArgs false
set_option linter.unusedVariables false
namespace Go.Abs
open Go.Proofs TryTypes

theorem scanB_before (p : Int → Bool) (s : ByteArray) : ∀ (n i j : Nat), i ≤ j → j < i + n → (scanB p s n i < 0 ∨ (j : Int) < scanB p s n i) → p (byteAt s j) = false
  | 0, i, j, h1, h2, _ => by omega
  | n + 1, i, j, h1, h2, h => by
    rw [scanB] at h
    cases hp : p (byteAt s i) with
    | true =>
      rw [hp, if_pos rfl] at h
      omega
    | false =>
      rw [hp, if_neg (by simp)] at h
      by_cases e : j = i
      · rw [e]; exact hp
      · exact scanB_before p s n (i + 1) j (by omega) (by omega) h
theorem digit_of (s : ByteArray) {j : Nat} (h : j < digitsN s) : 48 ≤ byteAt s j ∧ byteAt s j ≤ 57 := by
  have hle := digitsN_le s
  have := scanB_before (outOf 48 57) s s.size 0 j (by omega) (by omega) (by
    simp only [digitsN] at h
    split at h
    · left; assumption
    · right; omega)
  simp only [outOf, Bool.or_eq_false_iff, decide_eq_false_iff_not] at this
  omega
def numD (s : ByteArray) : Nat → Nat → Int → Int
  | 0, _, n => n
  | r + 1, i, n => numD s r (i + 1) (10 * n + (byteAt s i - 48))
theorem numD_extract (s : ByteArray) (d : Nat) (hd : d ≤ s.size) : ∀ (r i : Nat) (n : Int), i + r ≤ d → numD (s.extract 0 d) r i n = numD s r i n
  | 0, i, n, _ => rfl
  | r + 1, i, n, h => by
    have : byteAt (s.extract 0 d) i = byteAt s i := by
      have := byteAt_extract (s := s) (i := 0) (j := d) (k := i) (by omega) (by omega)
      simpa using this
    rw [numD, numD, this]; exact numD_extract s d hd r (i + 1) _ (by omega)
def labNum (s : ByteArray) : Int := numD s (digitsN s) 0 0
def labTail (s : ByteArray) : ByteArray := s.extract (digitsN s) s.size
section
variable (gl : Nat → AV) (M : Mem)
theorem atoi212 (s : ByteArray) (h1 : 1 ≤ s.size) (h4 : s.size ≤ 4) (hd : ∀ i, i < s.size → 48 ≤ byteAt s i ∧ byteAt s i ≤ 57) : ACalls (WC gl) 212 [S s] M (fun v M' => v = .tuple [I (numD s s.size 0 0), .val .nilIface] ∧ M' = M) := by
  refine w_body hB Tryz.func212 rfl rfl rfl rfl rfl rfl ?_
  have a1 : (0 : Int) < s.size := by omega
  have a2 : (s.size : Int) < 10 := by omega
  have a3 : (s.size : Int) < 19 := by omega
  obtain ⟨b1, b2⟩ := hd 0 (by omega)
  have c1 : ¬ byteAt s 0 = 45 := by omega
  have c2 : ¬ byteAt s 0 = 43 := by omega
  have hpos : 0 < s.size := by omega
  simp (dsimp := false) (implicitDefEqProofs := false) [a1, a2, a3, c1, c2, hpos, convAV]
  rw [conv_s2b gl (s := s) (by rfl) (by omega)]
  simp (dsimp := false) (implicitDefEqProofs := false)
  refine w_looped hB (fun T M1 => ∃ i : Nat, i ≤ s.size ∧ M1 = M ∧ T 5 = S s ∧ T 47 = .list 1 (rowsB s) .no ∧ T 48 = I s.size ∧ T 49 = I i ∧ ∃ n : Int, T 6 = I n ∧ numD s s.size 0 0 = numD s (s.size - i) i n ∧ 0 ≤ n ∧ n ≤ 9999 ∧ (i = 0 → n = 0) ∧ (i = 1 → n ≤ 9) ∧ (i = 2 → n ≤ 99) ∧ (i = 3 → n ≤ 999))
    (fun T M1 => match T 49 with | .val (.int _ i) => s.size - i.toNat | _ => 0) (by kernel_rfl) ?_ ?_
  · exact ⟨0, by omega, rfl, by simp, by simp, by simp, by simp, 0, by simp, by simp, by omega, by omega, by omega, by omega, by omega, by omega⟩
  rintro T M1 ⟨i, i1, rfl, t5, t47, t48, t49, n, t6, ho, n1, n2, n3, n4, n5, n6⟩
  by_cases hi : i < s.size
  · have hi' : (i : Int) < s.size := by omega
    have w1 := wadd1 (i := i) (by omega)
    obtain ⟨d1, d2⟩ := hd i hi
    have hw : IntKind.u8.wrap (byteAt s i - 48) = byteAt s i - 48 := by rw [IntWalk.u8_in _ ⟨by omega, by omega⟩]
    have hg : ¬ byteAt s i - 48 > 9 := by omega
    have hg' : ¬ (9 : Int) < byteAt s i - 48 := by omega
    have wm : IntKind.i64.wrap (n * 10) = n * 10 := wrap_in (by omega) (by omega)
    have wc : IntKind.i64.wrap (byteAt s i - 48) = byteAt s i - 48 := wrap_in (by omega) (by omega)
    have wa : IntKind.i64.wrap (n * 10 + (byteAt s i - 48)) = n * 10 + (byteAt s i - 48) := wrap_in (by omega) (by omega)
    rw [show s.size - i = (s.size - (i + 1)) + 1 by omega, numD] at ho
    simp (dsimp := false) (implicitDefEqProofs := false) [t5, t47, t48, t49, t6, hi, hi', hw, hg, hg', wm, wc, wa, w1, convAV]
    rw [Int.mul_comm 10 n] at ho
    clear wm wa wc hw
    exact ⟨⟨i + 1, by clear w1; omega, rfl, ho, by omega, by clear w1; omega, by clear w1; omega, by clear w1; omega, by clear w1; omega, by clear w1; omega⟩, by clear w1; omega⟩
  · have hi' : ¬ (i : Int) < s.size := by omega
    rw [show s.size - i = 0 by omega, numD] at ho
    simp (dsimp := false) (implicitDefEqProofs := false) [t5, t47, t48, t49, t6, hi', c1, hpos, ho]
theorem nilNeq {x : Operand} {t2 : TypeId} {d : Option Tmp} {t : TypeId} {p : String} {af : Array Edge} {g : Option (Nat × Bool)} {K : AV → Mem → Prop} {ρ : Operand → AV} {h : Hint} (hx : ρ x = .val .nilIface) (hy : ρ (.const .nilIface) = .val .nilIface) (hk : K (B false) M) :
    vcOp (WC gl) h ⟨d, .binOp .neq 118 x (.const .nilIface) t2, t, p, af, g⟩ K ρ M := by
  rw [vcOp_binOp]
  have e0 : binAV Tryz.prog .neq 118 (.val .nilIface) (.val .nilIface) = none := by kernel_rfl
  have e1 : eqMore Tryz.prog 118 true (.val .nilIface) (.val .nilIface) = some true := by kernel_rfl
  unfold binKx
  rw [hx, hy]
  simp only [WC_P, e0, Option.none_or, evalPure1, hx, hy, isConst, e1, Option.map_some, Bool.not_true]
  exact hk
theorem atoi_ok (s : ByteArray) (h1 : 1 ≤ s.size) (h4 : s.size ≤ 4) (hd : ∀ i, i < s.size → 48 ≤ byteAt s i ∧ byteAt s i ≤ 57) : ACalls (WC gl) 165 [S s] M (fun v M' => v = .tuple [I (numD s s.size 0 0), .val .nilIface] ∧ M' = M) := by
  refine acalls_of_body (C := WC gl) (f := 165) Tryz.func165 rfl rfl rfl rfl rfl (vcCode_sound (h := hB) _ _ _ _ rfl ?_)
  simp only [vc_seq, vc_region, vcOps_cons, vcOps_nil, vcGuard_none, vcOp_move, vcOp_assign, thenK_normal]
  change Invk (WC gl) 212 [S s] M _
  refine (inv_of Tryz.func212 rfl rfl (atoi212 gl M s h1 h4 hd)).mono ?_
  rintro _ M1 ⟨rfl, rfl⟩
  have hx : ∀ (o : Oper) (K : AV → Mem → Prop) (ρ : Operand → AV) (x : Operand) (i : Nat) (vs : List AV) (v : AV), o.op = .extract x i → ρ x = .tuple vs → vs[i]? = some v → K v M1 → vcOp (WC gl) hB o K ρ M1 := by
    intro o K ρ x i vs v ho hv hi hk
    obtain ⟨d, op, t, p, af, g⟩ := o
    simp only at ho
    subst ho
    have e : evalOp (WC gl) hB ⟨d, .extract x i, t, p, af, g⟩ ρ M1 = some (v, M1) := by
      simp [evalOp, evalPure, hv, hi]
    rw [vcOp_other rfl rfl, e]
    exact hk
  refine hx _ _ _ _ 0 _ _ rfl rfl rfl ?_
  refine hx _ _ _ _ 1 _ _ rfl rfl rfl ?_
  refine nilNeq gl _ rfl rfl ?_
  rw [vc_cond (b := false) rfl, if_neg (by simp)]
  simp only [vc_skip, thenK_normal, vc_seq, vc_region, vcOps_cons, vcOps_nil, vcGuard_none, vcOp_move, vcOp_assign, vc_ret, thenK_ret, bodyQ_ret]
  have e : ∀ T : Env, T 2 = I (numD s s.size 0 0) → T 3 = .val .nilIface → resultAV (WC gl) [ResultVar.tmp 2, ResultVar.tmp 3] T M1 = some (.tuple [I (numD s s.size 0 0), .val .nilIface]) := by
    intro T h2 h3
    simp [resultAV, h2, h3]
  rw [e _ rfl rfl]
  exact ⟨rfl, trivial⟩
theorem label_digits (s : ByteArray) (h : labelOk s = true) : 1 ≤ digitsN s ∧ digitsN s ≤ 4 := by
  simp only [labelOk, Bool.and_eq_true, decide_eq_true_eq] at h
  exact ⟨h.1.1.1.1, h.1.1.1.2⟩
theorem split_ok (s : ByteArray) (hs : labelOk s = true) : ACalls (WC gl) 114 [S s] M (fun v M' => v = .tuple [I (labNum s), S (labTail s)] ∧ M' = M) := by
  refine grow_cutB (fun n => by simp [bdd, bddL]) ?_
  refine w_body hB Tryz.func114 rfl rfl rfl rfl rfl rfl ?_
  obtain ⟨d1, d4⟩ := label_digits s hs
  have hle := digitsN_le s
  have hsz : (s.extract 0 (digitsN s)).size = digitsN s := by simp; omega
  simp (dsimp := false) (implicitDefEqProofs := false)
  refine w_calls (inv_of Tryz.func112 rfl rfl (Valid_ok gl M s)) ?_
  rintro _ M1 ⟨rfl, hg1⟩
  simp (dsimp := false) (implicitDefEqProofs := false) [hs]
  refine w_calls (inv_of Tryz.func161 rfl rfl (parted_ok gl M1 s)) ?_
  rintro _ M2 ⟨rfl, hg2⟩
  simp (dsimp := false) (implicitDefEqProofs := false)
  refine w_calls (inv_of Tryz.func165 rfl rfl (atoi_ok gl M2 (s.extract 0 (digitsN s)) (by omega) (by omega) fun i hi => ?_)) ?_
  · have := byteAt_extract (s := s) (i := 0) (j := digitsN s) (k := i) (by omega) (by omega)
    rw [this, Nat.zero_add]
    exact digit_of s (by omega)
  rintro _ _ ⟨rfl, rfl⟩
  have hn : numD (s.extract 0 (digitsN s)) (digitsN s) 0 0 = labNum s := numD_extract s _ hle _ _ _ (by omega)
  have hg := hg1.trans hg2
  simp (dsimp := false) (implicitDefEqProofs := false) [hsz, hn, labTail, hg]
theorem rSplit_ok (s : ByteArray) (hs : labelOk s = true) (hm : s.size ≤ maxLen) : ACalls (WC gl) 145 [S s] M (fun v M' => v = .tuple [I (labNum s), S (labTail s)] ∧ M' = M) := by
  refine w_body hB Tryz.func145 rfl rfl rfl rfl rfl rfl ?_
  obtain ⟨d1, d4⟩ := label_digits s hs
  have hle := digitsN_le s
  have hdg := fun i h => digit_of s (j := i) h
  have hln : labNum s = numD s (digitsN s) 0 0 := rfl
  have hlt : labTail s = s.extract (digitsN s) s.size := rfl
  rw [hln, hlt]
  simp (dsimp := false) (implicitDefEqProofs := false)
  refine w_calls (inv_of Tryz.func105 rfl rfl (labelMay_ok gl M s hm)) ?_
  rintro _ M ⟨rfl, rfl⟩
  simp (dsimp := false) (implicitDefEqProofs := false) [hs]
  refine w_calls (inv_of Tryz.func155 rfl rfl (digits_ok gl M s hm)) ?_
  rintro _ M ⟨rfl, rfl⟩
  generalize digitsN s = d at *
  simp (dsimp := false) (implicitDefEqProofs := false)
  refine w_looped hB (fun T M1 => ∃ i : Nat, i ≤ d ∧ M1 = M ∧ T 0 = S s ∧ T 5 = I d ∧ T 6 = I i ∧ ∃ n : Int, T 4 = I n ∧ numD s d 0 0 = numD s (d - i) i n ∧ 0 ≤ n ∧ n ≤ 9999 ∧ (i = 0 → n = 0) ∧ (i = 1 → n ≤ 9) ∧ (i = 2 → n ≤ 99) ∧ (i = 3 → n ≤ 999))
    (fun T M1 => match T 6 with | .val (.int _ i) => d - i.toNat | _ => 0) (by kernel_rfl) ?_ ?_
  · exact ⟨0, by omega, rfl, by simp, by simp, by simp, 0, by simp, by simp, by omega, by omega, by omega, by omega, by omega, by omega⟩
  rintro T M1 ⟨i, i1, rfl, t0, t5, t6, n, t4, ho, n1, n2, n3, n4, n5, n6⟩
  by_cases hi : i < d
  · have hi' : (i : Int) < d := by omega
    have his : i < s.size := by omega
    have w1 := wadd1 (i := i) (by omega)
    obtain ⟨d1, d2⟩ := hdg i hi
    have hw : IntKind.u8.wrap (byteAt s i - 48) = byteAt s i - 48 := by rw [IntWalk.u8_in _ ⟨by omega, by omega⟩]
    have wm : IntKind.i64.wrap (10 * n) = 10 * n := wrap_in (by omega) (by omega)
    have wc : IntKind.i64.wrap (byteAt s i - 48) = byteAt s i - 48 := wrap_in (by omega) (by omega)
    have wa : IntKind.i64.wrap (10 * n + (byteAt s i - 48)) = 10 * n + (byteAt s i - 48) := wrap_in (by omega) (by omega)
    rw [show d - i = (d - (i + 1)) + 1 by omega, numD] at ho
    simp (dsimp := false) (implicitDefEqProofs := false) [t0, t5, t6, t4, hi, hi', his, hw, wm, wc, wa, w1, convAV]
    clear wm wa wc hw
    exact ⟨⟨i + 1, by clear w1; omega, rfl, ho, by omega, by clear w1; omega, by clear w1; omega, by clear w1; omega, by clear w1; omega, by clear w1; omega⟩, by clear w1; omega⟩
  · have hi' : ¬ (i : Int) < d := by omega
    rw [show d - i = 0 by omega, numD] at ho
    have hds : (d : Int) ≤ s.size := by omega
    simp (dsimp := false) (implicitDefEqProofs := false) [t0, t5, t6, t4, hi']
    refine w_drawn hB (cfollows gl) (fun _ => 0) (fun _ => 0) (by rfl) (by kernel_rfl) ?_
    simp (dsimp := false) (implicitDefEqProofs := false) [t0, t5, t6, t4, hds, ho]
end
end Go.Abs
end
section
/- The order of siblings (plain law): a strict total order of kinds and labels; labels by their numbers and letters. -/
set_option maxRecDepth 100000
set_option linter.unusedVariables false
namespace Go.Abs

abbrev bl := Op.bytesLess
theorem bl_irrefl : ∀ x, bl x x = false
  | [] => by simp [Op.bytesLess]
  | a :: x => by
    have := bl_irrefl x
    simp [Op.bytesLess, UInt8.lt_irrefl, this]
theorem bl_trans : ∀ x y z, bl x y = true → bl y z = true → bl x z = true
  | [], _, [], h1, h2 => by simp_all [Op.bytesLess]
  | [], _, c :: z, h1, h2 => by simp [Op.bytesLess]
  | a :: x, [], _, h1, h2 => by simp [Op.bytesLess] at h1
  | a :: x, b :: y, [], h1, h2 => by simp [Op.bytesLess] at h2
  | a :: x, b :: y, c :: z, h1, h2 => by
    simp only [Op.bytesLess, Bool.or_eq_true, decide_eq_true_eq, Bool.and_eq_true, beq_iff_eq] at h1 h2 ⊢
    rcases h1 with h1 | ⟨rfl, h1⟩
    · rcases h2 with h2 | ⟨rfl, h2⟩
      · exact .inl (UInt8.lt_trans h1 h2)
      · exact .inl h1
    · rcases h2 with h2 | ⟨rfl, h2⟩
      · exact .inl h2
      · exact .inr ⟨rfl, bl_trans x y z h1 h2⟩
theorem bl_total : ∀ x y, bl x y = false → bl y x = false → x = y
  | [], [], _, _ => rfl
  | [], b :: y, h, _ => by simp [Op.bytesLess] at h
  | a :: x, [], _, h => by simp [Op.bytesLess] at h
  | a :: x, b :: y, h1, h2 => by
    simp only [Op.bytesLess, Bool.or_eq_false_iff, decide_eq_false_iff_not, Bool.and_eq_false_iff, beq_eq_false_iff_ne] at h1 h2
    have e : a = b := by
      have h3 : a.toNat = b.toNat := by
        have := h1.1; have := h2.1
        simp only [UInt8.lt_iff_toNat_lt] at *
        omega
      exact UInt8.toNat_inj.1 h3
    subst e
    rw [bl_total x y (by simpa using h1.2) (by simpa using h2.2)]
theorem bl_asymm (x y : List UInt8) (h : bl x y = true) : bl y x = false := by
  cases e : bl y x with
  | false => rfl
  | true => have := bl_trans x y x h e; rw [bl_irrefl] at this; simp at this

abbrev Key := Int × Int × List UInt8
def ltK (p q : Key) : Prop := p.1 < q.1 ∨ p.1 = q.1 ∧ (p.2.1 < q.2.1 ∨ p.2.1 = q.2.1 ∧ bl p.2.2 q.2.2 = true)
theorem ltK_trans {p q r : Key} (h1 : ltK p q) (h2 : ltK q r) : ltK p r := by
  rcases h1 with h1 | ⟨e1, h1 | ⟨e2, h1⟩⟩ <;> rcases h2 with h2 | ⟨f1, h2 | ⟨f2, h2⟩⟩
  · exact .inl (by omega)
  · exact .inl (by omega)
  · exact .inl (by omega)
  · exact .inl (by omega)
  · exact .inr ⟨by omega, .inl (by omega)⟩
  · exact .inr ⟨by omega, .inl (by omega)⟩
  · exact .inl (by omega)
  · exact .inr ⟨by omega, .inl (by omega)⟩
  · exact .inr ⟨by omega, .inr ⟨by omega, bl_trans _ _ _ h1 h2⟩⟩
theorem ltK_irrefl (p : Key) : ¬ ltK p p := by
  rintro (h | ⟨_, h | ⟨_, h⟩⟩)
  · omega
  · omega
  · rw [bl_irrefl] at h; simp at h
theorem ltK_asymm {p q : Key} (h1 : ltK p q) : ¬ ltK q p := fun h2 => ltK_irrefl p (ltK_trans h1 h2)
theorem ltK_total {p q : Key} (h1 : ¬ ltK p q) (h2 : ¬ ltK q p) : p = q := by
  obtain ⟨a, b, c⟩ := p
  obtain ⟨a', b', c'⟩ := q
  simp only [ltK, not_or, not_and, Bool.not_eq_true] at h1 h2
  have ea : a = a' := by omega
  subst ea
  have eb : b = b' := by have := (h1.2 rfl).1; have := (h2.2 rfl).1; omega
  subst eb
  rw [bl_total c c' ((h1.2 rfl).2 rfl) ((h2.2 rfl).2 rfl)]

theorem num_inj (a b : ByteArray) (ha : labelOk a = true) (hb : labelOk b = true) (h : labNum a = labNum b) : digitsN a = digitsN b ∧ ∀ i, i < digitsN a → byteAt a i = byteAt b i := by
  obtain ⟨a1, a4⟩ := label_digits a ha
  obtain ⟨b1, b4⟩ := label_digits b hb
  have A0 := fun h => digit_of a (j := 0) h
  have A1 := fun h => digit_of a (j := 1) h
  have A2 := fun h => digit_of a (j := 2) h
  have A3 := fun h => digit_of a (j := 3) h
  have B0 := fun h => digit_of b (j := 0) h
  have B1 := fun h => digit_of b (j := 1) h
  have B2 := fun h => digit_of b (j := 2) h
  have B3 := fun h => digit_of b (j := 3) h
  have za : ¬ byteAt a 0 = 48 := by
    simp only [labelOk, Bool.and_eq_true, decide_eq_true_eq, Bool.not_eq_true', decide_eq_false_iff_not] at ha; exact ha.1.1.2
  have zb : ¬ byteAt b 0 = 48 := by
    simp only [labelOk, Bool.and_eq_true, decide_eq_true_eq, Bool.not_eq_true', decide_eq_false_iff_not] at hb; exact hb.1.1.2
  simp only [labNum] at h
  generalize digitsN a = d at *
  generalize digitsN b = e at *
  have hd : d = 1 ∨ d = 2 ∨ d = 3 ∨ d = 4 := by omega
  have he : e = 1 ∨ e = 2 ∨ e = 3 ∨ e = 4 := by omega
  rcases hd with rfl | rfl | rfl | rfl <;> rcases he with rfl | rfl | rfl | rfl <;> simp only [numD, Nat.zero_add, Nat.reduceAdd] at h <;> refine ⟨by omega, fun i hi => ?_⟩ <;>
    (have hi4 : i = 0 ∨ i = 1 ∨ i = 2 ∨ i = 3 := by omega
     rcases hi4 with rfl | rfl | rfl | rfl <;> omega)
theorem ba_ext {a b : ByteArray} (hs : a.size = b.size) (h : ∀ i, i < a.size → byteAt a i = byteAt b i) : a = b := by
  apply ByteArray.ext_getElem hs
  intro i h1 h2
  have := h i h1
  rw [byteAt_get a i h1, byteAt_get b i h2] at this
  exact UInt8.toNat_inj.1 (by omega)
theorem label_inj (a b : ByteArray) (ha : labelOk a = true) (hb : labelOk b = true) (h : labNum a = labNum b) (ht : labTail a = labTail b) : a = b := by
  obtain ⟨hd, hp⟩ := num_inj a b ha hb h
  have la := digitsN_le a
  have lb := digitsN_le b
  have hsz := congrArg ByteArray.size ht
  simp only [labTail, ByteArray.size_extract] at hsz
  refine ba_ext (by omega) fun i hi => ?_
  by_cases c : i < digitsN a
  · exact hp i c
  · have e1 := byteAt_extract (s := a) (i := digitsN a) (j := a.size) (k := i - digitsN a) (by omega) (by omega)
    have e2 := byteAt_extract (s := b) (i := digitsN b) (j := b.size) (k := i - digitsN b) (by omega) (by omega)
    rw [show digitsN a + (i - digitsN a) = i by omega] at e1
    rw [show digitsN b + (i - digitsN b) = i by omega] at e2
    rw [← e1, ← e2, ← hd]
    simp only [labTail] at ht
    rw [ht, hd]
end Go.Abs
end
section
/- Contracts: the comparison of siblings (both ways). -/
set_option maxRecDepth 100000
set_option linter.unusedSimpArgs false
set_option linter.unusedVariables false
namespace Go.Abs
open Go.Proofs TryTypes

def cmpS (a b : ByteArray) : Int := if bl a.toList b.toList = true then -1 else if bl b.toList a.toList = true then 1 else 0
theorem strB_lss {a b : ByteArray} : strB .lss a b = some (.bool (bl a.toList b.toList)) := rfl
theorem strB_gtr {a b : ByteArray} : strB .gtr a b = some (.bool (bl b.toList a.toList)) := by
  simp only [strB, Option.some.injEq, Value.bool.injEq]
  cases h1 : bl a.toList b.toList
  · cases h2 : bl b.toList a.toList
    · have := bl_total _ _ h1 h2
      rw [this]; simp
    · have : ¬ a.toList = b.toList := fun e => by rw [e, bl_irrefl] at h2; simp at h2
      have h1' : Op.bytesLess a.toList b.toList = false := h1
      simp [this, h1']
  · rw [bl_asymm _ _ h1]
    have h1' : Op.bytesLess a.toList b.toList = true := h1
    simp [h1']
def cmpLab (a b : ByteArray) : Int := orL [cmpI (labNum a) (labNum b), cmpS (labTail a) (labTail b)]
def cmpU (a b : UnitD) : Int := orL [cmpI a.kind b.kind, cmpLab a.label b.label]
abbrev keyU (u : UnitD) : Key := (u.kind, labNum u.label, (labTail u.label).toList)
theorem cmpI_neg {x y : Int} : cmpI x y < 0 ↔ x < y := by
  simp only [cmpI]; split
  · omega
  · split <;> omega
theorem cmpI_zero {x y : Int} : cmpI x y = 0 ↔ x = y := by
  simp only [cmpI]; split
  · omega
  · split <;> omega
theorem cmpS_neg {a b : ByteArray} : cmpS a b < 0 ↔ bl a.toList b.toList = true := by
  simp only [cmpS]; split
  · simp_all
  · split <;> simp_all
theorem orL2 {x y : Int} : orL [x, y] = if x = 0 then y else x := by
  simp only [orL]; split
  · split <;> simp_all
  · rfl
theorem cmpU_neg (a b : UnitD) : cmpU a b < 0 ↔ ltK (keyU a) (keyU b) := by
  simp only [cmpU, orL2, cmpLab, ltK]
  by_cases h1 : a.kind = b.kind
  · rw [if_pos (cmpI_zero.2 h1)]
    by_cases h2 : labNum a.label = labNum b.label
    · rw [if_pos (cmpI_zero.2 h2), cmpS_neg]
      constructor
      · intro h; exact .inr ⟨h1, .inr ⟨h2, h⟩⟩
      · rintro (h | ⟨_, h | ⟨_, h⟩⟩)
        · omega
        · omega
        · exact h
    · rw [if_neg (fun e => h2 (cmpI_zero.1 e)), cmpI_neg]
      constructor
      · intro h; exact .inr ⟨h1, .inl h⟩
      · rintro (h | ⟨_, h | ⟨h, _⟩⟩)
        · omega
        · exact h
        · exact absurd h h2
  · rw [if_neg (fun e => h1 (cmpI_zero.1 e)), cmpI_neg]
    constructor
    · intro h; exact .inl h
    · rintro (h | ⟨h, _⟩)
      · exact h
      · exact absurd h h1
section
variable (gl : Nat → AV) (M : Mem)
theorem isNaNS_ok (x : ByteArray) : ACalls (WC gl) 164 [S x] M (fun v M' => v = B false ∧ M' = M) := by
  refine w_body hB Tryz.func164 rfl rfl rfl rfl rfl rfl ?_
  simp (dsimp := false) (implicitDefEqProofs := false)
theorem cmpS_ok (x y : ByteArray) : ACalls (WC gl) 113 [S x, S y] M (fun v M' => v = I (cmpS x y) ∧ M' = M) := by
  refine w_body hB Tryz.func113 rfl rfl rfl rfl rfl rfl ?_
  simp (dsimp := false) (implicitDefEqProofs := false)
  refine w_calls (inv_of Tryz.func164 rfl rfl (isNaNS_ok gl M x)) ?_
  rintro _ _ ⟨rfl, rfl⟩
  simp (dsimp := false) (implicitDefEqProofs := false)
  refine w_calls (inv_of Tryz.func164 rfl rfl (isNaNS_ok gl _ y)) ?_
  rintro _ _ ⟨rfl, rfl⟩
  cases h1 : bl x.toList y.toList
  · cases h2 : bl y.toList x.toList
    · simp (dsimp := false) (implicitDefEqProofs := false) [strB_lss, strB_gtr, h1, h2, cmpS]
    · simp (dsimp := false) (implicitDefEqProofs := false) [strB_lss, strB_gtr, h1, h2, cmpS]
  · simp (dsimp := false) (implicitDefEqProofs := false) [strB_lss, strB_gtr, h1, cmpS]
theorem labCmp_ok (a b : ByteArray) (ha : labelOk a = true) (hb : labelOk b = true) : ACalls (WC gl) 57 [S a, S b] M (fun v M' => v = I (cmpLab a b) ∧ M' = M) := by
  refine grow_cutB (fun n => trivial) ?_
  refine w_body hB Tryz.func57 rfl rfl rfl rfl rfl rfl ?_
  simp (dsimp := false) (implicitDefEqProofs := false)
  refine w_calls (inv_of Tryz.func112 rfl rfl (Valid_ok gl M a)) ?_
  rintro _ M1 ⟨rfl, g1⟩
  simp (dsimp := false) (implicitDefEqProofs := false)
  refine w_calls (inv_of Tryz.func112 rfl rfl (Valid_ok gl M1 b)) ?_
  rintro _ M2 ⟨rfl, g2⟩
  simp (dsimp := false) (implicitDefEqProofs := false) [ha, hb]
  refine w_calls (inv_of Tryz.func114 rfl rfl (split_ok gl M2 a ha)) ?_
  rintro _ M2 ⟨rfl, rfl⟩
  simp (dsimp := false) (implicitDefEqProofs := false)
  refine w_calls (inv_of Tryz.func114 rfl rfl (split_ok gl M2 b hb)) ?_
  rintro _ M2 ⟨rfl, rfl⟩
  simp (dsimp := false) (implicitDefEqProofs := false)
  refine w_calls (inv_of Tryz.func56 rfl rfl (cmp_ok gl M2 (labNum a) (labNum b))) ?_
  rintro _ M2 ⟨rfl, rfl⟩
  simp (dsimp := false) (implicitDefEqProofs := false)
  refine w_calls (inv_of Tryz.func113 rfl rfl (cmpS_ok gl M2 (labTail a) (labTail b))) ?_
  rintro _ M2 ⟨rfl, rfl⟩
  simp (dsimp := false) (implicitDefEqProofs := false) [buildSliceAV, rowsGo, int_st, int_cs]
  refine w_calls (inv_of Tryz.func55 rfl rfl (or_ok gl M2 [cmpI (labNum a) (labNum b), cmpS (labTail a) (labTail b)] (by simp))) ?_
  rintro _ M2 ⟨rfl, rfl⟩
  simp (dsimp := false) (implicitDefEqProofs := false) [cmpLab, g1.trans g2]
theorem cmpU_ok (a b : UnitD) (ha : labelOk a.label = true) (hb : labelOk b.label = true) : ACalls (WC gl) 54 [.agg a.row, .agg b.row] M (fun v M' => v = I (cmpU a b) ∧ M' = M) := by
  rw [a.row_eq, b.row_eq]
  refine w_body hB Tryz.func54 rfl rfl rfl rfl rfl rfl ?_
  simp (dsimp := false) (implicitDefEqProofs := false)
  refine w_drawn hB (cfollows gl) (fun _ => 0) (fun _ => 0) (by rfl) (by kernel_rfl) ?_
  simp (dsimp := false) (implicitDefEqProofs := false)
  refine w_call0 (fun M => inv_of Tryz.func56 rfl rfl (cmp_ok gl M a.kind b.kind)) ?_
  simp (dsimp := false) (implicitDefEqProofs := false)
  refine w_call0 (fun M => inv_of Tryz.func57 rfl rfl (labCmp_ok gl M a.label b.label ha hb)) ?_
  simp (dsimp := false) (implicitDefEqProofs := false) [buildSliceAV, rowsGo, int_st, int_cs]
  refine w_call0 (fun M => inv_of Tryz.func55 rfl rfl (or_ok gl M [cmpI a.kind b.kind, cmpLab a.label b.label] (by simp))) ?_
  simp (dsimp := false) (implicitDefEqProofs := false) [cmpU]
def ltLab (a b : ByteArray) : Prop := labNum a < labNum b ∨ labNum a = labNum b ∧ bl (labTail a).toList (labTail b).toList = true
theorem rCompare_ok (a b : ByteArray) (ha : labelOk a = true) (hb : labelOk b = true) (hma : a.size ≤ maxLen) (hmb : b.size ≤ maxLen) : ACalls (WC gl) 95 [S a, S b] M (fun v M' => (∃ z : Int, v = I z ∧ (z < 0 ↔ ltLab a b)) ∧ M' = M) := by
  refine w_body hB Tryz.func95 rfl rfl rfl rfl rfl rfl ?_
  by_cases h0 : a = b
  · subst h0
    have hn : ¬ ltLab a a := by
      rintro (h | ⟨_, h⟩)
      · omega
      · rw [bl_irrefl] at h; simp at h
    simp (dsimp := false) (implicitDefEqProofs := false) [hn]
  simp (dsimp := false) (implicitDefEqProofs := false) [h0, strB_lss]
  refine w_calls (inv_of Tryz.func105 rfl rfl (labelMay_ok gl M a hma)) ?_
  rintro _ M ⟨rfl, rfl⟩
  simp (dsimp := false) (implicitDefEqProofs := false) [ha]
  refine w_calls (inv_of Tryz.func105 rfl rfl (labelMay_ok gl M b hmb)) ?_
  rintro _ M ⟨rfl, rfl⟩
  simp (dsimp := false) (implicitDefEqProofs := false) [hb]
  refine w_calls (inv_of Tryz.func145 rfl rfl (rSplit_ok gl M a ha hma)) ?_
  rintro _ M ⟨rfl, rfl⟩
  simp (dsimp := false) (implicitDefEqProofs := false)
  refine w_calls (inv_of Tryz.func145 rfl rfl (rSplit_ok gl M b hb hmb)) ?_
  rintro _ M ⟨rfl, rfl⟩
  by_cases c1 : labNum a < labNum b
  · have hl : ltLab a b := .inl c1
    simp (dsimp := false) (implicitDefEqProofs := false) [c1, hl]
  by_cases c2 : labNum a = labNum b
  · cases c3 : bl (labTail a).toList (labTail b).toList
    · have hl : ¬ ltLab a b := by
        rintro (h | ⟨_, h⟩)
        · exact c1 h
        · rw [c3] at h; simp at h
      have c1' : ¬ labNum b < labNum b := by omega
      simp (dsimp := false) (implicitDefEqProofs := false) [c1, c1', c2, c3, hl, strB_lss]
    · have hl : ltLab a b := .inr ⟨c2, c3⟩
      have c1' : ¬ labNum b < labNum b := by omega
      simp (dsimp := false) (implicitDefEqProofs := false) [c1, c1', c2, c3, hl, strB_lss]
  · have hl : ¬ ltLab a b := by
      rintro (h | ⟨h, _⟩)
      · exact c1 h
      · exact c2 h
    simp (dsimp := false) (implicitDefEqProofs := false) [c1, c2, hl]
theorem rAhead_ok (a b : UnitD) (ha : labelOk a.label = true) (hb : labelOk b.label = true) (hma : a.label.size ≤ maxLen) (hmb : b.label.size ≤ maxLen) : ACalls (WC gl) 115 [.agg a.row, .agg b.row] M (fun v M' => (∃ z : Bool, v = B z ∧ (z = true ↔ ltK (keyU a) (keyU b))) ∧ M' = M) := by
  rw [a.row_eq, b.row_eq]
  refine w_body hB Tryz.func115 rfl rfl rfl rfl rfl rfl ?_
  by_cases c1 : a.kind = b.kind
  · simp (dsimp := false) (implicitDefEqProofs := false) [c1]
    refine w_calls (inv_of Tryz.func95 rfl rfl (rCompare_ok gl M a.label b.label ha hb hma hmb)) ?_
    rintro _ M ⟨⟨z, rfl, hz⟩, rfl⟩
    have he : ltK (keyU a) (keyU b) ↔ ltLab a.label b.label := by
      simp only [ltK, ltLab, c1]
      constructor
      · rintro (h | ⟨_, h⟩)
        · omega
        · exact h
      · intro h; exact .inr ⟨trivial, h⟩
    simp (dsimp := false) (implicitDefEqProofs := false) [he, hz]
  · have he : ltK (keyU a) (keyU b) ↔ a.kind < b.kind := by
      simp only [ltK]
      constructor
      · rintro (h | ⟨h, _⟩)
        · exact h
        · exact absurd h c1
      · intro h; exact .inl h
    simp (dsimp := false) (implicitDefEqProofs := false) [c1, he]
end
end Go.Abs
end
section
/- Siblings in order, and the slots of a tree (plain law). -/
set_option maxRecDepth 100000
set_option linter.unusedVariables false
namespace Go.Abs

def ltB (a b : UnitD) : Bool := decide (cmpU a b < 0)
theorem ltB_iff (a b : UnitD) : ltB a b = true ↔ ltK (keyU a) (keyU b) := by simp only [ltB, decide_eq_true_eq]; exact cmpU_neg a b
def insK (x : UnitD) (l : List UnitD) : List UnitD := l.take (l.findIdx (ltB x)) ++ x :: l.drop (l.findIdx (ltB x))
def sortK (ks : List UnitD) : List UnitD := ks.foldl (fun acc x => insK x acc) []
theorem insK_perm (x : UnitD) (l : List UnitD) : (insK x l).Perm (x :: l) := by
  have := List.perm_middle (a := x) (l₁ := l.take (l.findIdx (ltB x))) (l₂ := l.drop (l.findIdx (ltB x)))
  rw [List.take_append_drop] at this
  exact this
theorem insK_len (x : UnitD) (l : List UnitD) : (insK x l).length = l.length + 1 := by rw [(insK_perm x l).length_eq]; rfl
theorem foldK_perm : ∀ (ks acc : List UnitD), (ks.foldl (fun acc x => insK x acc) acc).Perm (acc ++ ks)
  | [], acc => by simp
  | k :: ks, acc => by
    refine (foldK_perm ks (insK k acc)).trans ?_
    refine ((insK_perm k acc).append_right ks).trans ?_
    exact (List.perm_middle (a := k) (l₁ := acc) (l₂ := ks)).symm
theorem sortK_perm (ks : List UnitD) : (sortK ks).Perm ks := by have := foldK_perm ks []; rw [List.nil_append] at this; exact this
theorem sortK_len (ks : List UnitD) : (sortK ks).length = ks.length := (sortK_perm ks).length_eq
theorem sortK_next (ks : List UnitD) {i : Nat} (h : i < ks.length) : sortK (ks.take (i + 1)) = insK ks[i] (sortK (ks.take i)) := by
  rw [List.take_add_one, List.getElem?_eq_getElem h, Option.toList_some, sortK, List.foldl_append]; rfl
/-- strictly sorted -/
def SrtK (l : List UnitD) : Prop := l.Pairwise fun a b => ltK (keyU a) (keyU b)
theorem insK_srt (x : UnitD) (l : List UnitD) (h : SrtK l) (hd : ∀ y ∈ l, keyU x ≠ keyU y) : SrtK (insK x l) := by
  have hle : l.findIdx (ltB x) ≤ l.length := List.findIdx_le_length
  have h1 : SrtK (l.take (l.findIdx (ltB x)) ++ l.drop (l.findIdx (ltB x))) := by rw [List.take_append_drop]; exact h
  unfold SrtK insK at *
  rw [List.pairwise_append] at h1 ⊢
  refine ⟨h1.1, ?_, ?_⟩
  · rw [List.pairwise_cons]
    refine ⟨fun y hy => ?_, h1.2.1⟩
    by_cases e : l.findIdx (ltB x) < l.length
    · have h2 := List.findIdx_getElem (w := e)
      rw [List.drop_eq_getElem_cons e] at hy h1
      rcases List.mem_cons.1 hy with rfl | hy
      · exact (ltB_iff _ _).1 h2
      · exact ltK_trans ((ltB_iff _ _).1 h2) ((List.pairwise_cons.1 h1.2.1).1 y hy)
    · rw [List.drop_eq_nil_of_le (by omega)] at hy; simp at hy
  · intro a ha b hb
    rcases List.mem_cons.1 hb with rfl | hb
    · obtain ⟨i, hi, e⟩ := List.mem_iff_getElem.1 ha
      have hi2 : i < l.findIdx (ltB b) := by simp at hi; omega
      have hn := List.not_of_lt_findIdx hi2
      rw [List.getElem_take] at e
      have hnl : ¬ ltK (keyU b) (keyU a) := fun hl => by rw [← e] at hl; rw [(ltB_iff _ _).2 hl] at hn; simp at hn
      refine Classical.byContradiction fun hc => hd a (List.mem_of_mem_take ha) ?_
      exact (ltK_total hc hnl).symm
    · exact h1.2.2 a ha b hb
theorem foldK_srt : ∀ (ks acc : List UnitD), SrtK acc → (acc ++ ks).Pairwise (fun a b => keyU a ≠ keyU b) → SrtK (ks.foldl (fun acc x => insK x acc) acc)
  | [], acc, h, _ => h
  | k :: ks, acc, h, hd => by
    refine foldK_srt ks (insK k acc) (insK_srt k acc h fun y hy e => ?_) ?_
    · rw [List.pairwise_append] at hd
      exact hd.2.2 y hy k (by simp) e.symm
    · have hp : (acc ++ k :: ks).Perm (insK k acc ++ ks) := List.perm_middle.trans ((insK_perm k acc).symm.append_right ks)
      exact (List.Perm.pairwise_iff (fun {a b} (h : keyU a ≠ keyU b) => h.symm) hp).1 hd
theorem sortK_srt (ks : List UnitD) (hd : ks.Pairwise fun a b => keyU a ≠ keyU b) : SrtK (sortK ks) := foldK_srt ks [] .nil (by simpa using hd)
/-- a strictly sorted list is known by its members -/
theorem srt_unique {l m : List UnitD} (hp : l.Perm m) (hl : SrtK l) (hm : SrtK m) : l = m :=
  List.Perm.eq_of_pairwise (le := fun a b => ltK (keyU a) (keyU b)) (fun a b _ _ h1 h2 => absurd h2 (ltK_asymm h1)) hl hm hp
/-- a list with no pair out of order, of distinct keys -/
theorem srt_of {l : List UnitD} (h : l.Pairwise fun a b => ¬ ltK (keyU b) (keyU a)) (hd : l.Pairwise fun a b => keyU a ≠ keyU b) : SrtK l := by
  refine (h.and hd).imp ?_
  rintro a b ⟨h1, h2⟩
  exact Classical.byContradiction fun hc => h2 (ltK_total hc h1)

theorem countL_perm {l m : List UnitD} (h : l.Perm m) : countL l = countL m := by
  induction h with
  | nil => rfl
  | cons x _ ih => rw [countL, countL, ih]
  | swap x y l => rw [countL, countL, countL, countL]; omega
  | trans _ _ h1 h2 => omega
theorem countN_eq (u : UnitD) : countN u = 1 + countL u.kids := by obtain ⟨a, b, c, d, e, f⟩ := u; rw [countN]; rfl
/-- the slots of units and of what lies below them, in order -/
def slotsL (ks : List UnitD) (l : List SlotD) (p : Int) : List SlotD := match ks with
  | [] => l
  | k :: ks => slotsL ks (slotsL (sortK k.kids) (l ++ [⟨k.id, p, k.label⟩]) l.length) p
termination_by countL ks
decreasing_by
  · rw [countL_perm (sortK_perm k.kids), countL, countN_eq k]; omega
  · rw [countL, countN_eq k]; omega
theorem slotsL_len (ks : List UnitD) (l : List SlotD) (p : Int) : (slotsL ks l p).length = l.length + countL ks := match ks with
  | [] => by rw [slotsL, countL]; rfl
  | k :: ks => by
    rw [slotsL, slotsL_len ks, slotsL_len (sortK k.kids), countL, countL_perm (sortK_perm k.kids), countN_eq k]
    simp only [List.length_append, List.length_cons, List.length_nil]
    omega
termination_by countL ks
decreasing_by
  · rw [countL, countN_eq k]; omega
  · rw [countL_perm (sortK_perm k.kids), countL, countN_eq k]; omega
mutual
/-- labels of what lies below -/
def labsU : UnitD → Prop
  | .mk _ _ _ _ _ ks => labsL ks ∧ ks.Pairwise fun a b => keyU a ≠ keyU b
def labsL : List UnitD → Prop
  | [] => True
  | k :: ks => (labelOk k.label = true ∧ labsU k) ∧ labsL ks
end
theorem labsL_iff : ∀ {l : List UnitD}, labsL l ↔ ∀ u ∈ l, labelOk u.label = true ∧ labsU u
  | [] => by simp [labsL]
  | u :: l => by simp [labsL, labsL_iff (l := l)]
end Go.Abs
end
section
/- Contracts: the slots of a tree in order (the reference's). -/
set_option maxRecDepth 100000
set_option linter.unusedSimpArgs false
set_option linter.unusedVariables false
namespace Go.Abs
open Go.Proofs TryTypes

theorem vbuild25z {M : Mem} : vbuildAV Tryz.prog 25 0 [] M = some (.vref M.length 0 8 0 0, M ++ [.vec 27 8 [] 0 [(0, 0)]]) := by simp [vbuildAV, rowsGo]
theorem vbuild28z {M : Mem} : vbuildAV Tryz.prog 28 0 [] M = some (.vref M.length 0 5 0 0, M ++ [.vec 69 5 [] 0 [(0, 0)]]) := by simp [vbuildAV, rowsGo]
theorem OwnR.new0 {α : Type} {e sz : Nat} {enc : α → List AV} {M : Mem} : OwnR e sz enc (M ++ [.vec e sz [] 0 [(0, 0)]]) (.vref M.length 0 sz 0 0) ([] : List α) := .inr ⟨M.length, 0, [(0, 0)], rfl, by simp, rfl⟩
section
variable (gl : Nat → AV) (M : Mem)
theorem rAhead2_ok (a b : UnitD) (ha : labelOk a.label = true) (hb : labelOk b.label = true) (hma : a.label.size ≤ maxLen) (hmb : b.label.size ≤ maxLen) : ACalls (WC gl) 115 [.agg a.row, .agg b.row] M (fun v M' => v = B (ltB a b) ∧ M' = M) := by
  refine (rAhead_ok gl M a b ha hb hma hmb).mono ?_
  rintro _ _ ⟨⟨z, rfl, hz⟩, rfl⟩
  refine ⟨?_, rfl⟩
  have : z = ltB a b := by rw [Bool.eq_iff_iff, hz, ltB_iff]
  rw [this]
end
section
variable {α : Type} {e sz : Nat} {enc : α → List AV} {M : Mem} {v : AV} {l : List α} {P : Program} {t : TypeId}
/-- a front of it -/
theorem OwnR.front (h : OwnR e sz enc M v l) (he : ∀ x, (enc x).length = sz) (ht : elemOf? P t = some e) (hs : szOf P e = some sz) {k : Nat} (hk : k ≤ l.length) (hv : ∃ f, obj v = some f) :
    ∃ w, slice2 P t v none (some (I k)) none = some w ∧ srcCells M sz w = some ((l.take k).flatMap enc, (l.take k).length) := by
  rcases h with ⟨rfl, rfl⟩ | ⟨f', g, hist, rfl, hm, hl⟩
  · obtain ⟨f, hf⟩ := hv; simp at hf
  · refine ⟨.vref f' g sz 0 k, ?_, ?_⟩
    · simp [slice2, vsliceAV, ht, hs, mxIdx, sliceIdx, loIdx, hk]
    · simp only [srcCells, hm, hl]
      rw [if_pos ⟨trivial, trivial, by omega⟩, Nat.zero_mul, List.drop_zero, flat_take he, List.length_take, Nat.min_eq_left hk]
theorem OwnR.rest (h : OwnR e sz enc M v l) (he : ∀ x, (enc x).length = sz) (ht : elemOf? P t = some e) (hs : szOf P e = some sz) {k : Nat} (hk : k ≤ l.length) (hv : ∃ f, obj v = some f) :
    ∃ w, slice2 P t v (some (I k)) none none = some w ∧ srcCells M sz w = some ((l.drop k).flatMap enc, (l.drop k).length) := by
  rcases h with ⟨rfl, rfl⟩ | ⟨f', g, hist, rfl, hm, hl⟩
  · obtain ⟨f, hf⟩ := hv; simp at hf
  · refine ⟨.vref f' g sz k (l.length - k), ?_, ?_⟩
    · simp [slice2, vsliceAV, ht, hs, mxIdx, sliceIdx, loIdx, hk]
    · simp only [srcCells, hm, hl]
      rw [if_pos ⟨trivial, trivial, by omega⟩, flat_drop he, List.length_drop, List.take_of_length_le (by rw [flat_len he, List.length_drop]; exact Nat.le_refl _)]
theorem OwnR.cells_at (h : OwnR e sz enc M v l) (he : ∀ x, (enc x).length = sz) {i : Nat} (hi : i < l.length) : ∃ f g, v = .vref f g sz 0 l.length ∧ ∀ o, o ≤ sz → memOf M (.vptr f g (i * sz + o)) = some ((enc l[i]).drop o ++ (l.drop (i + 1)).flatMap enc) := by
  rcases h with ⟨rfl, rfl⟩ | ⟨f, g, hist, rfl, hm, hl⟩
  · simp at hi
  · refine ⟨f, g, rfl, fun o ho => ?_⟩
    simp only [memOf, hm, hl]
    rw [List.take_of_length_le (by rw [flat_len he]; exact Nat.le_refl _), ← List.drop_drop, flat_drop he, List.drop_eq_getElem_cons hi, List.flatMap_cons, List.drop_append, he, Nat.sub_eq_zero_of_le ho, List.drop_zero]
end
theorem KeepsBut.chain {o o' : Option Nat} {A B C : Mem} (h1 : KeepsBut o A B) (h2 : KeepsBut o' B C) (h : o' = o ∨ ∀ g, o' = some g → A.length ≤ g) : KeepsBut o A C :=
  ⟨Nat.le_trans h1.1 h2.1, fun i hi ho => (h2.2 i (Nat.lt_of_lt_of_le hi h1.1) (fun e => by
    rcases h with h | h
    · exact ho (h ▸ e)
    · have := h i e; omega)).trans (h1.2 i hi ho)⟩
section
variable (gl : Nat → AV)
theorem build69 {a b c p : Int} {s : ByteArray} : buildAV Tryz.prog 69 [(0, .agg [I a, I b, I c]), (1, I p), (2, S s)] = some (.agg [I a, I b, I c, I p, S s]) := by
  simp [buildAV, buildGo, putCells, overwrite, agg_cs]
set_option maxHeartbeats 10000000 in
theorem rSorted_ok : ∀ (N : Nat) (u : UnitD) (l : List SlotD) (p : Int) (v : AV) (M : Mem), countN u ≤ N → u.good → labsU u → l.length + countN u ≤ 1000 → OwnR 69 5 SlotD.row M v l →
    ACalls (WC gl) 58 [v, .agg u.row, I p] M (fun r M' => OwnR 69 5 SlotD.row M' r (slotsL (sortK u.kids) l p) ∧ KeepsBut (obj v) M M' ∧ (obj r = obj v ∨ Later M.length r))
  | 0, u, l, p, v, M, hN, _, _, _, _ => by have := countN_pos u; omega
  | N + 1, u, l, p, v, M, hN, hg, hlab, hln, hv => by
    obtain ⟨_, _, _, _, _, _, _, hkn, hkg⟩ := (UnitD.good_iff _).1 hg
    have hcu := countN_eq u
    obtain ⟨uid, ukind, ulab, uhd, uws, ks⟩ := u
    have hkg : ∀ k ∈ ks, k.good := hkg
    have hcu : countN (.mk uid ukind ulab uhd uws ks) = 1 + countL ks := hcu
    rw [labsU] at hlab
    obtain ⟨hlb, hdist⟩ := hlab
    have hlb := labsL_iff.1 hlb
    have hkl := countL_len ks
    show ACalls (WC gl) 58 [v, .agg (UnitD.mk uid ukind ulab uhd uws ks).row, I p] M (fun r M' => OwnR 69 5 SlotD.row M' r (slotsL (sortK ks) l p) ∧ KeepsBut (obj v) M M' ∧ (obj r = obj v ∨ Later M.length r))
    rw [UnitD.row]
    refine w_body (hQ [11, 38, 42, 49, 53, 74]) Tryz.func58 rfl rfl rfl rfl rfl rfl ?_
    obtain ⟨U, hU⟩ : ∃ U, U = [I uid.act, I uid.item, I uid.n, I ukind, S ulab, .list 4 (rowsW uhd) .no, .list 4 (rowsW uws) .no, .list 8 (rowsU ks) .no] := ⟨_, rfl⟩
    have hU5 : U[7]? = some (.list 8 (rowsU ks) .no) := by rw [hU]; rfl
    simp (dsimp := false) (implicitDefEqProofs := false) [vbuild25z]
    refine w_cutE (.exit 0) (fun T M1 => ∃ kv : AV, T 0 = v ∧ T 2 = I p ∧ T 7 = kv ∧ OwnR 27 8 UnitD.row M1 kv (sortK ks) ∧ Later M.length kv ∧ (∃ f, obj kv = some f) ∧ Grow M M1) ?_ ?_
    · refine w_looped (hQ [11, 38, 42, 49, 53, 74]) (fun T M1 => ∃ (i : Nat) (kv : AV), i ≤ ks.length ∧ T 0 = v ∧ T 2 = I p ∧ T 4 = .cptr [I uid.act, I uid.item, I uid.n, I ukind, S ulab, .list 4 (rowsW uhd) .no, .list 4 (rowsW uws) .no, .list 8 (rowsU ks) .no] ∧ T 7 = kv ∧ T 8 = I i ∧ OwnR 27 8 UnitD.row M1 kv (sortK (ks.take i)) ∧ Later M.length kv ∧ (∃ f, obj kv = some f) ∧ Grow M M1)
        (fun T M1 => match T 8 with | .val (.int _ i) => ks.length - i.toNat | _ => 0) (by kernel_rfl) ?_ ?_
      · exact ⟨0, _, by omega, by simp, by simp, by simp, rfl, by simp, by simp only [List.take_zero]; exact OwnR.new0, by intro f hf; simp at hf; omega, by simp, KeepsBut.app _ _ _⟩
      rintro T M1 ⟨i, kv, i1, t0, t2, t4, t7, t8, hk, hkl, ⟨f, hf⟩, hgr⟩
      by_cases hi : i < ks.length
      case neg =>
        have hi' : ¬ (i : Int) < ks.length := by omega
        obtain rfl : i = ks.length := by omega
        rw [List.take_length] at hk
        simp (dsimp := false) (implicitDefEqProofs := false) [t0, t2, t4, t7, t8, hi']
        exact ⟨hk, hkl, ⟨f, hf⟩, hgr⟩
      have hklen : lenAV Tryz.prog 25 kv = some (sortK (ks.take i)).length := hk.len (e' := 27) (by simp)
      have hsl : (sortK (ks.take i)).length = i := by rw [sortK_len, List.length_take]; omega
      have hi' : (i : Int) < ks.length := by omega
      have w1 := wadd1 (i := i) (by omega)
      have hmem : ks[i] ∈ ks := List.getElem_mem hi
      obtain ⟨hlx, _⟩ := hlb _ hmem
      have hxm := ((UnitD.good_iff _).1 (hkg _ hmem)).2.2.1
      have hmk : ∀ y ∈ sortK (ks.take i), y ∈ ks := fun y hy => List.mem_of_mem_take ((sortK_perm _).mem_iff.1 hy)
      have hnext := sortK_next ks hi
      generalize sortK (ks.take i) = K at *
      obtain ⟨x, hx⟩ : ∃ x, x = ks[i] := ⟨_, rfl⟩
      rw [← hx] at hlx hxm hnext
      have hxe := hx.symm
      simp (dsimp := false) (implicitDefEqProofs := false) [t0, t2, t4, t7, t8, hi']
      refine w_cutE (.exit 2) (fun T M2 => T 0 = v ∧ T 2 = I p ∧ T 4 = .cptr [I uid.act, I uid.item, I uid.n, I ukind, S ulab, .list 4 (rowsW uhd) .no, .list 4 (rowsW uws) .no, .list 8 (rowsU ks) .no] ∧ T 7 = kv ∧ T 8 = I i ∧ T 9 = I (K.findIdx (ltB x)) ∧ M2 = M1) ?_ ?_
      · refine w_looped (hQ [11, 38, 42, 49, 53, 74]) (fun T2 M2 => ∃ j : Nat, j ≤ K.length ∧ T2 0 = v ∧ T2 2 = I p ∧ T2 4 = .cptr [I uid.act, I uid.item, I uid.n, I ukind, S ulab, .list 4 (rowsW uhd) .no, .list 4 (rowsW uws) .no, .list 8 (rowsU ks) .no] ∧ T2 7 = kv ∧ T2 8 = I i ∧ T2 9 = I j ∧ M2 = M1 ∧ ∀ q, (hq : q < K.length) → q < j → ltB x K[q] = false)
          (fun T M1 => match T 9 with | .val (.int _ i) => K.length - i.toNat | _ => 0) (by kernel_rfl) ?_ ?_
        · exact ⟨0, by omega, by simp [t0], by simp [t2], by simp [t4], by simp [t7], by simp [t8], by simp, rfl, by omega⟩
        rintro T2 M2 ⟨j, j1, u0, u2, u4, u7, u8, u9, rfl, hb⟩
        simp (dsimp := false) (implicitDefEqProofs := false)
        refine w_drawn (hQ [11, 38, 42, 49, 53, 74]) (cfollows gl) (fun k => if k = 13 then 1 else 0) (fun _ => f) (by rfl) (by kernel_rfl) ?_
        by_cases hj : j < K.length
        case neg =>
          have hj' : ¬ (j : Int) < K.length := by omega
          have hfi : K.findIdx (ltB x) = j := by
            rw [show j = K.length by omega, List.findIdx_eq_length]
            intro y hy
            obtain ⟨q, hq, rfl⟩ := List.mem_iff_getElem.1 hy
            exact hb q hq (by omega)
          simp (dsimp := false) (implicitDefEqProofs := false) [u0, u2, u4, u7, u8, u9, hklen, hj', hfi]
        have hj' : (j : Int) < K.length := by omega
        have w2 := wadd1 (i := j) (by omega)
        obtain ⟨q, p1, _, p2, po⟩ := hk.at_ (P := Tryz.prog) (t := 27) (fun _ => by simp) (by simp) (by simp) hj
        rw [hf] at po
        have hy := hmk _ (List.getElem_mem hj)
        obtain ⟨hly, _⟩ := hlb _ hy
        have hym := ((UnitD.good_iff _).1 (hkg _ hy)).2.2.1
        simp (dsimp := false) (implicitDefEqProofs := false) [u0, u2, u4, u7, u8, u9, hklen, hj', hi, hi', hxe, p1, p2, po]
        refine w_call0 (fun M => inv_of Tryz.func115 rfl rfl (rAhead2_ok gl M x K[j] hlx hly hxm hym)) ?_
        cases hlt : ltB x K[j] with
        | true =>
          have hfi : K.findIdx (ltB x) = j := (List.findIdx_eq hj).2 ⟨hlt, fun q hq => hb q (by omega) hq⟩
          simp (dsimp := false) (implicitDefEqProofs := false) [u0, u2, u4, u7, u8, u9, hfi]
        | false =>
          simp (dsimp := false) (implicitDefEqProofs := false) [u0, u2, u4, u7, u8, u9, w2]
          exact ⟨⟨j + 1, by clear w1 w2; omega, rfl, fun q hq h => by
            by_cases e : q = j
            · subst e; exact hlt
            · exact hb q hq (by clear w1 w2; omega)⟩, by clear w1 w2; omega⟩
      have s8 := t8
      clear t0 t2 t4 t7 t8
      rintro T M2 ⟨t0, t2, t4, t7, t8, t9, rfl⟩
      have hle : K.findIdx (ltB x) ≤ K.length := List.findIdx_le_length
      have hins : insK x K = K.take (K.findIdx (ltB x)) ++ x :: K.drop (K.findIdx (ltB x)) := rfl
      generalize K.findIdx (ltB x) = j at *
      obtain ⟨wf, wf1, wf2⟩ := hk.front (P := Tryz.prog) (t := 25) (fun _ => by simp) (by simp) (by simp) hle ⟨f, hf⟩
      obtain ⟨wr, wr1, wr2⟩ := hk.rest (P := Tryz.prog) (t := 25) (fun _ => by simp) (by simp) (by simp) hle ⟨f, hf⟩
      simp (dsimp := false) (implicitDefEqProofs := false)
      refine w_drawn (hQ [11, 38, 42, 49, 53, 74]) (cfollows gl) (fun k => if k = 0 ∨ k = 4 ∨ k = 11 ∨ k = 15 then 2 else 0) (fun _ => f) (by rfl) (by kernel_rfl) ?_
      simp (dsimp := false) (implicitDefEqProofs := false) [t0, t2, t4, t7, t8, t9, vbuild25z, wf1]
      have hflt := hk.lt hf
      refine pushR (C := WC gl) (enc := UnitD.row) (e := 27) (sz := 8) (news := K.take j) elem25 src25 eok27 (fun _ => by simp) (OwnR.new0 (M := M2)) (by
        have hk' := hk.keep (KeepsBut.app none M2 [AObj.vec 27 8 [] 0 [(0, 0)]]) (by simp)
        obtain ⟨wf', wf1', wf2'⟩ := hk'.front (P := Tryz.prog) (t := 25) (fun _ => by simp) (by simp) (by simp) hle ⟨f, hf⟩
        rw [wf1] at wf1'
        obtain rfl := Option.some.inj wf1'
        exact wf2') (by simp; omega) rfl ?_
      intro v1 M3 a1 a2 a3 _
      have hg3 : Grow M2 M3 := ⟨by have := a2.1; simp at this; omega, fun q hq _ => by rw [a2.2 q (by simp; omega) (by simp; omega), List.getElem?_append_left hq]⟩
      have hv1 : Later M2.length v1 := fun q hq => by
        rcases a3 with e | e
        · rw [e] at hq; simp at hq; omega
        · have := e q hq; simp at this; omega
      simp (dsimp := false) (implicitDefEqProofs := false) [t0, t2, t4, t7, t8, t9, hi, hi', hxe, buildSliceAV, rowsGo, agg_st, agg_cs]
      refine pushR (C := WC gl) (enc := UnitD.row) (e := 27) (sz := 8) (news := [x]) elem25 src25 eok27 (fun _ => by simp) a1 (by simp [srcCells]) (by simp; omega) rfl ?_
      intro v2 M4 b1 b2 b3 _
      have hg4 : Grow M2 M4 := hg3.chain b2 (.inr hv1)
      have hv2 : Later M2.length v2 := fun q hq => by
        rcases b3 with e | e
        · rw [e] at hq; exact hv1 q hq
        · have := e q hq; have := hg3.1; omega
      simp (dsimp := false) (implicitDefEqProofs := false) [t0, t2, t4, t7, t8, t9, wr1]
      refine pushR (C := WC gl) (enc := UnitD.row) (e := 27) (sz := 8) (news := K.drop j) elem25 src25 eok27 (fun _ => by simp) b1 (by
        have hk' := hk.keep hg4 (by simp)
        obtain ⟨wr', wr1', wr2'⟩ := hk'.rest (P := Tryz.prog) (t := 25) (fun _ => by simp) (by simp) (by simp) hle ⟨f, hf⟩
        rw [wr1] at wr1'
        obtain rfl := Option.some.inj wr1'
        exact wr2') (by simp; omega) rfl ?_
      intro v3 M5 c1 c2 c3 _
      have hg5 : Grow M2 M5 := hg4.chain c2 (.inr hv2)
      have hv3 : Later M2.length v3 := fun q hq => by
        rcases c3 with e | e
        · rw [e] at hq; exact hv2 q hq
        · have := e q hq; have := hg4.1; omega
      have hob : ∃ q, obj v3 = some q := by
        rcases c1 with ⟨_, h⟩ | ⟨q, g, hist, rfl, _, _⟩
        · simp at h
        · exact ⟨q, rfl⟩
      have hfin : OwnR 27 8 UnitD.row M5 v3 (sortK (ks.take (i + 1))) := by rw [hnext, hins]; simpa using c1
      simp (dsimp := false) (implicitDefEqProofs := false) [t0, t2, t4, t7, t8, t9, w1]
      exact ⟨⟨i + 1, by clear w1; omega, rfl, hfin, fun q hq => by have := hv3 q hq; have := hgr.1; clear w1; omega, hob, hgr.trans hg5⟩, by clear w1; rw [s8]; show ks.length - (i + 1) < ks.length - (i : Int).toNat; omega⟩
    · rintro T M1 ⟨kv, t0, t2, t7, hk, hkl, ⟨f, hf⟩, hgr⟩
      have hcl : countL (sortK ks) = countL ks := countL_perm (sortK_perm ks)
      have hmk : ∀ y ∈ sortK ks, y ∈ ks := fun y hy => (sortK_perm _).mem_iff.1 hy
      have hfM : M.length ≤ f := hkl f hf
      generalize sortK ks = K at *
      simp (dsimp := false) (implicitDefEqProofs := false)
      refine w_looped (hQ [11, 38, 42, 49, 53, 74]) (fun T M2 => ∃ (j : Nat) (acc : List SlotD) (va : AV), j ≤ K.length ∧ T 0 = va ∧ T 2 = I p ∧ T 7 = kv ∧ T 10 = I j ∧ OwnR 69 5 SlotD.row M2 va acc ∧ OwnR 27 8 UnitD.row M2 kv K ∧ KeepsBut (obj v) M M2 ∧ (obj va = obj v ∨ Later M.length va) ∧ obj va ≠ some f ∧ slotsL K l p = slotsL (K.drop j) acc p ∧ acc.length + countL (K.drop j) ≤ 999)
        (fun T M1 => match T 10 with | .val (.int _ i) => K.length - i.toNat | _ => 0) (by kernel_rfl) ?_ ?_
      · exact ⟨0, l, v, by omega, by simp [t0], by simp [t2], by simp [t7], by simp, hv.keep hgr (by simp), hk, KeepsBut.of_none hgr, .inl rfl, fun e => by have := hv.lt e; omega, by simp, by simp; omega⟩
      rintro T M2 ⟨j, acc, va, j1, t0, t2, t7, t10, ha, hk, hkb, hva, hvf, ho, hc⟩
      have hklen : lenAV Tryz.prog 25 kv = some K.length := hk.len (e' := 27) (by simp)
      by_cases hj : j < K.length
      case neg =>
        have hj' : ¬ (j : Int) < K.length := by omega
        rw [show K.drop j = [] from List.drop_eq_nil_of_le (by omega), slotsL] at ho
        rw [ho]
        simp (dsimp := false) (implicitDefEqProofs := false) [t0, t2, t7, t10, hklen, hj']
        exact ⟨ha, hkb, hva⟩
      have hj' : (j : Int) < K.length := by omega
      have w1 := wadd1 (i := j) (by have := countL_len K; omega)
      obtain ⟨y, hy⟩ : ∃ y, y = K[j] := ⟨_, rfl⟩
      have hym : y ∈ ks := hmk y (by rw [hy]; exact List.getElem_mem hj)
      rw [List.drop_eq_getElem_cons hj, slotsL, ← hy] at ho
      rw [List.drop_eq_getElem_cons hj, countL, ← hy] at hc
      have hcy := countN_eq y
      have hcyk := countL_perm (sortK_perm y.kids)
      obtain ⟨hly, hlu⟩ := hlb _ hym
      have hyg := hkg _ hym
      obtain ⟨f', g, rfl, hcells⟩ := hk.cells_at (fun _ => by simp) hj
      obtain rfl : f' = f := by simpa using hf
      rw [← hy, y.row_eq] at hcells
      have hl0 : loadAV Tryz.prog 23 M2 (.vptr f' g (j * 8)) = some (.agg [I y.id.act, I y.id.item, I y.id.n]) := by
        have := hcells 0 (by omega)
        simp only [Nat.add_zero] at this
        simp [loadAV, this, loadCells_row]
      have hl4 : loadAV Tryz.prog 9 M2 (.vptr f' g (j * 8 + 4)) = some (S y.label) := by
        have := hcells 4 (by omega)
        simp [loadAV, this, loadCells_row]
      have hvf' : obj va ≠ some f' := hvf
      simp (dsimp := false) (implicitDefEqProofs := false) [t0, t2, t7, t10, hj']
      refine w_drawn (hQ [11, 38, 42, 49, 53, 74]) (cfollows gl) (fun k => if k = 5 ∨ k = 11 then 1 else if k = 14 then 2 else 0) (fun _ => f') (by rfl) (by kernel_rfl) ?_
      simp (dsimp := false) (implicitDefEqProofs := false) [t0, t2, t7, t10, hj, hj', readObj, hl0, hl4, build69, buildSliceAV, rowsGo, agg_st, agg_cs]
      refine pushR (C := WC gl) (enc := SlotD.row) (e := 69) (sz := 5) (news := [⟨y.id, p, y.label⟩]) elem28 src28 eok69 (fun _ => rfl) ha (by simp [srcCells, SlotD.row]) (by simp; omega) rfl ?_
      intro v1 M3 a1 a2 a3 _
      have hk3 := hk.keep a2 (by intro q hq; simp at hq; subst hq; exact hvf')
      have hkb3 := hkb.chain a2 hva
      have hv1 : obj v1 = obj v ∨ Later M.length v1 := by
        rcases a3 with e | e
        · rw [e]
          rcases hva with h | h
          · exact .inl h
          · right; intro q hq; exact h q (by rw [← e]; exact hq)
        · right; intro q hq; have := e q hq; have := hkb.1; omega
      have hv1f : obj v1 ≠ some f' := by
        rcases a3 with e | e
        · rw [e]; exact hvf'
        · intro q; have := e _ q; have := hk.lt (f := f') rfl; omega
      have hl27 : loadAV Tryz.prog 27 M3 (.vptr f' g (j * 8)) = some (.agg y.row) := by
        obtain ⟨f2, g2, e2, hcells3⟩ := hk3.cells_at (fun _ => by simp) hj
        simp only [AV.vref.injEq] at e2
        obtain ⟨rfl, rfl, _⟩ := e2
        have := hcells3 0 (by omega)
        simp only [Nat.add_zero, List.drop_zero] at this
        rw [← hy, y.row_eq] at this
        rw [y.row_eq]
        simp [loadAV, this, loadCells_row]
      have hln1 : lenAV Tryz.prog 28 v1 = some (acc.length + 1) := by
        have := a1.len (P := Tryz.prog) (t := 28) (e' := 69) (by simp)
        simpa using this
      have w2 : IntKind.i64.wrap (acc.length : Int) = acc.length := wrap_in (by omega) (by omega)
      simp (dsimp := false) (implicitDefEqProofs := false) [t0, t2, t7, t10, hj, hj', hl27, hln1, w2]
      refine w_calls (inv_of Tryz.func58 rfl rfl (rSorted_ok N y (acc ++ [⟨y.id, p, y.label⟩]) acc.length v1 M3 (by have := countN_eq y; have h1 := countL_mem hym; omega) hyg hlu (by simp; omega) a1)) ?_
      rintro r M4 ⟨b1, b2, b3⟩
      have hk4 := hk3.keep b2 (by intro q hq; simp at hq; subst hq; exact hv1f)
      have hkb4 := hkb3.chain b2 hv1
      have hr1 : obj r = obj v ∨ Later M.length r := by
        rcases b3 with e | e
        · rw [e]
          rcases hv1 with h | h
          · exact .inl h
          · right; intro q hq; exact h q (by rw [← e]; exact hq)
        · right; intro q hq; have := e q hq; have := hkb3.1; omega
      have hr1f : obj r ≠ some f' := by
        rcases b3 with e | e
        · rw [e]; exact hv1f
        · intro q; have := e _ q; have := hk3.lt (f := f') rfl; omega
      simp (dsimp := false) (implicitDefEqProofs := false) [t0, t2, t7, t10, w1]
      exact ⟨⟨j + 1, by clear w1 w2; omega, rfl, _, b1, hk4, hkb4, hr1, hr1f, ho, by rw [slotsL_len]; simp; clear w1 w2; omega⟩, by clear w1 w2; omega⟩
end
end Go.Abs
end
section
/- Contracts: the sort of siblings, the copy of a list (the program's). -/
set_option maxRecDepth 100000
set_option linter.unusedSimpArgs false
set_option linter.unusedVariables false
namespace Go.Abs
open Go.Proofs TryTypes

abbrev LabU := { u : UnitD // labelOk u.label = true }
def lab1 : LabU := ⟨.mk ⟨0, 0, 0⟩ 0 ⟨#[49]⟩ [] [] [], by decide⟩
def encL (x : LabU) : List AV := x.1.row
def cmpL (x y : LabU) : Int := cmpU x.1 y.1
theorem cmpL_ord : Ord3 cmpL := by
  refine ⟨fun x y h h2 => ?_, fun x y z h1 h2 h3 => ?_⟩
  · exact ltK_asymm ((cmpU_neg _ _).1 h) ((cmpU_neg _ _).1 h2)
  · have h1 := fun h => h1 ((cmpU_neg _ _).2 h)
    have h2 := fun h => h2 ((cmpU_neg _ _).2 h)
    have h3 := (cmpU_neg _ _).1 h3
    by_cases e : ltK (keyU y.1) (keyU z.1)
    · exact h1 (ltK_trans e h3)
    · have := ltK_total e h2
      exact h1 (by rw [this]; exact h3)
section
variable (gl : Nat → AV)
theorem cmpL_ok : CmpOK (WC gl) encL cmpL 54 [] [] := fun x y M => inv_of Tryz.func54 rfl rfl (cmpU_ok gl M x.1 y.1 x.2 y.2)
theorem sortKids_ok (ks : List UnitD) (kv : AV) (M : Mem) (hk : OwnR 27 8 UnitD.row M kv ks) (hn : ks.length < 40) (hl : ∀ k ∈ ks, labelOk k.label = true) (hd : ks.Pairwise fun a b => keyU a ≠ keyU b) :
    ACalls (WC gl) 53 [kv, .func (.func 54) [] []] M (fun _ M' => OwnR 27 8 UnitD.row M' kv (sortK ks) ∧ KeepsBut (obj kv) M M') := by
  rcases hk with ⟨rfl, rfl⟩ | ⟨f, g, hist, rfl, hm, hlk⟩
  · refine (sortStable_nil gl M _).mono ?_
    rintro _ M' rfl
    exact ⟨.nil, .refl _ _⟩
  · obtain ⟨D, hD⟩ : ∃ D : Nat → LabU, (ofD D ks.length).map (·.1) = ks := by
      refine ⟨fun i => if h : i < ks.length then ⟨ks[i], hl _ (List.getElem_mem h)⟩ else lab1, ?_⟩
      apply List.ext_getElem
      · simp
      · intro i h1 h2
        simp only [List.getElem_map, ofD_get]
        rw [dif_pos h2]
    have hfl : ∀ D : Nat → LabU, (ofD D ks.length).flatMap encL = ((ofD D ks.length).map (·.1)).flatMap UnitD.row := fun D => by rw [List.flatMap_map]; rfl
    have hm' : M[f]? = some (.vec 27 8 ((ofD D ks.length).flatMap encL) g hist) := by rw [hfl, hD]; exact hm
    have hflt : f < M.length := (List.getElem?_eq_some_iff.1 hm).1
    refine (sortStable_ok gl (enc := encL) (c := cmpL) (fid := 54) (first := []) (cap := []) (f := f) (g := g) (n := ks.length) (M0 := M) (fun x => by simp [encL]) (cmpL_ok gl) hflt hn D M (AtA.start hm' hlk)).mono ?_
    rintro _ M' ⟨E, hE, hmix, hs⟩
    have hs := hs cmpL_ord
    have hp : ((ofD E ks.length).map (·.1)).Perm ks := by
      have := hmix.perm.map (fun x : LabU => x.1)
      rw [hD] at this
      exact this
    have hsrt : SrtK ((ofD E ks.length).map (·.1)) := by
      refine srt_of ?_ ((List.Perm.pairwise_iff (fun {a b} (h : keyU a ≠ keyU b) => h.symm) hp).2 hd)
      rw [List.pairwise_iff_getElem]
      intro i j hi hj hij
      simp only [List.getElem_map, ofD_get]
      have := hs i j (by omega) hij (by simpa using hj)
      exact fun h => this ((cmpU_neg _ _).2 h)
    have hu : (ofD E ks.length).map (·.1) = sortK ks := srt_unique (hp.trans (sortK_perm ks).symm) hsrt (sortK_srt ks hd)
    obtain ⟨hist', rfl, hl'⟩ := hE
    refine ⟨.inr ⟨f, g, hist', by rw [sortK_len], ?_, by rw [sortK_len]; exact hl'⟩, .set _ _ _⟩
    rw [hfl, hu]; simp [hflt]
theorem cloneU_ok (ks : List UnitD) (M : Mem) (hn : ks.length ≤ 1000) : ACalls (WC gl) 52 [.list 8 (rowsU ks) .no] M (fun v M' => OwnR 27 8 UnitD.row M' v ks ∧ Grow M M' ∧ Later M.length v) := by
  refine w_body (hQ [5, 7]) Tryz.func52 rfl rfl rfl rfl rfl rfl ?_
  have key : ∀ (K : AV → Mem → Prop), (∀ v' M', OwnR 27 8 UnitD.row M' v' ks → Grow M M' → Later M.length v' → K v' M') → wAppend (WC gl) false true 25 25 (.vref M.length 0 8 0 0) (.list 8 (rowsU ks) .no) (M ++ [.vec 27 8 [] 0 [(0, 0)]]) K ⟨⟩ := by
    intro K hK
    refine pushR (C := WC gl) (enc := UnitD.row) (e := 27) (sz := 8) (news := ks) elem25 src25 eok27 (fun _ => by simp) (OwnR.new0 (M := M)) (by simp [srcCells, rowsU_map, List.flatMap_def]) (by simp; omega) rfl ?_
    intro v' M' h1 h2 h3 _
    refine hK v' M' h1 ⟨by have := h2.1; simp at this; omega, fun i hi _ => by rw [h2.2 i (by simp; omega) (by simp; omega), List.getElem?_append_left hi]⟩ fun q hq => ?_
    rcases h3 with e | e
    · rw [e] at hq; simp at hq; omega
    · have := e q hq; simp at this; omega
  cases ks with
  | nil =>
    have hr : rowsU [] = [] := by rw [rowsU]
    rw [hr] at key ⊢
    simp (dsimp := false) (implicitDefEqProofs := false)
    rw [wBin_list_nil (.inl rfl) Tryz.underlying25]
    intro b
    cases b
    · simp (dsimp := false) (implicitDefEqProofs := false) [vbuild25z]
      refine key _ ?_
      intro v' M' h1 h2 h3
      simp (dsimp := false) (implicitDefEqProofs := false) [h1, h2, h3]
    · simp (dsimp := false) (implicitDefEqProofs := false) [OwnR.nil, KeepsBut.refl, Later]
  | cons k ks =>
    have hr : rowsU (k :: ks) = k.row :: rowsU ks := by rw [rowsU]
    rw [hr] at key ⊢
    simp (dsimp := false) (implicitDefEqProofs := false) [vbuild25z]
    refine key _ ?_
    intro v' M' h1 h2 h3
    simp (dsimp := false) (implicitDefEqProofs := false) [h1, h2, h3]
end
/-- all stays but a variable and one array -/
def Keeps2 (o : Nat) (b : Option Nat) (M M' : Mem) : Prop := M.length ≤ M'.length ∧ ∀ i, i < M.length → i ≠ o → b ≠ some i → M'[i]? = M[i]?
theorem Keeps2.refl (o : Nat) (b : Option Nat) (M : Mem) : Keeps2 o b M M := ⟨Nat.le_refl _, fun _ _ _ _ => rfl⟩
theorem Keeps2.step {o : Nat} {b b' : Option Nat} {A B C : Mem} (h1 : Keeps2 o b A B) (h2 : Keeps2 o b' B C) (h : b' = b ∨ ∀ g, b' = some g → A.length ≤ g) : Keeps2 o b A C :=
  ⟨Nat.le_trans h1.1 h2.1, fun i hi ho hb => (h2.2 i (Nat.lt_of_lt_of_le hi h1.1) ho (fun e => by
    rcases h with h | h
    · exact hb (h ▸ e)
    · have := h i e; omega)).trans (h1.2 i hi ho hb)⟩
theorem Keeps2.of {o : Nat} {b : Option Nat} {A B : Mem} (h : KeepsBut b A B) : Keeps2 o b A B := ⟨h.1, fun i hi _ hb => h.2 i hi hb⟩
theorem Keeps2.of_none {o : Nat} {b : Option Nat} {A B : Mem} (h : Grow A B) : Keeps2 o b A B := ⟨h.1, fun i hi _ _ => h.2 i hi (by simp)⟩
theorem Keeps2.set {o : Nat} {b : Option Nat} (M : Mem) (X : AObj) : Keeps2 o b M (M.set o X) := ⟨by simp, fun i hi ho _ => by rw [List.getElem?_set_ne (fun e => ho e.symm)]⟩
theorem Keeps2.get {o : Nat} {b : Option Nat} {A B : Mem} (h : Keeps2 o b A B) {i : Nat} {X : AObj} (hx : A[i]? = some X) (ho : i ≠ o) (hb : b ≠ some i) : B[i]? = some X := by
  rw [h.2 i (List.getElem?_eq_some_iff.1 hx).1 ho hb, hx]
theorem OwnR.keep2 {α : Type} {e sz : Nat} {enc : α → List AV} {M M' : Mem} {v : AV} {l : List α} (h : OwnR e sz enc M v l) {o : Nat} {b : Option Nat} (hk : Keeps2 o b M M') (ho : ∀ f, obj v = some f → f ≠ o ∧ b ≠ some f) : OwnR e sz enc M' v l := by
  rcases h with ⟨rfl, h⟩ | ⟨f', g, hist, rfl, hm, hl⟩
  · exact .inl ⟨rfl, h⟩
  · exact .inr ⟨f', g, hist, rfl, hk.get hm (ho _ rfl).1 (ho _ rfl).2, hl⟩
@[simp] theorem agg100 : aggOf Tryz.prog 100 = some false := by kernel_rfl
@[simp] theorem sz100 : szOf Tryz.prog 100 = some 1 := by kernel_rfl
abbrev walkF (o wv : Nat) : AV := .func (.func 51) [] [.ptr o 0, .ptr wv 0]
section
variable (gl : Nat → AV)
set_option maxHeartbeats 10000000 in
theorem walk_ok (o wv : Nat) (how : o ≠ wv) : ∀ (N : Nat) (u : UnitD) (l : List SlotD) (p : Int) (v : AV) (M : Mem), countN u ≤ N → countN u ≤ 40 → u.good → labsU u → l.length + countN u ≤ 1000 → OwnR 69 5 SlotD.row M v l →
    M[o]? = some (.cells 28 [v]) → M[wv]? = some (.cells 100 [walkF o wv]) → obj v ≠ some o → obj v ≠ some wv →
    ACalls (WC gl) 51 [.agg u.row, I p, .ptr o 0, .ptr wv 0] M (fun _ M' => ∃ v', M'[o]? = some (.cells 28 [v']) ∧ M'[wv]? = some (.cells 100 [walkF o wv]) ∧ OwnR 69 5 SlotD.row M' v' (slotsL (sortK u.kids) l p) ∧ Keeps2 o (obj v) M M' ∧ (obj v' = obj v ∨ Later M.length v'))
  | 0, u, l, p, v, M, hN, _, _, _, _, _, _, _, _, _ => by have := countN_pos u; omega
  | N + 1, u, l, p, v, M, hN, h40, hg, hlab, hln, hv, ho, hw, hvo, hvw => by
    obtain ⟨_, _, _, _, _, _, _, hkn, hkg⟩ := (UnitD.good_iff _).1 hg
    have hcu := countN_eq u
    obtain ⟨uid, ukind, ulab, uhd, uws, ks⟩ := u
    have hkg : ∀ k ∈ ks, k.good := hkg
    have hcu : countN (.mk uid ukind ulab uhd uws ks) = 1 + countL ks := hcu
    rw [labsU] at hlab
    obtain ⟨hlb, hdist⟩ := hlab
    have hlb := labsL_iff.1 hlb
    have hkl := countL_len ks
    have holt : o < M.length := (List.getElem?_eq_some_iff.1 ho).1
    have hwlt : wv < M.length := (List.getElem?_eq_some_iff.1 hw).1
    show ACalls (WC gl) 51 [.agg (UnitD.mk uid ukind ulab uhd uws ks).row, I p, .ptr o 0, .ptr wv 0] M (fun _ M' => ∃ v', M'[o]? = some (.cells 28 [v']) ∧ M'[wv]? = some (.cells 100 [walkF o wv]) ∧ OwnR 69 5 SlotD.row M' v' (slotsL (sortK ks) l p) ∧ Keeps2 o (obj v) M M' ∧ (obj v' = obj v ∨ Later M.length v'))
    rw [UnitD.row]
    refine w_body (hQ [28]) Tryz.func51 rfl rfl rfl rfl rfl rfl ?_
    simp (dsimp := false) (implicitDefEqProofs := false)
    refine w_calls (inv_of Tryz.func52 rfl rfl (cloneU_ok gl ks M (by omega))) ?_
    rintro kv M1 ⟨hk, hg1, hkl1⟩
    simp (dsimp := false) (implicitDefEqProofs := false)
    refine w_calls (inv_of Tryz.func53 rfl rfl (sortKids_ok gl ks kv M1 hk (by omega) (fun k h => (hlb k h).1) hdist)) ?_
    rintro r1 M2 ⟨hk, hg2⟩
    have hcl : countL (sortK ks) = countL ks := countL_perm (sortK_perm ks)
    have hmk : ∀ y ∈ sortK ks, y ∈ ks := fun y hy => (sortK_perm _).mem_iff.1 hy
    generalize sortK ks = K at *
    have hklen : lenAV Tryz.prog 25 kv = some K.length := hk.len (e' := 27) (by simp)
    have hkv : ∀ f, obj kv = some f → M.length ≤ f := fun f hf => by have := hkl1 f hf; exact this
    have hg12 : KeepsBut none M M2 := hg1.chain hg2 (.inr hkv)
    simp (dsimp := false) (implicitDefEqProofs := false) [hklen]
    refine w_looped (hQ [28]) (fun T M3 => ∃ (j : Nat) (acc : List SlotD) (va : AV), j ≤ K.length ∧ T 1 = I p ∧ T 2 = .ptr o 0 ∧ T 3 = .ptr wv 0 ∧ T 14 = kv ∧ T 15 = I K.length ∧ T 16 = I j ∧ M3[o]? = some (.cells 28 [va]) ∧ M3[wv]? = some (.cells 100 [walkF o wv]) ∧ OwnR 69 5 SlotD.row M3 va acc ∧ OwnR 27 8 UnitD.row M3 kv K ∧ Keeps2 o (obj v) M M3 ∧ (obj va = obj v ∨ Later M.length va) ∧ obj va ≠ some o ∧ obj va ≠ some wv ∧ (∀ f, obj kv = some f → obj va ≠ some f) ∧ slotsL K l p = slotsL (K.drop j) acc p ∧ acc.length + countL (K.drop j) ≤ 999)
      (fun T M1 => match T 16 with | .val (.int _ i) => K.length - i.toNat | _ => 0) (by kernel_rfl) ?_ ?_
    · exact ⟨0, l, v, by omega, by simp, by simp, by simp, by simp, by simp, by simp, hg12.get ho (by simp), hg12.get hw (by simp), hv.keep hg12 (by simp), hk, Keeps2.of_none hg12, .inl rfl, hvo, hvw, fun f hf e => by have := hv.lt e; have := hkv f hf; omega, by simp, by simp; omega⟩
    clear ho hw hvo hvw hk hv
    rintro T M3 ⟨j, acc, va, j1, t1, t2, t3, t14, t15, t16, ho, hw, ha, hk, hkb, hva, hvo, hvw, hvf, hsl, hc⟩
    by_cases hj : j < K.length
    case neg =>
      have hj' : ¬ (j : Int) < K.length := by omega
      rw [show K.drop j = [] from List.drop_eq_nil_of_le (by omega), slotsL] at hsl
      rw [hsl]
      simp (dsimp := false) (implicitDefEqProofs := false) [t1, t2, t3, t14, t15, t16, hj']
      exact ⟨va, ho, hw, ha, hkb, hva⟩
    have hj' : (j : Int) < K.length := by omega
    have w1 := wadd1 (i := j) (by have := countL_len K; omega)
    obtain ⟨y, hy⟩ : ∃ y, y = K[j] := ⟨_, rfl⟩
    have hym : y ∈ ks := hmk y (by rw [hy]; exact List.getElem_mem hj)
    rw [List.drop_eq_getElem_cons hj, slotsL, ← hy] at hsl
    rw [List.drop_eq_getElem_cons hj, countL, ← hy] at hc
    have hcy := countN_eq y
    have hcm := countL_mem hym
    have hcyk := countL_perm (sortK_perm y.kids)
    obtain ⟨hly, hlu⟩ := hlb _ hym
    have hyg := hkg _ hym
    obtain ⟨f, g, rfl, hcells⟩ := hk.cells_at (fun _ => by simp) hj
    have hvf := hvf f rfl
    have hfM := hkv f rfl
    have hflt := hk.lt (f := f) rfl
    rw [← hy, y.row_eq] at hcells
    have hl27 : loadAV Tryz.prog 27 M3 (.vptr f g (j * 8)) = some (.agg [I y.id.act, I y.id.item, I y.id.n, I y.kind, S y.label, .list 4 (rowsW y.head) .no, .list 4 (rowsW y.words) .no, .list 8 (rowsU y.kids) .no]) := by
      have := hcells 0 (by omega)
      simp only [Nat.add_zero] at this
      simp [loadAV, this, loadCells_row]
    obtain ⟨X, hX⟩ : ∃ X, X = AObj.cells 27 [I y.id.act, I y.id.item, I y.id.n, I y.kind, S y.label, .list 4 (rowsW y.head) .no, .list 4 (rowsW y.words) .no, .list 8 (rowsU y.kids) .no] := ⟨_, rfl⟩
    obtain ⟨M4, hM4⟩ : ∃ M4, M4 = M3 ++ [X] := ⟨_, rfl⟩
    have hg34 : Grow M3 M4 := by rw [hM4]; exact KeepsBut.app none _ _
    have hX4 : M4[M3.length]? = some X := by rw [hM4]; simp
    have ho4 := hg34.get ho (by simp)
    have hw4 := hg34.get hw (by simp)
    have ha4 := ha.keep hg34 (by simp)
    have hk4 := hk.keep hg34 (by simp)
    have hkb4 := hkb.step (Keeps2.of_none (b := obj v) hg34) (.inl rfl)
    rw [hX] at hX4 hM4
    obtain ⟨xo, hxo⟩ : ∃ xo, xo = M3.length := ⟨_, rfl⟩
    have holt3 : o < M3.length := (List.getElem?_eq_some_iff.1 ho).1
    have hwlt3 : wv < M3.length := (List.getElem?_eq_some_iff.1 hw).1
    have hvlt3 : ∀ q, obj va = some q → q < M3.length := fun q hq => ha.lt hq
    rw [← hxo] at hX4 holt3 hwlt3 hvlt3 hflt
    simp (dsimp := false) (implicitDefEqProofs := false) [t1, t2, t3, t14, t15, t16, hj, hj', hl27, allocAV, storeAV, overwrite, agg_st, agg_cs]
    rw [← hM4, ← hxo]
    simp (dsimp := false) (implicitDefEqProofs := false) [t1, t2, t3, t14, t15, t16, loadAV_ptr ho4, loadAV_ptr hX4, build69, buildSliceAV, rowsGo, agg_st, agg_cs]
    refine pushR (C := WC gl) (enc := SlotD.row) (e := 69) (sz := 5) (news := [⟨y.id, p, y.label⟩]) elem28 src28 eok69 (fun _ => rfl) ha4 (by simp [srcCells, SlotD.row]) (by simp; omega) rfl ?_
    intro v1 M5 a1 a2 a3 _
    have ho5 := a2.get ho4 hvo
    have hw5 := a2.get hw4 hvw
    have hX5 := a2.get hX4 (fun e => by have := hvlt3 _ e; omega)
    have hk5 := hk4.keep a2 (by intro q hq; simp at hq; subst hq; exact hvf)
    have hl34 : M3.length ≤ M4.length := hg34.1
    have hl45 : M4.length ≤ M5.length := a2.1
    have hv1 : ∀ q, obj v1 = some q → obj va = some q ∨ M4.length ≤ q := fun q hq => by
      rcases a3 with e | e
      · exact .inl (by rw [← e]; exact hq)
      · exact .inr (e q hq)
    have hX4l : xo < M4.length := (List.getElem?_eq_some_iff.1 hX4).1
    have hv1o : obj v1 ≠ some o := fun e => by
      rcases hv1 _ e with h | h
      · exact hvo h
      · omega
    have hv1w : obj v1 ≠ some wv := fun e => by
      rcases hv1 _ e with h | h
      · exact hvw h
      · omega
    have hv1f : obj v1 ≠ some f := fun e => by
      rcases hv1 _ e with h | h
      · exact hvf h
      · omega
    have hst : storeAV (some 1) M5 (.ptr o 0) v1 = some (M5.set o (.cells 28 [v1])) := by rw [storeAV_ptr ho5, a1.cells, if_pos ⟨a1.store, by simp, rfl⟩]; rfl
    obtain ⟨M6, hM6⟩ : ∃ M6, M6 = M5.set o (.cells 28 [v1]) := ⟨_, rfl⟩
    have h56 : Keeps2 o (obj v) M5 M6 := by rw [hM6]; exact Keeps2.set _ _
    have ho6 : M6[o]? = some (.cells 28 [v1]) := by rw [hM6, List.getElem?_set_self (by omega)]
    have hw6 : M6[wv]? = some (.cells 100 [walkF o wv]) := by rw [hM6, List.getElem?_set_ne how]; exact hw5
    have hX6 : M6[xo]? = some (AObj.cells 27 [I y.id.act, I y.id.item, I y.id.n, I y.kind, S y.label, .list 4 (rowsW y.head) .no, .list 4 (rowsW y.words) .no, .list 8 (rowsU y.kids) .no]) := by rw [hM6, List.getElem?_set_ne (by omega)]; exact hX5
    have h56' : KeepsBut (some o) M5 M6 := by rw [hM6]; exact KeepsBut.set _ _ _
    have a16 := a1.keep h56' (fun q hq => by intro e; exact hv1o (by rw [hq, Option.some.inj e]))
    have hk6 := hk5.keep h56' (by intro q hq; simp at hq; subst hq; simp; omega)
    have hkb6 := (hkb4.step (Keeps2.of a2) hva).step h56 (.inl rfl)
    have hva1 : obj v1 = obj v ∨ Later M.length v1 := by
      rcases a3 with e | e
      · rw [e]
        rcases hva with h | h
        · exact .inl h
        · right; intro q hq; exact h q (by rw [← e]; exact hq)
      · right; intro q hq; have := e q hq; have := hkb4.1; omega
    have hln1 : lenAV Tryz.prog 28 v1 = some (acc.length + 1) := by
      have := a16.len (P := Tryz.prog) (t := 28) (e' := 69) (by simp)
      simpa using this
    have w2 : IntKind.i64.wrap (acc.length : Int) = acc.length := wrap_in (by omega) (by omega)
    have hrec := (walk_ok o wv how N y (acc ++ [⟨y.id, p, y.label⟩]) acc.length v1 M6 (by omega) (by omega) hyg hlu (by simp; omega) a16 ho6 hw6 hv1o hv1w)
    rw [y.row_eq] at hrec
    simp (dsimp := false) (implicitDefEqProofs := false) [t1, t2, t3, t14, t15, t16, hst]
    rw [← hM6]
    simp (dsimp := false) (implicitDefEqProofs := false) [t1, t2, t3, t14, t15, t16, loadAV_ptr ho6, loadAV_ptr hw6, loadAV_ptr hX6, hln1, w2]
    refine w_calls (inv_of Tryz.func51 rfl rfl hrec) ?_
    rintro r7 M7 ⟨v7, b1, b2, b3, b4, b5⟩
    have hk7 := hk6.keep2 b4 (by intro q hq; simp at hq; subst hq; exact ⟨by omega, hv1f⟩)
    have hkb7 := hkb6.step b4 hva1
    have hva7 : obj v7 = obj v ∨ Later M.length v7 := by
      rcases b5 with e | e
      · rw [e]
        rcases hva1 with h | h
        · exact .inl h
        · right; intro q hq; exact h q (by rw [← e]; exact hq)
      · right; intro q hq; have := e q hq; have := hkb6.1; omega
    have hl56 : M5.length ≤ M6.length := h56.1
    have hv7 : ∀ q, obj v7 = some q → obj v1 = some q ∨ M6.length ≤ q := fun q hq => by
      rcases b5 with e | e
      · exact .inl (by rw [← e]; exact hq)
      · exact .inr (e q hq)
    have hv7o : obj v7 ≠ some o := fun e => by
      rcases hv7 _ e with h | h
      · exact hv1o h
      · omega
    have hv7w : obj v7 ≠ some wv := fun e => by
      rcases hv7 _ e with h | h
      · exact hv1w h
      · omega
    have hv7f : obj v7 ≠ some f := fun e => by
      rcases hv7 _ e with h | h
      · exact hv1f h
      · omega
    simp (dsimp := false) (implicitDefEqProofs := false) [t1, t2, t3, t14, t15, t16, w1]
    exact ⟨⟨j + 1, by clear w1 w2; omega, rfl, _, v7, b1, b2, b3, hk7, hkb7, hva7, hv7o, hv7w, hv7f, hsl, by rw [slotsL_len]; simp; clear w1 w2; omega⟩, by clear w1 w2; omega⟩
end
end Go.Abs
end
