/- The texts AoB, AoC, AoD, AoE: what each proves stands at its head. -/
import Derived.Test.YtiipcnbedgamdaaGreatDoorVG27
import Derived.Test.YtiipcnbedgamdaaGreatDoorVG25
import Derived.Test.YtiipcnbedgamdaaGreatDoorVG28
section
/- Contracts: the acts that count, sorted; their days (the program's). -/
set_option maxRecDepth 100000
set_option linter.unusedSimpArgs false
set_option linter.unusedVariables false
namespace Go.Abs
open Go.Proofs TryTypes

def act0 : ActD := ⟨0, ⟨#[]⟩, 0, ⟨0, 0, ⟨#[]⟩⟩, []⟩
section
variable (gl : Nat → AV)
theorem cmpAct_ok : CmpOK (WC gl) ActD.row cmpA 61 [] [] := fun x y M => inv_of Tryz.func61 rfl rfl (cmpA_ok gl M x y)
theorem sortA_ok (l : List ActD) (v : AV) (M : Mem) (hk : OwnR 84 7 ActD.row M v l) (hn : l.length < 40) :
    ACalls (WC gl) 60 [v, .func (.func 61) [] []] M (fun _ M' => ∃ E, OwnR 84 7 ActD.row M' v E ∧ E.Perm l ∧ KeepsBut (obj v) M M') := by
  rcases hk with ⟨rfl, rfl⟩ | ⟨f, g, hist, rfl, hm, hlk⟩
  · refine (sortStable_nil gl M _).mono ?_
    rintro _ M' rfl
    exact ⟨[], .nil, .refl _, .refl _ _⟩
  · obtain ⟨D, hD⟩ : ∃ D : Nat → ActD, ofD D l.length = l := by
      refine ⟨fun i => if h : i < l.length then l[i] else act0, ?_⟩
      apply List.ext_getElem
      · simp
      · intro i h1 h2
        rw [ofD_get, dif_pos h2]
    have hm' : M[f]? = some (.vec 84 7 ((ofD D l.length).flatMap ActD.row) g hist) := by rw [hD]; exact hm
    have hflt : f < M.length := (List.getElem?_eq_some_iff.1 hm).1
    refine (sortStable_ok gl (enc := ActD.row) (c := cmpA) (fid := 61) (first := []) (cap := []) (f := f) (g := g) (n := l.length) (M0 := M) (fun x => rfl) (cmpAct_ok gl) hflt hn D M (AtA.start hm' hlk)).mono ?_
    rintro _ M' ⟨E, hE, hmix, _⟩
    have hp : (ofD E l.length).Perm l := by have := hmix.perm; rw [hD] at this; exact this
    obtain ⟨hist', rfl, hl'⟩ := hE
    exact ⟨ofD E l.length, .inr ⟨f, g, hist', by simp, by simp [hflt], by simpa using hl'⟩, hp, .set _ _ _⟩
/-- how many acts are looked at -/
def fewA (l : List GazD) : Prop := l.length ≤ 100 ∧ (l.flatMap GazD.acts).length < 40
theorem acts_ok (l : List GazD) (M : Mem) (hf : fewA l) :
    ACalls (WC gl) 33 [.list 4 (rowsG l) .no] M (fun v M' => ∃ E, OwnR 84 7 ActD.row M' v E ∧ Grow M M' ∧ Later M.length v ∧ E.Perm (firstA (l.flatMap GazD.acts))) := by
  have hfl := firstA_len (l.flatMap GazD.acts)
  have hf2 := hf.2
  refine w_body (hQ []) Tryz.func33 rfl rfl rfl rfl rfl rfl ?_
  simp (dsimp := false) (implicitDefEqProofs := false) [allocAV]
  obtain ⟨M1, hM1⟩ : ∃ M1, M1 = M ++ [AObj.cells 85 [.val (.slice none 0 0)]] := ⟨_, rfl⟩
  have h1 : M1[M.length]? = some (.cells 85 [.val (.slice none 0 0)]) := by rw [hM1]; simp
  have hl1 : M1.length = M.length + 1 := by rw [hM1]; simp
  rw [← hM1]
  refine w_calls (inv_of Tryz.func58 rfl rfl (every_ok gl l M.length M1 h1 hf.1 (by omega))) ?_
  rintro _ M2 ⟨v, mm, k1, k2, _, _, k5, k6, k7⟩
  have hlen2 : (firstA (l.flatMap GazD.acts)).length < 40 := by omega
  have hvo : obj v ≠ some M.length := fun e => by have := k7 _ e; omega
  simp (dsimp := false) (implicitDefEqProofs := false) [loadAV_ptr k1]
  refine w_calls (inv_of Tryz.func60 rfl rfl (sortA_ok gl _ v M2 k2 hlen2)) ?_
  rintro _ M3 ⟨E, q1, q2, q3⟩
  have r1 := q3.get k1 hvo
  simp (dsimp := false) (implicitDefEqProofs := false) [loadAV_ptr r1]
  refine ⟨E, q1, ⟨by have := q3.1; omega, fun i hi _ => ?_⟩, fun f hf => by have := k7 f hf; omega, q2⟩
  rw [q3.2 i (by omega) (fun e => by have := k7 _ e; omega), k6 i (by omega) (by omega), hM1, List.getElem?_append_left hi]
theorem bdd_rowsW (n : Nat) (l : List WordD) : bddR n (rowsW l) := by
  induction l with
  | nil => simp [rowsW, bddR]
  | cons w l ih => simp only [rowsW, List.map_cons] at ih ⊢; exact ⟨by simp [WordD.row, bddL, bdd], ih⟩
mutual
theorem bdd_unit (n : Nat) : ∀ u : UnitD, bddL n u.row
  | .mk id k l h w ks => by
    rw [UnitD.row]
    simp only [bddL, bdd, and_true, true_and]
    exact ⟨bdd_rowsW n h, bdd_rowsW n w, bdd_rowsU n ks⟩
theorem bdd_rowsU (n : Nat) : ∀ l : List UnitD, bddR n (rowsU l)
  | [] => by rw [rowsU]; simp [bddR]
  | u :: l => by rw [rowsU]; exact ⟨bdd_unit n u, bdd_rowsU n l⟩
end
theorem bdd_rowsP (n : Nat) (l : List StepD) : bddR n (rowsP l) := by
  induction l with
  | nil => simp [rowsP, bddR]
  | cons w l ih => simp only [rowsP, List.map_cons] at ih ⊢; exact ⟨by simp [StepD.row, bddL, bdd], ih⟩
theorem bdd_rowsS (n : Nat) (l : List ByteArray) : bddR n (rowsS l) := by
  induction l with
  | nil => simp [rowsS, bddR]
  | cons w l ih => simp only [rowsS, List.map_cons] at ih ⊢; exact ⟨by simp [bddL, bdd], ih⟩
mutual
theorem bdd_item (n : Nat) : ∀ x : ItemD, bddL n x.row
  | .mk h b => by
    rw [ItemD.row, ItemH.row]
    simp only [bddL, bdd, and_true, true_and]
    exact ⟨bdd_rowsP n _, bdd_rowsP n _, bdd_rowsW n _, bdd_rowsW n _, bdd_rowsU n _, bdd_rowsS n _, bdd_rowsS n _, bdd_rowsI n b⟩
theorem bdd_rowsI (n : Nat) : ∀ l : List ItemD, bddR n (rowsI l)
  | [] => by rw [rowsI]; simp [bddR]
  | u :: l => by rw [rowsI]; exact ⟨bdd_item n u, bdd_rowsI n l⟩
end
theorem bdd_act (n : Nat) (a : ActD) : bddL n a.row := by
  rw [ActD.row]
  simp only [bddL, bdd, and_true, true_and]
  exact bdd_rowsI n _
theorem actsD_ok (l : List GazD) (M : Mem) (hf : fewA l) :
    ACalls (WC gl) 33 [.list 4 (rowsG l) .no] M (fun v M' => ∃ E : List ActD, v = .list 7 (rowsA E) .no ∧ M' = M ∧ E.Perm (firstA (l.flatMap GazD.acts))) :=
  ACalls.stillE (fun _ => rfl) bdd_act (acts_ok gl l M hf)
/-- the days of the acts, as a map -/
theorem days_ok (l : List GazD) (M : Mem) (hf : fewA l) :
    ACalls (WC gl) 15 [.list 4 (rowsG l) .no] M (fun v M' => ∃ mm, v = .mapr M.length ∧ MapAt I I M' M.length mm ∧ (∀ n, getL mm n = dayL (firstA (l.flatMap GazD.acts)) n) ∧ Grow M M') := by
  have hfl := firstA_len (l.flatMap GazD.acts)
  have hf2 := hf.2
  have hno := firstA_nodup (l.flatMap GazD.acts)
  have hac := fun M => actsD_ok gl l M hf
  generalize firstA (l.flatMap GazD.acts) = F at *
  refine w_body (hQ []) Tryz.func15 rfl rfl rfl rfl rfl rfl ?_
  simp (dsimp := false) (implicitDefEqProofs := false)
  refine w_calls (inv_of Tryz.func33 rfl rfl (hac _)) ?_
  rintro _ _ ⟨E, rfl, rfl, hp⟩
  have hnE : (E.map (·.number)).Nodup := ((hp.map _).nodup_iff).2 hno
  have hEl : E.length < 40 := by rw [hp.length_eq]; omega
  have hfin : ∀ n, dayL E n = dayL F n := fun n => dayL_perm hp hnE n
  simp (dsimp := false) (implicitDefEqProofs := false)
  refine w_looped (hQ []) (fun T M1 => ∃ (i : Nat) (mm : List (Int × Int)), i ≤ E.length ∧ T 3 = .mapr M.length ∧ T 8 = .list 7 (rowsA E) .no ∧ T 9 = I E.length ∧ T 10 = I i ∧ MapAt I I M1 M.length mm ∧ (∀ n, getL mm n = dayL (E.take i) n) ∧ Grow M M1)
    (fun T _ => match T 10 with | .val (.int _ i) => E.length - i.toNat | _ => 0) (by kernel_rfl) ?_ ?_
  · exact ⟨0, [], by omega, by simp, by simp, by simp, by simp, MapAt.new M, by simp [getL, dayL], KeepsBut.app _ _ _⟩
  rintro T M1 ⟨i, mm, i1, t3, t8, t9, t10, hm, hd, hg⟩
  by_cases hi : i < E.length
  case neg =>
    have hi' : ¬ (i : Int) < E.length := by omega
    obtain rfl : i = E.length := by omega
    rw [List.take_length] at hd
    simp (dsimp := false) (implicitDefEqProofs := false) [t3, t8, t9, t10, hi']
    exact ⟨mm, hm, fun n => by rw [hd, hfin], hg⟩
  have hi' : (i : Int) < E.length := by omega
  have w1 := wadd1 (i := i) (by omega)
  have hml := hm.lt
  have hm2 := hm.keep (KeepsBut.app none M1 [.cells 84 [I E[i].number, S E[i].title, I E[i].day, I E[i].start.k, I E[i].start.day, S E[i].start.ev, .list 25 (rowsI E[i].items) .no]]) (by simp)
  obtain ⟨M5, p1, p2, p3⟩ := MapAt.put (P := Tryz.prog) (keyInt 54 3 (by kernel_rfl)) hm2 E[i].number E[i].day
  simp (dsimp := false) (implicitDefEqProofs := false) [t3, t8, t9, t10, hi, hi', ActD.row, allocAV, storeAV, overwrite, p1, w1]
  refine ⟨⟨i + 1, by clear w1; omega, rfl, _, p2, fun n => ?_, ?_⟩, by clear w1; omega⟩
  · rw [getL_putL, hd, dayL_drop E hnE hi]
  · refine ⟨by have h1 := p3.1; have h2 := hg.1; rw [List.length_append] at h1; clear w1; omega, fun q hq _ => ?_⟩
    rw [p3.2 q (by have := hg.1; simp; clear w1; omega) (by simp; omega), List.getElem?_append_left (by have := hg.1; clear w1; omega)]
    exact hg.2 q hq (by simp)
end
end Go.Abs
end
section
/- Contracts: which place is later; the author of a citation (the program's). -/
set_option maxRecDepth 100000
set_option linter.unusedSimpArgs false
set_option linter.unusedVariables false
namespace Go.Abs
open Go.Proofs TryTypes

theorem memOf_set {M : Mem} {b : Nat} {t : TypeId} {cs : List AV} (h : b < M.length) : memOf (M.set b (.cells t cs)) (.ptr b 0) = some cs := by simp [memOf, h]
theorem grow_set {M M1 : Mem} {b : Nat} {X : AObj} (h : Grow M M1) (hb : M.length ≤ b) : Grow M (M1.set b X) :=
  ⟨by simpa using h.1, fun i hi _ => by rw [List.getElem?_set_ne (by omega)]; exact h.2 i hi (by simp)⟩
abbrev rowR (p : Int × Int) : List AV := [I p.1, I p.2]
section
variable (gl : Nat → AV)
theorem order_ok (a b : Int × Int) (oo bm : Nat) (mm : List (Int × Int)) (M : Mem) (hM : M[oo]? = some (.cells 54 [.mapr bm])) (hm : MapAt I I M bm mm) :
    ACalls (WC gl) 16 [.agg (rowR a), .agg (rowR b), .ptr oo 0] M (fun v M' => v = I (cmpR (getL mm) a b) ∧ M' = M) := by
  have hla := MapAt.get (P := Tryz.prog) (t := 54) (z := I 0) (keyInt 54 3 (by kernel_rfl)) hm a.1 (by kernel_rfl) true
  have hlb := MapAt.get (P := Tryz.prog) (t := 54) (z := I 0) (keyInt 54 3 (by kernel_rfl)) hm b.1 (by kernel_rfl) true
  obtain ⟨x, hx⟩ : ∃ x, x = getL mm a.1 := ⟨_, rfl⟩
  obtain ⟨y, hy⟩ : ∃ y, y = getL mm b.1 := ⟨_, rfl⟩
  have hc : cmpR (getL mm) a b = if x.isSome = y.isSome then orL [cmpI (x.getD 0) (y.getD 0), cmpI a.1 b.1, cmpI a.2 b.2] else if y.isSome then -1 else 1 := by rw [hx, hy]; rfl
  have hla : lookupAV Tryz.prog 54 M (.mapr bm) (I a.1) true = some (.tuple [I (x.getD 0), B x.isSome]) := by rw [hla, hx]; cases getL mm a.1 <;> rfl
  have hlb : lookupAV Tryz.prog 54 M (.mapr bm) (I b.1) true = some (.tuple [I (y.getD 0), B y.isSome]) := by rw [hlb, hy]; cases getL mm b.1 <;> rfl
  rw [hc]
  clear hx hy hc
  generalize x.getD 0 = x0 at *
  generalize y.getD 0 = y0 at *
  generalize x.isSome = xs at *
  generalize y.isSome = ys at *
  refine w_body hB Tryz.func16 rfl rfl rfl rfl rfl rfl ?_
  simp (dsimp := false) (implicitDefEqProofs := false) [loadAV_ptr hM, hla, hlb]
  by_cases h : xs = ys
  case neg =>
    rw [if_neg h]
    cases ys with
    | true =>
      obtain rfl : xs = false := by cases xs <;> simp_all
      simp (dsimp := false) (implicitDefEqProofs := false)
    | false =>
      obtain rfl : xs = true := by cases xs <;> simp_all
      simp (dsimp := false) (implicitDefEqProofs := false)
  subst h
  rw [if_pos rfl]
  simp (dsimp := false) (implicitDefEqProofs := false)
  refine w_drawn hB (cfollows gl) (fun _ => 0) (fun _ => 0) (by rfl) (by kernel_rfl) ?_
  simp (dsimp := false) (implicitDefEqProofs := false)
  refine w_call0 (fun M => inv_of Tryz.func18 rfl rfl (cmp_ok gl M _ _)) ?_
  simp (dsimp := false) (implicitDefEqProofs := false)
  refine w_call0 (fun M => inv_of Tryz.func18 rfl rfl (cmp_ok gl M _ _)) ?_
  simp (dsimp := false) (implicitDefEqProofs := false)
  refine w_call0 (fun M => inv_of Tryz.func18 rfl rfl (cmp_ok gl M _ _)) ?_
  simp (dsimp := false) (implicitDefEqProofs := false) [buildSliceAV, rowsGo]
  refine w_call0 (fun M => inv_of Tryz.func17 rfl rfl (or_ok gl M [cmpI x0 y0, cmpI a.1 b.1, cmpI a.2 b.2] (by simp))) ?_
  simp (dsimp := false) (implicitDefEqProofs := false)
theorem max_ok (l : List (Int × Int)) (v : AV) (oo bm : Nat) (mm : List (Int × Int)) (M : Mem) (hM : M[oo]? = some (.cells 54 [.mapr bm])) (hm : MapAt I I M bm mm) (hv : OwnR 31 2 rowR M v l) (h0 : 0 < l.length) (hl : l.length ≤ 1000000) :
    ACalls (WC gl) 19 [v, .func (.func 16) [] [.ptr oo 0]] M (fun r M' => r = .agg (rowR (maxR (getL mm) l[0] l)) ∧ M' = M) := by
  refine grow_cutB (fun n => by simp [bdd, bddL]) ?_
  refine w_body hB Tryz.func19 rfl rfl rfl rfl rfl rfl ?_
  have hlen : lenAV Tryz.prog 60 v = some l.length := hv.len (e' := 31) (by simp)
  have hvf : ∃ f, obj v = some f := by
    rcases hv with ⟨rfl, rfl⟩ | ⟨f, g, hist, rfl, hm, hl⟩
    · simp at h0
    · exact ⟨f, rfl⟩
  obtain ⟨f, hf⟩ := hvf
  have hn1 : ¬ (l.length : Int) < 1 := by omega
  have hv1 := hv.keep (KeepsBut.app none M [.cells 31 [I 0, I 0]]) (fun _ _ => by simp)
  obtain ⟨p, p1, p2, p3, _⟩ := hv1.at_ (P := Tryz.prog) (t := 31) (fun _ => rfl) (by simp) (by simp) h0
  have p1 : idxAV (some (some 2)) v (.val (.int .i64 0)) = some p := p1
  have hmx1 : l[0] = maxR (getL mm) l[0] (l.take 1) := by
    rw [List.take_one, List.head?_eq_getElem?, List.getElem?_eq_getElem h0]
    simp only [Option.toList_some, maxR, List.foldl_cons, List.foldl_nil, laterR]
    split <;> rfl
  simp (dsimp := false) (implicitDefEqProofs := false) [allocAV, hlen, hn1, p1, p3, storeAV, overwrite]
  obtain ⟨M2, hM2⟩ : ∃ M2, M2 = M ++ [.cells 31 [I 0, I 0], .cells 31 [I l[0].1, I l[0].2]] := ⟨_, rfl⟩
  refine w_looped hB (fun T M1 => ∃ i : Nat, 1 ≤ i ∧ i ≤ l.length ∧ T 0 = v ∧ T 1 = .func (.func 16) [] [.ptr oo 0] ∧ T 4 = .ptr M.length 0 ∧ T 5 = .ptr (M.length + 1) 0 ∧ T 6 = I i ∧ Grow M M1 ∧ M1[M.length]? = some (.cells 31 [I 0, I 0]) ∧ M1[M.length + 1]? = some (.cells 31 (rowR (maxR (getL mm) l[0] (l.take i)))))
    (fun T _ => match T 6 with | .val (.int _ i) => l.length - i.toNat | _ => 0) (by kernel_rfl) ?_ ?_
  · refine ⟨1, by omega, by omega, by simp, by simp, by simp, by simp, by simp, KeepsBut.app _ _ _, by simp, ?_⟩
    rw [← hmx1]; simp
  rintro T M1 ⟨i, i0, i1, t0, t1, t4, t5, t6, hg, hc4, hc5⟩
  generalize hmx : maxR (getL mm) l[0] (l.take i) = m at *
  by_cases hi : i < l.length
  case neg =>
    have hi' : ¬ (i : Int) < l.length := by omega
    obtain rfl : i = l.length := by omega
    rw [List.take_length] at hmx
    have hlt4 := (List.getElem?_eq_some_iff.1 hc4).1
    simp (dsimp := false) (implicitDefEqProofs := false) [t0, t1, t4, t5, t6, hlen, hi', loadAV_ptr hc5, storeAV_ptr hc4, overwrite, memOf_set hlt4, hmx]
    exact grow_set hg (Nat.le_refl _)
  have hi' : (i : Int) < l.length := by omega
  have w1 := wadd1 (i := i) (by omega)
  have hvi := hv.keep hg (fun _ _ => by simp)
  obtain ⟨q, q1, q2, q3, q4⟩ := hvi.at_ (P := Tryz.prog) (t := 31) (fun _ => rfl) (by simp) (by simp) hi
  have hoM : M1[oo]? = some (.cells 54 [.mapr bm]) := hg.get hM (by simp)
  have hmM := hm.keep hg (by simp)
  have hord := order_ok gl l[i] m oo bm mm M1 hoM hmM
  simp (dsimp := false) (implicitDefEqProofs := false) [t0, t1, t4, t5, t6, hlen, hi']
  refine w_drawn hB (cfollows gl) (fun k => if k = 4 ∨ k = 5 then 1 else if k = 6 then 2 else 0) (fun k => if k = 4 then f else M.length + 1) (by rfl) (by kernel_rfl) ?_
  simp (dsimp := false) (implicitDefEqProofs := false) [t0, t1, t4, t5, t6, hlen, hi', q1, readObj, q3, q4, hf, loadAV_ptr hc5]
  refine w_call2 (inv_of Tryz.func16 rfl rfl hord) ?_
  have hnx := maxR_next (getL mm) l[0] l hi
  rw [hmx, laterR] at hnx
  have hlt5 := (List.getElem?_eq_some_iff.1 hc5).1
  by_cases hb : 0 < cmpR (getL mm) l[i] m
  · have hbg : cmpR (getL mm) l[i] m > 0 := hb
    rw [if_pos ((beh_iff _ _ _).1 hb)] at hnx
    simp (dsimp := false) (implicitDefEqProofs := false) [hb, hbg, t0, t1, t4, t5, t6, q1, q3, storeAV_ptr hc5, overwrite, w1]
    refine ⟨⟨i + 1, by clear w1; omega, by clear w1; omega, rfl, grow_set hg (by omega), ?_, ?_⟩, by clear w1; omega⟩
    · exact hc4
    · rw [hnx]; simp [hlt5]
  · have hbg : ¬ cmpR (getL mm) l[i] m > 0 := hb
    have hbf : behB (getL mm) l[i] m = false := by
      cases h : behB (getL mm) l[i] m with
      | false => rfl
      | true => exact absurd ((beh_iff _ _ _).2 h) hb
    rw [hbf, if_neg (by simp)] at hnx
    simp (dsimp := false) (implicitDefEqProofs := false) [hb, hbg, t0, t1, t4, t5, t6, w1]
    exact ⟨⟨i + 1, by clear w1; omega, by clear w1; omega, rfl, hg, hc4, by rw [hnx]; exact hc5⟩, by clear w1; omega⟩
end
theorem build31e : buildAV Tryz.prog 31 [] = some (.agg [I 0, I 0]) := by simp [buildAV, buildGo]
theorem build31 {a b : Int} : buildAV Tryz.prog 31 [(0, I a), (1, I b)] = some (.agg [I a, I b]) := by simp [buildAV, buildGo, putCells, overwrite]
theorem memOf_last {M : Mem} {t : TypeId} {cs : List AV} : memOf (M ++ [.cells t cs]) (.ptr M.length 0) = some cs := by simp [memOf]
theorem fresh_step {M M1 M2 : Mem} {v v' : AV} {X : List AObj} (h1 : Grow M M1) (hl : Later M.length v) (h2 : KeepsBut (obj v) (M1 ++ X) M2) (h3 : obj v' = obj v ∨ Later (M1 ++ X).length v') : Grow M M2 ∧ Later M.length v' := by
  refine ⟨⟨?_, fun i hi _ => ?_⟩, fun f hf => ?_⟩
  · have := h1.1; have := h2.1; simp at this; omega
  · rw [h2.2 i (by have := h1.1; simp; omega) (fun e => by have := hl _ e; omega), List.getElem?_append_left (by have := h1.1; omega)]
    exact h1.2 i hi (by simp)
  · rcases h3 with e | e
    · exact hl f (by rw [← e]; exact hf)
    · have := e f hf; have := h1.1; simp at *; omega
structure CiteD where
  k : Int
  path : List StepD
  to : ByteArray
  from_ : Int
  at_ : Int
def CiteD.row (c : CiteD) : List AV := [I c.k, .list 2 (rowsP c.path) .no, S c.to, I c.from_, I c.at_]
def placeW (x : WordD) : Int × Int := (x.act, x.item)
def placesOf (w : List WordD) (f a : Int) : List (Int × Int) := ((w.take a.toNat).drop f.toNat).map placeW
def authorR (D : Int → Option Int) (w : List WordD) (c : CiteD) : Int × Int :=
  if 0 ≤ c.from_ ∧ c.from_ < c.at_ ∧ c.at_ ≤ w.length then maxR D ((placesOf w c.from_ c.at_).headD (0, 0)) (placesOf w c.from_ c.at_) else (0, 0)
theorem authorR_no {D : Int → Option Int} {w : List WordD} {c : CiteD} (h : ¬ (0 ≤ c.from_ ∧ c.from_ < c.at_ ∧ c.at_ ≤ w.length)) : authorR D w c = (0, 0) := if_neg h
section
variable (gl : Nat → AV)
theorem author_ok (w : List WordD) (c : CiteD) (l : List GazD) (M : Mem) (hf : fewA l) (hw : w.length ≤ 1000) :
    ACalls (WC gl) 7 [.list 4 (rowsW w) .no, .agg c.row, .list 4 (rowsG l) .no] M (fun r M' => r = .agg (rowR (authorR (dayL (firstA (l.flatMap GazD.acts))) w c)) ∧ M' = M) := by
  refine grow_cutB (fun n => by simp [bdd, bddL]) ?_
  have hdays := fun M => days_ok gl l M hf
  generalize dayL (firstA (l.flatMap GazD.acts)) = D at *
  obtain ⟨k, path, to, fr, at_⟩ := c
  rw [CiteD.row]
  refine w_body (hQ [53]) Tryz.func7 rfl rfl rfl rfl rfl rfl ?_
  have no : ¬ (0 ≤ fr ∧ fr < at_ ∧ at_ ≤ w.length) → authorR D w ⟨k, path, to, fr, at_⟩ = (0, 0) := fun h => authorR_no h
  by_cases h1 : fr < 0
  · simp (dsimp := false) (implicitDefEqProofs := false) [allocAV, h1, storeAV, overwrite, build31e, memOf_last, no (by omega)]
    exact KeepsBut.app _ _ _
  have h1g : ¬ (0 > fr) := by omega
  by_cases h2 : fr ≥ at_
  · have h2' : at_ ≤ fr := h2
    simp (dsimp := false) (implicitDefEqProofs := false) [allocAV, h1, h2', h2, storeAV, overwrite, build31e, memOf_last, no (by omega)]
    exact KeepsBut.app _ _ _
  have h2' : ¬ at_ ≤ fr := h2
  by_cases h3 : at_ > w.length
  · have h3' : (w.length : Int) < at_ := h3
    simp (dsimp := false) (implicitDefEqProofs := false) [allocAV, h1, h2', h2, h3, h3', storeAV, overwrite, build31e, memOf_last, no (by omega)]
    exact KeepsBut.app _ _ _
  have h3' : ¬ (w.length : Int) < at_ := h3
  simp (dsimp := false) (implicitDefEqProofs := false) [allocAV, h1, h2, h2', h3, h3']
  refine w_calls (inv_of Tryz.func15 rfl rfl (hdays _)) ?_
  rintro _ M1 ⟨mm, rfl, hm, hd, hg⟩
  obtain rfl : getL mm = D := funext hd
  have h6 : M1[M.length]? = some (.cells 31 [I 0, I 0]) := hg.get (by simp) (by simp)
  have hgM : Grow M M1 := (KeepsBut.app none M _).trans hg
  clear hg
  obtain ⟨f, hf⟩ : ∃ f : Nat, fr = f := ⟨fr.toNat, by omega⟩
  obtain ⟨a, ha⟩ : ∃ a : Nat, at_ = a := ⟨at_.toNat, by omega⟩
  subst hf ha
  have g1 : f ≤ a := by omega
  have g2 : a ≤ w.length := by omega
  obtain ⟨W, hW⟩ : ∃ W, W = (w.take a).drop f := ⟨_, rfl⟩
  have hWl : W.length = a - f := by rw [hW, List.length_drop, List.length_take]; omega
  have hpl : placesOf w f a = W.map placeW := by rw [hW]; simp [placesOf]
  have hres : authorR (getL mm) w ⟨k, path, to, (f : Int), (a : Int)⟩ = maxR (getL mm) ((W.map placeW).headD (0, 0)) (W.map placeW) := by
    rw [authorR, if_pos ⟨by simp, by simp only; omega, by simp only; omega⟩, hpl]
  rw [hres]
  clear hres hpl no
  simp (dsimp := false) (implicitDefEqProofs := false) [allocAV, storeAV, overwrite, g1, g2, rowsW_take, rowsW_drop, ← hW]
  obtain ⟨M3, hM3⟩ : ∃ M3, M3 = M1 ++ [AObj.cells 54 [.mapr (M.length + 1)]] := ⟨_, rfl⟩
  have hoo : M3[M1.length]? = some (.cells 54 [.mapr (M.length + 1)]) := by rw [hM3]; simp
  have hm3 : MapAt I I M3 (M.length + 1) mm := by
    have := hm.keep (KeepsBut.app none M1 [AObj.cells 54 [.mapr (M.length + 1)]]) (by simp)
    rw [hM3]; simpa using this
  have hg3 : Grow M M3 := by rw [hM3]; exact hgM.trans (KeepsBut.app none M1 _)
  have h63 : M3[M.length]? = some (.cells 31 [I 0, I 0]) := by rw [hM3, List.getElem?_append_left (List.getElem?_eq_some_iff.1 h6).1]; exact h6
  have hW0 : 0 < W.length := by omega
  obtain ⟨Pl, hPl⟩ : ∃ Pl, Pl = W.map placeW := ⟨_, rfl⟩
  have hPll : Pl.length = W.length := by rw [hPl, List.length_map]
  rw [← hPl]
  refine w_looped (hQ [53]) (fun T M4 => ∃ (i : Nat) (v : AV), i ≤ W.length ∧ T 6 = .ptr M.length 0 ∧ T 8 = .func (.func 16) [] [.ptr M1.length 0] ∧ T 9 = v ∧ (∃ o, T 38 = .list 4 (rowsW W) o) ∧ T 39 = I W.length ∧ T 40 = I i ∧ OwnR 31 2 rowR M4 v (Pl.take i) ∧ Grow M3 M4 ∧ Later M3.length v)
    (fun T _ => match T 40 with | .val (.int _ i) => W.length - i.toNat | _ => 0) (by kernel_rfl) ?_ ?_
  · refine ⟨0, .val (.slice none 0 0), by omega, by simp, by simp, by simp, ⟨_, rfl⟩, by simp [hWl], by simp, OwnR.nil, ?_, ?_⟩
    · rw [hM3]; first | exact .refl _ _ | (simp; exact .refl _ _)
    · intro f hf; simp at hf
  rintro T M4 ⟨i, v, i1, t6, t8, t9, ⟨o, t38⟩, t39, t40, hv, hg4, hlat⟩
  by_cases hi : i < W.length
  case neg =>
    have hi' : ¬ (i : Int) < W.length := by omega
    obtain rfl : i = W.length := by omega
    rw [← hPll, List.take_length] at hv
    have hmx := max_ok gl Pl v M1.length (M.length + 1) mm M4 (hg4.get hoo (by simp)) (hm3.keep hg4 (by simp)) hv (by omega) (by omega)
    have hhd : Pl[0]'(by omega) = Pl.headD (0, 0) := by
      cases Pl with
      | nil => simp at hPll; omega
      | cons x W => rfl
    rw [hhd] at hmx
    have h64 := hg4.get h63 (by simp)
    have hlt64 := (List.getElem?_eq_some_iff.1 h64).1
    simp (dsimp := false) (implicitDefEqProofs := false) [t6, t8, t9, t38, t39, t40, hi']
    refine w_calls (inv_of Tryz.func19 rfl rfl hmx) ?_
    rintro _ _ ⟨rfl, rfl⟩
    simp (dsimp := false) (implicitDefEqProofs := false) [t6, storeAV_ptr h64, overwrite, memOf_set hlt64]
    exact grow_set (hg3.trans hg4) (Nat.le_refl _)
  have hi' : (i : Int) < W.length := by omega
  have w1 := wadd1 (i := i) (by omega)
  have hPi : i < Pl.length := by omega
  have hPe : Pl[i] = placeW W[i] := by simp [hPl]
  have htk : Pl.take (i + 1) = Pl.take i ++ [placeW W[i]] := by rw [List.take_add_one, List.getElem?_eq_getElem hPi, Option.toList_some, hPe]
  have hv2 := hv.keep (KeepsBut.app none M4 [.cells 53 [S W[i].text, I W[i].act, I W[i].item, I W[i].at_]]) (fun _ _ => by simp)
  simp (dsimp := false) (implicitDefEqProofs := false) [t6, t8, t9, t38, t39, t40, hi, hi', WordD.row, allocAV, storeAV, overwrite, build31, buildSliceAV, rowsGo]
  refine pushR (C := WC gl) (enc := rowR) (e := 31) (sz := 2) (news := [placeW W[i]]) elem60 src60 eok31 (fun _ => rfl) hv2 (by simp [srcCells, placeW]) (by simp; clear w1; omega) (by rfl) ?_
  intro v' M5 k1 k2 k3 _
  simp (dsimp := false) (implicitDefEqProofs := false) [t6, t8, t38, t39, t40, w1]
  obtain ⟨r1, r2⟩ := fresh_step hg4 hlat k2 k3
  exact ⟨⟨i + 1, by clear w1; omega, rfl, by rw [htk]; exact k1, r1, r2⟩, by clear w1; omega⟩
end
end Go.Abs
end
section
/- Contracts: the acts that count, in legal order (the reference's). -/
set_option maxRecDepth 100000
set_option linter.unusedSimpArgs false
set_option linter.unusedVariables false
namespace Go.Abs
open Go.Proofs TryTypes

/-- as WC, but that no type of slices is made as data by itself -/
noncomputable def WD (gl : Nat → AV) : Ctx := ⟨Tryz.prog, gl, fun _ => none, fun _ => false⟩
@[simp] theorem WD_data (gl : Nat → AV) : (WD gl).data = fun _ => false := rfl
@[simp] theorem WD_P (gl : Nat → AV) : (WD gl).P = Tryz.prog := rfl
@[simp] theorem WD_gl (gl : Nat → AV) : (WD gl).gl = gl := rfl
theorem dfollows (gl : Nat → AV) : (WD gl).P.follows .mixedOrders = true := by kernel_rfl
theorem to_WC {gl : Nat → AV} {f : FuncId} {args : List AV} {M : Mem} {Q : AV → Mem → Prop} (h : ACalls (WD gl) f args M Q) : ACalls (WC gl) f args M Q := by
  intro G w vs hi hr
  have hi' : Inv (WD gl) G M w := ⟨hi.n, hi.st, hi.keep, hi.obj, hi.apart, hi.gl, fun g cs h => by simp [WD] at h⟩
  refine Calls.mono (h G w vs hi' hr) ?_
  rintro e w' ⟨r, M', G', v, rfl, h1, h2, h3, h4⟩
  exact ⟨r, M', G', v, rfl, h1, h2, ⟨h3.n, h3.st, h3.keep, h3.obj, h3.apart, h3.gl, fun g cs h => by simp [WC] at h⟩, h4⟩
theorem vbuild85z {M : Mem} : vbuildAV Tryz.prog 85 0 [] M = some (.vref M.length 0 7 0 0, M ++ [.vec 84 7 [] 0 [(0, 0)]]) := by simp [vbuildAV, rowsGo]
theorem OwnR.new0 {α : Type} {e sz : Nat} {enc : α → List AV} {M : Mem} : OwnR e sz enc (M ++ [.vec e sz [] 0 [(0, 0)]]) (.vref M.length 0 sz 0 0) ([] : List α) := .inr ⟨M.length, 0, [(0, 0)], rfl, by simp, rfl⟩
theorem rowsA_flat (l : List ActD) : (rowsA l).flatten = l.flatMap ActD.row := by simp [rowsA, List.flatMap]
section
variable (gl : Nat → AV)
theorem all_ok (l : List GazD) (M : Mem) (hf : fewA l) :
    ACalls (WD gl) 87 [.list 4 (rowsG l) .no] M (fun v M' => OwnR 84 7 ActD.row M' v (l.flatMap GazD.acts) ∧ Grow M M' ∧ Later M.length v) := by
  obtain ⟨hf1, hf2⟩ := hf
  refine w_body (hQ [5, 18]) Tryz.func87 rfl rfl rfl rfl rfl rfl ?_
  simp (dsimp := false) (implicitDefEqProofs := false) [vbuild85z]
  refine w_looped (hQ [5, 18]) (fun T M1 => ∃ (i : Nat) (v : AV), i ≤ l.length ∧ T 0 = .list 4 (rowsG l) .no ∧ T 3 = v ∧ T 4 = I i ∧ OwnR 84 7 ActD.row M1 v ((l.take i).flatMap GazD.acts) ∧ Grow M M1 ∧ Later M.length v)
    (fun T _ => match T 4 with | .val (.int _ i) => l.length - i.toNat | _ => 0) (by kernel_rfl) ?_ ?_
  · exact ⟨0, _, by omega, by simp, by simp; rfl, by simp, by simp only [List.take_zero, List.flatMap_nil]; exact OwnR.new0, KeepsBut.app _ _ _, by intro f hf; simp at hf; omega⟩
  rintro T M1 ⟨i, v, i1, t0, t3, t4, hv, hg, hlat⟩
  by_cases hi : i < l.length
  case neg =>
    have hi' : ¬ (i : Int) < l.length := by omega
    obtain rfl : i = l.length := by omega
    rw [List.take_length] at hv
    simp (dsimp := false) (implicitDefEqProofs := false) [t0, t3, t4, hi']
    exact ⟨hv, hg, hlat⟩
  have hi' : (i : Int) < l.length := by omega
  have w1 := wadd1 (i := i) (by omega)
  have hfl : (l.take (i + 1)).flatMap GazD.acts = (l.take i).flatMap GazD.acts ++ l[i].acts := by
    rw [List.take_add_one, List.getElem?_eq_getElem hi, Option.toList_some, List.flatMap_append]; simp
  have hnl : ((l.take i).flatMap GazD.acts).length + l[i].acts.length ≤ 1000 := by
    have h1 : l.flatMap GazD.acts = (l.take (i + 1)).flatMap GazD.acts ++ (l.drop (i + 1)).flatMap GazD.acts := by rw [← List.flatMap_append, List.take_append_drop]
    rw [h1, hfl, List.length_append, List.length_append] at hf2
    clear w1; omega
  simp (dsimp := false) (implicitDefEqProofs := false) [t0, t3, t4, hi, hi', GazD.row]
  refine pushR (C := WD gl) (enc := ActD.row) (e := 84) (sz := 7) (news := l[i].acts) elem85 src85 eok84 (fun _ => rfl) hv (by simp [srcCells, rowsA_flat]) (by clear w1; omega) (by rfl) ?_
  intro v' M2 k1 k2 k3 _
  obtain ⟨r1, r2⟩ := fresh_step (X := []) hg hlat (by simpa using k2) (by simpa using k3)
  simp (dsimp := false) (implicitDefEqProofs := false) [t0, t4, w1]
  exact ⟨⟨i + 1, by clear w1; omega, rfl, by rw [hfl]; exact k1, r1, r2⟩, by clear w1; omega⟩
theorem allD_ok (l : List GazD) (M : Mem) (hf : fewA l) : ACalls (WD gl) 87 [.list 4 (rowsG l) .no] M (fun v M' => v = .list 7 (rowsA (l.flatMap GazD.acts)) .no ∧ M' = M) :=
  ACalls.still (fun _ => rfl) bdd_act (all_ok gl l M hf)
/-- the place of the first act of a number -/
def firstI (n : Int) (l : List ActD) : Int := match l.findIdx? (fun a => decide (a.number = n)) with
  | some i => i
  | none => -1
theorem first_ok (l : List ActD) (n : Int) (M : Mem) (o : Own) (hl : l.length ≤ 1000) :
    ACalls (WD gl) 88 [.list 7 (rowsA l) o, I n] M (fun v M' => v = I (firstI n l) ∧ M' = M) := by
  refine w_body hB Tryz.func88 rfl rfl rfl rfl rfl rfl ?_
  simp (dsimp := false) (implicitDefEqProofs := false)
  refine w_looped hB (fun T M1 => ∃ i : Nat, i ≤ l.length ∧ T 0 = .list 7 (rowsA l) o ∧ T 1 = I n ∧ T 5 = I i ∧ M1 = M ∧ ∀ j, (h : j < l.length) → j < i → l[j].number ≠ n) (fun T _ => match T 5 with | .val (.int _ i) => l.length - i.toNat | _ => 0) (by kernel_rfl) ?_ ?_
  · exact ⟨0, by omega, by simp, by simp, by simp, rfl, by omega⟩
  rintro T M1 ⟨i, i1, t0, t1, t5, rfl, hb⟩
  by_cases hi : i < l.length
  case neg =>
    have hi' : ¬ (i : Int) < l.length := by omega
    have : firstI n l = -1 := by
      rw [firstI, List.findIdx?_eq_none_iff.2]
      intro x hx
      obtain ⟨j, hj, rfl⟩ := List.mem_iff_getElem.1 hx
      simpa using hb j hj (by omega)
    simp (dsimp := false) (implicitDefEqProofs := false) [t0, t1, t5, hi', this]
  have hi' : (i : Int) < l.length := by omega
  have w1 := wadd1 (i := i) (by omega)
  by_cases hn : l[i].number = n
  · have : firstI n l = i := by
      rw [firstI, (List.findIdx?_eq_some_iff_getElem (i := i)).2 ⟨hi, by simpa using hn, fun j hj => by simpa using hb j (by omega) hj⟩]
    simp (dsimp := false) (implicitDefEqProofs := false) [t0, t1, t5, hi, hi', ActD.row, hn, this]
  · simp (dsimp := false) (implicitDefEqProofs := false) [t0, t1, t5, hi, hi', ActD.row, hn, w1]
    exact ⟨⟨i + 1, by clear w1; omega, rfl, fun j hj hlt => by
      by_cases e : j = i
      · subst e; exact hn
      · exact hb j hj (by clear w1; omega)⟩, by clear w1; omega⟩
/-- legal order (the reference's) -/
def aheadA (a b : ActD) : Bool := if a.day = b.day then decide (a.number < b.number) else decide (a.day < b.day)
theorem ahead_ok (a b : ActD) (M : Mem) : ACalls (WD gl) 89 [.agg a.row, .agg b.row] M (fun v M' => v = B (aheadA a b) ∧ M' = M) := by
  refine w_body hB Tryz.func89 rfl rfl rfl rfl rfl rfl ?_
  by_cases h : a.day = b.day
  · simp (dsimp := false) (implicitDefEqProofs := false) [ActD.row, h, aheadA]
  · simp (dsimp := false) (implicitDefEqProofs := false) [ActD.row, h, aheadA]
end
section
variable {C : Ctx} {M : Mem} {K : AV → Mem → Prop}
theorem w_appIn {own vec : Bool} {st xt e : TypeId} {sz bytes k m : Nat} {s x : AV} {cs news : List AV} {r : AV × Mem} {tg : Tag K} (h1 : elemOf? C.P st = some e) (h2 : srcOk C.P xt) (h3 : elemOk C.P e sz bytes) (h4 : srcCells M sz s = some (cs, k)) (h5 : srcCells M sz x = some (news, m)) (h6 : (k + m) * bytes ≤ 140737488355328)
    (hi : vappIn e sz s x M = some r) (hk : K r.1 r.2) (hv : vecLike vec s = true := by rfl) : wAppend C own vec st xt s x M K tg := by
  refine ⟨e, sz, bytes, ⟨h1, h2, h3⟩, ?_⟩
  have e1 : appMem own vec e sz bytes s x M = some r := by
    simp [appMem, hv, h4, h5, h6, hi]
  rw [e1]; exact hk
end
section
variable (gl : Nat → AV)
theorem rActs_ok (l : List GazD) (M : Mem) (hf : fewA l) :
    ACalls (WD gl) 62 [.list 4 (rowsG l) .no] M (fun v M' => ∃ E, OwnR 84 7 ActD.row M' v E ∧ Grow M M' ∧ Later M.length v ∧ E.Perm (firstA (l.flatMap GazD.acts))) := by
  have hall := fun M => allD_ok gl l M hf
  have hf2 := hf.2
  generalize l.flatMap GazD.acts = row at *
  refine w_body (hQ [10, 43, 47, 56, 58]) Tryz.func62 rfl rfl rfl rfl rfl rfl ?_
  simp (dsimp := false) (implicitDefEqProofs := false)
  refine w_calls (inv_of Tryz.func87 rfl rfl (hall _)) ?_
  rintro _ M ⟨rfl, rfl⟩
  simp (dsimp := false) (implicitDefEqProofs := false) [vbuild85z]
  refine w_looped (hQ [10, 43, 47, 56, 58]) (fun T M1 => ∃ (i : Nat) (v : AV) (E : List ActD), i ≤ row.length ∧ T 3 = .list 7 (rowsA row) .no ∧ T 4 = v ∧ T 5 = I i ∧ OwnR 84 7 ActD.row M1 v E ∧ (∃ f, obj v = some f) ∧ Grow M M1 ∧ Later M.length v ∧ E.Perm (firstA (row.take i)))
    (fun T _ => match T 5 with | .val (.int _ i) => row.length - i.toNat | _ => 0) (by kernel_rfl) ?_ ?_
  · exact ⟨0, _, [], by omega, by simp, rfl, by simp, OwnR.new0, by simp, KeepsBut.app _ _ _, by intro f hf; simp at hf; omega, by simp [firstA]⟩
  rintro T M1 ⟨i, v, E, i1, t3, t4, t5, hv, ⟨f, hfv⟩, hg, hlat, hp⟩
  by_cases hi : i < row.length
  case neg =>
    have hi' : ¬ (i : Int) < row.length := by omega
    obtain rfl : i = row.length := by omega
    rw [List.take_length] at hp
    simp (dsimp := false) (implicitDefEqProofs := false) [t3, t4, t5, hi']
    exact ⟨E, hv, hg, hlat, hp⟩
  have hi' : (i : Int) < row.length := by omega
  have w1 := wadd1 (i := i) (by omega)
  have hnx := firstA_next row hi
  have hEl : E.length ≤ i := by rw [hp.length_eq]; have := firstA_len (row.take i); rw [List.length_take] at this; clear w1; omega
  have hfi : firstI row[i].number row = i ↔ row[i].number ∉ (row.take i).map (·.number) := by
    have hnm : row[i].number ∈ (row.take i).map (·.number) ↔ ∃ j, ∃ h : j < row.length, j < i ∧ row[j].number = row[i].number := by
      rw [List.mem_map]
      constructor
      · rintro ⟨a, ha, e⟩
        obtain ⟨j, hj, e2⟩ := List.mem_iff_getElem.1 ha
        have hj2 : j < i := by simp at hj; omega
        rw [List.getElem_take] at e2
        exact ⟨j, by omega, hj2, by rw [e2, e]⟩
      · rintro ⟨j, hj, hlt, e⟩
        exact ⟨row[j], List.mem_iff_getElem.2 ⟨j, by simp; omega, by rw [List.getElem_take]⟩, e⟩
    rw [hnm, firstI]
    constructor
    · intro h
      split at h
      · rename_i q hq
        obtain rfl : q = i := by omega
        obtain ⟨q1, q2, q3⟩ := List.findIdx?_eq_some_iff_getElem.1 hq
        rintro ⟨j, hj, hlt, e⟩
        have := q3 j hlt
        simp [e] at this
      · omega
    · intro h
      rw [(List.findIdx?_eq_some_iff_getElem (i := i)).2 ⟨hi, by simp, fun j hj => by simpa using fun e => h ⟨j, by omega, hj, e⟩⟩]
  simp (dsimp := false) (implicitDefEqProofs := false) [t3, t4, t5, hi, hi', ActD.row]
  refine w_calls (inv_of Tryz.func88 rfl rfl (first_ok gl row row[i].number M1 .no (by omega))) ?_
  rintro _ M1 ⟨rfl, rfl⟩
  by_cases hc : firstI row[i].number row = i
  case neg =>
    have hin : row[i].number ∈ (firstA (row.take i)).map (·.number) := by
      rw [firstA_nums]; exact Classical.byContradiction fun h => hc (hfi.2 h)
    rw [stepF, if_pos hin] at hnx
    simp (dsimp := false) (implicitDefEqProofs := false) [t3, t4, t5, hi', hc, w1]
    exact ⟨⟨i + 1, by clear w1; omega, rfl, E, hv, ⟨f, hfv⟩, hg, hlat, by rw [hnx]; exact hp⟩, by clear w1; omega⟩
  have hni : row[i].number ∉ (firstA (row.take i)).map (·.number) := by rw [firstA_nums]; exact hfi.1 hc
  rw [stepF, if_neg hni] at hnx
  have hlen : lenAV Tryz.prog 85 v = some E.length := hv.len (e' := 84) (by simp)
  simp (dsimp := false) (implicitDefEqProofs := false) [t3, t4, t5, hi', hc]
  refine w_cutE (.exit 2) (fun T M2 => ∃ k : Nat, k ≤ E.length ∧ T 3 = .list 7 (rowsA row) .no ∧ T 4 = v ∧ T 5 = I i ∧ T 6 = I k ∧ M2 = M1) ?_ ?_
  · refine w_looped (hQ [10, 43, 47, 56, 58]) (fun T M2 => ∃ k : Nat, k ≤ E.length ∧ T 3 = .list 7 (rowsA row) .no ∧ T 4 = v ∧ T 5 = I i ∧ T 6 = I k ∧ M2 = M1) (fun T _ => match T 6 with | .val (.int _ k) => E.length - k.toNat | _ => 0) (by kernel_rfl) ?_ ?_
    · exact ⟨0, by omega, by simp [t3], by simp [t4], by simp [t5], by simp, rfl⟩
    rintro T2 M2 ⟨k, k1, u3, u4, u5, u6, rfl⟩
    simp (dsimp := false) (implicitDefEqProofs := false)
    refine w_drawn (hQ [10, 43, 47, 56, 58]) (dfollows gl) (fun k => if k = 8 then 1 else 0) (fun _ => f) (by rfl) (by kernel_rfl) ?_
    by_cases hk : k < E.length
    case neg =>
      have hk' : ¬ (k : Int) < E.length := by omega
      simp (dsimp := false) (implicitDefEqProofs := false) [u3, u4, u5, u6, hlen, hk']
      exact ⟨k, k1, rfl⟩
    have hk' : (k : Int) < E.length := by omega
    have w2 := wadd1 (i := k) (by omega)
    obtain ⟨p, p1, p2, p3, p4⟩ := hv.at_ (P := Tryz.prog) (t := 84) (fun _ => rfl) (by simp) (by simp) hk
    have hah := fun M => ahead_ok gl E[k] row[i] M
    rw [ActD.row, ActD.row] at hah
    rw [ActD.row] at p3
    simp (dsimp := false) (implicitDefEqProofs := false) [u3, u4, u5, u6, hlen, hk', p1, p3, readObj, p4, hfv, hi, ActD.row]
    refine w_call0 (fun M => inv_of Tryz.func89 rfl rfl (hah M)) ?_
    cases hb : aheadA E[k] row[i] with
    | true =>
      simp (dsimp := false) (implicitDefEqProofs := false) [u3, u4, u5, u6, w2]
      exact ⟨⟨k + 1, by clear w1 w2; omega, rfl⟩, by clear w1 w2; omega⟩
    | false =>
      simp (dsimp := false) (implicitDefEqProofs := false) [u3, u4, u5, u6]
      exact ⟨k, k1, rfl⟩
  rintro T2 M2 ⟨k, k1, u3, u4, u5, u6, rfl⟩
  obtain ⟨g, hist, rfl, hm, hlk⟩ : ∃ g hist, v = .vref f g 7 0 E.length ∧ (∃ g0, M2[f]? = some (.vec 84 7 (E.flatMap ActD.row) g0 hist)) ∧ hist.lookup g = some E.length := by
    rcases hv with ⟨rfl, _⟩ | ⟨f', g, hist, rfl, hm, hlk⟩
    · simp at hfv
    · simp at hfv; subst hfv; exact ⟨g, hist, rfl, ⟨g, hm⟩, hlk⟩
  obtain ⟨g0, hm⟩ := hm
  have hrow7 : ∀ x : ActD, (ActD.row x).length = 7 := fun _ => rfl
  have hflt : f < M2.length := (List.getElem?_eq_some_iff.1 hm).1
  have hs1 : slice2 Tryz.prog 85 (.vref f g 7 0 E.length) (some (I k)) none none = some (.vref f g 7 k (E.length - k)) := by simp [slice2, vsliceAV, mxIdx, sliceIdx, loIdx, k1]
  have hs2 : slice2 Tryz.prog 85 (.vref f g 7 0 E.length) none (some (I k)) none = some (.vref f g 7 0 k) := by simp [slice2, vsliceAV, mxIdx, sliceIdx, loIdx, k1]
  simp (dsimp := false) (implicitDefEqProofs := false) [u3, u4, u5, u6, vbuild85z, hs1]
  refine pushR (C := WD gl) (enc := ActD.row) (e := 84) (sz := 7) (news := E.drop k) elem85 src85 eok84 (fun _ => rfl) (OwnR.new0 (M := M2)) (by
    simp only [srcCells, List.getElem?_append_left hflt, hm, hlk]
    rw [if_pos ⟨trivial, trivial, by omega⟩, flat_drop hrow7, List.length_drop, List.take_of_length_le (by rw [flat_len hrow7, List.length_drop]; exact Nat.le_refl _)]) (by simp; clear w1; omega) (by rfl) ?_
  intro rv M4 b1 b2 b3 _
  have hm4 : M4[f]? = some (.vec 84 7 (E.flatMap ActD.row) g0 hist) := b2.get (by rw [List.getElem?_append_left hflt]; exact hm) (by simp; omega)
  have hrvf : ∀ q, obj rv = some q → q ≠ f := fun q hq e => by
    rcases b3 with h | h
    · rw [h] at hq; simp at hq; omega
    · have := h q hq; simp at this; omega
  simp (dsimp := false) (implicitDefEqProofs := false) [u3, u4, u5, u6]
  refine w_drawn (hQ [10, 43, 47, 56, 58]) (dfollows gl) (fun k => if k = 8 ∨ k = 10 then 2 else 0) (fun _ => f) (by rfl) (by kernel_rfl) ?_
  simp (dsimp := false) (implicitDefEqProofs := false) [u3, u4, u5, u6, hs2, hi, hi', ActD.row, buildSliceAV, rowsGo]
  obtain ⟨x, hx⟩ : ∃ x, x = row[i] := ⟨_, rfl⟩
  rw [← hx] at hnx
  rw [← hx]
  have hsx : ∀ M, srcCells M 7 (.list 7 [[I x.number, S x.title, I x.day, I x.start.k, I x.start.day, S x.start.ev, .list 25 (rowsI x.items) .no]] .full) = some (ActD.row x, 1) := fun M => by simp [srcCells, ActD.row]
  have hE' : (E.take k ++ x :: E.drop k).Perm (firstA (row.take (i + 1))) := by
    rw [hnx]
    have h1 : (E.take k ++ x :: E.drop k).Perm (x :: E) := by
      have := List.perm_middle (a := x) (l₁ := E.take k) (l₂ := E.drop k)
      rw [List.take_append_drop] at this
      exact this
    refine h1.trans ((List.Perm.cons x hp).trans ?_)
    exact (List.perm_append_singleton x _).symm
  have hfM : M.length ≤ f := hlat f rfl
  have hEk : (E.take k ++ x :: E.drop k).length = E.length + 1 := by simp; clear w1; omega
  have hflat : (E.flatMap ActD.row).length = E.length * 7 := flat_len hrow7 E
  have fin : ∀ (v6 : AV) (M6 : Mem), OwnR 84 7 ActD.row M6 v6 (E.take k ++ x :: E.drop k) → obj v6 = some f → KeepsBut (some f) M4 M6 →
      (∃ i_1 : Nat, i_1 ≤ row.length ∧ (i : Int) + 1 = i_1 ∧ ∃ E', OwnR 84 7 ActD.row M6 v6 E' ∧ Grow M M6 ∧ Later M.length v6 ∧ E'.Perm (firstA (row.take i_1))) ∧ row.length - (i + 1) < row.length - i := by
    intro v6 M6 q1 q2 q3
    refine ⟨⟨i + 1, by clear w1; omega, rfl, _, q1, ⟨?_, fun j hj _ => ?_⟩, fun q hq => by rw [q2] at hq; simp at hq; omega, hE'⟩, by clear w1; omega⟩
    · have := q3.1; have := b2.1; have := hg.1; simp at *; clear w1; omega
    · have h1 := hg.1
      have h2 : M2.length ≤ M4.length := by have := b2.1; simp at this; omega
      rw [q3.2 j (by clear w1; omega) (by simp; omega), b2.2 j (by simp; clear w1; omega) (by simp; clear w1; omega), List.getElem?_append_left (by clear w1; omega)]
      exact hg.2 j hj (by simp)
  by_cases hk : k < E.length
  · have hk7 : k * 7 + 7 ≤ E.length * 7 := by clear w1; omega
    refine w_appIn (C := WD gl) (e := 84) (sz := 7) (bytes := 88) (k := k) (m := 1) (cs := (E.flatMap ActD.row).take (k * 7)) (news := ActD.row x) (r := (.vref f g 7 0 (k + 1), M4.set f (.vec 84 7 (overwrite (E.flatMap ActD.row) (k * 7) (ActD.row x)) g0 (keepHist 7 g (k * 7) hist)))) elem85 src85 eok84 ?_ (hsx _) (by clear w1; omega) ?_ ?_ (by rfl)
    · simp only [srcCells, hm4, hlk]
      rw [if_pos ⟨trivial, trivial, by omega⟩, Nat.zero_mul, List.drop_zero]
    · simp only [vappIn, hsx, hm4, hlk]
      rw [if_pos ⟨trivial, trivial, trivial, by omega, by omega⟩, Nat.zero_add]
    · obtain ⟨M5, hM5⟩ : ∃ M5, M5 = M4.set f (.vec 84 7 (overwrite (E.flatMap ActD.row) (k * 7) (ActD.row x)) g0 (keepHist 7 g (k * 7) hist)) := ⟨_, rfl⟩
      have hlk5 : (keepHist 7 g (k * 7) hist).lookup g = some E.length := lookup_filterA _ hlk
      have hflt4 : f < M4.length := (List.getElem?_eq_some_iff.1 hm4).1
      have hm5 : M5[f]? = some (.vec 84 7 ((E.set k x).flatMap ActD.row) g0 (keepHist 7 g (k * 7) hist)) := by
        rw [hM5, flat_set hrow7 _ _ _ hk]; simp [hflt4]
      have hr5 : OwnR 84 7 ActD.row M5 rv (E.drop k) := by rw [hM5]; exact b1.keep (KeepsBut.set _ _ _) (fun q hq e => hrvf q hq (by simpa using e.symm))
      have hkb5 : KeepsBut (some f) M4 M5 := by rw [hM5]; exact KeepsBut.set _ _ _
      have htk : (E.set k x).take (k + 1) = E.take k ++ [x] := by
        rw [List.set_eq_take_append_cons_drop, if_pos hk, List.take_append, List.take_of_length_le (by simp; omega)]
        simp
        rw [Nat.min_eq_left (by omega), Nat.add_sub_cancel_left]; rfl
      simp only
      rw [← hM5]
      simp (dsimp := false) (implicitDefEqProofs := false)
      refine w_vappend (C := WD gl) (e := 84) (sz := 7) (bytes := 88) (k := k + 1) (m := E.length - k) (cs := ((E.set k x).take (k + 1)).flatMap ActD.row) (news := (E.drop k).flatMap ActD.row) elem85 src85 eok84 ?_ (by have := hr5.src hrow7; rwa [List.length_drop] at this) (by clear w1; omega) ?_ ?_ (by rfl)
      · simp only [srcCells, hm5, hlk5]
        rw [if_pos ⟨trivial, trivial, by omega⟩, Nat.zero_mul, List.drop_zero, flat_take hrow7]
      · have hsr := hr5.src hrow7
        simp only [vappIn, hsr, hm5, hlk5, List.length_drop]
        rw [if_neg (by omega)]
      · have hsr := hr5.src hrow7
        simp only [vappAV, hsr, hm5, hlk5, List.length_drop]
        rw [if_pos ⟨trivial, trivial, trivial, by omega⟩, if_neg (by omega), Nat.zero_mul, List.drop_zero, flat_take hrow7, htk, show k + 1 + (E.length - k) = E.length + 1 by omega]
        have hlt5 : f < M5.length := (List.getElem?_eq_some_iff.1 hm5).1
        have hkb6 : ∀ X, KeepsBut (some f) M5 (M5.set f X) := fun X => KeepsBut.set _ _ _
        generalize hM6 : M5.set f _ = M6
        have hm6 : ∃ h6, M6[f]? = some (.vec 84 7 ((E.take k ++ x :: E.drop k).flatMap ActD.row) (g0 + 1) ((g0 + 1, E.length + 1) :: h6)) := ⟨_, by rw [← hM6]; simp [hlt5]; rfl⟩
        obtain ⟨h6, hm6⟩ := hm6
        have hkb := hkb5.trans (hM6 ▸ hkb6 _)
        simp (dsimp := false) (implicitDefEqProofs := false) [u3, u5, u6, t5, w1]
        exact fin _ M6 (.inr ⟨f, g0 + 1, _, by rw [hEk], hm6, by rw [hEk]; simp [List.lookup]⟩) rfl hkb
  · obtain rfl : k = E.length := by omega
    have hdr : E.drop E.length = [] := by simp
    rw [hdr] at b1
    have htk : E.take E.length = E := by simp
    refine w_vappend (C := WD gl) (e := 84) (sz := 7) (bytes := 88) (k := E.length) (m := 1) (cs := E.flatMap ActD.row) (news := ActD.row x) elem85 src85 eok84 ?_ (hsx _) (by clear w1; omega) ?_ ?_ (by rfl)
    · simp only [srcCells, hm4, hlk]
      rw [if_pos ⟨trivial, trivial, by omega⟩, Nat.zero_mul, List.drop_zero, List.take_of_length_le (by rw [hflat]; exact Nat.le_refl _)]
    · simp only [vappIn, hsx, hm4, hlk]
      rw [if_neg (by omega)]
    · simp only [vappAV, hsx, hm4, hlk]
      rw [if_pos ⟨trivial, trivial, trivial, by omega⟩, if_neg (by omega), Nat.zero_mul, List.drop_zero, List.take_of_length_le (by rw [hflat]; exact Nat.le_refl _)]
      have hlt4 : f < M4.length := (List.getElem?_eq_some_iff.1 hm4).1
      have hkb6 : ∀ X, KeepsBut (some f) M4 (M4.set f X) := fun X => KeepsBut.set _ _ _
      have hr6 : ∀ X, OwnR 84 7 ActD.row (M4.set f X) rv ([] : List ActD) := fun X => b1.keep (KeepsBut.set _ _ _) (fun q hq e => hrvf q hq (by simpa using e.symm))
      generalize hM6 : M4.set f _ = M6
      have hm6 : ∃ h6, M6[f]? = some (.vec 84 7 ((E.take E.length ++ x :: E.drop E.length).flatMap ActD.row) (g0 + 1) ((g0 + 1, E.length + 1) :: h6)) := ⟨_, by rw [← hM6]; simp [hlt4]; rfl⟩
      obtain ⟨h6, hm6⟩ := hm6
      have hkb := hM6 ▸ hkb6 _
      have hr6 := hM6 ▸ hr6 _
      have hsr := hr6.src hrow7
      have ho6 : OwnR 84 7 ActD.row M6 (.vref f (g0 + 1) 7 0 (E.length + 1)) (E.take E.length ++ x :: E.drop E.length) := .inr ⟨f, g0 + 1, _, by rw [hEk], hm6, by rw [hEk]; simp [List.lookup]⟩
      simp (dsimp := false) (implicitDefEqProofs := false)
      refine w_vappend (C := WD gl) (e := 84) (sz := 7) (bytes := 88) (k := E.length + 1) (m := 0) (cs := (E.take E.length ++ x :: E.drop E.length).flatMap ActD.row) (news := []) elem85 src85 eok84 (by have := ho6.src hrow7; rwa [hEk] at this) (by simpa using hsr) (by clear w1; omega) ?_ ?_ (by rfl)
      · simp only [vappIn, hsr, hm6]
        simp [List.lookup]
      · simp only [vappAV, hsr, hm6]
        simp only [List.lookup, BEq.rfl, List.length_nil]
        rw [if_pos ⟨trivial, trivial, trivial, by omega⟩, if_pos trivial]
        simp (dsimp := false) (implicitDefEqProofs := false) [u3, u5, u6, t5, w1]
        exact fin _ M6 ho6 rfl hkb
end
end Go.Abs
end
section
/- Contracts: the author of a citation (the reference's). -/
set_option maxRecDepth 100000
set_option linter.unusedSimpArgs false
set_option linter.unusedVariables false
namespace Go.Abs
open Go.Proofs TryTypes

section
variable (gl : Nat → AV)
theorem rActsD_ok (l : List GazD) (M : Mem) (hf : fewA l) :
    ACalls (WD gl) 62 [.list 4 (rowsG l) .no] M (fun v M' => ∃ E : List ActD, v = .list 7 (rowsA E) .no ∧ M' = M ∧ E.Perm (firstA (l.flatMap GazD.acts))) :=
  ACalls.stillE (fun _ => rfl) bdd_act (rActs_ok gl l M hf)
def oneB (b : Bool) : Int := if b then 1 else 0
theorem rOrder_ok (n : Int) (l : List GazD) (M : Mem) (hf : fewA l) :
    ACalls (WD gl) 35 [I n, .list 4 (rowsG l) .no] M (fun v M' => v = .tuple [I (oneB (dayL (firstA (l.flatMap GazD.acts)) n).isSome), I ((dayL (firstA (l.flatMap GazD.acts)) n).getD 0)] ∧ M' = M) := by
  have hfl := firstA_len (l.flatMap GazD.acts)
  have hf2 := hf.2
  have hno := firstA_nodup (l.flatMap GazD.acts)
  have hac := fun M => rActsD_ok gl l M hf
  generalize firstA (l.flatMap GazD.acts) = F at *
  refine w_body (hQ []) Tryz.func35 rfl rfl rfl rfl rfl rfl ?_
  simp (dsimp := false) (implicitDefEqProofs := false)
  refine w_calls (inv_of Tryz.func62 rfl rfl (hac _)) ?_
  rintro _ M ⟨E, rfl, rfl, hp⟩
  have hnE : (E.map (·.number)).Nodup := ((hp.map _).nodup_iff).2 hno
  have hEl : E.length < 40 := by rw [hp.length_eq]; omega
  rw [← dayL_perm hp hnE n]
  simp (dsimp := false) (implicitDefEqProofs := false)
  refine w_looped (hQ []) (fun T M1 => ∃ i : Nat, i ≤ E.length ∧ T 0 = I n ∧ T 6 = .list 7 (rowsA E) .no ∧ T 7 = I i ∧ M1 = M ∧ dayL E n = dayL (E.drop i) n)
    (fun T _ => match T 7 with | .val (.int _ i) => E.length - i.toNat | _ => 0) (by kernel_rfl) ?_ ?_
  · exact ⟨0, by omega, by simp, by simp, by simp, rfl, by simp⟩
  rintro T M1 ⟨i, i1, t0, t6, t7, rfl, hd⟩
  by_cases hi : i < E.length
  case neg =>
    have hi' : ¬ (i : Int) < E.length := by omega
    rw [List.drop_eq_nil_of_le (by omega), dayL] at hd
    simp (dsimp := false) (implicitDefEqProofs := false) [t0, t6, t7, hi', hd, oneB]
  have hi' : (i : Int) < E.length := by omega
  have w1 := wadd1 (i := i) (by omega)
  rw [List.drop_eq_getElem_cons hi, dayL] at hd
  by_cases hn : E[i].number = n
  · rw [if_pos hn] at hd
    simp (dsimp := false) (implicitDefEqProofs := false) [t0, t6, t7, hi, hi', ActD.row, hn]
    refine w_drawn (hQ []) (dfollows gl) (fun _ => 0) (fun _ => 0) (by rfl) (by kernel_rfl) ?_
    simp (dsimp := false) (implicitDefEqProofs := false) [t0, t6, t7, hi, hi', ActD.row, hn, hd, oneB]
  · rw [if_neg hn] at hd
    simp (dsimp := false) (implicitDefEqProofs := false) [t0, t6, t7, hi, hi', ActD.row, hn, w1]
    exact ⟨⟨i + 1, by clear w1; omega, rfl, hd⟩, by clear w1; omega⟩
theorem rBehind_ok (a b : Int × Int) (l : List GazD) (M : Mem) (hf : fewA l) :
    ACalls (WD gl) 20 [.agg (rowR a), .agg (rowR b), .list 4 (rowsG l) .no] M (fun v M' => v = B (behB (dayL (firstA (l.flatMap GazD.acts))) a b) ∧ M' = M) := by
  have hor := fun n M => rOrder_ok gl n l M hf
  generalize dayL (firstA (l.flatMap GazD.acts)) = D at *
  obtain ⟨R, hR⟩ : ∃ R, R = behB D a b := ⟨_, rfl⟩
  rw [← hR]
  unfold behB at hR
  refine w_body hB Tryz.func20 rfl rfl rfl rfl rfl rfl ?_
  simp (dsimp := false) (implicitDefEqProofs := false)
  refine w_calls (inv_of Tryz.func35 rfl rfl (hor a.1 M)) ?_
  rintro _ M ⟨rfl, rfl⟩
  simp (dsimp := false) (implicitDefEqProofs := false)
  refine w_calls (inv_of Tryz.func35 rfl rfl (hor b.1 M)) ?_
  rintro _ M ⟨rfl, rfl⟩
  generalize (D a.1).getD 0 = x0 at *
  generalize (D b.1).getD 0 = y0 at *
  generalize (D a.1).isSome = xs at *
  generalize (D b.1).isSome = ys at *
  by_cases h : xs = ys
  case neg =>
    rw [if_neg h] at hR
    rw [hR]
    cases ys with
    | false =>
      obtain rfl : xs = true := by cases xs <;> simp_all
      simp (dsimp := false) (implicitDefEqProofs := false) [oneB]
    | true =>
      obtain rfl : xs = false := by cases xs <;> simp_all
      simp (dsimp := false) (implicitDefEqProofs := false) [oneB]
  subst h
  rw [if_pos rfl] at hR
  by_cases h1 : x0 = y0
  case neg =>
    rw [if_neg h1] at hR
    rw [hR]
    simp (dsimp := false) (implicitDefEqProofs := false) [h1]
  rw [if_pos h1] at hR
  by_cases h2 : a.1 = b.1
  case neg =>
    rw [if_neg h2] at hR
    rw [hR]
    simp (dsimp := false) (implicitDefEqProofs := false) [h1, h2]
  rw [if_pos h2] at hR
  rw [hR]
  simp (dsimp := false) (implicitDefEqProofs := false) [h1, h2]
theorem rWriter_ok (w : List WordD) (c : CiteD) (l : List GazD) (M : Mem) (hf : fewA l) (hw : w.length ≤ 1000) :
    ACalls (WD gl) 8 [.list 4 (rowsW w) .no, .agg c.row, .list 4 (rowsG l) .no] M (fun r M' => r = .agg (rowR (authorR (dayL (firstA (l.flatMap GazD.acts))) w c)) ∧ M' = M) := by
  refine grow_cutB (fun n => by simp [bdd, bddL]) ?_
  have hbe := fun a b M => rBehind_ok gl a b l M hf
  generalize dayL (firstA (l.flatMap GazD.acts)) = D at *
  obtain ⟨k, path, to, fr, at_⟩ := c
  rw [CiteD.row]
  refine w_body (hQ []) Tryz.func8 rfl rfl rfl rfl rfl rfl ?_
  have no : ¬ (0 ≤ fr ∧ fr < at_ ∧ at_ ≤ w.length) → authorR D w ⟨k, path, to, fr, at_⟩ = (0, 0) := fun h => authorR_no h
  by_cases h1 : fr < 0
  · simp (dsimp := false) (implicitDefEqProofs := false) [allocAV, h1, storeAV, overwrite, build31e, memOf_last, no (by omega)]
    exact KeepsBut.app _ _ _
  by_cases h2 : fr ≥ at_
  · have h2' : at_ ≤ fr := h2
    simp (dsimp := false) (implicitDefEqProofs := false) [allocAV, h1, h2', h2, storeAV, overwrite, build31e, memOf_last, no (by omega)]
    exact KeepsBut.app _ _ _
  have h2' : ¬ at_ ≤ fr := h2
  by_cases h3 : at_ > w.length
  · have h3' : (w.length : Int) < at_ := h3
    simp (dsimp := false) (implicitDefEqProofs := false) [allocAV, h1, h2', h2, h3, h3', storeAV, overwrite, build31e, memOf_last, no (by omega)]
    exact KeepsBut.app _ _ _
  have h3' : ¬ (w.length : Int) < at_ := h3
  obtain ⟨f, hf⟩ : ∃ f : Nat, fr = f := ⟨fr.toNat, by omega⟩
  obtain ⟨a, ha⟩ : ∃ a : Nat, at_ = a := ⟨at_.toNat, by omega⟩
  subst hf ha
  have g1 : f < a := by omega
  have g2 : a ≤ w.length := by omega
  have g3 : f < w.length := by omega
  have g4 : (f : Int) < w.length := by omega
  obtain ⟨Pl, hPl⟩ : ∃ Pl, Pl = placesOf w f a := ⟨_, rfl⟩
  have hPll : Pl.length = a - f := by rw [hPl]; simp [placesOf]; omega
  have hPe : ∀ j (hj : j < Pl.length), Pl[j] = placeW (w[f + j]'(by omega)) := fun j hj => by simp [hPl, placesOf]
  have hP0 : 0 < Pl.length := by omega
  have hhd : Pl.headD (0, 0) = Pl[0] := by
    cases Pl with
    | nil => simp at hP0
    | cons x W => rfl
  have hres : authorR D w ⟨k, path, to, (f : Int), (a : Int)⟩ = maxR D Pl[0] Pl := by
    rw [authorR, if_pos ⟨by simp, by simp only; omega, by simp only; omega⟩, ← hPl, hhd]
  rw [hres]
  have hmx1 : Pl[0] = maxR D Pl[0] (Pl.take 1) := by
    rw [List.take_one, List.head?_eq_getElem?, List.getElem?_eq_getElem hP0]
    simp only [Option.toList_some, maxR, List.foldl_cons, List.foldl_nil, laterR]
    split <;> rfl
  clear hres no hhd
  simp (dsimp := false) (implicitDefEqProofs := false) [allocAV, h1, h2, h2', h3, h3']
  refine w_drawn (hQ []) (dfollows gl) (fun k => if k = 15 ∨ k = 16 then 2 else 0) (fun _ => 0) (by rfl) (by kernel_rfl) ?_
  simp (dsimp := false) (implicitDefEqProofs := false) [g3, g4, WordD.row, build31, allocAV, storeAV, overwrite]
  have hw1 : IntKind.i64.wrap ((f : Int) + 1) = (f + 1 : Nat) := wadd1 (i := f) (by omega)
  have hp0 : Pl[0] = placeW w[f] := by have := hPe 0 hP0; simpa using this
  simp (dsimp := false) (implicitDefEqProofs := false) [hw1]
  refine w_looped (hQ []) (fun T M1 => ∃ j : Nat, 1 ≤ j ∧ j ≤ Pl.length ∧ T 0 = .list 4 (rowsW w) .no ∧ T 2 = .list 4 (rowsG l) .no ∧ T 4 = .cptr [I k, .list 2 (rowsP path) .no, S to, I f, I a] ∧ T 6 = .ptr M.length 0 ∧ T 7 = .ptr (M.length + 1) 0 ∧ T 8 = I (f + j : Nat) ∧ Grow M M1 ∧ M1[M.length]? = some (.cells 31 [I 0, I 0]) ∧ M1[M.length + 1]? = some (.cells 31 (rowR (maxR D Pl[0] (Pl.take j)))))
    (fun T _ => match T 8 with | .val (.int _ q) => a - q.toNat | _ => 0) (by kernel_rfl) ?_ ?_
  · refine ⟨1, by omega, by omega, by simp, by simp, by simp, by simp, by simp, by simp, KeepsBut.app _ _ _, by simp, ?_⟩
    rw [← hmx1, hp0]; simp [placeW]
  rintro T M1 ⟨j, j0, j1, t0, t2, t4, t6, t7, t8, hg, hc6, hc7⟩
  generalize hmx : maxR D Pl[0] (Pl.take j) = m at *
  by_cases hj : j < Pl.length
  case neg =>
    have hj' : ¬ ((f + j : Nat) : Int) < a := by omega
    obtain rfl : j = Pl.length := by omega
    rw [List.take_length] at hmx
    have hlt6 := (List.getElem?_eq_some_iff.1 hc6).1
    generalize f + Pl.length = fj at *
    simp (dsimp := false) (implicitDefEqProofs := false) [t0, t2, t4, t6, t7, t8, hj', loadAV_ptr hc7, storeAV_ptr hc6, overwrite, memOf_set hlt6, hmx]
    exact grow_set hg (Nat.le_refl _)
  obtain ⟨fj, hfe⟩ : ∃ fj, fj = f + j := ⟨_, rfl⟩
  rw [← hfe] at t8
  have hj' : (fj : Int) < a := by omega
  have hfj : fj < w.length := by omega
  have hfj' : (fj : Int) < w.length := by omega
  have hpj : Pl[j] = placeW w[fj] := by rw [hPe j hj]; congr 2; exact hfe.symm
  have hwj : IntKind.i64.wrap ((fj : Int) + 1) = (fj + 1 : Nat) := wadd1 (i := fj) (by omega)
  have hfe2 : fj + 1 = f + (j + 1) := by omega
  have hnx := maxR_next D Pl[0] Pl hj
  rw [hmx, laterR, hpj] at hnx
  obtain ⟨M2, hM2⟩ : ∃ M2, M2 = M1 ++ [.cells 31 [I w[fj].act, I w[fj].item]] := ⟨_, rfl⟩
  have h9 : M2[M1.length]? = some (.cells 31 [I w[fj].act, I w[fj].item]) := by rw [hM2]; simp
  have h7 : M2[M.length + 1]? = some (.cells 31 [I m.1, I m.2]) := by rw [hM2, List.getElem?_append_left (List.getElem?_eq_some_iff.1 hc7).1]; exact hc7
  have h6 : M2[M.length]? = some (.cells 31 [I 0, I 0]) := by rw [hM2, List.getElem?_append_left (List.getElem?_eq_some_iff.1 hc6).1]; exact hc6
  have hg2 : Grow M M2 := by rw [hM2]; exact hg.trans (KeepsBut.app none M1 _)
  have hlt7 := (List.getElem?_eq_some_iff.1 h7).1
  simp (dsimp := false) (implicitDefEqProofs := false) [t0, t2, t4, t6, t7, t8, hj']
  refine w_drawn (hQ []) (dfollows gl) (fun k => if k = 13 ∨ k = 14 then 2 else 0) (fun _ => 0) (by rfl) (by kernel_rfl) ?_
  simp (dsimp := false) (implicitDefEqProofs := false) [t0, t2, t4, t6, t7, t8, hfj, hfj', WordD.row, build31, allocAV, storeAV, overwrite, ← hM2, loadAV_ptr h9, loadAV_ptr h7]
  refine w_calls (inv_of Tryz.func20 rfl rfl (hbe (w[fj].act, w[fj].item) m _)) ?_
  rintro _ M3 ⟨rfl, rfl⟩
  cases hb : behB D (w[fj].act, w[fj].item) m with
  | true =>
    have hb' : behB D (placeW w[fj]) m = true := hb
    rw [if_pos hb'] at hnx
    simp (dsimp := false) (implicitDefEqProofs := false) [t0, t2, t4, t6, t7, t8, loadAV_ptr h9, storeAV_ptr h7, overwrite, hwj]
    refine ⟨⟨j + 1, by clear hwj; omega, by clear hwj; omega, by clear hwj; omega, grow_set hg2 (by omega), h6, ?_⟩, by clear hwj; omega⟩
    rw [hnx]; simp [hlt7, placeW]
  | false =>
    have hb' : behB D (placeW w[fj]) m = false := hb
    rw [hb', if_neg (by simp)] at hnx
    simp (dsimp := false) (implicitDefEqProofs := false) [t0, t2, t4, t6, t7, t8, hwj]
    exact ⟨⟨j + 1, by clear hwj; omega, by clear hwj; omega, by clear hwj; omega, hg2, h6, by rw [hnx]; exact h7⟩, by clear hwj; omega⟩
end
end Go.Abs
end
