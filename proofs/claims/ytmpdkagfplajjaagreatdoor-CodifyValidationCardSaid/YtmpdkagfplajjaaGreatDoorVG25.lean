/- The texts CvQ, CvR, CvT, CvU, CvV: what each proves stands at its head. -/
import Derived.Test.YtmpdkagfplajjaaGreatDoorVG24
section
/- Contracts: a unit of a tree by its ID (the reference's); slots as data. -/
set_option maxRecDepth 100000
set_option linter.unusedSimpArgs false
set_option linter.unusedVariables false
namespace Go.Abs
open Go.Proofs TryTypes

structure SlotD where
  id : IdD
  parent : Int
  label : ByteArray
def SlotD.row (s : SlotD) : List AV := [I s.id.act, I s.id.item, I s.id.n, I s.parent, S s.label]
def SlotD.good (s : SlotD) : Prop := s.id.good ∧ inI s.parent ∧ s.label.size ≤ maxLen
def rowsX (l : List SlotD) : List (List AV) := l.map SlotD.row
@[simp] theorem rowsX_len (l : List SlotD) : (rowsX l).length = l.length := by simp [rowsX]
@[simp] theorem rowsX_get {p : List SlotD} {i : Nat} (h : i < (rowsX p).length) : (rowsX p)[i] = (p[i]'(by simpa using h)).row := by simp [rowsX]
@[simp] theorem SlotD.row_len (s : SlotD) : s.row.length = 5 := rfl
mutual
def findU (x : IdD) : UnitD → Option UnitD
  | .mk id k l h w ks => if id = x then some (.mk id k l h w ks) else findL x ks
def findL (x : IdD) : List UnitD → Option UnitD
  | [] => none
  | k :: ks => match findU x k with
    | some v => some v
    | none => findL x ks
end
def zU : List AV := [I 0, I 0, I 0, I 0, S ⟨#[]⟩, .val (.slice none 0 0), .val (.slice none 0 0), .val (.slice none 0 0)]
def foundRow : Option UnitD → List AV
  | some u => u.row
  | none => zU
theorem bdd_rowsW (n : Nat) (l : List WordD) : bddR n (rowsW l) := by
  induction l with
  | nil => simp [rowsW, bddR]
  | cons w l ih => simp only [rowsW, List.map_cons, bddR]; exact ⟨by simp [WordD.row, bddL, bdd], ih⟩
mutual
theorem bdd_unit (n : Nat) : ∀ u : UnitD, bddL n u.row
  | .mk id k l h w ks => by
    rw [UnitD.row]
    simp only [bddL, bdd, and_true, true_and]
    exact ⟨bdd_rowsW n h, bdd_rowsW n w, bdd_rowsU n ks⟩
theorem bdd_rowsU (n : Nat) : ∀ l : List UnitD, bddR n (rowsU l)
  | [] => by rw [rowsU]; simp [bddR]
  | u :: l => by rw [rowsU]; exact ⟨bdd_unit n u, bdd_rowsU n l⟩
end
theorem bdd_found (n : Nat) (o : Option UnitD) : bddL n (foundRow o) := by
  cases o with
  | none => simp [foundRow, zU, bddL, bdd]
  | some u => exact bdd_unit n u
@[simp] theorem found_len (o : Option UnitD) : (foundRow o).length = 8 := by cases o <;> simp [foundRow, zU]
@[simp] theorem found_take (o : Option UnitD) : List.take 8 (foundRow o) = foundRow o := List.take_of_length_le (by simp)
theorem grow_cutB {C : Ctx} {f : FuncId} {args : List AV} {M : Mem} {r : AV} (hb : ∀ n, bdd n r) (h : ACalls C f args M (fun v M' => v = r ∧ Grow M M')) : ACalls C f args M (fun v M' => v = r ∧ M' = M) := by
  refine h.cut ?_
  rintro _ M' ⟨rfl, hg⟩
  refine ⟨M'.drop M.length, ?_, hb _, rfl, rfl⟩
  have ht : M'.take M.length = M := by
    apply List.ext_getElem?
    intro i
    rw [List.getElem?_take]
    split
    · rename_i hi; exact hg.2 i hi (by simp)
    · rename_i hi; exact (List.getElem?_eq_none (by omega)).symm
  have := List.take_append_drop M.length M'
  rw [ht] at this
  exact this.symm
@[simp] theorem build27 : buildAV Tryz.prog 27 [] = some (.agg zU) := by
  simp [buildAV, buildGo]; rfl
theorem memOf_last {M : Mem} {t : TypeId} {cs : List AV} : memOf (M ++ [.cells t cs]) (.ptr M.length 0) = some cs := by simp [memOf]
theorem memOf_set {M : Mem} {b : Nat} {t : TypeId} {cs : List AV} (h : b < M.length) : memOf (M.set b (.cells t cs)) (.ptr b 0) = some cs := by simp [memOf, h]
theorem grow_set {M M1 : Mem} {b : Nat} {X : AObj} (h : Grow M M1) (hb : M.length ≤ b) : Grow M (M1.set b X) :=
  ⟨by simpa using h.1, fun i hi _ => by rw [List.getElem?_set_ne (by omega)]; exact h.2 i hi (by simp)⟩
@[simp] theorem zU_len : zU.length = 8 := rfl
@[simp] theorem zU_take : List.take 8 zU = zU := rfl
theorem bool_not_none {α : Type} : ((none : Option α).isSome) = false := rfl
section
variable (gl : Nat → AV)
theorem rFind_ok : ∀ (u : UnitD) (x : IdD) (M : Mem), u.good → ACalls (WC gl) 104 [.agg u.row, .agg x.row] M (fun v M' => v = .tuple [.agg (foundRow (findU x u)), B (findU x u).isSome] ∧ M' = M)
  | .mk id kind lab hd ws ks, x, M, hg => by
    refine grow_cutB (fun n => by simp only [bdd, bddL, and_true]; exact bdd_found n _) ?_
    obtain ⟨_, _, hlg, _, hhg, _, hwg, hkn, hkg⟩ := (UnitD.good_iff _).1 hg
    have hkg : ∀ k ∈ ks, k.good := hkg
    have hk' : ks.length ≤ 9223372036854775807 := hkn
    have hrow : (UnitD.mk id kind lab hd ws ks).row = [I id.act, I id.item, I id.n, I kind, S lab, .list 4 (rowsW hd) .no, .list 4 (rowsW ws) .no, .list 8 (rowsU ks) .no] := by rw [UnitD.row]
    have hR : findU x (.mk id kind lab hd ws ks) = if id = x then some (.mk id kind lab hd ws ks) else findL x ks := by rw [findU]
    rw [hR]
    have hx : x.row = [I x.act, I x.item, I x.n] := rfl
    by_cases h0 : id = x
    · rw [if_pos h0]
      have hfr : foundRow (some (.mk id kind lab hd ws ks)) = [I id.act, I id.item, I id.n, I kind, S lab, .list 4 (rowsW hd) .no, .list 4 (rowsW ws) .no, .list 8 (rowsU ks) .no] := hrow
      rw [hfr, hrow, hx]
      refine w_body hB Tryz.func104 rfl rfl rfl rfl rfl rfl ?_
      simp (dsimp := false) (implicitDefEqProofs := false) [eqId, eq_true h0, allocAV, storeAV, overwrite, agg_st, agg_cs, KeepsBut.refl, KeepsBut.app, memOf_last, loadCells_row]
    rw [if_neg h0]
    generalize hR2 : findL x ks = R
    rw [hrow, hx]
    refine w_body hB Tryz.func104 rfl rfl rfl rfl rfl rfl ?_
    simp (dsimp := false) (implicitDefEqProofs := false) [eqId, h0, allocAV, storeAV, overwrite, agg_st, agg_cs]
    refine w_looped hB (fun T M1 => ∃ i : Nat, i ≤ ks.length ∧ T 2 = .cptr [I id.act, I id.item, I id.n, I kind, S lab, .list 4 (rowsW hd) .no, .list 4 (rowsW ws) .no, .list 8 (rowsU ks) .no] ∧ T 3 = .cptr [I x.act, I x.item, I x.n] ∧ T 4 = .ptr M.length 0 ∧ T 6 = I i ∧ (∃ z, M1[M.length]? = some (.cells 27 z) ∧ z.length = 8) ∧ Grow M M1 ∧ R = findL x (ks.drop i))
      (fun T M1 => match T 6 with | .val (.int _ i) => ks.length - i.toNat | _ => 0) (by kernel_rfl) ?_ ?_
    · exact ⟨0, by omega, by simp, by simp, by simp, by simp, ⟨_, List.getElem?_concat_length, rfl⟩, KeepsBut.app _ _ _, by simp [hR2]⟩
    · rintro T M1 ⟨i, i1, t2, t3, t4, t6, ⟨z, hz, hzl⟩, hgr, ho⟩
      by_cases hi : i < ks.length
      case neg =>
        have hi' : ¬ (i : Int) < ks.length := by omega
        rw [show ks.drop i = [] from List.drop_eq_nil_of_le (by omega), findL] at ho
        subst ho
        have hlt : M.length < M1.length := (List.getElem?_eq_some_iff.1 hz).1
        have hd : List.drop 8 z = [] := List.drop_eq_nil_of_le (by omega)
        simp (dsimp := false) (implicitDefEqProofs := false) [t2, t3, t4, t6, hi', storeAV_ptr hz, agg_st, agg_cs, hzl, hd, memOf_set hlt, loadCells_row, foundRow, grow_set hgr]
      have hi' : (i : Int) < ks.length := by omega
      have w1 : IntKind.i64.wrap ((i : Int) + 1) = (i + 1 : Nat) := by rw [wrap_in (by omega) (by omega)]; omega
      have hmem : ks[i] ∈ ks := List.getElem_mem hi
      have hlt : M.length < M1.length := (List.getElem?_eq_some_iff.1 hz).1
      rw [List.drop_eq_getElem_cons hi, findL] at ho
      have := UnitD.kid_lt (u := .mk id kind lab hd ws ks) hmem
      have hf := fun M => rFind_ok ks[i] x M (hkg _ hmem)
      generalize findU x ks[i] = F at *
      have hX : (M1 ++ [AObj.cells 27 (foundRow F)])[M1.length]? = some (AObj.cells 27 (foundRow F)) := by simp
      have hz2 : (M1 ++ [AObj.cells 27 (foundRow F)])[M.length]? = some (AObj.cells 27 z) := by rw [List.getElem?_append_left hlt]; exact hz
      have hlt2 : M.length < (M1 ++ [AObj.cells 27 (foundRow F)]).length := by simp; omega
      have hd : List.drop 8 z = [] := List.drop_eq_nil_of_le (by omega)
      have hgr2 : Grow M (M1 ++ [AObj.cells 27 (foundRow F)]) := hgr.trans (KeepsBut.app none _ _)
      simp (dsimp := false) (implicitDefEqProofs := false) [t2, t3, t4, t6, hi, hi']
      refine w_drawn hB (cfollows gl) (fun k => if k = 10 ∨ k = 11 then 2 else 0) (fun _ => 0) (by rfl) (by kernel_rfl) ?_
      simp (dsimp := false) (implicitDefEqProofs := false) [t2, t3, t4, t6, hi, hi']
      refine w_call0 (fun M => inv_of Tryz.func104 rfl rfl (hf M)) ?_
      cases F with
      | none =>
        simp (dsimp := false) (implicitDefEqProofs := false) [t2, t3, t4, t6, hi, hi', allocAV, storeAV, overwrite, agg_st, agg_cs, w1]
        exact ⟨⟨i + 1, by clear w1; omega, rfl, ⟨z, hz2, hzl⟩, hgr2, ho⟩, by clear w1; omega⟩
      | some v =>
        have ho : R = some v := ho
        subst ho
        simp (dsimp := false) (implicitDefEqProofs := false) [t2, t3, t4, t6, hi, hi', allocAV, storeAV, overwrite, agg_st, agg_cs]
        rw [loadAV_ptr hX]
        simp (dsimp := false) (implicitDefEqProofs := false) [loadCells_row, t4, storeAV_ptr hz2, agg_st, agg_cs, hzl, hd, memOf_set hlt2, grow_set hgr2]
termination_by u => SizeOf.sizeOf u
end
end Go.Abs
end
section
/- Contracts: kind and depth of a slot (both ways). -/
set_option maxRecDepth 100000
set_option linter.unusedSimpArgs false
set_option linter.unusedVariables false
namespace Go.Abs
open Go.Proofs TryTypes

def kindU : Option UnitD → Int
  | some u => u.kind
  | none => 0
def kindS (F : IdD → Option UnitD) (l : List SlotD) (n : Int) : Int := if n < 0 then 0 else match l[n.toNat]? with
  | some s => kindU (F s.id)
  | none => 0
def parS (l : List SlotD) (n : Int) : Int := match l[n.toNat]? with
  | some s => s.parent
  | none => -1
/-- every slot up to n lies behind its parent -/
def OrdS (l : List SlotD) (n : Nat) : Prop := ∀ j, (h : j < l.length) → j ≤ n → -1 ≤ l[j].parent ∧ l[j].parent < j
def deepS (l : List SlotD) : Nat → Int → Nat
  | 0, _ => 0
  | f + 1, n => if n < 0 then 0 else deepS l f (parS l n) + 1
abbrev planAV (l : List SlotD) (a b c : Nat) : AV := .agg [.list 5 (rowsX l) .no, .mapr a, .mapr b, .mapr c]
@[simp] theorem kind_found (o : Option UnitD) : (foundRow o)[3]? = some (I (kindU o)) := by
  cases o with
  | none => rfl
  | some u => simp only [foundRow, u.row_eq]; rfl
@[simp] theorem slotL {l : List SlotD} {n : Nat} (h : n < l.length) : (rowsX l)[n]? = some l[n].row := by simp [rowsX, h]
theorem found_eq (o : Option UnitD) : ∃ a b c d e f g, foundRow o = [I a, I b, I c, I (kindU o), d, e, f, g] := by
  cases o with
  | none => exact ⟨_, _, _, _, _, _, _, rfl⟩
  | some u => exact ⟨_, _, _, _, _, _, _, u.row_eq⟩
theorem get_found (L : List (IdD × UnitD)) (x : IdD) : ∃ r, (match getL L x with | some v => encU v | none => AV.agg zU) = .agg r ∧ r = foundRow (getL L x) := by
  cases getL L x <;> exact ⟨_, rfl, rfl⟩
theorem zero27 : zeroAV Tryz.prog 27 = some (.agg zU) := by simp [zeroAV]; rfl
section
variable (gl : Nat → AV)
theorem rKind_ok (u : UnitD) (l : List SlotD) (n : Int) (M : Mem) (hg : u.good) (hn : n < l.length) : ACalls (WC gl) 107 [.agg u.row, .list 5 (rowsX l) .no, I n] M (fun v M' => v = I (kindS (fun x => findU x u) l n) ∧ M' = M) := by
  refine grow_cutB (fun _ => trivial) ?_
  have hf := fun x M => rFind_ok gl u x M hg
  rw [u.row_eq] at hf ⊢
  refine w_body hB Tryz.func107 rfl rfl rfl rfl rfl rfl ?_
  by_cases h0 : n < 0
  · simp (dsimp := false) (implicitDefEqProofs := false) [h0, kindS, KeepsBut.refl]
  obtain ⟨m, rfl⟩ : ∃ m : Nat, n = m := ⟨n.toNat, by omega⟩
  have hm : m < l.length := by omega
  have h0' : ¬ (m : Int) < 0 := by omega
  have hf := fun M => hf l[m].id M
  simp only [IdD.row] at hf
  obtain ⟨a, b, c, d, e, f, g, hr⟩ := found_eq (findU l[m].id u)
  have hX : (M ++ [AObj.cells 27 [I a, I b, I c, I (kindU (findU l[m].id u)), d, e, f, g]])[M.length]? = some (AObj.cells 27 [I a, I b, I c, I (kindU (findU l[m].id u)), d, e, f, g]) := by simp
  have hkd : kindS (fun x => findU x u) l m = kindU (findU l[m].id u) := by simp [kindS, hm, h0']
  rw [hkd]
  simp (dsimp := false) (implicitDefEqProofs := false) [h0']
  refine w_drawn hB (cfollows gl) (fun k => if k = 10 ∨ k = 11 then 2 else 0) (fun _ => 0) (by rfl) (by kernel_rfl) ?_
  simp (dsimp := false) (implicitDefEqProofs := false) [h0', hm, SlotD.row]
  refine w_call0 (fun M => inv_of Tryz.func104 rfl rfl (hf M)) ?_
  simp (dsimp := false) (implicitDefEqProofs := false) [allocAV, storeAV, overwrite, agg_st, agg_cs, hr]
  rw [loadAV_ptr hX]
  simp (dsimp := false) (implicitDefEqProofs := false) [KeepsBut.app]
theorem pKind_ok (l : List SlotD) (L : List (IdD × UnitD)) (a b c : Nat) (n : Int) (M : Mem) (hM : MapAt encId encU M a L) (hn : n < l.length) : ACalls (WC gl) 151 [planAV l a b c, I n] M (fun v M' => v = I (kindS (getL L) l n) ∧ M' = M) := by
  refine w_body hB Tryz.func151 rfl rfl rfl rfl rfl rfl ?_
  by_cases h0 : n < 0
  · simp (dsimp := false) (implicitDefEqProofs := false) [h0, kindS]
  obtain ⟨m, rfl⟩ : ∃ m : Nat, n = m := ⟨n.toNat, by omega⟩
  have hm : m < l.length := by omega
  have h0' : ¬ (m : Int) < 0 := by omega
  have hget : lookupAV Tryz.prog 92 M (.mapr a) (.agg [I l[m].id.act, I l[m].id.item, I l[m].id.n]) false = some (.agg (foundRow (getL L l[m].id))) := by
    rw [show AV.agg [I l[m].id.act, I l[m].id.item, I l[m].id.n] = encId l[m].id from rfl, hM.get (keyId 92 27 (by kernel_rfl)) l[m].id zero27 false]
    cases getL L l[m].id <;> rfl
  have hkd : kindS (getL L) l m = kindU (getL L l[m].id) := by simp [kindS, hm, h0']
  rw [hkd]
  obtain ⟨a2, b2, c2, d2, e2, f2, g2, hr⟩ := found_eq (getL L l[m].id)
  simp (dsimp := false) (implicitDefEqProofs := false) [h0']
  refine w_drawn hB (cfollows gl) (fun k => if k = 8 then 1 else 0) (fun _ => a) (by rfl) (by kernel_rfl) ?_
  simp (dsimp := false) (implicitDefEqProofs := false) [h0', hm, SlotD.row, readObj, hget, hr]
theorem rDeep_ok (l : List SlotD) (n : Int) (M : Mem) (hl : l.length ≤ 1000) (hn : -1 ≤ n ∧ n < l.length) (ho : OrdS l n.toNat) : ACalls (WC gl) 108 [.list 5 (rowsX l) .no, I n] M (fun v M' => v = I (deepS l (n + 1).toNat n) ∧ M' = M) := by
  refine w_body hB Tryz.func108 rfl rfl rfl rfl rfl rfl ?_
  obtain ⟨R, hR⟩ : ∃ R, R = deepS l (n + 1).toNat n := ⟨_, rfl⟩
  rw [← hR]
  simp (dsimp := false) (implicitDefEqProofs := false)
  refine w_looped hB (fun T M1 => ∃ (m : Int) (f d : Nat), -1 ≤ m ∧ m ≤ n ∧ (m + 1).toNat ≤ f ∧ d + f ≤ 1001 ∧ T 0 = .list 5 (rowsX l) .no ∧ T 1 = I m ∧ T 5 = I d ∧ M1 = M ∧ R = d + deepS l f m)
    (fun T M1 => match T 1 with | .val (.int _ i) => (i + 1).toNat | _ => 0) (by kernel_rfl) ?_ ?_
  · exact ⟨n, (n + 1).toNat, 0, by omega, by omega, by omega, by omega, by simp, by simp, by simp, rfl, by simp [hR]⟩
  · rintro T M1 ⟨m, f, d, m1, m2, f1, d1, t0, t1, t5, rfl, hr⟩
    by_cases h0 : m < 0
    · have h0' : ¬ m ≥ 0 := by omega
      have h0'' : ¬ 0 ≤ m := by omega
      have hz : deepS l f m = 0 := by cases f <;> simp [deepS, h0]
      rw [hz, Nat.add_zero] at hr
      simp (dsimp := false) (implicitDefEqProofs := false) [t0, t1, t5, h0', h0'', hr]
    obtain ⟨k, rfl⟩ : ∃ k : Nat, m = k := ⟨m.toNat, by omega⟩
    have h0' : (k : Int) ≥ 0 := by omega
    have hk : k < l.length := by omega
    obtain ⟨f, rfl⟩ : ∃ g, f = g + 1 := ⟨f - 1, by omega⟩
    obtain ⟨q1, q2⟩ := ho k hk (by omega)
    have hp : parS l k = l[k].parent := by simp [parS, hk]
    rw [deepS, if_neg h0, hp] at hr
    have w1 := wadd1 (i := d) (by omega)
    simp (dsimp := false) (implicitDefEqProofs := false) [t0, t1, t5, h0', hk, w1, SlotD.row]
    exact ⟨⟨_, q1, by omega, f, by omega, d + 1, by omega, rfl, rfl, by omega⟩, q2⟩
theorem pDeep_ok (l : List SlotD) (a b c : Nat) (n : Int) (M : Mem) (hl : l.length ≤ 1000) (hn : -1 ≤ n ∧ n < l.length) (ho : OrdS l n.toNat) : ACalls (WC gl) 154 [planAV l a b c, I n] M (fun v M' => v = I (deepS l (n + 1).toNat n) ∧ M' = M) := by
  refine w_body hB Tryz.func154 rfl rfl rfl rfl rfl rfl ?_
  obtain ⟨R, hR⟩ : ∃ R, R = deepS l (n + 1).toNat n := ⟨_, rfl⟩
  rw [← hR]
  simp (dsimp := false) (implicitDefEqProofs := false)
  refine w_looped hB (fun T M1 => ∃ (m : Int) (f d : Nat), -1 ≤ m ∧ m ≤ n ∧ (m + 1).toNat ≤ f ∧ d + f ≤ 1001 ∧ T 2 = .cptr [.list 5 (rowsX l) .no, .mapr a, .mapr b, .mapr c] ∧ T 1 = I m ∧ T 5 = I d ∧ M1 = M ∧ R = d + deepS l f m)
    (fun T M1 => match T 1 with | .val (.int _ i) => (i + 1).toNat | _ => 0) (by kernel_rfl) ?_ ?_
  · exact ⟨n, (n + 1).toNat, 0, by omega, by omega, by omega, by omega, by simp, by simp, by simp, rfl, by simp [hR]⟩
  · rintro T M1 ⟨m, f, d, m1, m2, f1, d1, t0, t1, t5, rfl, hr⟩
    by_cases h0 : m < 0
    · have h0' : ¬ m ≥ 0 := by omega
      have h0'' : ¬ 0 ≤ m := by omega
      have hz : deepS l f m = 0 := by cases f <;> simp [deepS, h0]
      rw [hz, Nat.add_zero] at hr
      simp (dsimp := false) (implicitDefEqProofs := false) [t0, t1, t5, h0', h0'', hr]
    obtain ⟨k, rfl⟩ : ∃ k : Nat, m = k := ⟨m.toNat, by omega⟩
    have h0' : (k : Int) ≥ 0 := by omega
    have hk : k < l.length := by omega
    obtain ⟨f, rfl⟩ : ∃ g, f = g + 1 := ⟨f - 1, by omega⟩
    obtain ⟨q1, q2⟩ := ho k hk (by omega)
    have hp : parS l k = l[k].parent := by simp [parS, hk]
    rw [deepS, if_neg h0, hp] at hr
    have w1 := wadd1 (i := d) (by omega)
    simp (dsimp := false) (implicitDefEqProofs := false) [t0, t1, t5, h0', hk, w1, SlotD.row]
    exact ⟨⟨_, q1, by omega, f, by omega, d + 1, by omega, rfl, rfl, by omega⟩, q2⟩
end
end Go.Abs
end
section
/- Contracts: the error of a slot (the reference's). -/
set_option maxRecDepth 100000
set_option linter.unusedSimpArgs false
set_option linter.unusedVariables false
namespace Go.Abs
open Go.Proofs TryTypes

def labS (l : List SlotD) (n : Nat) : ByteArray := match l[n]? with
  | some s => s.label
  | none => ⟨#[]⟩
def besL (l : List SlotD) (p : Int) (i : Nat) : List Nat := (List.range i).filter fun k => decide (parS l k = p)
def dupS (F : IdD → Option UnitD) (l : List SlotD) (n : Nat) (lab : ByteArray) (k : Nat) : Bool := decide (labS l k = lab) && decide (kindS F l k = kindS F l n)
def errS (F : IdD → Option UnitD) (uid : IdD) (l : List SlotD) (n : Nat) : Int := match l[n]? with
  | none => 0
  | some x =>
    if !(F x.id).isSome || decide (x.id = uid) then 4
    else if (l.take n).any fun s => decide (s.id = x.id) then 5
    else if decide (x.parent < -1) || decide ((n : Int) ≤ x.parent) then 12
    else if !labelOk x.label then 1
    else if !nestsB (kindS F l x.parent) (kindS F l n) then 9
    else if (besL l x.parent n).any (dupS F l n x.label) then 10
    else if decide (64 ≤ (besL l x.parent n).length) || decide (8 < deepS l (n + 1) n) then 6
    else 0
theorem besL_succ (l : List SlotD) (p : Int) (i : Nat) : besL l p (i + 1) = besL l p i ++ if parS l i = p then [i] else [] := by
  simp only [besL, List.range_succ, List.filter_append]
  by_cases h : parS l i = p <;> simp [h]
theorem besL_mem {l : List SlotD} {p : Int} {i k : Nat} (h : k < i) (hp : parS l k = p) : k ∈ besL l p i := by simp [besL, h, hp]
theorem besL_len (l : List SlotD) (p : Int) (i : Nat) : (besL l p i).length ≤ i := by
  have := List.length_filter_le (fun k : Nat => decide (parS l k = p)) (List.range i)
  simpa [besL] using this
theorem besL_lt {l : List SlotD} {p : Int} {i k : Nat} (h : k ∈ besL l p i) : k < i := by simp [besL] at h; exact h.1
section
variable (gl : Nat → AV)
theorem rWrong_ok (F : IdD → Option UnitD) (u : UnitD) (hF : F = fun x => findU x u) (l : List SlotD) (n : Nat) (M : Mem) (hg : u.good) (hl : l.length ≤ 1000) (hs : ∀ s ∈ l, s.good) (hn : n < l.length) (hord : ∀ j, j < n → OrdS l j) : ACalls (WC gl) 48 [.agg u.row, .list 5 (rowsX l) .no, I n] M (fun v M' => v = I (errS F u.id l n) ∧ M' = M) := by
  refine grow_cutB (fun _ => trivial) ?_
  obtain ⟨x, hx⟩ : ∃ x, x = l[n] := ⟨_, rfl⟩
  have hf : ∀ M, ACalls (WC gl) 104 [.agg u.row, .agg [I x.id.act, I x.id.item, I x.id.n]] M (fun v M' => v = .tuple [.agg (foundRow (F x.id)), B (F x.id).isSome] ∧ M' = M) := fun M => by rw [hF]; exact rFind_ok gl u x.id M hg
  have hk : ∀ (n : Int) M, n < l.length → ACalls (WC gl) 107 [.agg u.row, .list 5 (rowsX l) .no, I n] M (fun v M' => v = I (kindS F l n) ∧ M' = M) := fun n M h => by rw [hF]; exact rKind_ok gl u l n M hg h
  obtain ⟨R, hR⟩ : ∃ R, R = errS F u.id l n := ⟨_, rfl⟩
  rw [← hR]
  have hxn : l[n]? = some x := by rw [hx]; simp [hn]
  have hxe := hx.symm
  simp only [errS, hxn] at hR
  obtain ⟨o, ho⟩ : ∃ o, o = F x.id := ⟨_, rfl⟩
  rw [← ho] at hf hR
  have hxg : x.good := hs x (by rw [hx]; exact List.getElem_mem hn)
  have heq : ∀ y : IdD, binAV Tryz.prog .eql 23 (.agg [I x.id.act, I x.id.item, I x.id.n]) (.agg [I y.act, I y.item, I y.n]) = some (B (decide (x.id = y))) := fun y => eqId x.id y
  rw [u.row_eq] at hf hk ⊢
  refine w_body hB Tryz.func48 rfl rfl rfl rfl rfl rfl ?_
  have hX : (M ++ [AObj.cells 69 [I x.id.act, I x.id.item, I x.id.n, I x.parent, S x.label]])[M.length]? = some (AObj.cells 69 [I x.id.act, I x.id.item, I x.id.n, I x.parent, S x.label]) := by simp
  simp (dsimp := false) (implicitDefEqProofs := false) [hn, hxe, SlotD.row, allocAV, storeAV, overwrite, agg_st, agg_cs]
  rw [loadAV_ptr hX]
  simp (dsimp := false) (implicitDefEqProofs := false)
  refine w_calls (inv_of Tryz.func104 rfl rfl (hf _)) ?_
  rintro _ _ ⟨rfl, rfl⟩
  obtain ⟨M2, hM2⟩ : ∃ M2, M2 = M ++ [AObj.cells 69 [I x.id.act, I x.id.item, I x.id.n, I x.parent, S x.label], AObj.cells 27 (foundRow o)] := ⟨_, rfl⟩
  have hX2 : M2[M.length]? = some (AObj.cells 69 [I x.id.act, I x.id.item, I x.id.n, I x.parent, S x.label]) := by rw [hM2]; simp
  have hgr : Grow M M2 := by rw [hM2]; exact KeepsBut.app none _ _
  cases o with
  | none =>
    simp only [Option.isSome_none, Bool.not_false, Bool.true_or, if_true] at hR
    simp (dsimp := false) (implicitDefEqProofs := false) [allocAV, storeAV, overwrite, agg_st, agg_cs, hR]
    rw [← hM2]
    exact hgr
  | some v =>
  simp only [Option.isSome_some, Bool.not_true, Bool.false_or, decide_eq_true_eq] at hR
  simp (dsimp := false) (implicitDefEqProofs := false) [allocAV, storeAV, overwrite, agg_st, agg_cs]
  rw [← hM2]
  by_cases c2 : x.id = u.id
  case pos =>
    rw [if_pos c2] at hR
    simp (dsimp := false) (implicitDefEqProofs := false) [loadAV_ptr hX2, heq, eq_true c2, hR, hgr]
  rw [if_neg c2] at hR
  simp (dsimp := false) (implicitDefEqProofs := false) [loadAV_ptr hX2, heq, c2]
  refine w_looped hB (fun T M3 => ∃ i : Nat, i ≤ n ∧ T 1 = .list 5 (rowsX l) .no ∧ T 2 = I n ∧ T 3 = .cptr [I u.id.act, I u.id.item, I u.id.n, I u.kind, S u.label, .list 4 (rowsW u.head) .no, .list 4 (rowsW u.words) .no, .list 8 (rowsU u.kids) .no] ∧ T 7 = .ptr M.length 0 ∧ T 10 = I i ∧ M3 = M2 ∧ ((l.take n).any fun s => decide (s.id = x.id)) = (((l.take n).drop i).any fun s => decide (s.id = x.id)))
    (fun T M1 => match T 10 with | .val (.int _ i) => n - i.toNat | _ => 0) (by kernel_rfl) ?_ ?_
  · exact ⟨0, by omega, by simp, by simp, by simp, by simp, by simp, rfl, by simp⟩
  rintro T M3 ⟨i, i1, t1, t2, t3, t7, t10, rfl, hb⟩
  by_cases hi : i < n
  · have hi' : (i : Int) < n := by omega
    have hil : i < l.length := by omega
    have w1 := wadd1 (i := i) (by omega)
    have hd3 : (l.take n).drop i = l[i] :: (l.take n).drop (i + 1) := by
      rw [List.drop_eq_getElem_cons (by simp; omega)]; simp
    rw [hd3, List.any_cons] at hb
    have heq2 : binAV Tryz.prog .eql 23 (.agg [I l[i].id.act, I l[i].id.item, I l[i].id.n]) (.agg [I x.id.act, I x.id.item, I x.id.n]) = some (B (decide (l[i].id = x.id))) := eqId _ _
    simp (dsimp := false) (implicitDefEqProofs := false) [t1, t2, t3, t7, t10, hi']
    refine w_drawn hB (cfollows gl) (fun k => if k = 6 then 1 else 0) (fun _ => M.length) (by rfl) (by kernel_rfl) ?_
    by_cases c : l[i].id = x.id
    · rw [decide_eq_true c, Bool.true_or] at hb
      rw [if_pos hb] at hR
      simp (dsimp := false) (implicitDefEqProofs := false) [t1, t2, t3, t7, t10, hil, SlotD.row, readObj, loadAV_ptr hX2, heq2, eq_true c, hR, hgr]
    · rw [decide_eq_false c, Bool.false_or] at hb
      simp (dsimp := false) (implicitDefEqProofs := false) [t1, t2, t3, t7, t10, hil, SlotD.row, readObj, loadAV_ptr hX2, heq2, c, w1]
      exact ⟨⟨i + 1, by clear w1; omega, rfl, hb⟩, by clear w1; omega⟩
  have hi' : ¬ (i : Int) < n := by omega
  rw [show (l.take n).drop i = [] from List.drop_eq_nil_of_le (by simp; omega), List.any_nil] at hb
  rw [hb] at hR
  simp only [Bool.false_eq_true, if_false] at hR
  by_cases c3 : x.parent < -1
  case pos =>
    rw [decide_eq_true c3, Bool.true_or, if_pos rfl] at hR
    have c3' : ¬ -1 ≤ x.parent := by omega
    simp (dsimp := false) (implicitDefEqProofs := false) [t1, t2, t3, t7, t10, hi', loadAV_ptr hX2, c3, c3', hR, hgr]
  have c3' : -1 ≤ x.parent := by omega
  rw [decide_eq_false c3, Bool.false_or] at hR
  by_cases c4 : (n : Int) ≤ x.parent
  case pos =>
    rw [decide_eq_true c4, if_pos rfl] at hR
    have c4g : x.parent ≥ n := c4
    simp (dsimp := false) (implicitDefEqProofs := false) [t1, t2, t3, t7, t10, hi', loadAV_ptr hX2, c3, c3', c4, c4g, hR, hgr]
  rw [decide_eq_false c4] at hR
  simp only [Bool.false_eq_true, if_false] at hR
  have c4g : ¬ x.parent ≥ n := c4
  simp (dsimp := false) (implicitDefEqProofs := false) [t1, t2, t3, t7, t10, hi', loadAV_ptr hX2, c3, c3', c4, c4g]
  refine w_calls (inv_of Tryz.func105 rfl rfl (labelMay_ok gl _ x.label hxg.2.2)) ?_
  rintro _ M2 ⟨rfl, rfl⟩
  cases c5 : labelOk x.label
  case false =>
    simp only [c5, Bool.not_false, if_true] at hR
    simp (dsimp := false) (implicitDefEqProofs := false) [t1, t2, t3, t7, hR, hgr]
  simp only [c5, Bool.not_true, Bool.false_eq_true, if_false] at hR
  have hpl : x.parent < l.length := by omega
  simp (dsimp := false) (implicitDefEqProofs := false) [t1, t2, t3, t7]
  refine w_drawn hB (cfollows gl) (fun k => if k = 3 then 1 else 0) (fun _ => M.length) (by rfl) (by kernel_rfl) ?_
  simp (dsimp := false) (implicitDefEqProofs := false) [t1, t2, t3, t7, readObj, loadAV_ptr hX2]
  refine w_call0 (fun M => inv_of Tryz.func107 rfl rfl (hk x.parent M hpl)) ?_
  simp (dsimp := false) (implicitDefEqProofs := false) [t1, t2, t3, t7, readObj, loadAV_ptr hX2]
  refine w_call0 (fun M => inv_of Tryz.func107 rfl rfl (hk n M (by omega))) ?_
  simp (dsimp := false) (implicitDefEqProofs := false)
  refine w_call0 (fun M => inv_of Tryz.func106 rfl rfl (nests_ok gl M (kindS F l x.parent) (kindS F l n))) ?_
  cases c6 : nestsB (kindS F l x.parent) (kindS F l n)
  case false =>
    simp only [c6, Bool.not_false, if_true] at hR
    simp (dsimp := false) (implicitDefEqProofs := false) [t1, t2, t3, t7, hR, hgr]
  simp only [c6, Bool.not_true, Bool.false_eq_true, if_false] at hR
  simp (dsimp := false) (implicitDefEqProofs := false) [t1, t2, t3, t7]
  refine w_looped hB (fun T M3 => ∃ i : Nat, i ≤ n ∧ T 1 = .list 5 (rowsX l) .no ∧ T 2 = I n ∧ T 3 = .cptr [I u.id.act, I u.id.item, I u.id.n, I u.kind, S u.label, .list 4 (rowsW u.head) .no, .list 4 (rowsW u.words) .no, .list 8 (rowsU u.kids) .no] ∧ T 7 = .ptr M.length 0 ∧ T 12 = I i ∧ T 11 = I (besL l x.parent i).length ∧ M3 = M2 ∧ ∀ k ∈ besL l x.parent i, dupS F l n x.label k = false)
    (fun T M1 => match T 12 with | .val (.int _ i) => n - i.toNat | _ => 0) (by kernel_rfl) ?_ ?_
  · exact ⟨0, by omega, by simp [t1], by simp [t2], by simp [t3], by simp [t7], by simp, by simp [besL], rfl, by simp [besL]⟩
  clear t1 t2 t3 t7 t10 hi'
  rintro T M3 ⟨i, i1, t1, t2, t3, t7, t12, t11, rfl, hb⟩
  by_cases hi : i < n
  · have hi' : (i : Int) < n := by omega
    have hil : i < l.length := by omega
    have w1 := wadd1 (i := i) (by omega)
    have hbl := besL_len l x.parent i
    have w2 := wadd1 (i := (besL l x.parent i).length) (by omega)
    have hps : parS l i = l[i].parent := by simp [parS, hil]
    have hls : labS l i = l[i].label := by simp [labS, hil]
    have hsc := besL_succ l x.parent i
    rw [hps] at hsc
    simp (dsimp := false) (implicitDefEqProofs := false) [t1, t2, t3, t7, t12, t11, hi']
    refine w_drawn hB (cfollows gl) (fun k => if k = 6 then 1 else 0) (fun _ => M.length) (by rfl) (by kernel_rfl) ?_
    by_cases c : l[i].parent = x.parent
    case neg =>
      rw [if_neg c, List.append_nil] at hsc
      simp (dsimp := false) (implicitDefEqProofs := false) [t1, t2, t3, t7, t12, t11, hil, SlotD.row, readObj, loadAV_ptr hX2, c, w1]
      exact ⟨⟨i + 1, by clear w1 w2; omega, rfl, by rw [hsc], fun k h => hb k (by rwa [hsc] at h)⟩, by clear w1 w2; omega⟩
    rw [if_pos c] at hsc
    have hnew : dupS F l n x.label i = false → ∀ k ∈ besL l x.parent (i + 1), dupS F l n x.label k = false := fun h k hk => by
      rw [hsc] at hk
      rcases List.mem_append.1 hk with h1 | h1
      · exact hb k h1
      · simp only [List.mem_cons, List.not_mem_nil, or_false] at h1; subst h1; exact h
    have hln : (besL l x.parent i).length + 1 = (besL l x.parent (i + 1)).length := by rw [hsc]; simp
    simp (dsimp := false) (implicitDefEqProofs := false) [t1, t2, t3, t7, t12, t11, hil, SlotD.row, readObj, loadAV_ptr hX2, eq_true c, w1, w2]
    refine w_drawn hB (cfollows gl) (fun k => if k = 6 then 1 else 0) (fun _ => M.length) (by rfl) (by kernel_rfl) ?_
    by_cases c7 : l[i].label = x.label
    case neg =>
      have hd : dupS F l n x.label i = false := by simp [dupS, hls, c7]
      simp (dsimp := false) (implicitDefEqProofs := false) [t1, t2, t3, t7, t12, t11, hil, SlotD.row, readObj, loadAV_ptr hX2, c7, w1]
      exact ⟨⟨i + 1, by clear w1 w2; omega, rfl, by clear w1 w2; omega, hnew hd⟩, by clear w1 w2; omega⟩
    simp (dsimp := false) (implicitDefEqProofs := false) [t1, t2, t3, t7, t12, t11, hil, SlotD.row, readObj, loadAV_ptr hX2, eq_true c7]
    refine w_call0 (fun M => inv_of Tryz.func107 rfl rfl (hk i M (by omega))) ?_
    simp (dsimp := false) (implicitDefEqProofs := false) [t1, t2, t3, t7, t12, t11, hil, SlotD.row, readObj, loadAV_ptr hX2, eq_true c7]
    refine w_call0 (fun M => inv_of Tryz.func107 rfl rfl (hk n M (by omega))) ?_
    by_cases c8 : kindS F l i = kindS F l n
    case neg =>
      have hd : dupS F l n x.label i = false := by simp [dupS, c8]
      simp (dsimp := false) (implicitDefEqProofs := false) [t1, t2, t3, t7, t12, t11, c8, w1]
      exact ⟨⟨i + 1, by clear w1 w2; omega, rfl, by clear w1 w2; omega, hnew hd⟩, by clear w1 w2; omega⟩
    have hd : dupS F l n x.label i = true := by simp [dupS, hls, c7, c8]
    have hany : (besL l x.parent n).any (dupS F l n x.label) = true := List.any_eq_true.2 ⟨i, besL_mem hi (by rw [hps, c]), hd⟩
    rw [if_pos hany] at hR
    simp (dsimp := false) (implicitDefEqProofs := false) [t1, t2, t3, t7, t12, t11, eq_true c8, hR, hgr]
  have hi' : ¬ (i : Int) < n := by omega
  obtain rfl : i = n := by omega
  have hany : (besL l x.parent i).any (dupS F l i x.label) = false := by
    rw [List.any_eq_false]; intro k hk; simp [hb k hk]
  rw [hany] at hR
  simp only [Bool.false_eq_true, if_false] at hR
  have hor : OrdS l ((i : Int)).toNat := by
    intro j hj h
    have h : j ≤ i := by simpa using h
    by_cases e : j = i
    · subst e; rw [hxe]; exact ⟨c3', by omega⟩
    · exact hord j (by omega) j hj (Nat.le_refl _)
  by_cases c9 : 64 ≤ (besL l x.parent i).length
  case pos =>
    have c9' : (64 : Int) ≤ (besL l x.parent i).length := by omega
    have c9g : ((besL l x.parent i).length : Int) ≥ 64 := c9'
    rw [decide_eq_true c9, Bool.true_or, if_pos rfl] at hR
    simp (dsimp := false) (implicitDefEqProofs := false) [t1, t2, t3, t7, t12, t11, hi', c9', c9g, hR, hgr]
  have c9' : ¬ (64 : Int) ≤ (besL l x.parent i).length := by omega
  have c9g : ¬ ((besL l x.parent i).length : Int) ≥ 64 := c9'
  rw [decide_eq_false c9, Bool.false_or] at hR
  have hdp := rDeep_ok gl l i M3 hl ⟨by omega, by omega⟩ hor
  rw [show ((i : Int) + 1).toNat = i + 1 by omega] at hdp
  simp (dsimp := false) (implicitDefEqProofs := false) [t1, t2, t3, t7, t12, t11, hi', c9', c9g]
  refine w_calls (inv_of Tryz.func108 rfl rfl hdp) ?_
  rintro _ _ ⟨rfl, rfl⟩
  by_cases c10 : 8 < deepS l (i + 1) i
  · have c10' : (8 : Int) < deepS l (i + 1) i := by omega
    have c10g : (deepS l (i + 1) i : Int) > 8 := c10'
    rw [decide_eq_true c10, if_pos rfl] at hR
    simp (dsimp := false) (implicitDefEqProofs := false) [c10', c10g, hR, hgr]
  · have c10' : ¬ (8 : Int) < deepS l (i + 1) i := by omega
    have c10g : ¬ (deepS l (i + 1) i : Int) > 8 := c10'
    rw [decide_eq_false c10] at hR
    simp only [Bool.false_eq_true, if_false] at hR
    simp (dsimp := false) (implicitDefEqProofs := false) [c10', c10g, hR, hgr]
end
end Go.Abs
end
section
/- Contracts: the error of a plan (the reference's). -/
set_option maxRecDepth 100000
set_option linter.unusedSimpArgs false
set_option linter.unusedVariables false
namespace Go.Abs
open Go.Proofs TryTypes

def firstE (E : Nat → Int) : Nat → Nat → Int
  | 0, _ => 0
  | r + 1, i => if E i = 0 then firstE E r (i + 1) else E i
theorem errS_ord {F : IdD → Option UnitD} {uid : IdD} {l : List SlotD} {n : Nat} (hn : n < l.length) (h : errS F uid l n = 0) : -1 ≤ l[n].parent ∧ l[n].parent < n := by
  simp only [errS, List.getElem?_eq_getElem hn] at h
  split at h
  · simp at h
  split at h
  · simp at h
  split at h
  · simp at h
  rename_i h3
  simp only [Bool.or_eq_true, decide_eq_true_eq, not_or] at h3
  omega
theorem errS_all {F : IdD → Option UnitD} {uid : IdD} {l : List SlotD} {n : Nat} (h : ∀ j, j < n → errS F uid l j = 0) : ∀ j, j < n → OrdS l j := fun j hj k hk hkj => errS_ord hk (h k (by omega))
def planE (F : IdD → Option UnitD) (u : UnitD) (l : List SlotD) : Int :=
  if !bookR u then 11 else
  if firstE (errS F u.id l) l.length 0 = 0 then (if (l.length : Int) = countN u - 1 then 0 else 13) else firstE (errS F u.id l) l.length 0
section
variable (gl : Nat → AV)
theorem rMayP_ok (F : IdD → Option UnitD) (u : UnitD) (hF : F = fun x => findU x u) (l : List SlotD) (M : Mem) (hfit : Fit u) (hl : l.length ≤ 1000) (hs : ∀ s ∈ l, s.good) : ACalls (WC gl) 13 [.agg u.row, .list 5 (rowsX l) .no] M (fun v M' => v = I (planE F u l) ∧ M' = M) := by
  have hbk := rBook_ok gl u M hfit
  have hcnt := rCount_ok gl u M hfit.1 hfit.2.2
  have hw := fun n h1 h2 => rWrong_ok gl F u hF l n M hfit.1 hl hs h1 h2
  have hcp := countN_pos u
  have hcc := hfit.2.2
  obtain ⟨R, hR⟩ : ∃ R, R = planE F u l := ⟨_, rfl⟩
  rw [← hR]
  simp only [planE] at hR
  obtain ⟨E, hE⟩ : ∃ E, E = errS F u.id l := ⟨_, rfl⟩
  rw [← hE] at hR hw
  have hall : ∀ n, (∀ j, j < n → E j = 0) → ∀ j, j < n → OrdS l j := by rw [hE]; exact fun n => errS_all
  rw [u.row_eq] at hbk hcnt hw ⊢
  refine w_body hB Tryz.func13 rfl rfl rfl rfl rfl rfl ?_
  simp (dsimp := false) (implicitDefEqProofs := false)
  refine w_calls (inv_of Tryz.func35 rfl rfl hbk) ?_
  rintro _ M ⟨rfl, rfl⟩
  cases c1 : bookR u
  case false =>
    simp only [c1, Bool.not_false, if_true] at hR
    simp (dsimp := false) (implicitDefEqProofs := false) [hR]
  simp only [c1, Bool.not_true, Bool.false_eq_true, if_false] at hR
  simp (dsimp := false) (implicitDefEqProofs := false)
  refine w_looped hB (fun T M3 => ∃ i : Nat, i ≤ l.length ∧ T 1 = .list 5 (rowsX l) .no ∧ T 2 = .cptr [I u.id.act, I u.id.item, I u.id.n, I u.kind, S u.label, .list 4 (rowsW u.head) .no, .list 4 (rowsW u.words) .no, .list 8 (rowsU u.kids) .no] ∧ T 5 = I i ∧ M3 = M ∧ firstE E l.length 0 = firstE E (l.length - i) i ∧ ∀ j, j < i → E j = 0)
    (fun T M1 => match T 5 with | .val (.int _ i) => l.length - i.toNat | _ => 0) (by kernel_rfl) ?_ ?_
  · exact ⟨0, by omega, by simp, by simp, by simp, rfl, by simp, by simp⟩
  rintro T M3 ⟨i, i1, t1, t2, t5, rfl, ho, hz⟩
  by_cases hi : i < l.length
  · have hi' : (i : Int) < l.length := by omega
    have w1 := wadd1 (i := i) (by omega)
    rw [show l.length - i = (l.length - (i + 1)) + 1 by omega, firstE] at ho
    simp (dsimp := false) (implicitDefEqProofs := false) [t1, t2, t5, hi']
    refine w_calls (inv_of Tryz.func48 rfl rfl (hw i hi (hall i hz))) ?_
    rintro _ _ ⟨rfl, rfl⟩
    by_cases c2 : E i = 0
    · rw [if_pos c2] at ho
      simp (dsimp := false) (implicitDefEqProofs := false) [t1, t2, t5, eq_true c2, w1]
      exact ⟨⟨i + 1, by clear w1; omega, rfl, ho, fun j hj => by
        by_cases e : j = i
        · rw [e]; exact c2
        · exact hz j (by clear w1; omega)⟩, by clear w1; omega⟩
    · rw [if_neg c2] at ho
      rw [ho, if_neg c2] at hR
      simp (dsimp := false) (implicitDefEqProofs := false) [t1, t2, t5, c2, hR]
  have hi' : ¬ (i : Int) < l.length := by omega
  rw [show l.length - i = 0 by omega, firstE] at ho
  rw [ho, if_pos rfl] at hR
  simp (dsimp := false) (implicitDefEqProofs := false) [t1, t2, t5, hi']
  refine w_calls (inv_of Tryz.func49 rfl rfl hcnt) ?_
  rintro _ _ ⟨rfl, rfl⟩
  have w2 : IntKind.i64.wrap ((countN u : Int) - 1) = countN u - 1 := wrap_in (by omega) (by omega)
  by_cases c3 : (l.length : Int) = countN u - 1
  · rw [if_pos c3] at hR
    simp (dsimp := false) (implicitDefEqProofs := false) [w2, eq_true c3, hR]
  · rw [if_neg c3] at hR
    simp (dsimp := false) (implicitDefEqProofs := false) [w2, c3, hR]
end
end Go.Abs
end
section
/- Contracts: the error of a slot (the program's). -/
set_option maxRecDepth 100000
set_option linter.unusedSimpArgs false
set_option linter.unusedVariables false
namespace Go.Abs
open Go.Proofs TryTypes

def encN (k : Nat) : List AV := [I k]
section
variable (gl : Nat → AV)
theorem idxN_ok (fid : FuncId) (first cap : List AV) (p : Nat → Bool) (l : List Nat) (hl : l.length ≤ 1000) (v : AV) (M : Mem) (hv : OwnR 3 1 encN M v l)
    (hf : ∀ k ∈ l, Invk (WC gl) fid (first ++ I k :: cap) M (fun r M' => r = B (p k) ∧ M' = M)) : ACalls (WC gl) 206 [v, .func (.func fid) first cap] M (fun r M' => (∃ z : Int, r = I z ∧ decide (0 ≤ z) = l.any p) ∧ M' = M) := by
  refine w_body hB Tryz.func206 rfl rfl rfl rfl rfl rfl ?_
  have hlen : lenAV Tryz.prog 130 v = some l.length := hv.len (e' := 3) (by simp)
  simp (dsimp := false) (implicitDefEqProofs := false) [hlen]
  refine w_looped hB (fun T M1 => ∃ i : Nat, i ≤ l.length ∧ M1 = M ∧ T 0 = v ∧ T 1 = .func (.func fid) first cap ∧ T 7 = I l.length ∧ T 8 = I i ∧ l.any p = (l.drop i).any p)
    (fun T M1 => match T 8 with | .val (.int _ i) => l.length - i.toNat | _ => 0) (by kernel_rfl) ?_ ?_
  · exact ⟨0, by omega, rfl, by simp, by simp, by simp, by simp, by simp⟩
  · rintro T M1 ⟨i, i1, rfl, t0, t1, t7, t8, ho⟩
    by_cases hi : i < l.length
    · have hi' : (i : Int) < l.length := by omega
      have w1 := wadd1 (i := i) (by omega)
      obtain ⟨q, p1, p2⟩ := hv.at1 (P := Tryz.prog) (t := 3) (f := fun k : Nat => I k) (fun _ => rfl) (by simp) (by simp) hi
      rw [List.drop_eq_getElem_cons hi, List.any_cons] at ho
      simp (dsimp := false) (implicitDefEqProofs := false) [t0, t1, t7, t8, hi, hi', p1, p2]
      refine w_calls (hf l[i] (List.getElem_mem hi)) ?_
      rintro _ _ ⟨rfl, rfl⟩
      cases hp : p l[i]
      · rw [hp, Bool.false_or] at ho
        simp (dsimp := false) (implicitDefEqProofs := false) [t0, t1, t7, t8, w1]
        exact ⟨⟨i + 1, by clear w1; omega, rfl, ho⟩, by clear w1; omega⟩
      · rw [hp, Bool.true_or] at ho
        simp (dsimp := false) (implicitDefEqProofs := false) [t0, t1, t7, t8, ho]
    · have hi' : ¬ (i : Int) < l.length := by omega
      rw [show l.drop i = [] from List.drop_eq_nil_of_le (by omega), List.any_nil] at ho
      simp (dsimp := false) (implicitDefEqProofs := false) [t0, t1, t7, t8, hi', ho]
theorem contN_ok (fid : FuncId) (first cap : List AV) (p : Nat → Bool) (l : List Nat) (hl : l.length ≤ 1000) (v : AV) (M : Mem) (hv : OwnR 3 1 encN M v l)
    (hf : ∀ k ∈ l, Invk (WC gl) fid (first ++ I k :: cap) M (fun r M' => r = B (p k) ∧ M' = M)) : ACalls (WC gl) 153 [v, .func (.func fid) first cap] M (fun r M' => r = B (l.any p) ∧ M' = M) := by
  refine w_body hB Tryz.func153 rfl rfl rfl rfl rfl rfl ?_
  simp (dsimp := false) (implicitDefEqProofs := false)
  refine w_calls (inv_of Tryz.func206 rfl rfl (idxN_ok gl fid first cap p l hl v M hv hf)) ?_
  rintro _ _ ⟨⟨z, rfl, hz⟩, rfl⟩
  by_cases h : 0 ≤ z
  · have hg : z ≥ 0 := h
    rw [decide_eq_true h] at hz
    simp (dsimp := false) (implicitDefEqProofs := false) [h, hg, hz]
  · have hg : ¬ z ≥ 0 := h
    rw [decide_eq_false h] at hz
    simp (dsimp := false) (implicitDefEqProofs := false) [h, hg, hz]
theorem taken_ok (l : List SlotD) (L : List (IdD × UnitD)) (a b c bx n k : Nat) (x : SlotD) (M : Mem) (hM : MapAt encId encU M a L) (hX : M[bx]? = some (.cells 69 [I x.id.act, I x.id.item, I x.id.n, I x.parent, S x.label])) (hk : k < l.length) (hn : n < l.length) :
    ACalls (WC gl) 150 [I k, .cptr [.list 5 (rowsX l) .no, .mapr a, .mapr b, .mapr c], .ptr bx 0, .cptr [I n]] M (fun r M' => r = B (dupS (getL L) l n x.label k) ∧ M' = M) := by
  refine w_body hB Tryz.func150 rfl rfl rfl rfl rfl rfl ?_
  have hls : labS l k = l[k].label := by simp [labS, hk]
  have hkk := fun (m : Nat) (h : m < l.length) => pKind_ok gl l L a b c m M hM (by omega)
  simp (dsimp := false) (implicitDefEqProofs := false)
  refine w_drawn hB (cfollows gl) (fun k => if k = 7 then 1 else if k = 12 ∨ k = 15 then 2 else 0) (fun _ => bx) (by rfl) (by kernel_rfl) ?_
  by_cases c1 : l[k].label = x.label
  case neg =>
    have hd : dupS (getL L) l n x.label k = false := by simp [dupS, hls, c1]
    simp (dsimp := false) (implicitDefEqProofs := false) [hk, SlotD.row, readObj, loadAV_ptr hX, c1, hd]
  simp (dsimp := false) (implicitDefEqProofs := false) [hk, SlotD.row, readObj, loadAV_ptr hX, eq_true c1]
  refine w_call2 (inv_of Tryz.func151 rfl rfl (hkk k hk)) ?_
  simp (dsimp := false) (implicitDefEqProofs := false)
  refine w_call2 (inv_of Tryz.func151 rfl rfl (hkk n hn)) ?_
  simp (dsimp := false) (implicitDefEqProofs := false) [dupS, hls, c1]
  rfl
theorem get_none {K : Type} [DecidableEq K] {V : Type} {l : List (K × V)} {x : K} : getL l x = none ↔ (getL l x).isSome = false := by cases getL l x <;> simp
def nilV : AV := .val (.slice none 0 0)
theorem zero130 : zeroAV Tryz.prog 130 = some nilV := by simp [zeroAV]; rfl
theorem zero3 : zeroAV Tryz.prog 3 = some (I 0) := by kernel_rfl
theorem check_ok (hg0 : gl 0 = belowAV) (u : UnitD) (l : List SlotD) (L : List (IdD × UnitD)) (IL : List (IdD × Nat)) (KL : List (Int × AV)) (a b c n : Nat) (M : Mem) (hM : MapAt encId encU M a L) (hI : MapAt encId (fun n : Nat => I n) M b IL) (hK : MapAt I (fun v => v) M c KL)
    (hIx : ∀ y, (getL IL y).isSome = (l.take n).any (fun s => decide (s.id = y))) (hKx : ∀ p, OwnR 3 1 encN M ((getL KL p).getD nilV) (besL l p n)) (hl : l.length ≤ 1000) (hs : ∀ s ∈ l, s.good) (hn : n < l.length) (hord : ∀ j, j < n → OrdS l j) :
    ACalls (WC gl) 103 [planAV l a b c, .agg u.row, I n] M (fun r M' => r = I (errS (getL L) u.id l n) ∧ M' = M) := by
  refine grow_cutB (fun _ => trivial) ?_
  obtain ⟨x, hx⟩ : ∃ x, x = l[n] := ⟨_, rfl⟩
  obtain ⟨R, hR⟩ : ∃ R, R = errS (getL L) u.id l n := ⟨_, rfl⟩
  rw [← hR]
  have hxn : l[n]? = some x := by rw [hx]; simp [hn]
  have hxe := hx.symm
  simp only [errS, hxn] at hR
  have hxg : x.good := hs x (by rw [hx]; exact List.getElem_mem hn)
  have heq : ∀ y : IdD, binAV Tryz.prog .eql 23 (.agg [I x.id.act, I x.id.item, I x.id.n]) (.agg [I y.act, I y.item, I y.n]) = some (B (decide (x.id = y))) := fun y => eqId x.id y
  obtain ⟨M1, hM1⟩ : ∃ M1, M1 = M ++ [AObj.cells 69 [I x.id.act, I x.id.item, I x.id.n, I x.parent, S x.label]] := ⟨_, rfl⟩
  have hX1 : M1[M.length]? = some (AObj.cells 69 [I x.id.act, I x.id.item, I x.id.n, I x.parent, S x.label]) := by rw [hM1]; simp
  have hgr1 : Grow M M1 := by rw [hM1]; exact KeepsBut.app none _ _
  obtain ⟨M2, hM2⟩ : ∃ M2, M2 = M1 ++ [AObj.cells 27 (foundRow (getL L x.id))] := ⟨_, rfl⟩
  have hgr12 : Grow M1 M2 := by rw [hM2]; exact KeepsBut.app none _ _
  have hgr := hgr1.trans hgr12
  have hX2 := hgr12.get hX1 (by simp)
  have hgu : lookupAV Tryz.prog 92 M1 (.mapr a) (.agg [I x.id.act, I x.id.item, I x.id.n]) true = some (.tuple [.agg (foundRow (getL L x.id)), B (getL L x.id).isSome]) := by
    rw [show AV.agg [I x.id.act, I x.id.item, I x.id.n] = encId x.id from rfl, (hM.keep hgr1 (by simp)).get (keyId 92 27 (by kernel_rfl)) x.id zero27 true]
    cases getL L x.id <;> rfl
  have hgi : ∃ z, lookupAV Tryz.prog 93 M2 (.mapr b) (.agg [I x.id.act, I x.id.item, I x.id.n]) true = some (.tuple [I z, B ((l.take n).any (fun s => decide (s.id = x.id)))]) := by
    rw [show AV.agg [I x.id.act, I x.id.item, I x.id.n] = encId x.id from rfl, (hI.keep hgr (by simp)).get (keyId 93 3 (by kernel_rfl)) x.id zero3 true, ← hIx]
    cases getL IL x.id <;> exact ⟨_, rfl⟩
  obtain ⟨z, hgi⟩ := hgi
  have hgk : lookupAV Tryz.prog 94 M1 (.mapr c) (I x.parent) false = some ((getL KL x.parent).getD nilV) := by
    rw [(hK.keep hgr1 (by simp)).get (keyInt 94 130 (by kernel_rfl)) x.parent zero130 false]
    cases getL KL x.parent <;> rfl
  have hKp := (hKx x.parent).keep hgr (by simp)
  obtain ⟨sv, hsv⟩ : ∃ sv, sv = (getL KL x.parent).getD nilV := ⟨_, rfl⟩
  rw [← hsv] at hgk hKp
  have hM2a := hM.keep hgr (by simp)
  have hkk := fun (m : Int) (h : m < l.length) (M : Mem) (hM : MapAt encId encU M a L) => pKind_ok gl l L a b c m M hM h
  have hlen := hKp.len (P := Tryz.prog) (t := 130) (e' := 3) (by simp)
  obtain ⟨o, ho⟩ : ∃ o, o = getL L x.id := ⟨_, rfl⟩
  rw [← ho] at hR hgu hM2
  obtain ⟨b1, hb1⟩ : ∃ b1, b1 = ((l.take n).any (fun s => decide (s.id = x.id))) := ⟨_, rfl⟩
  rw [← hb1] at hgi hR
  rw [u.row_eq]
  refine w_body hB Tryz.func103 rfl rfl rfl rfl rfl rfl ?_
  simp (dsimp := false) (implicitDefEqProofs := false) [hn, hxe, SlotD.row, allocAV, storeAV, overwrite, agg_st, agg_cs]
  rw [← hM1]
  simp (dsimp := false) (implicitDefEqProofs := false) [loadAV_ptr hX1, hgk, hgu, allocAV, storeAV, overwrite, agg_st, agg_cs]
  rw [← hM2]
  cases o with
  | none =>
    simp only [Option.isSome_none, Bool.not_false, Bool.true_or, if_true] at hR
    simp (dsimp := false) (implicitDefEqProofs := false) [loadAV_ptr hX2, hgi, hR, hgr]
  | some v =>
  simp only [Option.isSome_some, Bool.not_true, Bool.false_or, decide_eq_true_eq] at hR
  by_cases c2 : x.id = u.id
  case pos =>
    rw [if_pos c2] at hR
    simp (dsimp := false) (implicitDefEqProofs := false) [loadAV_ptr hX2, hgi, heq, eq_true c2, hR, hgr]
  rw [if_neg c2] at hR
  cases b1 with
  | true =>
    rw [if_pos rfl] at hR
    simp (dsimp := false) (implicitDefEqProofs := false) [loadAV_ptr hX2, hgi, heq, c2, hR, hgr]
  | false =>
  simp only [Bool.false_eq_true, if_false] at hR
  by_cases c3 : x.parent < -1
  case pos =>
    rw [decide_eq_true c3, Bool.true_or, if_pos rfl] at hR
    have c3' : ¬ -1 ≤ x.parent := by omega
    simp (dsimp := false) (implicitDefEqProofs := false) [loadAV_ptr hX2, hgi, heq, c2, c3, c3', hR, hgr]
  have c3' : -1 ≤ x.parent := by omega
  rw [decide_eq_false c3, Bool.false_or] at hR
  by_cases c4 : (n : Int) ≤ x.parent
  case pos =>
    rw [decide_eq_true c4, if_pos rfl] at hR
    have c4g : x.parent ≥ n := c4
    simp (dsimp := false) (implicitDefEqProofs := false) [loadAV_ptr hX2, hgi, heq, c2, c3, c3', c4, c4g, hR, hgr]
  rw [decide_eq_false c4] at hR
  simp only [Bool.false_eq_true, if_false] at hR
  have c4g : ¬ x.parent ≥ n := c4
  simp (dsimp := false) (implicitDefEqProofs := false) [loadAV_ptr hX2, hgi, heq, c2, c3, c3', c4, c4g]
  refine w_calls (inv_of Tryz.func112 rfl rfl (Valid_ok gl _ x.label)) ?_
  rintro _ M3 ⟨rfl, hgr3⟩
  have hX3 := hgr3.get hX2 (by simp)
  have hM3a := hM2a.keep hgr3 (by simp)
  have hK3 := hKp.keep hgr3 (by simp)
  have hgrn := hgr.trans hgr3
  cases c5 : labelOk x.label
  case false =>
    simp only [c5, Bool.not_false, if_true] at hR
    simp (dsimp := false) (implicitDefEqProofs := false) [hR, hgrn]
  simp only [c5, Bool.not_true, Bool.false_eq_true, if_false] at hR
  have hpl : x.parent < l.length := by omega
  simp (dsimp := false) (implicitDefEqProofs := false)
  refine w_drawn hB (cfollows gl) (fun k => if k = 2 then 1 else if k = 3 ∨ k = 6 ∨ k = 7 then 2 else 0) (fun _ => M.length) (by rfl) (by kernel_rfl) ?_
  simp (dsimp := false) (implicitDefEqProofs := false) [readObj, loadAV_ptr hX3]
  refine w_call2 (inv_of Tryz.func151 rfl rfl (hkk x.parent hpl _ hM3a)) ?_
  simp (dsimp := false) (implicitDefEqProofs := false)
  refine w_call2 (inv_of Tryz.func151 rfl rfl (hkk n (by omega) _ hM3a)) ?_
  simp (dsimp := false) (implicitDefEqProofs := false)
  refine w_call2 (inv_of Tryz.func152 rfl rfl (canContain_ok gl M3 hg0 (kindS (getL L) l x.parent) (kindS (getL L) l n))) ?_
  cases c6 : nestsB (kindS (getL L) l x.parent) (kindS (getL L) l n)
  case false =>
    simp only [c6, Bool.not_false, if_true] at hR
    simp (dsimp := false) (implicitDefEqProofs := false) [hR, hgrn]
  simp only [c6, Bool.not_true, Bool.false_eq_true, if_false] at hR
  simp (dsimp := false) (implicitDefEqProofs := false)
  refine w_calls (inv_of Tryz.func153 rfl rfl (contN_ok gl 150 [] [.cptr [.list 5 (rowsX l) .no, .mapr a, .mapr b, .mapr c], .ptr M.length 0, .cptr [I n]] (dupS (getL L) l n x.label) (besL l x.parent n) (by have := besL_len l x.parent n; omega) sv M3 hK3 ?_)) ?_
  · intro k hk
    exact inv_of Tryz.func150 rfl rfl (taken_ok gl l L a b c M.length n k x M3 hM3a hX3 (by have := besL_lt hk; omega) hn)
  rintro _ _ ⟨rfl, rfl⟩
  cases c7 : (besL l x.parent n).any (dupS (getL L) l n x.label)
  case true =>
    rw [c7, if_pos rfl] at hR
    simp (dsimp := false) (implicitDefEqProofs := false) [hR, hgrn]
  rw [c7] at hR
  simp only [Bool.false_eq_true, if_false] at hR
  have hor : OrdS l ((n : Int)).toNat := by
    intro j hj h
    have h : j ≤ n := by simpa using h
    by_cases e : j = n
    · subst e; rw [hxe]; exact ⟨c3', by omega⟩
    · exact hord j (by omega) j hj (Nat.le_refl _)
  by_cases c9 : 64 ≤ (besL l x.parent n).length
  case pos =>
    have c9' : (64 : Int) ≤ (besL l x.parent n).length := by omega
    have c9g : ((besL l x.parent n).length : Int) ≥ 64 := c9'
    rw [decide_eq_true c9, Bool.true_or, if_pos rfl] at hR
    simp (dsimp := false) (implicitDefEqProofs := false) [hlen, c9', c9g, hR, hgrn]
  have c9' : ¬ (64 : Int) ≤ (besL l x.parent n).length := by omega
  have c9g : ¬ ((besL l x.parent n).length : Int) ≥ 64 := c9'
  rw [decide_eq_false c9, Bool.false_or] at hR
  have hdp := fun M => pDeep_ok gl l a b c n M hl ⟨by omega, by omega⟩ hor
  rw [show ((n : Int) + 1).toNat = n + 1 by omega] at hdp
  simp (dsimp := false) (implicitDefEqProofs := false) [hlen, c9', c9g]
  refine w_calls (inv_of Tryz.func154 rfl rfl (hdp _)) ?_
  rintro _ _ ⟨rfl, rfl⟩
  by_cases c10 : 8 < deepS l (n + 1) n
  · have c10' : (8 : Int) < deepS l (n + 1) n := by omega
    have c10g : (deepS l (n + 1) n : Int) > 8 := c10'
    rw [decide_eq_true c10, if_pos rfl] at hR
    simp (dsimp := false) (implicitDefEqProofs := false) [c10', c10g, hR, hgrn]
  · have c10' : ¬ (8 : Int) < deepS l (n + 1) n := by omega
    have c10g : ¬ (deepS l (n + 1) n : Int) > 8 := c10'
    rw [decide_eq_false c10] at hR
    simp only [Bool.false_eq_true, if_false] at hR
    simp (dsimp := false) (implicitDefEqProofs := false) [c10', c10g, hR, hgrn]
end
end Go.Abs
end
