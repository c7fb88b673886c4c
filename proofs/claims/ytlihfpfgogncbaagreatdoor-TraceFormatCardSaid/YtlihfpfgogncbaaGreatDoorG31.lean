/- The texts TrL, TrM, TrV: what each proves stands at its head. -/
import Derived.Test.YtlihfpfgogncbaaGreatDoorG30
section
/- Contracts: the text of a status. -/
set_option maxRecDepth 100000
set_option linter.unusedSimpArgs false
set_option linter.unusedVariables false
namespace Go.Abs
open Go.Proofs TryTypes

/-- a call's leavings are let go -/
theorem grow_cut {C : Ctx} {f : FuncId} {args : List AV} {M : Mem} {x : Value} (h : ACalls C f args M (fun v M' => v = .val x ∧ Grow M M')) : ACalls C f args M (fun v M' => v = .val x ∧ M' = M) := by
  refine h.cut ?_
  rintro r M' ⟨rfl, hg⟩
  refine ⟨M'.drop M.length, ?_, trivial, rfl, rfl⟩
  have ht : M'.take M.length = M := by
    apply List.ext_getElem?
    intro i
    rw [List.getElem?_take]
    split
    · rename_i hi; exact hg.2 i hi (by simp)
    · rename_i hi; exact (List.getElem?_eq_none (by omega)).symm
  have := List.take_append_drop M.length M'
  rw [ht] at this
  exact this.symm

structure StatusD where
  k : Int
  a : Int
  b : Int
  c : Int
  path : List Step
  act : Int
  item : Int
def StatusD.row (f : StatusD) (o : Own) : List AV := [I f.k, I f.a, I f.b, I f.c, .list 2 (rowsP f.path) o, I f.act, I f.item]
abbrev StatusD.v (f : StatusD) (o : Own) : AV := .agg (f.row o)
def goneW : ByteArray := ⟨#[44, 32, 103, 111, 110, 101, 32, 98, 121, 32, 97, 99, 116, 32]⟩
def itemW : ByteArray := ⟨#[32, 105, 116, 101, 109, 32]⟩
def lapsedW : ByteArray := ⟨#[44, 32, 108, 97, 112, 115, 101, 100]⟩
def notyetW : ByteArray := ⟨#[44, 32, 110, 111, 116, 32, 121, 101, 116]⟩
def neverW : ByteArray := ⟨#[110, 101, 118, 101, 114]⟩
def itoaB (n : Int) : ByteArray := bytesL (Lib.itoa n)
def inI (n : Int) : Prop := -9223372036854775808 ≤ n ∧ n ≤ 9223372036854775807
def goneT (f : StatusD) : ByteArray := addrText f.path ++ goneW ++ itoaB f.act ++ itemW ++ itoaB f.item
def stText (f : StatusD) : ByteArray := if f.k = 0 then addrText f.path else if f.k = 1 then goneT f else if f.k = 2 then addrText f.path ++ lapsedW else if f.k = 3 then addrText f.path ++ notyetW else if f.k = 4 then neverW else ⟨#[]⟩
theorem addrText_size (p : List Step) : (addrText p).size ≤ 180 := by
  unfold addrText
  split
  · rename_i h
    simp only [Bool.and_eq_true, decide_eq_true_eq] at h
    have := pathTxt_size (pathOk_good h.1)
    omega
  · decide
theorem itoaB_size {n : Int} (h : inI n) : (itoaB n).size ≤ 21 := by
  rw [itoaB, bytesL_size]; exact Lib.itoa_length_le n h.1 h.2
section
variable (gl : Nat → AV) (M : Mem)
theorem tells1_ok (f : StatusD) (o : Own) (hlen : f.path.length ≤ 1000000) : ACalls (WC gl) 15 [f.v o] M (fun v M' => v = S (addrText f.path) ∧ M' = M) := by
  refine w_body hB Tryz.func15 rfl rfl rfl rfl rfl rfl ?_
  simp (dsimp := false) (implicitDefEqProofs := false) [StatusD.row]
  refine w_calls (inv_of Tryz.func16 rfl rfl (grow_cut (Format_ok gl M f.path o hlen))) ?_
  rintro r M' ⟨rfl, rfl⟩
  simp (dsimp := false) (implicitDefEqProofs := false)
theorem tells2_ok (f : StatusD) (o : Own) (hlen : f.path.length ≤ 1000000) (ha : inI f.act) (hi : inI f.item) {b : Nat} (hM : M[b]? = some (.cells 32 [.func (.func 15) [] []])) :
    ACalls (WC gl) 17 [f.v o, .ptr b 0] M (fun v M' => v = S (goneT f) ∧ M' = M) := by
  refine w_body hB Tryz.func17 rfl rfl rfl rfl rfl rfl ?_
  simp (dsimp := false) (implicitDefEqProofs := false) [StatusD.row]
  refine w_drawn hB (cfollows gl) (fun k => if k = 0 then 1 else 0) (fun _ => b) (by rfl) (by kernel_rfl) ?_
  have hs := addrText_size f.path
  have hs1 := itoaB_size ha
  have hs2 := itoaB_size hi
  have g1 : (⟨#[44, 32, 103, 111, 110, 101, 32, 98, 121, 32, 97, 99, 116, 32]⟩ : ByteArray).size = 14 := rfl
  have g2 : (⟨#[32, 105, 116, 101, 109, 32]⟩ : ByteArray).size = 6 := rfl
  simp (dsimp := false) (implicitDefEqProofs := false) [loadAV_ptr hM]
  refine w_call0 (fun M => inv_of Tryz.func15 rfl rfl (tells1_ok gl M f o hlen)) ?_
  simp (dsimp := false) (implicitDefEqProofs := false)
  rw [if_neg (ovf (b := ⟨#[44, 32, 103, 111, 110, 101, 32, 98, 121, 32, 97, 99, 116, 32]⟩) (by omega))]
  generalize ht1 : addrText f.path ++ ⟨#[44, 32, 103, 111, 110, 101, 32, 98, 121, 32, 97, 99, 116, 32]⟩ = t1
  have z1 : t1.size ≤ 200 := by rw [← ht1, ByteArray.size_append]; omega
  simp (dsimp := false) (implicitDefEqProofs := false)
  refine w_call0 (fun M => inv_of Tryz.func18 rfl rfl (Itoa_ok gl M f.act ha.1 ha.2)) ?_
  have l1 := Lib.itoa_length_le f.act ha.1 ha.2
  have l2 := Lib.itoa_length_le f.item hi.1 hi.2
  simp (dsimp := false) (implicitDefEqProofs := false)
  rw [if_neg (show ¬ (9223372036854775807 : Int) < (t1.size : Int) + ((Lib.itoa f.act).length : Int) by omega)]
  generalize ht2 : t1 ++ bytesL (Lib.itoa f.act) = t2
  have z2 : t2.size ≤ 230 := by rw [← ht2, ByteArray.size_append, bytesL_size]; omega
  simp (dsimp := false) (implicitDefEqProofs := false)
  rw [if_neg (ovf (b := ⟨#[32, 105, 116, 101, 109, 32]⟩) (by omega))]
  generalize ht3 : t2 ++ ⟨#[32, 105, 116, 101, 109, 32]⟩ = t3
  have z3 : t3.size ≤ 240 := by rw [← ht3, ByteArray.size_append]; omega
  simp (dsimp := false) (implicitDefEqProofs := false)
  refine w_call0 (fun M => inv_of Tryz.func18 rfl rfl (Itoa_ok gl M f.item hi.1 hi.2)) ?_
  simp (dsimp := false) (implicitDefEqProofs := false)
  rw [if_neg (show ¬ (9223372036854775807 : Int) < (t3.size : Int) + ((Lib.itoa f.item).length : Int) by omega)]
  have hfin : t3 ++ bytesL (Lib.itoa f.item) = goneT f := by rw [← ht3, ← ht2, ← ht1]; rfl
  simp (dsimp := false) (implicitDefEqProofs := false) [hfin]
theorem tells3_ok (f : StatusD) (o : Own) (hlen : f.path.length ≤ 1000000) {b : Nat} (hM : M[b]? = some (.cells 32 [.func (.func 15) [] []])) :
    ACalls (WC gl) 19 [f.v o, .ptr b 0] M (fun v M' => v = S (addrText f.path ++ lapsedW) ∧ M' = M) := by
  refine w_body hB Tryz.func19 rfl rfl rfl rfl rfl rfl ?_
  have hs := addrText_size f.path
  simp (dsimp := false) (implicitDefEqProofs := false) [StatusD.row, loadAV_ptr hM]
  refine w_calls (inv_of Tryz.func15 rfl rfl (tells1_ok gl M f o hlen)) ?_
  rintro r M' ⟨rfl, rfl⟩
  simp (dsimp := false) (implicitDefEqProofs := false)
  rw [if_neg (ovf (b := ⟨#[44, 32, 108, 97, 112, 115, 101, 100]⟩) (by have : (⟨#[44, 32, 108, 97, 112, 115, 101, 100]⟩ : ByteArray).size = 8 := rfl; omega))]
  simp (dsimp := false) (implicitDefEqProofs := false)
  rfl
theorem tells4_ok (f : StatusD) (o : Own) (hlen : f.path.length ≤ 1000000) {b : Nat} (hM : M[b]? = some (.cells 32 [.func (.func 15) [] []])) :
    ACalls (WC gl) 20 [f.v o, .ptr b 0] M (fun v M' => v = S (addrText f.path ++ notyetW) ∧ M' = M) := by
  refine w_body hB Tryz.func20 rfl rfl rfl rfl rfl rfl ?_
  have hs := addrText_size f.path
  simp (dsimp := false) (implicitDefEqProofs := false) [StatusD.row, loadAV_ptr hM]
  refine w_calls (inv_of Tryz.func15 rfl rfl (tells1_ok gl M f o hlen)) ?_
  rintro r M' ⟨rfl, rfl⟩
  simp (dsimp := false) (implicitDefEqProofs := false)
  rw [if_neg (ovf (b := ⟨#[44, 32, 110, 111, 116, 32, 121, 101, 116]⟩) (by have : (⟨#[44, 32, 110, 111, 116, 32, 121, 101, 116]⟩ : ByteArray).size = 9 := rfl; omega))]
  simp (dsimp := false) (implicitDefEqProofs := false)
  rfl
theorem tells5_ok (f : StatusD) (o : Own) : ACalls (WC gl) 21 [f.v o] M (fun v M' => v = S neverW ∧ M' = M) := by
  refine w_body hB Tryz.func21 rfl rfl rfl rfl rfl rfl ?_
  simp (dsimp := false) (implicitDefEqProofs := false) [StatusD.row, neverW]
def tellsM (b : Nat) : List AObj := [.cells 32 [.func (.func 15) [] []], .map [(I 0, .func (.func 15) [] [], 0), (I 1, .func (.func 17) [] [.ptr b 0], 1), (I 2, .func (.func 19) [] [.ptr b 0], 2), (I 3, .func (.func 20) [] [.ptr b 0], 3), (I 4, .func (.func 21) [] [], 4)] 5]
theorem put40 {M : Mem} {c0 : AObj} {es : List (AV × AV × Nat)} {clock : Nat} {k : Int} {v : AV} (hk : keyFind Tryz.prog 3 (I k) es = some none) :
    mapPutAV Tryz.prog 40 (M ++ [c0, .map es clock]) (.mapr (M.length + 1)) (I k) v = some (M ++ [c0, .map (es ++ [(I k, v, clock)]) (clock + 1)]) := by
  have e1 : mapKV? Tryz.prog 40 = some (3, 32) := by kernel_rfl
  have e2 : ((scalarT Tryz.prog 3 || wideT Tryz.prog 3) && checkAV Tryz.prog 30 3 (I k)) = true := by kernel_rfl
  have e3 : (M ++ [c0, .map es clock])[M.length + 1]? = some (.map es clock) := by rw [List.getElem?_append_right (by omega)]; simp
  have e4 : (M ++ [c0, .map es clock]).set (M.length + 1) (.map (es ++ [(I k, v, clock)]) (clock + 1)) = M ++ [c0, .map (es ++ [(I k, v, clock)]) (clock + 1)] := by
    rw [List.set_append_right _ _ (by omega)]; simp
  simp only [mapPutAV, e1, e3, e2, if_true, hk, e4]
theorem tells_ok : ACalls (WC gl) 9 [] M (fun v M' => v = .mapr (M.length + 1) ∧ M' = M ++ tellsM M.length) := by
  refine w_body hB Tryz.func9 rfl rfl rfl rfl rfl rfl ?_
  have hM : (M ++ [AObj.cells 32 [AV.func (Fn.func 15) [] []], AObj.map [] 0])[M.length]? = some (.cells 32 [AV.func (Fn.func 15) [] []]) := by simp
  simp (dsimp := false) (implicitDefEqProofs := false) [allocAV, storeAV, overwrite, loadAV_ptr hM]
  rw [put40 (by kernel_rfl)]
  simp (dsimp := false) (implicitDefEqProofs := false)
  rw [put40 (by kernel_rfl)]
  simp (dsimp := false) (implicitDefEqProofs := false)
  rw [put40 (by kernel_rfl)]
  simp (dsimp := false) (implicitDefEqProofs := false)
  rw [put40 (by kernel_rfl)]
  simp (dsimp := false) (implicitDefEqProofs := false)
  rw [put40 (by kernel_rfl)]
  simp (dsimp := false) (implicitDefEqProofs := false) [tellsM]
theorem look40 {M : Mem} (b : Nat) (k : Int) (v : AV) (hk : lookupAV Tryz.prog 40 (tellsM b) (.mapr 1) (I k) true = some v) : lookupAV Tryz.prog 40 (M ++ tellsM b) (.mapr (M.length + 1)) (I k) true = some v := by
  have e : entriesOf (M ++ tellsM b) (.mapr (M.length + 1)) = entriesOf (tellsM b) (.mapr 1) := by
    have : (M ++ tellsM b)[M.length + 1]? = (tellsM b)[1]? := by rw [List.getElem?_append_right (by omega)]; simp
    simp only [entriesOf, this]
  unfold lookupAV at hk ⊢
  rw [e]; exact hk
theorem fmt_ok (f : StatusD) (o : Own) (hlen : f.path.length ≤ 1000000) (ha : inI f.act) (hi : inI f.item) : ACalls (WC gl) 5 [f.v o] M (fun v M' => v = S (stText f) ∧ Grow M M') := by
  refine w_body hB Tryz.func5 rfl rfl rfl rfl rfl rfl ?_
  simp (dsimp := false) (implicitDefEqProofs := false) [StatusD.row]
  refine w_drawn hB (cfollows gl) (fun k => if k = 0 then 2 else if k = 3 then 1 else 0) (fun _ => M.length + 1) (by rfl) (by kernel_rfl) ?_
  simp (dsimp := false) (implicitDefEqProofs := false)
  refine w_call2 (inv_of Tryz.func9 rfl rfl (tells_ok gl M)) ?_
  have hM : (M ++ tellsM M.length)[M.length]? = some (.cells 32 [.func (.func 15) [] []]) := by simp [tellsM]
  have hgr : Grow M (M ++ tellsM M.length) := .app _ _ _
  obtain ⟨k, a, b, c, path, act, item⟩ := f
  simp only at hlen ha hi
  by_cases k0 : k = 0
  · subst k0
    have hl := look40 (M := M) M.length 0 (.tuple [.func (.func 15) [] [], B true]) (by kernel_rfl)
    simp (dsimp := false) (implicitDefEqProofs := false) [hl, readObj]
    refine w_calls (inv_of Tryz.func15 rfl rfl (tells1_ok gl _ ⟨0, a, b, c, path, act, item⟩ o hlen)) ?_
    rintro r M' ⟨rfl, rfl⟩
    simp (dsimp := false) (implicitDefEqProofs := false) [stText]
    exact hgr
  by_cases k1 : k = 1
  · subst k1
    have hl := look40 (M := M) M.length 1 (.tuple [.func (.func 17) [] [.ptr M.length 0], B true]) (by kernel_rfl)
    simp (dsimp := false) (implicitDefEqProofs := false) [hl, readObj]
    refine w_calls (inv_of Tryz.func17 rfl rfl (tells2_ok gl _ ⟨1, a, b, c, path, act, item⟩ o hlen ha hi hM)) ?_
    rintro r M' ⟨rfl, rfl⟩
    simp (dsimp := false) (implicitDefEqProofs := false) [stText]
    exact hgr
  by_cases k2 : k = 2
  · subst k2
    have hl := look40 (M := M) M.length 2 (.tuple [.func (.func 19) [] [.ptr M.length 0], B true]) (by kernel_rfl)
    simp (dsimp := false) (implicitDefEqProofs := false) [hl, readObj]
    refine w_calls (inv_of Tryz.func19 rfl rfl (tells3_ok gl _ ⟨2, a, b, c, path, act, item⟩ o hlen hM)) ?_
    rintro r M' ⟨rfl, rfl⟩
    simp (dsimp := false) (implicitDefEqProofs := false) [stText]
    exact hgr
  by_cases k3 : k = 3
  · subst k3
    have hl := look40 (M := M) M.length 3 (.tuple [.func (.func 20) [] [.ptr M.length 0], B true]) (by kernel_rfl)
    simp (dsimp := false) (implicitDefEqProofs := false) [hl, readObj]
    refine w_calls (inv_of Tryz.func20 rfl rfl (tells4_ok gl _ ⟨3, a, b, c, path, act, item⟩ o hlen hM)) ?_
    rintro r M' ⟨rfl, rfl⟩
    simp (dsimp := false) (implicitDefEqProofs := false) [stText]
    exact hgr
  by_cases k4 : k = 4
  · subst k4
    have hl := look40 (M := M) M.length 4 (.tuple [.func (.func 21) [] [], B true]) (by kernel_rfl)
    simp (dsimp := false) (implicitDefEqProofs := false) [hl, readObj]
    refine w_calls (inv_of Tryz.func21 rfl rfl (tells5_ok gl _ ⟨4, a, b, c, path, act, item⟩ o)) ?_
    rintro r M' ⟨rfl, rfl⟩
    simp (dsimp := false) (implicitDefEqProofs := false) [stText]
    exact hgr
  have hz : ∀ n : Int, ¬ k = n → eqAV Tryz.prog 30 3 (I k) (I n) = some false := fun n hn => by
    have e : Tryz.prog.underlying 3 = some (.int .i64) := by simp
    simp [eqAV, e, hn]
  have hl : lookupAV Tryz.prog 40 (tellsM M.length) (.mapr 1) (I k) true = some (.tuple [.val .nilFunc, B false]) := by
    have e1 : mapKV? Tryz.prog 40 = some (3, 32) := by kernel_rfl
    have e2 : ((scalarT Tryz.prog 3 || wideT Tryz.prog 3) && checkAV Tryz.prog 30 3 (I k)) = true := by kernel_rfl
    have e3 : zeroAV Tryz.prog 32 = some (.val .nilFunc) := by kernel_rfl
    simp only [lookupAV, entriesOf, tellsM, e1, List.getElem?_cons_succ, List.getElem?_cons_zero, e2, if_true, keyFind, hz _ k0, hz _ k1, hz _ k2, hz _ k3, hz _ k4, Option.map_some, Option.map_none, e3]
  have hl2 := look40 (M := M) M.length k _ hl
  simp (dsimp := false) (implicitDefEqProofs := false) [hl2, readObj]
  have : stText ⟨k, a, b, c, path, act, item⟩ = ⟨#[]⟩ := by simp [stText, k0, k1, k2, k3, k4]
  simp (dsimp := false) (implicitDefEqProofs := false) [this]
  exact hgr
end
end Go.Abs
end
section
/- Contracts: the reference's text of a status; the law. -/
set_option maxRecDepth 100000
set_option linter.unusedSimpArgs false
set_option linter.unusedVariables false
namespace Go.Abs
open Go.Proofs TryTypes

section
variable (gl : Nat → AV) (M : Mem)
theorem rText43_ok (f : StatusD) (o : Own) (hp : smallP f.path) (ha : inI f.act) (hi : inI f.item) : ACalls (WC gl) 6 [f.v o] M (fun v M' => v = S (stText f) ∧ M' = M) := by
  refine w_body hB Tryz.func6 rfl rfl rfl rfl rfl rfl ?_
  have hs := addrText_size f.path
  have g1 : (⟨#[44, 32, 103, 111, 110, 101, 32, 98, 121, 32, 97, 99, 116, 32]⟩ : ByteArray).size = 14 := rfl
  have g2 : (⟨#[32, 105, 116, 101, 109, 32]⟩ : ByteArray).size = 6 := rfl
  have g3 : (⟨#[44, 32, 108, 97, 112, 115, 101, 100]⟩ : ByteArray).size = 8 := rfl
  have g4 : (⟨#[44, 32, 110, 111, 116, 32, 121, 101, 116]⟩ : ByteArray).size = 9 := rfl
  have l1 := Lib.itoa_length_le f.act ha.1 ha.2
  have l2 := Lib.itoa_length_le f.item hi.1 hi.2
  simp (dsimp := false) (implicitDefEqProofs := false) [StatusD.row]
  refine w_calls (inv_of Tryz.func10 rfl rfl (rText_ok gl M f.path o hp)) ?_
  rintro r M' ⟨rfl, rfl⟩
  obtain ⟨k, a, b, c, path, act, item⟩ := f
  simp only at hp ha hi hs l1 l2
  by_cases k0 : k = 0
  · subst k0
    simp (dsimp := false) (implicitDefEqProofs := false) [stText]
  by_cases k1 : k = 1
  · subst k1
    simp (dsimp := false) (implicitDefEqProofs := false)
    refine w_drawn hB (cfollows gl) (fun k => 0) (fun _ => 0) (by rfl) (by kernel_rfl) ?_
    simp (dsimp := false) (implicitDefEqProofs := false)
    rw [if_neg (ovf (b := ⟨#[44, 32, 103, 111, 110, 101, 32, 98, 121, 32, 97, 99, 116, 32]⟩) (by omega))]
    generalize ht1 : addrText path ++ ⟨#[44, 32, 103, 111, 110, 101, 32, 98, 121, 32, 97, 99, 116, 32]⟩ = t1
    have z1 : t1.size ≤ 200 := by rw [← ht1, ByteArray.size_append]; omega
    simp (dsimp := false) (implicitDefEqProofs := false)
    refine w_call0 (fun M => inv_of Tryz.func11 rfl rfl (rdigits_ok gl M act ha.1 ha.2)) ?_
    simp (dsimp := false) (implicitDefEqProofs := false)
    rw [if_neg (show ¬ (9223372036854775807 : Int) < (t1.size : Int) + ((Lib.itoa act).length : Int) by omega)]
    generalize ht2 : t1 ++ bytesL (Lib.itoa act) = t2
    have z2 : t2.size ≤ 230 := by rw [← ht2, ByteArray.size_append, bytesL_size]; omega
    simp (dsimp := false) (implicitDefEqProofs := false)
    rw [if_neg (ovf (b := ⟨#[32, 105, 116, 101, 109, 32]⟩) (by omega))]
    generalize ht3 : t2 ++ ⟨#[32, 105, 116, 101, 109, 32]⟩ = t3
    have z3 : t3.size ≤ 240 := by rw [← ht3, ByteArray.size_append]; omega
    simp (dsimp := false) (implicitDefEqProofs := false)
    refine w_call0 (fun M => inv_of Tryz.func11 rfl rfl (rdigits_ok gl M item hi.1 hi.2)) ?_
    simp (dsimp := false) (implicitDefEqProofs := false)
    rw [if_neg (show ¬ (9223372036854775807 : Int) < (t3.size : Int) + ((Lib.itoa item).length : Int) by omega)]
    have hfin : t3 ++ bytesL (Lib.itoa item) = stText ⟨1, a, b, c, path, act, item⟩ := by rw [← ht3, ← ht2, ← ht1]; rfl
    simp (dsimp := false) (implicitDefEqProofs := false) [hfin]
  by_cases k2 : k = 2
  · subst k2
    simp (dsimp := false) (implicitDefEqProofs := false)
    rw [if_neg (ovf (b := ⟨#[44, 32, 108, 97, 112, 115, 101, 100]⟩) (by omega))]
    have hfin : addrText path ++ ⟨#[44, 32, 108, 97, 112, 115, 101, 100]⟩ = stText ⟨2, a, b, c, path, act, item⟩ := rfl
    simp (dsimp := false) (implicitDefEqProofs := false) [hfin]
  by_cases k3 : k = 3
  · subst k3
    simp (dsimp := false) (implicitDefEqProofs := false)
    rw [if_neg (ovf (b := ⟨#[44, 32, 110, 111, 116, 32, 121, 101, 116]⟩) (by omega))]
    have hfin : addrText path ++ ⟨#[44, 32, 110, 111, 116, 32, 121, 101, 116]⟩ = stText ⟨3, a, b, c, path, act, item⟩ := rfl
    simp (dsimp := false) (implicitDefEqProofs := false) [hfin]
  by_cases k4 : k = 4
  · subst k4
    simp (dsimp := false) (implicitDefEqProofs := false) [stText, neverW]
  · simp (dsimp := false) (implicitDefEqProofs := false) [stText, k0, k1, k2, k3, k4]
end
section
variable (gl : Nat → AV)
theorem law3_ok (f : StatusD) (o : Own) (hl : ∀ s ∈ f.path, s.lab.size ≤ maxLen) (hn : f.path.length ≤ maxLen) (ha : inI f.act) (hi : inI f.item) (haw : Invk (WC gl) 4 [] [] (fun r m => r = .val (.bool true) ∧ m = [])) :
    ACalls (WC gl) 3 [f.v o] [] (fun v _ => v = B true) := by
  refine w_body hB Tryz.func3 rfl rfl rfl rfl rfl rfl ?_
  simp (dsimp := false) (implicitDefEqProofs := false) [StatusD.row]
  refine w_calls haw ?_
  rintro r M' ⟨rfl, rfl⟩
  by_cases h12 : f.path.length ≤ 12
  case neg =>
    have h12' : (12 : Int) < f.path.length := by omega
    have h12g : (f.path.length : Int) > 12 := h12'
    simp (dsimp := false) (implicitDefEqProofs := false) [h12', h12g]
    refine w_calls haw ?_
    rintro r M' ⟨rfl, rfl⟩
    simp (dsimp := false) (implicitDefEqProofs := false)
  have h12' : ¬ (12 : Int) < f.path.length := by omega
  have h12g : ¬ (f.path.length : Int) > 12 := h12'
  simp (dsimp := false) (implicitDefEqProofs := false) [h12', h12g]
  have hp : smallP f.path := ⟨by omega, hl⟩
  refine w_looped hB (fun T M1 => ∃ i : Nat, i ≤ f.path.length ∧ T 15 = .list 2 (rowsP f.path) o ∧ T 16 = I f.path.length ∧ T 17 = I i ∧ T 1 = .cptr (f.row o))
    (fun T M1 => match T 17 with | .val (.int _ i) => f.path.length - i.toNat | _ => 0) (by kernel_rfl) ?_ ?_
  · refine ⟨0, ?_⟩
    simp (dsimp := false) (implicitDefEqProofs := false) [StatusD.row]
  · rintro T M1 ⟨i, h1, h3, h4, h5, h6⟩
    by_cases hi' : i < f.path.length
    · have hi2 : (i : Int) < f.path.length := by omega
      have hw : IntKind.i64.wrap ((i : Int) + 1) = (i + 1 : Nat) := by rw [wrap_in (by omega) (by omega)]; omega
      have hM2 : (M1 ++ [AObj.cells 31 [I f.path[i].k, S f.path[i].lab]])[M1.length]? = some (.cells 31 [I f.path[i].k, S f.path[i].lab]) := by simp
      by_cases hs : f.path[i].lab.size ≤ 100
      · have hs' : ¬ (100 : Int) < f.path[i].lab.size := by omega
        have hs2 : ¬ (f.path[i].lab.size : Int) > 100 := hs'
        simp (dsimp := false) (implicitDefEqProofs := false) [h3, h4, h5, h6, hi', hi2, Step.row, allocAV, storeAV, overwrite, loadAV_ptr hM2, hs', hs2, hw]
        exact ⟨⟨i + 1, by clear hw; omega, by simp⟩, by clear hw; omega⟩
      · have hs' : (100 : Int) < f.path[i].lab.size := by omega
        have hs2 : (f.path[i].lab.size : Int) > 100 := hs'
        simp (dsimp := false) (implicitDefEqProofs := false) [h3, h4, h5, h6, hi', hi2, Step.row, allocAV, storeAV, overwrite, loadAV_ptr hM2, hs', hs2]
    · have hi2 : ¬ (i : Int) < f.path.length := by omega
      simp (dsimp := false) (implicitDefEqProofs := false) [h3, h4, h5, h6, hi2]
      refine w_drawn hB (cfollows gl) (fun k => 0) (fun _ => 0) (by rfl) (by kernel_rfl) ?_
      simp (dsimp := false) (implicitDefEqProofs := false) [h3, h4, h5, h6, StatusD.row]
      refine w_call0 (fun M => inv_of Tryz.func5 rfl rfl (grow_cut (fmt_ok gl M f o (by omega) ha hi))) ?_
      simp (dsimp := false) (implicitDefEqProofs := false) [h3, h4, h5, h6, StatusD.row]
      refine w_call0 (fun M => inv_of Tryz.func6 rfl rfl (rText43_ok gl M f o hp ha hi)) ?_
      simp (dsimp := false) (implicitDefEqProofs := false)
end
end Go.Abs
end
section
/- Shapes of TraceFormat's argument. -/
set_option maxRecDepth 100000
namespace Go.Abs
open Go.Proofs

theorem rows_shape {E : ShEnv} {e : Sh} {α : Type} {f : α → List AV} {Q : α → Prop} (key : ∀ r, Shaped E e r → ∃ x, r = f x ∧ Q x) : ∀ rows : List (List AV), (∀ r ∈ rows, Shaped E e r) → ∃ l : List α, rows = l.map f ∧ ∀ x ∈ l, Q x
  | [], _ => ⟨[], rfl, fun _ h => by simp at h⟩
  | r :: rows, h => by
    obtain ⟨x, rfl, hx⟩ := key r (h r (by simp))
    obtain ⟨l, rfl, hl⟩ := rows_shape key rows fun r hr => h r (by simp [hr])
    exact ⟨x :: l, rfl, fun y hy => (List.mem_cons.1 hy).elim (fun e => e ▸ hx) (hl y)⟩
def shStep : Sh := .parts [.int .i64, .str]
def shStatus : Sh := .parts [.int .i64, .parts [.int .i64, .int .i64, .int .i64], .slice 2 shStep, .parts [.int .i64, .int .i64]]
theorem sh_int {E : ShEnv} {r : List AV} (h : Shaped E (.int .i64) r) : ∃ n, r = [I n] ∧ inI n := by
  generalize hs : Sh.int .i64 = s at h
  cases h <;> cases hs
  rename_i n hw
  refine ⟨n, rfl, ?_⟩
  have hw' : (decide (IntKind.i64.min ≤ n) && decide (n ≤ IntKind.i64.max)) = true := hw
  simp only [Bool.and_eq_true, decide_eq_true_eq] at hw'
  exact hw'
theorem sh_str {E : ShEnv} {r : List AV} (h : Shaped E .str r) : ∃ s, r = [S s] ∧ s.size ≤ maxLen := by
  generalize hs : Sh.str = s at h
  cases h <;> cases hs
  exact ⟨_, rfl, by assumption⟩
theorem sh_slice {E : ShEnv} {sz : Nat} {e : Sh} {r : List AV} (h : Shaped E (.slice sz e) r) : ∃ rows, r = [.list sz rows .no] ∧ rows.length ≤ maxLen ∧ ∀ x ∈ rows, Shaped E e x := by
  generalize hs : Sh.slice sz e = s at h
  cases h <;> cases hs
  exact ⟨_, rfl, by assumption, by assumption⟩
theorem sh_cons {E : ShEnv} {s : Sh} {l : List Sh} {r : List AV} (h : Shaped E (.parts (s :: l)) r) : ∃ a b, r = a ++ b ∧ Shaped E s a ∧ Shaped E (.parts l) b := by
  generalize hs : Sh.parts (s :: l) = t at h
  cases h <;> cases hs
  exact ⟨_, _, rfl, by assumption, by assumption⟩
theorem sh_nil {E : ShEnv} {r : List AV} (h : Shaped E (.parts []) r) : r = [] := by
  generalize hs : Sh.parts [] = t at h
  cases h <;> cases hs
  rfl
theorem sh_step {E : ShEnv} {r : List AV} (h : Shaped E shStep r) : ∃ s : Step, r = s.row ∧ s.lab.size ≤ maxLen := by
  obtain ⟨a, b, rfl, h1, h2⟩ := sh_cons h
  obtain ⟨c, d, rfl, h3, h4⟩ := sh_cons h2
  obtain rfl := sh_nil h4
  obtain ⟨n, rfl, _⟩ := sh_int h1
  obtain ⟨s, rfl, hs⟩ := sh_str h3
  exact ⟨⟨n, s⟩, rfl, hs⟩
theorem sh_path {E : ShEnv} {r : List AV} (h : Shaped E (.slice 2 shStep) r) : ∃ p : List Step, r = [.list 2 (rowsP p) .no] ∧ p.length ≤ maxLen ∧ ∀ s ∈ p, s.lab.size ≤ maxLen := by
  obtain ⟨rows, rfl, hn, hr⟩ := sh_slice h
  obtain ⟨l, rfl, hl⟩ := rows_shape (fun r h => sh_step h) rows hr
  exact ⟨l, rfl, by simpa using hn, hl⟩
theorem sh_status {E : ShEnv} {r : List AV} (h : Shaped E shStatus r) : ∃ f : StatusD, r = f.row .no ∧ f.path.length ≤ maxLen ∧ (∀ s ∈ f.path, s.lab.size ≤ maxLen) ∧ inI f.act ∧ inI f.item := by
  obtain ⟨a, b, rfl, h1, h2⟩ := sh_cons h
  obtain ⟨c, d, rfl, h3, h4⟩ := sh_cons h2
  obtain ⟨e, g, rfl, h5, h6⟩ := sh_cons h4
  obtain ⟨i, j, rfl, h7, h8⟩ := sh_cons h6
  obtain rfl := sh_nil h8
  obtain ⟨k, rfl, _⟩ := sh_int h1
  obtain ⟨p, rfl, hp1, hp2⟩ := sh_path h5
  obtain ⟨a1, b1, rfl, k1, k2⟩ := sh_cons h3
  obtain ⟨a2, b2, rfl, k3, k4⟩ := sh_cons k2
  obtain ⟨a3, b3, rfl, k5, k6⟩ := sh_cons k4
  obtain rfl := sh_nil k6
  obtain ⟨x, rfl, _⟩ := sh_int k1
  obtain ⟨y, rfl, _⟩ := sh_int k3
  obtain ⟨z, rfl, _⟩ := sh_int k5
  obtain ⟨a4, b4, rfl, l1, l2⟩ := sh_cons h7
  obtain ⟨a5, b5, rfl, l3, l4⟩ := sh_cons l2
  obtain rfl := sh_nil l4
  obtain ⟨u, rfl, hu⟩ := sh_int l1
  obtain ⟨v, rfl, hv⟩ := sh_int l3
  exact ⟨⟨k, x, y, z, p, u, v⟩, rfl, hp1, hp2, hu, hv⟩
end Go.Abs
end
