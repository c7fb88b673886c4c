/- The texts CvI, CvJ, CvK, CvL, CvP, CvM, CvN, CvO: what each proves stands at its head. -/
import Derived.Test.YtmpdkagfplajjaaGreatDoorVG23
section
/- Contracts: a unit by itself, a tree (the reference's). -/
set_option maxRecDepth 100000
set_option linter.unusedSimpArgs false
set_option linter.unusedVariables false
namespace Go.Abs
open Go.Proofs TryTypes

def aloneR (u : UnitD) : Bool := decide (0 ≤ u.kind ∧ u.kind ≤ 7) && decide (u.kids.length ≤ 64) && rowOk u.head && rowOk u.words && (if u.kind = 0 then decide (u.label.size = 0) && decide (u.head.length = 0) && decide (u.words.length = 0) else labelOk u.label)
def sameKL (a b : UnitD) : Bool := decide (a.kind = b.kind) && decide (a.label = b.label)
mutual
def rightU : UnitD → Bool
  | .mk id k l h w ks => aloneR (.mk id k l h w ks) && rightL k ks []
def rightL (kind : Int) : List UnitD → List UnitD → Bool
  | [], _ => true
  | k :: ks, before => nestsB kind k.kind && rightU k && !(before.any fun a => sameKL a k) && rightL kind ks (before ++ [k])
end
mutual
/-- small everywhere -/
def UnitD.lims : UnitD → Prop
  | .mk id k l h w ks => (UnitD.mk id k l h w ks).lim ∧ limsL ks
def limsL : List UnitD → Prop
  | [] => True
  | k :: ks => k.lims ∧ limsL ks
end
theorem limsL_iff : ∀ {l : List UnitD}, limsL l ↔ ∀ u ∈ l, u.lims
  | [] => by simp [limsL]
  | u :: l => by simp [limsL, limsL_iff (l := l)]
section
variable (gl : Nat → AV)
theorem rAlone_ok (u : UnitD) (M : Mem) (hg : u.good) (hl : u.lim) : ACalls (WC gl) 196 [.agg u.row] M (fun v M' => v = B (aloneR u) ∧ M' = M) := by
  obtain ⟨id, kind, lab, hd, ws, ks⟩ := u
  obtain ⟨_, _, hlg, _, hhg, _, hwg, _, hkg⟩ := (UnitD.good_iff _).1 hg
  have hlg : lab.size ≤ maxLen := hlg
  obtain ⟨hl1, hl2, hl3, hl4⟩ := hl
  have hl1 : hd.length ≤ 300 := hl1
  have hl2 : ws.length ≤ 300 := hl2
  have hl3 : ks.length ≤ 1000 := hl3
  have hrow : (UnitD.mk id kind lab hd ws ks).row = [I id.act, I id.item, I id.n, I kind, S lab, .list 4 (rowsW hd) .no, .list 4 (rowsW ws) .no, .list 8 (rowsU ks) .no] := by rw [UnitD.row]
  obtain ⟨R, hR⟩ : ∃ R, R = aloneR (.mk id kind lab hd ws ks) := ⟨_, rfl⟩
  have hR2 : R = (decide (0 ≤ kind ∧ kind ≤ 7) && decide (ks.length ≤ 64) && rowOk hd && rowOk ws && (if kind = 0 then decide (lab.size = 0) && decide (hd.length = 0) && decide (ws.length = 0) else labelOk lab)) := hR
  rw [hrow, ← hR]
  clear hR
  refine w_body hB Tryz.func196 rfl rfl rfl rfl rfl rfl ?_
  by_cases a1 : kind < 0
  · rw [decide_eq_false (show ¬ (0 ≤ kind ∧ kind ≤ 7) by omega)] at hR2
    simp only [Bool.false_and] at hR2
    simp (dsimp := false) (implicitDefEqProofs := false) [a1, hR2]
  by_cases a2 : 7 < kind
  · have a2g : kind > 7 := a2
    rw [decide_eq_false (show ¬ (0 ≤ kind ∧ kind ≤ 7) by omega)] at hR2
    simp only [Bool.false_and] at hR2
    simp (dsimp := false) (implicitDefEqProofs := false) [a1, a2, a2g, hR2]
  have a2g : ¬ kind > 7 := a2
  rw [decide_eq_true (show 0 ≤ kind ∧ kind ≤ 7 by omega), Bool.true_and] at hR2
  by_cases a3 : ks.length ≤ 64
  case neg =>
    have a3' : (64 : Int) < ks.length := by omega
    have a3g : (ks.length : Int) > 64 := a3'
    rw [decide_eq_false a3] at hR2
    simp only [Bool.false_and] at hR2
    simp (dsimp := false) (implicitDefEqProofs := false) [a1, a2, a2g, a3', a3g, hR2]
  have a3' : ¬ (64 : Int) < ks.length := by omega
  have a3g : ¬ (ks.length : Int) > 64 := a3'
  rw [decide_eq_true a3, Bool.true_and] at hR2
  simp (dsimp := false) (implicitDefEqProofs := false) [a1, a2, a2g, a3', a3g]
  refine w_calls (inv_of Tryz.func245 rfl rfl (rRow_ok gl M hd .no hl1 (fun w hw => (hhg w hw).1))) ?_
  rintro _ _ ⟨rfl, rfl⟩
  cases h3 : rowOk hd
  case false =>
    rw [h3] at hR2
    simp only [Bool.false_and] at hR2
    simp (dsimp := false) (implicitDefEqProofs := false) [hR2]
  rw [h3, Bool.true_and] at hR2
  simp (dsimp := false) (implicitDefEqProofs := false)
  refine w_calls (inv_of Tryz.func245 rfl rfl (rRow_ok gl _ ws .no hl2 (fun w hw => (hwg w hw).1))) ?_
  rintro _ M ⟨rfl, rfl⟩
  cases h4 : rowOk ws
  case false =>
    rw [h4, Bool.false_and] at hR2
    simp (dsimp := false) (implicitDefEqProofs := false) [hR2]
  rw [h4, Bool.true_and] at hR2
  by_cases k0 : kind = 0
  · rw [if_pos k0] at hR2
    by_cases h1 : lab = ⟨#[]⟩
    · rw [decide_eq_true (ba_empty.1 h1), Bool.true_and] at hR2
      by_cases h2 : hd.length = 0
      · have h2' : (hd.length : Int) = 0 := by omega
        rw [decide_eq_true h2, Bool.true_and] at hR2
        by_cases h5 : ws.length = 0
        · have h5' : (ws.length : Int) = 0 := by omega
          rw [decide_eq_true h5] at hR2
          simp (dsimp := false) (implicitDefEqProofs := false) [eq_true k0, eq_true h1, eq_true h2', eq_true h2, eq_true h5, eq_true h5', hR2]
        · have h5' : ¬ (ws.length : Int) = 0 := by omega
          rw [decide_eq_false h5] at hR2
          simp (dsimp := false) (implicitDefEqProofs := false) [eq_true k0, eq_true h1, eq_true h2', eq_true h2, h5, h5', hR2]
      · have h2' : ¬ (hd.length : Int) = 0 := by omega
        rw [decide_eq_false h2, Bool.false_and] at hR2
        simp (dsimp := false) (implicitDefEqProofs := false) [eq_true k0, eq_true h1, h2', h2, hR2]
    · rw [decide_eq_false (fun e => h1 (ba_empty.2 e)), Bool.false_and, Bool.false_and] at hR2
      simp (dsimp := false) (implicitDefEqProofs := false) [eq_true k0, h1, hR2]
  · rw [if_neg k0] at hR2
    simp (dsimp := false) (implicitDefEqProofs := false) [k0]
    refine w_calls (inv_of Tryz.func105 rfl rfl (labelMay_ok gl M lab hlg)) ?_
    rintro _ M ⟨rfl, rfl⟩
    simp (dsimp := false) (implicitDefEqProofs := false) [hR2]
theorem rRight_ok : ∀ (u : UnitD) (M : Mem), u.good → u.lims → ACalls (WC gl) 142 [.agg u.row] M (fun v M' => v = B (rightU u) ∧ M' = M)
  | .mk id kind lab hd ws ks, M, hg, hl => by
    obtain ⟨_, _, hlg, _, hhg, _, hwg, _, hkg⟩ := (UnitD.good_iff _).1 hg
    have hkg : ∀ k ∈ ks, k.good := hkg
    rw [UnitD.lims] at hl
    obtain ⟨hlim, hls⟩ := hl
    have hls := limsL_iff.1 hls
    have hk3 : ks.length ≤ 1000 := hlim.2.2.1
    have hrow : (UnitD.mk id kind lab hd ws ks).row = [I id.act, I id.item, I id.n, I kind, S lab, .list 4 (rowsW hd) .no, .list 4 (rowsW ws) .no, .list 8 (rowsU ks) .no] := by rw [UnitD.row]
    have hal := rAlone_ok gl (.mk id kind lab hd ws ks) M hg hlim
    obtain ⟨R, hR⟩ : ∃ R, R = rightU (.mk id kind lab hd ws ks) := ⟨_, rfl⟩
    have hR2 : R = (aloneR (.mk id kind lab hd ws ks) && rightL kind ks []) := by rw [hR, rightU]
    rw [← hR]
    rw [hrow] at hal ⊢
    clear hR
    refine w_body hB Tryz.func142 rfl rfl rfl rfl rfl rfl ?_
    simp (dsimp := false) (implicitDefEqProofs := false)
    refine w_calls (inv_of Tryz.func196 rfl rfl hal) ?_
    rintro _ M ⟨rfl, rfl⟩
    cases ha : aloneR (.mk id kind lab hd ws ks)
    case false =>
      rw [ha, Bool.false_and] at hR2
      simp (dsimp := false) (implicitDefEqProofs := false) [hR2]
    rw [ha, Bool.true_and] at hR2
    simp (dsimp := false) (implicitDefEqProofs := false)
    refine w_looped hB (fun T M1 => ∃ i : Nat, i ≤ ks.length ∧ T 1 = .cptr [I id.act, I id.item, I id.n, I kind, S lab, .list 4 (rowsW hd) .no, .list 4 (rowsW ws) .no, .list 8 (rowsU ks) .no] ∧ T 3 = I i ∧ M1 = M ∧ rightL kind ks [] = rightL kind (ks.drop i) (ks.take i))
      (fun T M1 => match T 3 with | .val (.int _ i) => ks.length - i.toNat | _ => 0) (by kernel_rfl) ?_ ?_
    · exact ⟨0, by omega, by simp, by simp, rfl, by simp⟩
    · rintro T M1 ⟨i, i1, t1, t3, rfl, ho⟩
      by_cases hi : i < ks.length
      case neg =>
        have hi' : ¬ (i : Int) < ks.length := by omega
        rw [show ks.drop i = [] from List.drop_eq_nil_of_le (by omega), rightL] at ho
        rw [ho] at hR2
        simp (dsimp := false) (implicitDefEqProofs := false) [t1, t3, hi', hR2]
      have hi' : (i : Int) < ks.length := by omega
      have w1 := wadd1 (i := i) (by omega)
      have hmem : ks[i] ∈ ks := List.getElem_mem hi
      have hd2 : ks.drop i = ks[i] :: ks.drop (i + 1) := List.drop_eq_getElem_cons hi
      rw [hd2, rightL] at ho
      have ht2 : ks.take i ++ [ks[i]] = ks.take (i + 1) := by rw [List.take_add_one, List.getElem?_eq_getElem hi, Option.toList_some]
      rw [ht2] at ho
      obtain ⟨X, hX⟩ : ∃ X, X = ks[i] := ⟨_, rfl⟩
      have hXr : ks[i].row = [I X.id.act, I X.id.item, I X.id.n, I X.kind, S X.label, .list 4 (rowsW X.head) .no, .list 4 (rowsW X.words) .no, .list 8 (rowsU X.kids) .no] := by rw [← hX]; exact X.row_eq
      rw [← hX] at ho
      have hrec := fun M => rRight_ok ks[i] M (hkg _ hmem) (hls _ hmem)
      simp only [hXr] at hrec
      rw [← hX] at hrec
      simp (dsimp := false) (implicitDefEqProofs := false) [t1, t3, hi, hi']
      refine w_drawn hB (cfollows gl) (fun _ => 0) (fun _ => 0) (by rfl) (by kernel_rfl) ?_
      simp (dsimp := false) (implicitDefEqProofs := false) [t1, t3, hi, hi', hXr]
      refine w_call0 (fun M => inv_of Tryz.func106 rfl rfl (nests_ok gl M kind X.kind)) ?_
      cases hn : nestsB kind X.kind
      case false =>
        rw [hn] at ho
        simp only [Bool.false_and] at ho
        rw [ho] at hR2
        simp (dsimp := false) (implicitDefEqProofs := false) [t1, t3, hR2]
      rw [hn, Bool.true_and] at ho
      simp (dsimp := false) (implicitDefEqProofs := false) [t1, t3, hi, hi', hXr]
      have := UnitD.kid_lt (u := .mk id kind lab hd ws ks) hmem
      refine w_call0 (fun M => inv_of Tryz.func142 rfl rfl (hrec M)) ?_
      cases hrt : rightU X
      case false =>
        rw [hrt] at ho
        simp only [Bool.false_and] at ho
        rw [ho] at hR2
        simp (dsimp := false) (implicitDefEqProofs := false) [t1, t3, hR2]
      rw [hrt, Bool.true_and] at ho
      simp (dsimp := false) (implicitDefEqProofs := false) [t1, t3]
      refine w_looped hB (fun T2 M2 => ∃ j : Nat, j ≤ i ∧ T2 1 = .cptr [I id.act, I id.item, I id.n, I kind, S lab, .list 4 (rowsW hd) .no, .list 4 (rowsW ws) .no, .list 8 (rowsU ks) .no] ∧ T2 3 = I i ∧ T2 4 = I j ∧ M2 = M1 ∧ ((ks.take i).any fun a => sameKL a X) = (((ks.take i).drop j).any fun a => sameKL a X))
        (fun T M1 => match T 4 with | .val (.int _ j) => i - j.toNat | _ => 0) (by kernel_rfl) ?_ ?_
      · exact ⟨0, by omega, by simp [t1], by simp [t3], by simp, rfl, by simp⟩
      · rintro T2 M2 ⟨j, j1, u1, u3, u4, rfl, hb⟩
        by_cases hj : j < i
        case neg =>
          have hj' : ¬ (j : Int) < i := by omega
          rw [show (ks.take i).drop j = [] from List.drop_eq_nil_of_le (by simp; omega), List.any_nil] at hb
          rw [hb, Bool.not_false, Bool.true_and] at ho
          simp (dsimp := false) (implicitDefEqProofs := false) [u1, u3, u4, hj', w1, t3]
          exact ⟨⟨i + 1, by clear w1; omega, rfl, ho⟩, by clear w1; omega⟩
        have hj' : (j : Int) < i := by omega
        have hj2 : j < ks.length := by omega
        have hj2' : (j : Int) < ks.length := by omega
        have w2 := wadd1 (i := j) (by omega)
        have hd3 : (ks.take i).drop j = ks[j] :: (ks.take i).drop (j + 1) := by
          rw [List.drop_eq_getElem_cons (by simp; omega)]; simp
        rw [hd3, List.any_cons] at hb
        obtain ⟨Y, hY⟩ : ∃ Y, Y = ks[j] := ⟨_, rfl⟩
        have hYr : ks[j].row = [I Y.id.act, I Y.id.item, I Y.id.n, I Y.kind, S Y.label, .list 4 (rowsW Y.head) .no, .list 4 (rowsW Y.words) .no, .list 8 (rowsU Y.kids) .no] := by rw [← hY]; exact Y.row_eq
        rw [← hY] at hb
        simp (dsimp := false) (implicitDefEqProofs := false) [u1, u3, u4, hj']
        refine w_drawn hB (cfollows gl) (fun _ => 0) (fun _ => 0) (by rfl) (by kernel_rfl) ?_
        by_cases c1 : Y.kind = X.kind
        · by_cases c2 : Y.label = X.label
          · have hs : sameKL Y X = true := by simp [sameKL, c1, c2]
            rw [hs, Bool.true_or] at hb
            rw [hb, Bool.not_true, Bool.false_and] at ho
            rw [ho] at hR2
            simp (dsimp := false) (implicitDefEqProofs := false) [u1, u3, u4, hi, hi', hj2, hj2', hXr, hYr, eq_true c1, eq_true c2, hR2]
          · have hs : sameKL Y X = false := by simp [sameKL, c2]
            rw [hs, Bool.false_or] at hb
            simp (dsimp := false) (implicitDefEqProofs := false) [u1, u3, u4, hi, hi', hj2, hj2', hXr, hYr, eq_true c1, c2, w2]
            exact ⟨⟨j + 1, by clear w2; omega, rfl, hb⟩, by clear w2; omega⟩
        · have hs : sameKL Y X = false := by simp [sameKL, c1]
          rw [hs, Bool.false_or] at hb
          simp (dsimp := false) (implicitDefEqProofs := false) [u1, u3, u4, hi, hi', hj2, hj2', hXr, hYr, c1, w2]
          exact ⟨⟨j + 1, by clear w2; omega, rfl, hb⟩, by clear w2; omega⟩
termination_by u => SizeOf.sizeOf u
end
end Go.Abs
end
section
/- Contracts: depth, count, IDs of a tree. -/
set_option maxRecDepth 100000
set_option linter.unusedSimpArgs false
set_option linter.unusedVariables false
namespace Go.Abs
open Go.Proofs TryTypes

mutual
def countN : UnitD → Nat
  | .mk _ _ _ _ _ ks => 1 + countL ks
def countL : List UnitD → Nat
  | [] => 0
  | k :: ks => countN k + countL ks
end
mutual
def depthN : UnitD → Nat
  | .mk _ _ _ _ _ ks => depthL ks
def depthL : List UnitD → Nat
  | [] => 0
  | k :: ks => max (1 + depthN k) (depthL ks)
end
mutual
def idsU : UnitD → List IdD
  | .mk id _ _ _ _ ks => id :: idsL ks
def idsL : List UnitD → List IdD
  | [] => []
  | k :: ks => idsU k ++ idsL ks
end
mutual
theorem depth_lt : ∀ u : UnitD, depthN u < countN u
  | .mk _ _ _ _ _ ks => by rw [depthN, countN]; have := depthL_le ks; omega
theorem depthL_le : ∀ ks : List UnitD, depthL ks ≤ countL ks
  | [] => by rw [depthL, countL]; exact Nat.le_refl _
  | k :: ks => by rw [depthL, countL]; have := depth_lt k; have := depthL_le ks; omega
end
mutual
theorem idsU_len : ∀ u : UnitD, (idsU u).length = countN u
  | .mk _ _ _ _ _ ks => by rw [idsU, countN, List.length_cons, idsL_len ks]; omega
theorem idsL_len : ∀ ks : List UnitD, (idsL ks).length = countL ks
  | [] => by rw [idsL, countL]; rfl
  | k :: ks => by rw [idsL, countL, List.length_append, idsU_len k, idsL_len ks]
end
theorem countN_pos (u : UnitD) : 0 < countN u := by obtain ⟨a, b, c, d, e, f⟩ := u; rw [countN]; omega
theorem countL_mem : ∀ {ks : List UnitD} {k : UnitD}, k ∈ ks → countN k ≤ countL ks
  | [], _, h => by simp at h
  | x :: ks, k, h => by
    rw [countL]
    rcases List.mem_cons.1 h with rfl | h
    · omega
    · have := countL_mem h; omega
theorem countL_len : ∀ ks : List UnitD, ks.length ≤ countL ks
  | [] => by simp [countL]
  | k :: ks => by rw [countL, List.length_cons]; have := countN_pos k; have := countL_len ks; omega
theorem countL_drop {ks : List UnitD} {i : Nat} (h : i < ks.length) : countL (ks.drop i) = countN ks[i] + countL (ks.drop (i + 1)) := by
  rw [List.drop_eq_getElem_cons h, countL]
theorem depthL_take {ks : List UnitD} {i : Nat} (h : i < ks.length) : depthL (ks.drop i) = max (1 + depthN ks[i]) (depthL (ks.drop (i + 1))) := by
  rw [List.drop_eq_getElem_cons h, depthL]
section
variable (gl : Nat → AV)
theorem depth_ok : ∀ (u : UnitD) (M : Mem), u.good → countN u ≤ 1000 → ACalls (WC gl) 157 [.agg u.row] M (fun v M' => (∃ x, v = .val x ∧ x = .int .i64 (depthN u)) ∧ M' = M)
  | .mk id kind lab hd ws ks, M, hg, hc => by
    refine grow_cut ?_
    obtain ⟨_, _, hlg, _, hhg, _, hwg, _, hkg⟩ := (UnitD.good_iff _).1 hg
    have hkg : ∀ k ∈ ks, k.good := hkg
    have hc' : 1 + countL ks ≤ 1000 := by rwa [countN] at hc
    have hkl := countL_len ks
    have hrow : (UnitD.mk id kind lab hd ws ks).row = [I id.act, I id.item, I id.n, I kind, S lab, .list 4 (rowsW hd) .no, .list 4 (rowsW ws) .no, .list 8 (rowsU ks) .no] := by rw [UnitD.row]
    have hde : depthN (.mk id kind lab hd ws ks) = depthL ks := by rw [depthN]
    rw [hrow, hde]
    refine w_body hW Tryz.func157 rfl rfl rfl rfl rfl rfl ?_
    simp (dsimp := false) (implicitDefEqProofs := false)
    refine w_looped hW (fun T M1 => ∃ i : Nat, i ≤ ks.length ∧ T 7 = .list 8 (rowsU ks) .no ∧ T 8 = I ks.length ∧ T 9 = I i ∧ Grow M M1 ∧ ∃ d : Nat, T 3 = I d ∧ d ≤ 1000 ∧ depthL ks = max d (depthL (ks.drop i)))
      (fun T M1 => match T 9 with | .val (.int _ i) => ks.length - i.toNat | _ => 0) (by kernel_rfl) ?_ ?_
    · exact ⟨0, by omega, by simp, by simp, by simp, KeepsBut.refl _ _, 0, by simp, by omega, by simp⟩
    · rintro T M1 ⟨i, i1, t7, t8, t9, hgr, d, t3, d1, ho⟩
      by_cases hi : i < ks.length
      · have hi' : (i : Int) < ks.length := by omega
        have w1 := wadd1 (i := i) (by omega)
        have hmem : ks[i] ∈ ks := List.getElem_mem hi
        rw [depthL_take hi] at ho
        have hck := countL_mem hmem
        have hdk := depth_lt ks[i]
        have hMX : (M1 ++ [AObj.cells 27 ks[i].row])[M1.length]? = some (AObj.cells 27 ks[i].row) := by simp
        have hg2 : Grow M (M1 ++ [AObj.cells 27 ks[i].row]) := hgr.trans (KeepsBut.app none _ _)
        simp (dsimp := false) (implicitDefEqProofs := false) [t3, t7, t8, t9, hi, hi', allocAV, storeAV, overwrite, AV.storable, AV.cells, loadAV_ptr hMX]
        have := UnitD.kid_lt (u := .mk id kind lab hd ws ks) hmem
        refine w_calls (inv_of Tryz.func157 rfl rfl (depth_ok ks[i] _ (hkg _ hmem) (by omega))) ?_
        rintro _ _ ⟨⟨_, rfl, rfl⟩, rfl⟩
        generalize depthN ks[i] = dk at *
        have w2 : IntKind.i64.wrap (1 + (dk : Int)) = ((1 + dk : Nat) : Int) := by rw [wrap_in (by omega) (by omega)]; omega
        obtain ⟨e, he⟩ : ∃ e, e = 1 + dk := ⟨_, rfl⟩
        rw [← he] at w2 ho
        by_cases hm : d < e
        · have hm' : (d : Int) < e := by omega
          have hmg : (e : Int) > d := hm'
          simp (dsimp := false) (implicitDefEqProofs := false) [t3, t7, t8, t9, w1, w2, min2V, hm', hmg]
          exact ⟨⟨i + 1, by clear w1; omega, rfl, hg2, e, rfl, by omega, by omega⟩, by clear w1; omega⟩
        · have hm' : ¬ (d : Int) < e := by omega
          have hmg : ¬ (e : Int) > d := hm'
          simp (dsimp := false) (implicitDefEqProofs := false) [t3, t7, t8, t9, w1, w2, min2V, hm', hmg]
          exact ⟨⟨i + 1, by clear w1; omega, rfl, hg2, d, rfl, by omega, by omega⟩, by clear w1; omega⟩
      · have hi' : ¬ (i : Int) < ks.length := by omega
        rw [show ks.drop i = [] from List.drop_eq_nil_of_le (by omega), depthL, Nat.max_zero] at ho
        simp (dsimp := false) (implicitDefEqProofs := false) [t3, t7, t8, t9, hi', ho, hgr]
termination_by u => SizeOf.sizeOf u
theorem rDepth_ok : ∀ (u : UnitD) (M : Mem), u.good → countN u ≤ 1000 → ACalls (WC gl) 143 [.agg u.row] M (fun v M' => v = I (depthN u) ∧ M' = M)
  | .mk id kind lab hd ws ks, M, hg, hc => by
    obtain ⟨_, _, hlg, _, hhg, _, hwg, _, hkg⟩ := (UnitD.good_iff _).1 hg
    have hkg : ∀ k ∈ ks, k.good := hkg
    have hc' : 1 + countL ks ≤ 1000 := by rwa [countN] at hc
    have hkl := countL_len ks
    have hrow : (UnitD.mk id kind lab hd ws ks).row = [I id.act, I id.item, I id.n, I kind, S lab, .list 4 (rowsW hd) .no, .list 4 (rowsW ws) .no, .list 8 (rowsU ks) .no] := by rw [UnitD.row]
    have hde : depthN (.mk id kind lab hd ws ks) = depthL ks := by rw [depthN]
    rw [hrow, hde]
    refine w_body hB Tryz.func143 rfl rfl rfl rfl rfl rfl ?_
    simp (dsimp := false) (implicitDefEqProofs := false)
    refine w_looped hB (fun T M1 => ∃ i : Nat, i ≤ ks.length ∧ T 1 = .cptr [I id.act, I id.item, I id.n, I kind, S lab, .list 4 (rowsW hd) .no, .list 4 (rowsW ws) .no, .list 8 (rowsU ks) .no] ∧ T 4 = I i ∧ M1 = M ∧ ∃ d : Nat, T 3 = I d ∧ d ≤ 1000 ∧ depthL ks = max d (depthL (ks.drop i)))
      (fun T M1 => match T 4 with | .val (.int _ i) => ks.length - i.toNat | _ => 0) (by kernel_rfl) ?_ ?_
    · exact ⟨0, by omega, by simp, by simp, rfl, 0, by simp, by omega, by simp⟩
    · rintro T M1 ⟨i, i1, t1, t4, rfl, d, t3, d1, ho⟩
      by_cases hi : i < ks.length
      · have hi' : (i : Int) < ks.length := by omega
        have w1 := wadd1 (i := i) (by omega)
        have hmem : ks[i] ∈ ks := List.getElem_mem hi
        rw [depthL_take hi] at ho
        have hck := countL_mem hmem
        have hdk := depth_lt ks[i]
        simp (dsimp := false) (implicitDefEqProofs := false) [t1, t3, t4, hi, hi']
        have := UnitD.kid_lt (u := .mk id kind lab hd ws ks) hmem
        refine w_calls (inv_of Tryz.func143 rfl rfl (rDepth_ok ks[i] M1 (hkg _ hmem) (by omega))) ?_
        rintro _ _ ⟨rfl, rfl⟩
        generalize depthN ks[i] = dk at *
        have w2 : IntKind.i64.wrap (1 + (dk : Int)) = ((1 + dk : Nat) : Int) := by rw [wrap_in (by omega) (by omega)]; omega
        obtain ⟨e, he⟩ : ∃ e, e = 1 + dk := ⟨_, rfl⟩
        rw [← he] at w2 ho
        by_cases hm : d < e
        · have hm' : (d : Int) < e := by omega
          have hmg : (e : Int) > d := hm'
          simp (dsimp := false) (implicitDefEqProofs := false) [t1, t3, t4, w1, w2, min2V, hm', hmg]
          exact ⟨⟨i + 1, by clear w1; omega, rfl, e, rfl, by omega, by omega⟩, by clear w1; omega⟩
        · have hm' : ¬ (d : Int) < e := by omega
          have hmg : ¬ (e : Int) > d := hm'
          simp (dsimp := false) (implicitDefEqProofs := false) [t1, t3, t4, w1, w2, min2V, hm', hmg]
          exact ⟨⟨i + 1, by clear w1; omega, rfl, d, rfl, by omega, by omega⟩, by clear w1; omega⟩
      · have hi' : ¬ (i : Int) < ks.length := by omega
        rw [show ks.drop i = [] from List.drop_eq_nil_of_le (by omega), depthL, Nat.max_zero] at ho
        simp (dsimp := false) (implicitDefEqProofs := false) [t1, t3, t4, hi', ho]
termination_by u => SizeOf.sizeOf u
theorem rCount_ok : ∀ (u : UnitD) (M : Mem), u.good → countN u ≤ 1000 → ACalls (WC gl) 49 [.agg u.row] M (fun v M' => v = I (countN u) ∧ M' = M)
  | .mk id kind lab hd ws ks, M, hg, hc => by
    obtain ⟨_, _, hlg, _, hhg, _, hwg, _, hkg⟩ := (UnitD.good_iff _).1 hg
    have hkg : ∀ k ∈ ks, k.good := hkg
    have hc' : 1 + countL ks ≤ 1000 := by rwa [countN] at hc
    have hkl := countL_len ks
    have hrow : (UnitD.mk id kind lab hd ws ks).row = [I id.act, I id.item, I id.n, I kind, S lab, .list 4 (rowsW hd) .no, .list 4 (rowsW ws) .no, .list 8 (rowsU ks) .no] := by rw [UnitD.row]
    have hde : countN (.mk id kind lab hd ws ks) = 1 + countL ks := by rw [countN]
    rw [hrow, hde]
    refine w_body hB Tryz.func49 rfl rfl rfl rfl rfl rfl ?_
    simp (dsimp := false) (implicitDefEqProofs := false)
    refine w_looped hB (fun T M1 => ∃ i : Nat, i ≤ ks.length ∧ T 1 = .cptr [I id.act, I id.item, I id.n, I kind, S lab, .list 4 (rowsW hd) .no, .list 4 (rowsW ws) .no, .list 8 (rowsU ks) .no] ∧ T 4 = I i ∧ M1 = M ∧ ∃ d : Nat, T 3 = I d ∧ 1 + countL ks = d + countL (ks.drop i))
      (fun T M1 => match T 4 with | .val (.int _ i) => ks.length - i.toNat | _ => 0) (by kernel_rfl) ?_ ?_
    · exact ⟨0, by omega, by simp, by simp, rfl, 1, by simp, by simp⟩
    · rintro T M1 ⟨i, i1, t1, t4, rfl, d, t3, ho⟩
      by_cases hi : i < ks.length
      · have hi' : (i : Int) < ks.length := by omega
        have w1 := wadd1 (i := i) (by omega)
        have hmem : ks[i] ∈ ks := List.getElem_mem hi
        rw [countL_drop hi] at ho
        have hck := countL_mem hmem
        simp (dsimp := false) (implicitDefEqProofs := false) [t1, t3, t4, hi, hi']
        have := UnitD.kid_lt (u := .mk id kind lab hd ws ks) hmem
        refine w_calls (inv_of Tryz.func49 rfl rfl (rCount_ok ks[i] M1 (hkg _ hmem) (by omega))) ?_
        rintro _ _ ⟨rfl, rfl⟩
        generalize countN ks[i] = dk at *
        have w2 := wadd (i := d) (j := dk) (by omega)
        obtain ⟨e, he⟩ : ∃ e, e = d + dk := ⟨_, rfl⟩
        rw [← he] at w2
        simp (dsimp := false) (implicitDefEqProofs := false) [t1, t3, t4, w1, w2]
        exact ⟨⟨i + 1, by clear w1; omega, rfl, e, rfl, by omega⟩, by clear w1; omega⟩
      · have hi' : ¬ (i : Int) < ks.length := by omega
        rw [show ks.drop i = [] from List.drop_eq_nil_of_le (by omega), countL, Nat.add_zero] at ho
        rw [ho]
        simp (dsimp := false) (implicitDefEqProofs := false) [t1, t3, t4, hi']
termination_by u => SizeOf.sizeOf u
end
end Go.Abs
end
section
/- Contracts: the simp (dsimp := false) (implicitDefEqProofs := false) with a state; count and IDs of a tree. -/
set_option maxRecDepth 100000
set_option linter.unusedSimpArgs false
set_option linter.unusedVariables false
namespace Go.Abs
open Go.Proofs TryTypes

section
variable (gl : Nat → AV)
theorem every2_ok {A : Type} (fid : FuncId) (first cap : List AV) (p : UnitD → Bool) (stp : A → UnitD → A) (J : Mem → A → Prop) (K : A → UnitD → Prop) (KL : A → List UnitD → Prop) (hK0 : ∀ a u, K a u → KL (stp a u) u.kids) (hK1 : ∀ a k ks, KL a (k :: ks) → K a k) (hK2 : ∀ a k ks, KL a (k :: ks) → (everyF p stp k a).1 = true → KL (everyF p stp k a).2 ks) (hJ : ∀ M a X, J M a → J (M ++ [.cells 27 X]) a)
    (hv : ∀ u a M, u.good → K a u → J M a → Invk (WC gl) fid (first ++ .agg u.row :: cap) M (fun v M' => v = B (p u) ∧ J M' (stp a u))) :
    ∀ (u : UnitD) (a : A) (M : Mem), u.good → K a u → J M a → ACalls (WC gl) 86 [.agg u.row, .func (.func fid) first cap] M (fun v M' => v = B (everyF p stp u a).1 ∧ J M' (everyF p stp u a).2)
  | .mk id kind lab hd ws ks, a, M, hg, hka, hj => by
    obtain ⟨_, _, _, _, _, _, _, hk, hkg⟩ := (UnitD.good_iff _).1 hg
    have hkg : ∀ k ∈ ks, k.good := hkg
    have hKL : KL (stp a (.mk id kind lab hd ws ks)) ks := hK0 _ _ hka
    have hk' : ks.length ≤ 9223372036854775807 := hk
    have hrow : (UnitD.mk id kind lab hd ws ks).row = [I id.act, I id.item, I id.n, I kind, S lab, .list 4 (rowsW hd) .no, .list 4 (rowsW ws) .no, .list 8 (rowsU ks) .no] := by rw [UnitD.row]
    have hev : everyF p stp (.mk id kind lab hd ws ks) a = if p (.mk id kind lab hd ws ks) then everyFL p stp ks (stp a (.mk id kind lab hd ws ks)) else (false, stp a (.mk id kind lab hd ws ks)) := by rw [everyF]
    have hv0 := hv _ a M hg hka hj
    rw [hrow] at hv0 ⊢
    refine w_body hW Tryz.func86 rfl rfl rfl rfl rfl rfl ?_
    simp (dsimp := false) (implicitDefEqProofs := false)
    refine w_calls hv0 ?_
    rintro _ M1 ⟨rfl, hj1⟩
    cases hp : p (.mk id kind lab hd ws ks)
    case false =>
      rw [hp, if_neg (by simp)] at hev
      rw [hev]
      simp (dsimp := false) (implicitDefEqProofs := false) [hj1]
    rw [hp, if_pos rfl] at hev
    rw [hev]
    generalize stp a (.mk id kind lab hd ws ks) = a1 at *
    simp (dsimp := false) (implicitDefEqProofs := false)
    refine w_looped hW (fun T M1 => ∃ i : Nat, i ≤ ks.length ∧ T 1 = .func (.func fid) first cap ∧ T 12 = .list 8 (rowsU ks) .no ∧ T 13 = I ks.length ∧ T 14 = I i ∧ ∃ a2, J M1 a2 ∧ KL a2 (ks.drop i) ∧ everyFL p stp ks a1 = everyFL p stp (ks.drop i) a2)
      (fun T M1 => match T 14 with | .val (.int _ i) => ks.length - i.toNat | _ => 0) (by kernel_rfl) ?_ ?_
    · exact ⟨0, by omega, by simp, by simp, by simp, by simp, a1, hj1, by simpa using hKL, by simp⟩
    · rintro T M2 ⟨i, i1, t1, t12, t13, t14, a2, hj2, hkl2, ho⟩
      by_cases hi : i < ks.length
      · have hi' : (i : Int) < ks.length := by omega
        have w1 : IntKind.i64.wrap ((i : Int) + 1) = (i + 1 : Nat) := by rw [wrap_in (by omega) (by omega)]; omega
        have hmem : ks[i] ∈ ks := List.getElem_mem hi
        have hd2 : ks.drop i = ks[i] :: ks.drop (i + 1) := List.drop_eq_getElem_cons hi
        rw [hd2] at hkl2
        rw [hd2, everyFL] at ho
        have hMX : (M2 ++ [AObj.cells 27 ks[i].row])[M2.length]? = some (AObj.cells 27 ks[i].row) := by simp
        simp (dsimp := false) (implicitDefEqProofs := false) [t1, t12, t13, t14, hi, hi', allocAV, storeAV, overwrite, AV.storable, AV.cells, loadAV_ptr hMX]
        have := UnitD.kid_lt (u := .mk id kind lab hd ws ks) hmem
        refine w_calls (inv_of Tryz.func86 rfl rfl (every2_ok fid first cap p stp J K KL hK0 hK1 hK2 hJ hv ks[i] a2 _ (hkg _ hmem) (hK1 _ _ _ hkl2) (hJ _ _ _ hj2))) ?_
        rintro _ M3 ⟨rfl, hj3⟩
        have hkn := hK2 _ _ _ hkl2
        cases hp : (everyF p stp ks[i] a2).1
        · rw [hp, if_neg (by simp)] at ho
          rw [ho]
          simp (dsimp := false) (implicitDefEqProofs := false) [t1, t12, t13, t14, hj3]
        · rw [hp, if_pos rfl] at ho
          simp (dsimp := false) (implicitDefEqProofs := false) [t1, t12, t13, t14, w1]
          exact ⟨⟨i + 1, by clear w1; omega, rfl, _, hj3, hkn hp, ho⟩, by clear w1; omega⟩
      · have hi' : ¬ (i : Int) < ks.length := by omega
        rw [show ks.drop i = [] from List.drop_eq_nil_of_le (by omega), everyFL] at ho
        rw [ho]
        simp (dsimp := false) (implicitDefEqProofs := false) [t1, t12, t13, t14, hi', hj2]
termination_by u => SizeOf.sizeOf u
end
mutual
theorem everyF_count : ∀ (u : UnitD) (a : Nat), everyF (fun _ => true) (fun (a : Nat) _ => a + 1) u a = (true, a + countN u)
  | .mk _ _ _ _ _ ks, a => by rw [everyF, if_pos rfl, everyFL_count ks, countN]; congr 1; omega
theorem everyFL_count : ∀ (ks : List UnitD) (a : Nat), everyFL (fun _ => true) (fun (a : Nat) _ => a + 1) ks a = (true, a + countL ks)
  | [], a => by rw [everyFL, countL]; rfl
  | k :: ks, a => by rw [everyFL, everyF_count k a, if_pos rfl, everyFL_count ks, countL]; congr 1; omega
end
mutual
theorem everyF_ids : ∀ (u : UnitD) (a : List IdD), everyF (fun _ => true) (fun (a : List IdD) u => a ++ [u.id]) u a = (true, a ++ idsU u)
  | .mk id _ _ _ _ ks, a => by
    rw [everyF, if_pos rfl, everyFL_ids ks, idsU]
    show (true, a ++ [id] ++ idsL ks) = _
    rw [List.append_assoc]; rfl
theorem everyFL_ids : ∀ (ks : List UnitD) (a : List IdD), everyFL (fun _ => true) (fun (a : List IdD) u => a ++ [u.id]) ks a = (true, a ++ idsL ks)
  | [], a => by rw [everyFL, idsL, List.append_nil]
  | k :: ks, a => by rw [everyFL, everyF_ids k a, if_pos rfl, everyFL_ids ks, idsL, List.append_assoc]
end
theorem countN_kids (u : UnitD) : countN u = 1 + countL u.kids := by obtain ⟨a, b, c, d, e, f⟩ := u; rw [countN]; rfl
section
variable (gl : Nat → AV)
theorem count1_ok (u : UnitD) (o : Nat) (n : Nat) (hn : n ≤ 1000) (M : Mem) (hM : M[o]? = some (.cells 3 [I n])) : ACalls (WC gl) 87 [.agg u.row, .ptr o 0] M (fun v M' => v = B true ∧ M' = M.set o (.cells 3 [I (n + 1 : Nat)])) := by
  refine w_body hB Tryz.func87 rfl rfl rfl rfl rfl rfl ?_
  have w1 := wadd1 (i := n) (by omega)
  have hlt : o < M.length := (List.getElem?_eq_some_iff.1 hM).1
  obtain ⟨e, he⟩ : ∃ e, e = n + 1 := ⟨_, rfl⟩
  rw [← he] at w1
  rw [← he]
  simp (dsimp := false) (implicitDefEqProofs := false) [loadAV_ptr hM, storeAV_ptr hM, w1, overwrite]
theorem count_ok (u : UnitD) (M : Mem) (hg : u.good) (hc : countN u ≤ 1000) : ACalls (WC gl) 30 [.agg u.row] M (fun v M' => v = I (countN u) ∧ M' = M) := by
  have key : ACalls (WC gl) 30 [.agg u.row] M (fun v M' => (∃ x, v = .val x ∧ x = .int .i64 (countN u)) ∧ Grow M M') := by
    refine w_body hB Tryz.func30 rfl rfl rfl rfl rfl rfl ?_
    have hM0 : (M ++ [AObj.cells 3 [I 0]])[M.length]? = some (AObj.cells 3 [I 0]) := by simp
    simp (dsimp := false) (implicitDefEqProofs := false) [allocAV, storeAV, overwrite]
    refine w_calls (inv_of Tryz.func86 rfl rfl (every2_ok gl 87 [] [.ptr M.length 0] (fun _ => true) (fun (a : Nat) _ => a + 1) (fun M1 a => M1[M.length]? = some (.cells 3 [I a]) ∧ Grow M M1)
      (fun a u => a + countN u ≤ 1000) (fun a ks => a + countL ks ≤ 1000) ?_ ?_ ?_ ?_ ?_ u 0 _ hg (by omega) ⟨hM0, KeepsBut.app none _ _⟩)) ?_
    · intro a u h
      have := countN_kids u; omega
    · intro a k ks h; rw [countL] at h; omega
    · intro a k ks h _; rw [countL] at h; rw [everyF_count]; show a + countN k + countL ks ≤ 1000; omega
    · rintro M1 a X ⟨h1, h2⟩
      exact ⟨by rw [List.getElem?_append_left (List.getElem?_eq_some_iff.1 h1).1]; exact h1, h2.trans (KeepsBut.app none _ _)⟩
    · rintro u a M1 hgu hk ⟨h1, h2⟩
      have hcp := countN_pos u
      refine (inv_of Tryz.func87 rfl rfl (count1_ok gl u M.length a (by omega) M1 h1)).mono ?_
      rintro _ _ ⟨rfl, rfl⟩
      have hlt : M.length < M1.length := (List.getElem?_eq_some_iff.1 h1).1
      exact ⟨rfl, by simp [hlt], ⟨by simp; omega, fun j hj _ => by rw [List.getElem?_set_ne (by omega)]; exact h2.2 j hj (by simp)⟩⟩
    · rintro _ M1 ⟨rfl, h1, h2⟩
      rw [everyF_count] at h1 ⊢
      simp only [Nat.zero_add] at h1
      simp (dsimp := false) (implicitDefEqProofs := false) [loadAV_ptr h1, h2]
  exact (grow_cut key).mono (by rintro v M' ⟨⟨x, rfl, rfl⟩, rfl⟩; exact ⟨rfl, rfl⟩)
end
end Go.Abs
end
section
/- Contracts: the IDs of a tree. -/
set_option maxRecDepth 100000
set_option linter.unusedSimpArgs false
set_option linter.unusedVariables false
namespace Go.Abs
open Go.Proofs TryTypes

@[simp] theorem IdD.row_len (x : IdD) : x.row.length = 3 := rfl
theorem agg_st {cs : List AV} : (AV.agg cs).storable = true := rfl
theorem agg_cs {cs : List AV} : (AV.agg cs).cells = cs := rfl
/-- new IDs -/
def FreshI (M : Mem) (l : List IdD) (v : AV) (M' : Mem) : Prop := OwnR 23 3 IdD.row M' v l ∧ Grow M M' ∧ Later M.length v
theorem vbuild85 {x : IdD} {M : Mem} : vbuildAV Tryz.prog 85 1 [(0, .agg [I x.act, I x.item, I x.n])] M = some (.vref M.length 0 3 0 1, M ++ [.vec 23 3 [I x.act, I x.item, I x.n] 0 [(0, 1)]]) := by simp [vbuildAV, rowsGo, AV.storable, AV.cells]
section
variable (gl : Nat → AV)
theorem ids1_ok (u : UnitD) (o : Nat) (M : Mem) (v : AV) (l : List IdD) (hl : l.length ≤ 1000) (hM : M[o]? = some (.cells 85 [v])) (hv : OwnR 23 3 IdD.row M v l) (hvo : obj v ≠ some o) :
    ACalls (WC gl) 122 [.agg u.row, .ptr o 0] M (fun r M' => r = B true ∧ ∃ v' M1, M' = M1.set o (.cells 85 [v']) ∧ OwnR 23 3 IdD.row M1 v' (l ++ [u.id]) ∧ KeepsBut (obj v) M M1 ∧ (obj v' = obj v ∨ Later M.length v')) := by
  refine w_body (hQ [8]) Tryz.func122 rfl rfl rfl rfl rfl rfl ?_
  rw [u.row_eq]
  simp (dsimp := false) (implicitDefEqProofs := false) [loadAV_ptr hM, buildSliceAV, rowsGo, agg_st, agg_cs]
  refine pushR (C := WC gl) (enc := IdD.row) (e := 23) (sz := 3) (news := [u.id]) elem85 src85 eok23 (fun _ => rfl) hv (by simp [srcCells, IdD.row]) (by simp; omega) rfl ?_
  intro v' M1 h1 h2 h3 _
  have hM1 := h2.get hM hvo
  have hst : storeAV (some 1) M1 (.ptr o 0) v' = some (M1.set o (.cells 85 [v'])) := by rw [storeAV_ptr hM1, h1.cells, if_pos ⟨h1.store, by simp, rfl⟩]; rfl
  simp (dsimp := false) (implicitDefEqProofs := false) [hst]
  exact ⟨v', M1, rfl, h1, h2, h3⟩
theorem iDs_ok (u : UnitD) (M : Mem) (hg : u.good) (hc : countN u ≤ 1000) : ACalls (WC gl) 67 [.agg u.row] M (FreshI M (idsU u)) := by
  refine w_body hW Tryz.func67 rfl rfl rfl rfl rfl rfl ?_
  have hM0 : (M ++ [AObj.cells 85 [.val (.slice none 0 0)]])[M.length]? = some (AObj.cells 85 [.val (.slice none 0 0)]) := by simp
  simp (dsimp := false) (implicitDefEqProofs := false) [allocAV, storeAV, overwrite]
  refine w_calls (inv_of Tryz.func86 rfl rfl (every2_ok gl 122 [] [.ptr M.length 0] (fun _ => true) (fun (a : List IdD) u => a ++ [u.id])
    (fun M1 a => ∃ v, M1[M.length]? = some (.cells 85 [v]) ∧ OwnR 23 3 IdD.row M1 v a ∧ obj v ≠ some M.length ∧ Later M.length v ∧ Grow M M1)
    (fun a u => a.length + countN u ≤ 1000) (fun a ks => a.length + countL ks ≤ 1000) ?_ ?_ ?_ ?_ ?_ u [] _ hg (by simpa using hc) ⟨_, hM0, .nil, by simp, by simp [Later], KeepsBut.app none _ _⟩)) ?_
  · intro a u h
    have := countN_kids u; simp; omega
  · intro a k ks h; rw [countL] at h; omega
  · intro a k ks h _; rw [countL] at h; rw [everyF_ids]; simp only [List.length_append, idsU_len]; omega
  · rintro M1 a X ⟨v, h1, h2, h3, h4, h5⟩
    exact ⟨v, by rw [List.getElem?_append_left (List.getElem?_eq_some_iff.1 h1).1]; exact h1, h2.keep (KeepsBut.app none _ _) (by simp), h3, h4, h5.trans (KeepsBut.app none _ _)⟩
  · rintro u a M1 hgu hk ⟨v, h1, h2, h3, h4, h5⟩
    have hcp := countN_pos u
    refine (inv_of Tryz.func122 rfl rfl (ids1_ok gl u M.length M1 v a (by omega) h1 h2 h3)).mono ?_
    rintro _ _ ⟨rfl, v', M2, rfl, k1, k2, k3⟩
    have hlt : M.length < M1.length := (List.getElem?_eq_some_iff.1 h1).1
    have hlt2 : M.length < M2.length := by have := k2.1; omega
    have hv' : obj v' ≠ some M.length := by
      rcases k3 with e | e
      · rw [e]; exact h3
      · intro q; have := e _ q; omega
    refine ⟨rfl, v', by simp [hlt2], k1.keep (KeepsBut.set M2 M.length _) (fun f hf e => hv' (by rw [hf, ← e])), hv', fun f hf => ?_, ⟨by simp; omega, fun j hj _ => ?_⟩⟩
    · rcases k3 with e | e
      · exact h4 f (by rw [← e]; exact hf)
      · have := e f hf; omega
    · rw [List.getElem?_set_ne (by omega), k2.2 j (by omega) (fun e => by have := h4 _ e; omega)]
      exact h5.2 j hj (by simp)
  · rintro _ M1 ⟨rfl, v, h1, h2, h3, h4, h5⟩
    rw [everyF_ids] at h2 ⊢
    simp only [List.nil_append] at h2
    simp (dsimp := false) (implicitDefEqProofs := false) [loadAV_ptr h1, FreshI, h2, h4, h5]
theorem rAll_ok : ∀ (u : UnitD) (M : Mem), u.good → countN u ≤ 1000 → ACalls (WC gl) 74 [.agg u.row] M (FreshI M (idsU u))
  | .mk id kind lab hd ws ks, M, hg, hc => by
    obtain ⟨_, _, hlg, _, hhg, _, hwg, _, hkg⟩ := (UnitD.good_iff _).1 hg
    have hkg : ∀ k ∈ ks, k.good := hkg
    have hc' : 1 + countL ks ≤ 1000 := by rwa [countN] at hc
    have hkl := countL_len ks
    have hrow : (UnitD.mk id kind lab hd ws ks).row = [I id.act, I id.item, I id.n, I kind, S lab, .list 4 (rowsW hd) .no, .list 4 (rowsW ws) .no, .list 8 (rowsU ks) .no] := by rw [UnitD.row]
    have hde : idsU (.mk id kind lab hd ws ks) = id :: idsL ks := by rw [idsU]
    rw [hrow, hde]
    refine w_body (hQ [7, 22]) Tryz.func74 rfl rfl rfl rfl rfl rfl ?_
    simp (dsimp := false) (implicitDefEqProofs := false) [vbuild85]
    refine w_looped (hQ [7, 22]) (fun T M1 => ∃ i : Nat, i ≤ ks.length ∧ T 1 = .cptr [I id.act, I id.item, I id.n, I kind, S lab, .list 4 (rowsW hd) .no, .list 4 (rowsW ws) .no, .list 8 (rowsU ks) .no] ∧ T 4 = I i ∧ ∃ l, OwnR 23 3 IdD.row M1 (T 3) l ∧ Grow M M1 ∧ Later M.length (T 3) ∧ id :: idsL ks = l ++ idsL (ks.drop i))
      (fun T M1 => match T 4 with | .val (.int _ i) => ks.length - i.toNat | _ => 0) (by kernel_rfl) ?_ ?_
    · refine ⟨0, by omega, by simp, by simp, [id], .inr ⟨M.length, 0, [(0, 1)], by simp, by simp [IdD.row], by simp [List.lookup]⟩, KeepsBut.app none _ _, by simp [Later], by simp⟩
    · rintro T M1 ⟨i, i1, t1, t4, l, hv, hgr, hL, ho⟩
      by_cases hi : i < ks.length
      · have hi' : (i : Int) < ks.length := by omega
        have w1 := wadd1 (i := i) (by omega)
        have hmem : ks[i] ∈ ks := List.getElem_mem hi
        rw [List.drop_eq_getElem_cons hi, idsL] at ho
        have hck := countL_mem hmem
        generalize hT3 : T 3 = ov at *
        simp (dsimp := false) (implicitDefEqProofs := false) [t1, t4, hi, hi', hT3]
        have := UnitD.kid_lt (u := .mk id kind lab hd ws ks) hmem
        refine w_calls (inv_of Tryz.func74 rfl rfl (rAll_ok ks[i] M1 (hkg _ hmem) (by omega))) ?_
        rintro v2 M2 ⟨k1, k2, k3⟩
        have hlen : l.length + (idsU ks[i]).length ≤ 2000 := by
          have := congrArg List.length ho
          simp only [List.length_cons, List.length_append, idsL_len] at this
          omega
        have hv2 := hv.keep k2 (by simp)
        simp (dsimp := false) (implicitDefEqProofs := false)
        refine pushR (C := WC gl) (enc := IdD.row) (e := 23) (sz := 3) (news := idsU ks[i]) elem85 src85 eok23 (fun _ => rfl) hv2 (k1.src (fun _ => rfl)) (by omega) rfl ?_
        intro v' M3 q1 q2 q3 _
        obtain ⟨r1, r2⟩ := fresh_step (X := []) (hgr.trans k2) hL (by simpa using q2) (by simpa using q3)
        simp (dsimp := false) (implicitDefEqProofs := false) [t1, t4, w1]
        exact ⟨⟨i + 1, by clear w1; omega, rfl, _, q1, r1, r2, by rw [ho, List.append_assoc]⟩, by clear w1; omega⟩
      · have hi' : ¬ (i : Int) < ks.length := by omega
        rw [show ks.drop i = [] from List.drop_eq_nil_of_le (by omega), idsL, List.append_nil] at ho
        rw [ho]
        simp (dsimp := false) (implicitDefEqProofs := false) [t1, t4, hi', FreshI, hv, hgr, hL]
termination_by u => SizeOf.sizeOf u
end
end Go.Abs
end
section
/- IDs of a tree: none, or all different: the two ways to say so (plain law). -/
set_option linter.unusedVariables false
namespace Go.Abs
section
variable {K : Type} [DecidableEq K]
def addS (S : List K) : List K → List K
  | [] => S
  | x :: r => addS (if S.any (fun y => decide (y = x)) then S else S ++ [x]) r
def distL : List K → List K → Bool
  | [], _ => true
  | x :: r, b => !(b.any fun y => decide (y = x)) && distL r (b ++ [x])
theorem any_mem {S : List K} {x : K} : (S.any fun y => decide (y = x)) = decide (x ∈ S) := by
  rw [Bool.eq_iff_iff]; simp
theorem addS_mem : ∀ (r S : List K) (x : K), x ∈ addS S r ↔ x ∈ S ∨ x ∈ r
  | [], S, x => by simp [addS]
  | y :: r, S, x => by
    rw [addS, addS_mem r]
    simp only [any_mem, decide_eq_true_eq]
    by_cases h : y ∈ S
    · rw [if_pos h]
      simp only [List.mem_cons]
      constructor
      · rintro (h1 | h1) <;> simp [h1]
      · rintro (h1 | rfl | h1)
        · exact .inl h1
        · exact .inl h
        · exact .inr h1
    · rw [if_neg h]; simp only [List.mem_append, List.mem_cons, List.not_mem_nil, or_false]; exact or_assoc
theorem addS_len : ∀ (r S : List K), (addS S r).length ≤ S.length + r.length
  | [], S => by simp [addS]
  | y :: r, S => by
    rw [addS]
    have := addS_len r (if S.any (fun z => decide (z = y)) then S else S ++ [y])
    split at this <;> simp_all <;> omega
theorem addS_ge : ∀ (r S : List K), S.length ≤ (addS S r).length
  | [], S => by simp [addS]
  | y :: r, S => by
    rw [addS]
    have := addS_ge r (if S.any (fun z => decide (z = y)) then S else S ++ [y])
    split at this <;> simp_all <;> omega
/-- the set is as long as the list just where nothing comes twice -/
theorem addS_full : ∀ (r S : List K), (addS S r).length = S.length + r.length ↔ distL r S = true
  | [], S => by simp [addS, distL]
  | y :: r, S => by
    rw [addS, distL]
    cases h : S.any fun z => decide (z = y)
    · rw [if_neg (by simp)]
      have := addS_full r (S ++ [y])
      rw [Bool.not_false, Bool.true_and, ← this]
      simp only [List.length_append, List.length_cons, List.length_nil]
      omega
    · rw [if_pos rfl]
      have := addS_len r S
      simp only [Bool.not_true, Bool.false_and, Bool.false_eq_true, iff_false, List.length_cons]
      omega
theorem addS_nodup : ∀ (r S : List K), S.Nodup → (addS S r).Nodup
  | [], S, h => by simpa [addS] using h
  | y :: r, S, h => by
    rw [addS]
    refine addS_nodup r _ ?_
    rw [any_mem]
    split
    · exact h
    · rename_i hn
      have hn : y ∉ S := by simpa using hn
      refine List.nodup_append.2 ⟨h, by simp, ?_⟩
      intro a ha b hb e
      simp only [List.mem_cons, List.not_mem_nil, or_false] at hb
      subst hb; subst e; exact hn ha
omit [DecidableEq K] in
theorem nodup_one {l : List K} {z : K} (hn : l.Nodup) (hz : ∀ x ∈ l, x = z) (hm : z ∈ l) : l.length = 1 := by
  match l, hn, hz, hm with
  | [], _, _, hm => simp at hm
  | [x], _, _, _ => rfl
  | x :: y :: l, hn, hz, _ =>
    have h1 := hz x (by simp)
    have h2 := hz y (by simp)
    subst h1; subst h2
    simp at hn
omit [DecidableEq K] in
theorem one_all {l : List K} {z : K} (h1 : l.length = 1) (hm : z ∈ l) : ∀ x ∈ l, x = z := by
  match l, h1 with
  | [y], _ => intro x hx; simp at hx hm; rw [hx, hm]
/-- one member, which is z: all are z -/
theorem addS_one {l : List K} {z : K} (hl : l ≠ []) : (z ∈ l ∧ (addS [] l).length = 1) ↔ ∀ x ∈ l, x = z := by
  constructor
  · rintro ⟨hm, h1⟩ x hx
    exact one_all h1 ((addS_mem l [] z).2 (.inr hm)) x ((addS_mem l [] x).2 (.inr hx))
  · intro h
    obtain ⟨a, r, rfl⟩ := List.exists_cons_of_ne_nil hl
    have hm : z ∈ a :: r := by rw [← h a (by simp)]; simp
    exact ⟨hm, nodup_one (addS_nodup _ _ .nil) (fun x hx => h x (by simpa using (addS_mem _ [] x).1 hx)) ((addS_mem _ [] z).2 (.inr hm))⟩
end
def idZ : IdD := ⟨0, 0, 0⟩
/-- IDs, as the program looks at them -/
def idsP (u : UnitD) : Bool := (decide (idZ ∈ idsU u) && decide ((addS [] (idsU u)).length = 1)) || (decide ((addS [] (idsU u)).length = (idsU u).length) && (decide (u.kind = 0) == decide (u.id = idZ)))
/-- IDs, as the reference looks at them -/
def idsR (u : UnitD) : Bool := (idsU u).all (fun x => decide (x = idZ)) || ((decide (u.id = idZ) == decide (u.kind = 0)) && distL (idsU u) [])
theorem idsU_ne (u : UnitD) : idsU u ≠ [] := by obtain ⟨a, b, c, d, e, f⟩ := u; rw [idsU]; simp
theorem ids_same (u : UnitD) : idsP u = idsR u := by
  have h1 := addS_one (l := idsU u) (z := idZ) (idsU_ne u)
  have h2 := addS_full (idsU u) ([] : List IdD)
  simp only [List.length_nil, Nat.zero_add] at h2
  rw [Bool.eq_iff_iff]
  simp only [idsP, idsR, Bool.or_eq_true, Bool.and_eq_true, decide_eq_true_eq, List.all_eq_true, beq_iff_eq]
  rw [h1, h2, and_comm, @eq_comm _ (decide (u.kind = 0))]
end Go.Abs
end
section
/- Contracts: IDs all different. -/
set_option maxRecDepth 100000
set_option linter.unusedSimpArgs false
set_option linter.unusedVariables false
namespace Go.Abs
open Go.Proofs TryTypes

theorem MapAt.len {K V : Type} {kenc : K → AV} {venc : V → AV} {M : Mem} {b : Nat} {l : List (K × V)} (h : MapAt kenc venc M b l) {P : Program} {t kt et : TypeId} (ht : P.underlying t = some (.map kt et)) : lenMore P t M (.mapr b) = some l.length := by
  obtain ⟨es, c, h1, h2⟩ := h
  have := congrArg List.length h2
  simp only [List.length_map] at this
  simp [lenMore, ht, h1, this]
theorem lenAV_map {P : Program} {t : TypeId} {b : Nat} : lenAV P t (.mapr b) = none := rfl
@[simp] theorem eqGuard23 : Tryz.prog.eqGuardType Tryz.prog.depth 23 = false := by kernel_rfl
theorem eqId (a b : IdD) : binAV Tryz.prog .eql 23 (.agg [I a.act, I a.item, I a.n]) (.agg [I b.act, I b.item, I b.n]) = some (B (decide (a = b))) := by
  have h0 : binAV0 Tryz.prog .eql 23 (.agg [I a.act, I a.item, I a.n]) (.agg [I b.act, I b.item, I b.n]) = none := by simp [binAV0, nilKind]
  have := (keyId 248 4 (by kernel_rfl)).eq a b
  simp only [encId, IdD.row] at this
  simp only [binAV, h0, binMore, eqGuard23, this]
  rfl
@[simp] theorem zero_id : idZ.row = [I 0, I 0, I 0] := rfl
theorem eqIdZ (a : IdD) : binAV Tryz.prog .eql 23 (.agg [I a.act, I a.item, I a.n]) (.agg [I 0, I 0, I 0]) = some (B (decide (a = idZ))) := eqId a idZ
theorem putL_old {K : Type} [DecidableEq K] (c : K) : ∀ seen : List K, (seen.any fun y => decide (y = c)) = true → putL (seen.map fun x => (x, true)) c true = seen.map fun x => (x, true)
  | [], h => by simp at h
  | x :: l, h => by
    rw [List.map_cons, putL]
    by_cases e : c = x
    · subst e; simp
    · rw [if_neg e]
      rw [List.any_cons, decide_eq_false (fun q => e q.symm), Bool.false_or] at h
      rw [putL_old c l h]
section
variable (gl : Nat → AV)
theorem ids_ok (u : UnitD) (M : Mem) (hg : u.good) (hc : countN u ≤ 1000) : ACalls (WC gl) 158 [.agg u.row] M (fun v M' => v = B (idsP u) ∧ M' = M) := by
  have key : ACalls (WC gl) 158 [.agg u.row] M (fun v M' => (∃ x, v = .val x ∧ x = .bool (idsP u)) ∧ Grow M M') := by
    refine w_body hW Tryz.func158 rfl rfl rfl rfl rfl rfl ?_
    have hids := iDs_ok gl u M hg hc
    rw [u.row_eq] at hids ⊢
    have hlen := idsU_len u
    simp (dsimp := false) (implicitDefEqProofs := false)
    refine w_calls (inv_of Tryz.func67 rfl rfl hids) ?_
    rintro v M1 ⟨hv, hg1, hL⟩
    have hvl : lenAV Tryz.prog 85 v = some (idsU u).length := hv.len (e' := 23) (by simp)
    have hv1 : OwnR 23 3 IdD.row (M1 ++ [.map [] 0]) v (idsU u) := hv.keep (KeepsBut.app none M1 _) (by simp)
    have hvb : obj v ≠ some M1.length := fun e => by have := hv.lt e; omega
    simp (dsimp := false) (implicitDefEqProofs := false) [hvl]
    refine w_looped hW (fun T M2 => ∃ i : Nat, i ≤ (idsU u).length ∧ T 1 = .cptr [I u.id.act, I u.id.item, I u.id.n, I u.kind, S u.label, .list 4 (rowsW u.head) .no, .list 4 (rowsW u.words) .no, .list 8 (rowsU u.kids) .no] ∧ T 3 = v ∧ T 4 = .mapr M1.length ∧ T 11 = v ∧ T 12 = I (idsU u).length ∧ T 13 = I i ∧ Grow M M2 ∧ OwnR 23 3 IdD.row M2 v (idsU u) ∧
        ∃ s, MapAt encId B M2 M1.length (s.map fun x => (x, true)) ∧ addS [] (idsU u) = addS s ((idsU u).drop i))
      (fun T M1 => match T 13 with | .val (.int _ i) => (idsU u).length - i.toNat | _ => 0) (by kernel_rfl) ?_ ?_
    · exact ⟨0, by omega, by simp, by simp, by simp, by simp, by simp, by simp, hg1.trans (KeepsBut.app none _ _), hv1, [], MapAt.new M1, by simp⟩
    · rintro T M2 ⟨i, i1, t1, t3, t4, t11, t12, t13, hg2, hv2, s, hmap, ho⟩
      by_cases hi : i < (idsU u).length
      · have hi' : (i : Int) < (idsU u).length := by omega
        have w1 := wadd1 (i := i) (by omega)
        obtain ⟨p, p1, _, p2, _⟩ := hv2.at_ (P := Tryz.prog) (t := 23) (fun _ => rfl) (by simp) (by simp) hi
        have hd := List.drop_eq_getElem_cons hi
        rw [hd, addS] at ho
        obtain ⟨x, hx⟩ : ∃ x, x = (idsU u)[i] := ⟨_, rfl⟩
        rw [← hx] at ho p2
        have hxr : x.row = [I x.act, I x.item, I x.n] := rfl
        rw [hxr] at p2
        have hMX : (M2 ++ [AObj.cells 23 [I x.act, I x.item, I x.n]])[M2.length]? = some (AObj.cells 23 [I x.act, I x.item, I x.n]) := by simp
        have hmap3 := hmap.keep (KeepsBut.app none M2 [AObj.cells 23 [I x.act, I x.item, I x.n]]) (by simp)
        have hg3 : Grow M (M2 ++ [AObj.cells 23 [I x.act, I x.item, I x.n]]) := hg2.trans (KeepsBut.app none _ _)
        have hv3 := hv2.keep (KeepsBut.app none M2 [AObj.cells 23 [I x.act, I x.item, I x.n]]) (by simp)
        obtain ⟨M4, q1, q2, q3⟩ := hmap3.put (keyId 248 4 (by kernel_rfl)) x true
        have q1' : mapPutAV Tryz.prog 248 (M2 ++ [AObj.cells 23 [I x.act, I x.item, I x.n]]) (.mapr M1.length) (.agg [I x.act, I x.item, I x.n]) (B true) = some M4 := q1
        have hg4 : Grow M M4 := by
          refine ⟨Nat.le_trans hg3.1 q3.1, fun j hj _ => ?_⟩
          rw [q3.2 j (by have := hg3.1; omega) (by have := hg1.1; simp; omega)]; exact hg3.2 j hj (by simp)
        have hv4 := hv3.keep q3 (fun f hf e => hvb (by rw [hf, ← e]))
        simp (dsimp := false) (implicitDefEqProofs := false) [t1, t3, t4, t11, t12, t13, hi, hi', p1, p2, allocAV, storeAV, overwrite, agg_st, agg_cs, loadAV_ptr hMX, q1', w1]
        refine ⟨⟨i + 1, by clear w1; omega, rfl, hg4, hv4, if s.any (fun y => decide (y = x)) then s else s ++ [x], ?_, ho⟩, by clear w1; omega⟩
        cases hs : s.any fun y => decide (y = x)
        · rw [putL_seen x s hs] at q2
          rw [if_neg (by simp)]; exact q2
        · rw [if_pos rfl]
          have : putL (s.map fun x => (x, true)) x true = s.map fun x => (x, true) := putL_old x s hs
          rw [this] at q2; exact q2
      · have hi' : ¬ (i : Int) < (idsU u).length := by omega
        rw [show (idsU u).drop i = [] from List.drop_eq_nil_of_le (by omega), addS] at ho
        have hz : (s.any fun y => decide (y = idZ)) = decide (idZ ∈ idsU u) := by
          rw [any_mem, ← ho, Bool.eq_iff_iff]
          simp only [decide_eq_true_eq, addS_mem, List.not_mem_nil, false_or]
        have hR : idsP u = ((decide (idZ ∈ idsU u) && decide (s.length = 1)) || (decide (s.length = (idsU u).length) && (decide (u.kind = 0) == decide (u.id = idZ)))) := by rw [← ho]; rfl
        obtain ⟨R, hRR⟩ : ∃ R, R = idsP u := ⟨_, rfl⟩
        rw [← hRR] at hR ⊢
        clear hRR
        have hget := hmap.get (keyId 248 4 (by kernel_rfl)) idZ (z := B false) (by kernel_rfl) false
        rw [getL_seen, hz] at hget
        have hget' : lookupAV Tryz.prog 248 M2 (.mapr M1.length) (.agg [I 0, I 0, I 0]) false = some (B (decide (idZ ∈ idsU u))) := by
          refine hget.trans ?_
          cases decide (idZ ∈ idsU u) <;> rfl
        have hlm : lenMore Tryz.prog 248 M2 (.mapr M1.length) = some s.length := by rw [hmap.len (kt := 23) (et := 4) (by simp)]; simp
        cases hzz : decide (idZ ∈ idsU u)
        · rw [hzz] at hget' hR
          rw [Bool.false_and, Bool.false_or] at hR
          simp (dsimp := false) (implicitDefEqProofs := false) [t1, t3, t4, t11, t12, t13, hi', hget']
          refine w_drawn hW (cfollows gl) (fun k => if k = 3 ∨ k = 8 then 2 else 0) (fun _ => 0) (by rfl) (by kernel_rfl) ?_
          by_cases h2 : s.length = (idsU u).length
          · have h2' : (s.length : Int) = ((idsU u).length : Int) := by omega
            rw [decide_eq_true h2, Bool.true_and] at hR
            simp (dsimp := false) (implicitDefEqProofs := false) [t1, t3, t4, hlm, lenAV_map, hvl, eq_true h2', eqIdZ]
            exact ⟨by rw [hR]; rfl, hg2⟩
          · have h2' : ¬ (s.length : Int) = ((idsU u).length : Int) := by omega
            rw [decide_eq_false h2, Bool.false_and] at hR
            simp (dsimp := false) (implicitDefEqProofs := false) [t1, t3, t4, hlm, lenAV_map, hvl, h2', hR, hg2]
        · rw [hzz] at hget' hR
          rw [Bool.true_and] at hR
          simp (dsimp := false) (implicitDefEqProofs := false) [t1, t3, t4, t11, t12, t13, hi', hget']
          refine w_drawn hW (cfollows gl) (fun k => if k = 3 ∨ k = 8 then 2 else 0) (fun _ => 0) (by rfl) (by kernel_rfl) ?_
          by_cases h1 : s.length = 1
          · have h1' : (s.length : Int) = 1 := by omega
            rw [decide_eq_true h1, Bool.true_or] at hR
            simp (dsimp := false) (implicitDefEqProofs := false) [t1, t3, t4, hlm, lenAV_map, hvl, eq_true h1', eq_true h1, hR, hg2]
          have h1' : ¬ (s.length : Int) = 1 := by omega
          rw [decide_eq_false h1, Bool.false_or] at hR
          by_cases h2 : s.length = (idsU u).length
          · have h2' : (s.length : Int) = ((idsU u).length : Int) := by omega
            rw [decide_eq_true h2, Bool.true_and] at hR
            simp (dsimp := false) (implicitDefEqProofs := false) [t1, t3, t4, hlm, lenAV_map, hvl, h1, h1', eq_true h2', eqIdZ]
            exact ⟨by rw [hR]; rfl, hg2⟩
          · have h2' : ¬ (s.length : Int) = ((idsU u).length : Int) := by omega
            rw [decide_eq_false h2, Bool.false_and] at hR
            simp (dsimp := false) (implicitDefEqProofs := false) [t1, t3, t4, hlm, lenAV_map, hvl, h1, h1', h2', hR, hg2]
  exact (grow_cut key).mono (by rintro v M' ⟨⟨x, rfl, rfl⟩, rfl⟩; exact ⟨rfl, rfl⟩)
theorem once_ok (l : List IdD) (hl : l.length ≤ 1000) (v : AV) (M : Mem) (hv : OwnR 23 3 IdD.row M v l) : ACalls (WC gl) 93 [v] M (fun r M' => r = B (distL l []) ∧ M' = M) := by
  refine w_body hB Tryz.func93 rfl rfl rfl rfl rfl rfl ?_
  have hvl : lenAV Tryz.prog 85 v = some l.length := hv.len (e' := 23) (by simp)
  obtain ⟨R, hR⟩ : ∃ R, R = distL l [] := ⟨_, rfl⟩
  rw [← hR]
  simp (dsimp := false) (implicitDefEqProofs := false)
  refine w_looped hB (fun T M1 => ∃ i : Nat, i ≤ l.length ∧ T 0 = v ∧ T 3 = I i ∧ M1 = M ∧ R = distL (l.drop i) (l.take i))
    (fun T M1 => match T 3 with | .val (.int _ i) => l.length - i.toNat | _ => 0) (by kernel_rfl) ?_ ?_
  · exact ⟨0, by omega, by simp, by simp, rfl, by simpa using hR⟩
  · rintro T M1 ⟨i, i1, t0, t3, rfl, ho⟩
    by_cases hi : i < l.length
    case neg =>
      have hi' : ¬ (i : Int) < l.length := by omega
      rw [show l.drop i = [] from List.drop_eq_nil_of_le (by omega), distL] at ho
      simp (dsimp := false) (implicitDefEqProofs := false) [t0, t3, hvl, hi', ho]
    have hi' : (i : Int) < l.length := by omega
    have w1 := wadd1 (i := i) (by omega)
    have ht2 : l.take i ++ [l[i]] = l.take (i + 1) := by rw [List.take_add_one, List.getElem?_eq_getElem hi, Option.toList_some]
    rw [List.drop_eq_getElem_cons hi, distL, ht2] at ho
    obtain ⟨x, hx⟩ : ∃ x, x = l[i] := ⟨_, rfl⟩
    obtain ⟨p, p1, _, p2, po⟩ := hv.at_ (P := Tryz.prog) (t := 23) (fun _ => rfl) (by simp) (by simp) hi
    rw [← hx] at ho p2
    have p2' : loadAV Tryz.prog 23 M1 p = some (.agg [I x.act, I x.item, I x.n]) := p2
    simp (dsimp := false) (implicitDefEqProofs := false) [t0, t3, hvl, hi']
    refine w_looped hB (fun T2 M2 => ∃ j : Nat, j ≤ i ∧ T2 0 = v ∧ T2 3 = I i ∧ T2 4 = I j ∧ M2 = M1 ∧ ((l.take i).any fun y => decide (y = x)) = (((l.take i).drop j).any fun y => decide (y = x)))
      (fun T M1 => match T 4 with | .val (.int _ j) => i - j.toNat | _ => 0) (by kernel_rfl) ?_ ?_
    · exact ⟨0, by omega, by simp [t0], by simp [t3], by simp, rfl, by simp⟩
    · rintro T2 M2 ⟨j, j1, u0, u3, u4, rfl, hb⟩
      by_cases hj : j < i
      case neg =>
        have hj' : ¬ (j : Int) < i := by omega
        rw [show (l.take i).drop j = [] from List.drop_eq_nil_of_le (by simp; omega), List.any_nil] at hb
        rw [hb, Bool.not_false, Bool.true_and] at ho
        simp (dsimp := false) (implicitDefEqProofs := false) [u0, u3, u4, hj', w1, t3]
        exact ⟨⟨i + 1, by clear w1; omega, rfl, ho⟩, by clear w1; omega⟩
      have hj' : (j : Int) < i := by omega
      have hj2 : j < l.length := by omega
      have w2 := wadd1 (i := j) (by omega)
      have hd3 : (l.take i).drop j = l[j] :: (l.take i).drop (j + 1) := by
        rw [List.drop_eq_getElem_cons (by simp; omega)]; simp
      rw [hd3, List.any_cons] at hb
      obtain ⟨y, hy⟩ : ∃ y, y = l[j] := ⟨_, rfl⟩
      obtain ⟨q, q1, _, q2, qo⟩ := hv.at_ (P := Tryz.prog) (t := 23) (fun _ => rfl) (by simp) (by simp) hj2
      rw [← hy] at hb q2
      have q2' : loadAV Tryz.prog 23 M2 q = some (.agg [I y.act, I y.item, I y.n]) := q2
      obtain ⟨f, hf⟩ : ∃ f, obj v = some f := by
        rcases hv with ⟨rfl, rfl⟩ | ⟨f', g, hist, rfl, _, _⟩
        · simp at hi
        · exact ⟨f', rfl⟩
      rw [hf] at po qo
      simp (dsimp := false) (implicitDefEqProofs := false) [u0, u3, u4, hj']
      refine w_drawn hB (cfollows gl) (fun k => if k = 3 ∨ k = 7 then 1 else 0) (fun _ => f) (by rfl) (by kernel_rfl) ?_
      by_cases c1 : y = x
      · rw [decide_eq_true c1, Bool.true_or] at hb
        rw [hb, Bool.not_true, Bool.false_and] at ho
        subst c1
        simp (dsimp := false) (implicitDefEqProofs := false) [u0, u3, u4, p1, p2', po, q1, q2', qo, eqId, ho]
      · rw [decide_eq_false c1, Bool.false_or] at hb
        have c1' : ¬ x = y := fun e => c1 e.symm
        simp (dsimp := false) (implicitDefEqProofs := false) [u0, u3, u4, p1, p2', po, q1, q2', qo, eqId, c1, c1', w2]
        exact ⟨⟨j + 1, by clear w2; omega, rfl, hb⟩, by clear w2; omega⟩
end
end Go.Abs
end
section
/- Contracts: a tree that is a book (both ways). -/
set_option maxRecDepth 100000
set_option linter.unusedSimpArgs false
set_option linter.unusedVariables false
namespace Go.Abs
open Go.Proofs TryTypes

mutual
def preU : UnitD → List UnitD
  | .mk id k l h w ks => .mk id k l h w ks :: preL ks
def preL : List UnitD → List UnitD
  | [] => []
  | k :: ks => preU k ++ preL ks
end
mutual
theorem preU_ids : ∀ u : UnitD, (preU u).map UnitD.id = idsU u
  | .mk id _ _ _ _ ks => by rw [preU, idsU, List.map_cons, preL_ids ks]; rfl
theorem preL_ids : ∀ ks : List UnitD, (preL ks).map UnitD.id = idsL ks
  | [] => by rw [preL, idsL]; rfl
  | k :: ks => by rw [preL, idsL, List.map_append, preU_ids k, preL_ids ks]
end
abbrev encU (u : UnitD) : AV := .agg u.row
def putAll (L : List (IdD × UnitD)) : List UnitD → List (IdD × UnitD)
  | [] => L
  | u :: us => putAll (putL L u.id u) us
theorem putAll_app (L : List (IdD × UnitD)) : ∀ us vs, putAll L (us ++ vs) = putAll (putAll L us) vs := by
  intro us
  induction us generalizing L with
  | nil => intro vs; rfl
  | cons u us ih => intro vs; exact ih _ vs
theorem putAll_keys : ∀ (us : List UnitD) (L : List (IdD × UnitD)), (putAll L us).map (·.1) = addS (L.map (·.1)) (us.map UnitD.id)
  | [], L => rfl
  | u :: us, L => by
    rw [putAll, putAll_keys us, putL_keys, List.map_cons, addS, any_mem]
    by_cases h : u.id ∈ L.map (·.1)
    · rw [if_pos h, if_pos (by simpa using h)]
    · rw [if_neg h, if_neg (by simpa using h)]
mutual
/-- the memory behind collect -/
noncomputable def collectM : UnitD → Nat → Mem → Mem
  | .mk id k l h w ks, b, M => collectML ks b ((mapPutAV Tryz.prog 92 M (.mapr b) (encId id) (encU (.mk id k l h w ks))).getD M)
noncomputable def collectML : List UnitD → Nat → Mem → Mem
  | [], _, M => M
  | k :: ks, b, M => collectML ks b (collectM k b (M ++ [.cells 27 k.row]))
end
mutual
theorem collectM_map : ∀ (u : UnitD) (L : List (IdD × UnitD)) (b : Nat) (M : Mem), MapAt encId encU M b L → MapAt encId encU (collectM u b M) b (putAll L (preU u)) ∧ KeepsBut (some b) M (collectM u b M)
  | .mk id k l h w ks, L, b, M, hm => by
    obtain ⟨M1, p1, p2, p3⟩ := hm.put (keyId 92 27 (by kernel_rfl)) id (.mk id k l h w ks)
    have hc : collectM (.mk id k l h w ks) b M = collectML ks b M1 := by rw [collectM, p1]; rfl
    obtain ⟨q1, q2⟩ := collectML_map ks _ b M1 p2
    rw [hc, preU]
    exact ⟨q1, p3.trans q2⟩
theorem collectML_map : ∀ (ks : List UnitD) (L : List (IdD × UnitD)) (b : Nat) (M : Mem), MapAt encId encU M b L → MapAt encId encU (collectML ks b M) b (putAll L (preL ks)) ∧ KeepsBut (some b) M (collectML ks b M)
  | [], L, b, M, hm => by rw [collectML, preL]; exact ⟨hm, .refl _ _⟩
  | k :: ks, L, b, M, hm => by
    obtain ⟨q1, q2⟩ := collectM_map k L b (M ++ [.cells 27 k.row]) (hm.keep (KeepsBut.app none M _) (by simp))
    obtain ⟨r1, r2⟩ := collectML_map ks _ b _ q1
    rw [collectML, preL, putAll_app]
    exact ⟨r1, ((KeepsBut.of_none (KeepsBut.app none _ _)).trans q2).trans r2⟩
end
section
variable (gl : Nat → AV)
theorem collect_ok : ∀ (u : UnitD) (L : List (IdD × UnitD)) (b : Nat) (M : Mem), u.good → MapAt encId encU M b L → ACalls (WC gl) 102 [.agg u.row, .mapr b] M (fun v M' => v = .mapr b ∧ M' = collectM u b M)
  | .mk id kind lab hd ws ks, L, b, M, hg, hmap => by
    obtain ⟨_, _, hlg, _, hhg, _, hwg, hkn, hkg⟩ := (UnitD.good_iff _).1 hg
    have hkg : ∀ k ∈ ks, k.good := hkg
    have hk' : ks.length ≤ 9223372036854775807 := hkn
    have hrow : (UnitD.mk id kind lab hd ws ks).row = [I id.act, I id.item, I id.n, I kind, S lab, .list 4 (rowsW hd) .no, .list 4 (rowsW ws) .no, .list 8 (rowsU ks) .no] := by rw [UnitD.row]
    obtain ⟨M1, p1, p2, p3⟩ := hmap.put (keyId 92 27 (by kernel_rfl)) id (.mk id kind lab hd ws ks)
    have p1' : mapPutAV Tryz.prog 92 M (.mapr b) (.agg [I id.act, I id.item, I id.n]) (.agg [I id.act, I id.item, I id.n, I kind, S lab, .list 4 (rowsW hd) .no, .list 4 (rowsW ws) .no, .list 8 (rowsU ks) .no]) = some M1 := by rw [← hrow]; exact p1
    have hcm : collectM (.mk id kind lab hd ws ks) b M = collectML ks b M1 := by rw [collectM, p1]; rfl
    rw [hrow, hcm]
    generalize putL L id (.mk id kind lab hd ws ks) = L1 at *
    refine w_body hW Tryz.func102 rfl rfl rfl rfl rfl rfl ?_
    simp (dsimp := false) (implicitDefEqProofs := false) [p1']
    refine w_looped hW (fun T M2 => ∃ i : Nat, i ≤ ks.length ∧ T 1 = .mapr b ∧ T 12 = .list 8 (rowsU ks) .no ∧ T 13 = I ks.length ∧ T 14 = I i ∧ collectML ks b M1 = collectML (ks.drop i) b M2 ∧ ∃ L2, MapAt encId encU M2 b L2)
      (fun T M1 => match T 14 with | .val (.int _ i) => ks.length - i.toNat | _ => 0) (by kernel_rfl) ?_ ?_
    · exact ⟨0, by omega, by simp, by simp, by simp, by simp, by simp, L1, p2⟩
    · rintro T M2 ⟨i, i1, t1, t12, t13, t14, ho, L2, hm2⟩
      by_cases hi : i < ks.length
      · have hi' : (i : Int) < ks.length := by omega
        have w1 : IntKind.i64.wrap ((i : Int) + 1) = (i + 1 : Nat) := by rw [wrap_in (by omega) (by omega)]; omega
        have hmem : ks[i] ∈ ks := List.getElem_mem hi
        rw [List.drop_eq_getElem_cons hi, collectML] at ho
        have hMX : (M2 ++ [AObj.cells 27 ks[i].row])[M2.length]? = some (AObj.cells 27 ks[i].row) := by simp
        have hm3 := hm2.keep (KeepsBut.app none M2 [AObj.cells 27 ks[i].row]) (by simp)
        simp (dsimp := false) (implicitDefEqProofs := false) [t1, t12, t13, t14, hi, hi', allocAV, storeAV, overwrite, agg_st, agg_cs, loadAV_ptr hMX]
        have := UnitD.kid_lt (u := .mk id kind lab hd ws ks) hmem
        refine w_calls (inv_of Tryz.func102 rfl rfl (collect_ok ks[i] L2 b _ (hkg _ hmem) hm3)) ?_
        rintro _ _ ⟨rfl, rfl⟩
        simp (dsimp := false) (implicitDefEqProofs := false) [t1, t12, t13, t14, w1]
        exact ⟨⟨i + 1, by clear w1; omega, rfl, ho, _, (collectM_map ks[i] L2 b _ hm3).1⟩, by clear w1; omega⟩
      · have hi' : ¬ (i : Int) < ks.length := by omega
        rw [show ks.drop i = [] from List.drop_eq_nil_of_le (by omega), collectML] at ho
        rw [ho]
        simp (dsimp := false) (implicitDefEqProofs := false) [t1, t12, t13, t14, hi']
termination_by u => SizeOf.sizeOf u
theorem rIds_ok (u : UnitD) (M : Mem) (hg : u.good) (hc : countN u ≤ 1000) : ACalls (WC gl) 144 [.agg u.row] M (fun v M' => v = B (idsR u) ∧ M' = M) := by
  have key : ACalls (WC gl) 144 [.agg u.row] M (fun v M' => (∃ x, v = .val x ∧ x = .bool (idsR u)) ∧ Grow M M') := by
    refine w_body hB Tryz.func144 rfl rfl rfl rfl rfl rfl ?_
    have hids := rAll_ok gl u M hg hc
    have hlen := idsU_len u
    have h0 : (idsU u)[0]? = some u.id := by obtain ⟨a, b, c, d, e, f⟩ := u; rw [idsU]; rfl
    rw [u.row_eq] at hids ⊢
    obtain ⟨R, hR⟩ : ∃ R, R = idsR u := ⟨_, rfl⟩
    have hR2 : R = ((idsU u).all (fun x => decide (x = idZ)) || ((decide (u.id = idZ) == decide (u.kind = 0)) && distL (idsU u) [])) := hR
    rw [← hR]
    clear hR
    simp (dsimp := false) (implicitDefEqProofs := false)
    refine w_calls (inv_of Tryz.func74 rfl rfl hids) ?_
    rintro v M1 ⟨hv, hg1, hL⟩
    generalize idsU u = l at *
    have hvl : lenAV Tryz.prog 85 v = some l.length := hv.len (e' := 23) (by simp)
    simp (dsimp := false) (implicitDefEqProofs := false)
    refine w_looped hB (fun T M2 => ∃ i : Nat, i ≤ l.length ∧ T 1 = .cptr [I u.id.act, I u.id.item, I u.id.n, I u.kind, S u.label, .list 4 (rowsW u.head) .no, .list 4 (rowsW u.words) .no, .list 8 (rowsU u.kids) .no] ∧ T 3 = v ∧ T 5 = I i ∧ M2 = M1 ∧ ∃ n, T 4 = B n ∧ l.all (fun x => decide (x = idZ)) = (n && (l.drop i).all (fun x => decide (x = idZ))))
      (fun T M1 => match T 5 with | .val (.int _ i) => l.length - i.toNat | _ => 0) (by kernel_rfl) ?_ ?_
    · exact ⟨0, by omega, by simp, by simp, by simp, rfl, true, by simp, by simp⟩
    · rintro T M2 ⟨i, i1, t1, t3, t5, rfl, n, t4, ho⟩
      by_cases hi : i < l.length
      case pos =>
        have hi' : (i : Int) < l.length := by omega
        have w1 := wadd1 (i := i) (by omega)
        obtain ⟨p, p1, _, p2, po⟩ := hv.at_ (P := Tryz.prog) (t := 23) (fun _ => rfl) (by simp) (by simp) hi
        rw [List.drop_eq_getElem_cons hi, List.all_cons] at ho
        have p2' : loadAV Tryz.prog 23 M2 p = some (.agg [I l[i].act, I l[i].item, I l[i].n]) := p2
        cases n
        · simp (dsimp := false) (implicitDefEqProofs := false) [t1, t3, t4, t5, hvl, hi', w1]
          exact ⟨⟨i + 1, by clear w1; omega, rfl, by simpa using ho⟩, by clear w1; omega⟩
        · simp (dsimp := false) (implicitDefEqProofs := false) [t1, t3, t4, t5, hvl, hi', p1, p2', eqIdZ, w1]
          exact ⟨⟨i + 1, by clear w1; omega, rfl, by rw [ho, Bool.true_and]⟩, by clear w1; omega⟩
      case neg =>
      have hi' : ¬ (i : Int) < l.length := by omega
      rw [show l.drop i = [] from List.drop_eq_nil_of_le (by omega), List.all_nil, Bool.and_true] at ho
      rw [ho] at hR2
      cases n
      case true =>
        rw [Bool.true_or] at hR2
        simp (dsimp := false) (implicitDefEqProofs := false) [t1, t3, t4, t5, hvl, hi', hR2, hg1]
      rw [Bool.false_or] at hR2
      have hpos : 0 < l.length := by have := countN_pos u; omega
      have hpos' : (0 : Int) < l.length := by omega
      obtain ⟨p, p1, _, p2, po⟩ := hv.at_ (P := Tryz.prog) (t := 23) (fun _ => rfl) (by simp) (by simp) hpos
      have hl0 : l[0] = u.id := by rw [List.getElem?_eq_getElem hpos] at h0; exact Option.some.inj h0
      rw [hl0] at p2
      have p2' : loadAV Tryz.prog 23 M2 p = some (.agg [I u.id.act, I u.id.item, I u.id.n]) := p2
      obtain ⟨f, hf⟩ : ∃ f, obj v = some f := by
        rcases hv with ⟨rfl, rfl⟩ | ⟨f', g, hist, rfl, _, _⟩
        · simp at hpos
        · exact ⟨f', rfl⟩
      rw [hf] at po
      have p1' : idxAV (some (some 3)) v (I 0) = some p := p1
      simp (dsimp := false) (implicitDefEqProofs := false) [t1, t3, t4, t5, hvl, hi']
      refine w_drawn hB (cfollows gl) (fun k => if k = 2 then 1 else 0) (fun _ => f) (by rfl) (by kernel_rfl) ?_
      have hkk : (u.kind == 0) = decide (u.kind = 0) := rfl
      by_cases c : decide (u.id = idZ) = (u.kind == 0)
      case neg =>
        have c' : (decide (u.id = idZ) == decide (u.kind = 0)) = false := beq_eq_false_iff_ne.2 (by rw [← hkk]; exact c)
        rw [c', Bool.false_and] at hR2
        simp (dsimp := false) (implicitDefEqProofs := false) [t1, t3, t4, t5, p1', p2', po, eqIdZ, c, hR2, hg1]
      have c' : (decide (u.id = idZ) == decide (u.kind = 0)) = true := by rw [beq_iff_eq, ← hkk]; exact c
      rw [c', Bool.true_and] at hR2
      have hcc := eq_true c
      simp (dsimp := false) (implicitDefEqProofs := false) [t1, t3, t4, t5, p1', p2', po, eqIdZ, hcc]
      clear c c' hcc hkk
      refine w_looped hB (fun T M1 => ∃ i : Nat, i ≤ l.length ∧ T 3 = v ∧ T 6 = I i ∧ M1 = M2 ∧ R = distL (l.drop i) (l.take i))
        (fun T M1 => match T 6 with | .val (.int _ i) => l.length - i.toNat | _ => 0) (by kernel_rfl) ?_ ?_
      · exact ⟨0, by omega, by simp [t3], by simp, rfl, by simpa using hR2⟩
      · clear t1 t3 t4 t5 p1 p2 po p1' p2'
        rintro T M3 ⟨i, i1, t3, t6, rfl, ho⟩
        by_cases hi : i < l.length
        case neg =>
          have hi' : ¬ (i : Int) < l.length := by omega
          rw [show l.drop i = [] from List.drop_eq_nil_of_le (by omega), distL] at ho
          simp (dsimp := false) (implicitDefEqProofs := false) [t3, t6, hvl, hi', ho, hg1]
        have hi' : (i : Int) < l.length := by omega
        have w1 := wadd1 (i := i) (by omega)
        have ht2 : l.take i ++ [l[i]] = l.take (i + 1) := by rw [List.take_add_one, List.getElem?_eq_getElem hi, Option.toList_some]
        rw [List.drop_eq_getElem_cons hi, distL, ht2] at ho
        obtain ⟨x, hx⟩ : ∃ x, x = l[i] := ⟨_, rfl⟩
        obtain ⟨p, p1, _, p2, po⟩ := hv.at_ (P := Tryz.prog) (t := 23) (fun _ => rfl) (by simp) (by simp) hi
        rw [← hx] at ho p2
        have p2' : loadAV Tryz.prog 23 M3 p = some (.agg [I x.act, I x.item, I x.n]) := p2
        rw [hf] at po
        simp (dsimp := false) (implicitDefEqProofs := false) [t3, t6, hvl, hi']
        refine w_looped hB (fun T2 M2 => ∃ j : Nat, j ≤ i ∧ T2 3 = v ∧ T2 6 = I i ∧ T2 7 = I j ∧ M2 = M3 ∧ ((l.take i).any fun y => decide (y = x)) = (((l.take i).drop j).any fun y => decide (y = x)))
          (fun T M1 => match T 7 with | .val (.int _ j) => i - j.toNat | _ => 0) (by kernel_rfl) ?_ ?_
        · exact ⟨0, by omega, by simp [t3], by simp [t6], by simp, rfl, by simp⟩
        · rintro T2 M2 ⟨j, j1, u3, u6, u7, rfl, hb⟩
          by_cases hj : j < i
          case neg =>
            have hj' : ¬ (j : Int) < i := by omega
            rw [show (l.take i).drop j = [] from List.drop_eq_nil_of_le (by simp; omega), List.any_nil] at hb
            rw [hb, Bool.not_false, Bool.true_and] at ho
            simp (dsimp := false) (implicitDefEqProofs := false) [u3, u6, u7, hj', w1, t6]
            exact ⟨⟨i + 1, by clear w1; omega, rfl, ho⟩, by clear w1; omega⟩
          have hj' : (j : Int) < i := by omega
          have hj2 : j < l.length := by omega
          have w2 := wadd1 (i := j) (by omega)
          have hd3 : (l.take i).drop j = l[j] :: (l.take i).drop (j + 1) := by
            rw [List.drop_eq_getElem_cons (by simp; omega)]; simp
          rw [hd3, List.any_cons] at hb
          obtain ⟨y, hy⟩ : ∃ y, y = l[j] := ⟨_, rfl⟩
          obtain ⟨q, q1, _, q2, qo⟩ := hv.at_ (P := Tryz.prog) (t := 23) (fun _ => rfl) (by simp) (by simp) hj2
          rw [← hy] at hb q2
          have q2' : loadAV Tryz.prog 23 M2 q = some (.agg [I y.act, I y.item, I y.n]) := q2
          rw [hf] at qo
          simp (dsimp := false) (implicitDefEqProofs := false) [u3, u6, u7, hj']
          refine w_drawn hB (cfollows gl) (fun k => if k = 3 ∨ k = 7 then 1 else 0) (fun _ => f) (by rfl) (by kernel_rfl) ?_
          by_cases c1 : y = x
          · rw [decide_eq_true c1, Bool.true_or] at hb
            rw [hb, Bool.not_true, Bool.false_and] at ho
            subst c1
            simp (dsimp := false) (implicitDefEqProofs := false) [u3, u6, u7, p1, p2', po, q1, q2', qo, eqId, ho, hg1]
          · rw [decide_eq_false c1, Bool.false_or] at hb
            simp (dsimp := false) (implicitDefEqProofs := false) [u3, u6, u7, p1, p2', po, q1, q2', qo, eqId, c1, w2]
            exact ⟨⟨j + 1, by clear w2; omega, rfl, hb⟩, by clear w2; omega⟩
  exact (grow_cut key).mono (by rintro v M' ⟨⟨x, rfl, rfl⟩, rfl⟩; exact ⟨rfl, rfl⟩)
end
end Go.Abs
end
section
/- Contracts: a book (both ways); the two ways agree. -/
set_option maxRecDepth 100000
set_option linter.unusedSimpArgs false
set_option linter.unusedVariables false
namespace Go.Abs
open Go.Proofs TryTypes

def everyB (u : UnitD) : Bool := (everyF aloneP (fun (_ : Unit) _ => ()) u ()).1
def validP (u : UnitD) : Bool := everyB u && decide (depthN u ≤ 8) && decide (countN u ≤ 1024) && idsP u
def mayR (u : UnitD) : Bool := rightU u && decide (depthN u ≤ 8) && decide (countN u ≤ 1024) && idsR u
def bookP (u : UnitD) : Bool := decide (u.kind = 0) && validP u && decide ((addS [] (idsU u)).length = countN u)
def bookR (u : UnitD) : Bool := decide (u.kind = 0) && mayR u && distL (idsU u) []
/-- what the walks ask of a tree -/
def Fit (u : UnitD) : Prop := u.good ∧ u.lims ∧ countN u ≤ 1000
theorem lims_lim (u : UnitD) (h : u.lims) : u.lim ∧ limsL u.kids := by obtain ⟨a, b, c, d, e, f⟩ := u; rw [UnitD.lims] at h; exact h
section
variable (gl : Nat → AV)
theorem valid_ok (hg0 : gl 0 = belowAV) (hg1 : gl 1 = namesAV) (u : UnitD) (M : Mem) (hf : Fit u) : ACalls (WC gl) 109 [.agg u.row] M (fun v M' => v = B (validP u) ∧ M' = M) := by
  obtain ⟨hg, hl, hc⟩ := hf
  have key : ACalls (WC gl) 109 [.agg u.row] M (fun v M' => (∃ x, v = .val x ∧ x = .bool (validP u)) ∧ Grow M M') := by
    refine w_body hB Tryz.func109 rfl rfl rfl rfl rfl rfl ?_
    have hR : validP u = (everyB u && decide (depthN u ≤ 8) && decide (countN u ≤ 1024) && idsP u) := rfl
    simp (dsimp := false) (implicitDefEqProofs := false)
    refine w_calls (inv_of Tryz.func86 rfl rfl (every2_ok gl 156 [] [] aloneP (fun (_ : Unit) _ => ()) (fun M1 _ => Grow M M1) (fun _ u => u.lims) (fun _ ks => limsL ks) ?_ ?_ ?_ ?_ ?_ u () M hg hl (KeepsBut.refl _ _))) ?_
    · intro a u h; exact (lims_lim u h).2
    · intro a k ks h; rw [limsL] at h; exact h.1
    · intro a k ks h _; rw [limsL] at h; exact h.2
    · intro M1 a X h; exact h.trans (KeepsBut.app none _ _)
    · intro u a M1 hgu hlu hgr
      refine (inv_of Tryz.func156 rfl rfl (alone_ok gl M1 hg0 hg1 u hgu (lims_lim u hlu).1)).mono ?_
      rintro _ _ ⟨rfl, h⟩
      exact ⟨rfl, hgr.trans h⟩
    · rintro _ M1 ⟨rfl, hgr⟩
      have hev : (everyF aloneP (fun (_ : Unit) _ => ()) u ()).1 = everyB u := rfl
      rw [hev]
      cases h1 : everyB u
      case false =>
        rw [h1] at hR
        simp only [Bool.false_and] at hR
        simp (dsimp := false) (implicitDefEqProofs := false) [hR, hgr]
      rw [h1, Bool.true_and] at hR
      simp (dsimp := false) (implicitDefEqProofs := false)
      refine w_calls (inv_of Tryz.func157 rfl rfl (depth_ok gl u M1 hg hc)) ?_
      rintro _ _ ⟨⟨_, rfl, rfl⟩, rfl⟩
      by_cases h2 : depthN u ≤ 8
      case neg =>
        have h2' : ¬ (depthN u : Int) ≤ 8 := by omega
        rw [decide_eq_false h2] at hR
        simp only [Bool.false_and] at hR
        simp (dsimp := false) (implicitDefEqProofs := false) [h2', hR, hgr]
      have h2' : (depthN u : Int) ≤ 8 := by omega
      rw [decide_eq_true h2, Bool.true_and] at hR
      simp (dsimp := false) (implicitDefEqProofs := false) [h2']
      refine w_calls (inv_of Tryz.func30 rfl rfl (count_ok gl u _ hg hc)) ?_
      rintro _ _ ⟨rfl, rfl⟩
      have h3 : countN u ≤ 1024 := by omega
      have h3' : (countN u : Int) ≤ 1024 := by omega
      rw [decide_eq_true h3, Bool.true_and] at hR
      simp (dsimp := false) (implicitDefEqProofs := false) [h3']
      refine w_calls (inv_of Tryz.func158 rfl rfl (ids_ok gl u _ hg hc)) ?_
      rintro _ _ ⟨rfl, rfl⟩
      simp (dsimp := false) (implicitDefEqProofs := false) [hR, hgr]
  exact (grow_cut key).mono (by rintro v M' ⟨⟨x, rfl, rfl⟩, rfl⟩; exact ⟨rfl, rfl⟩)
theorem rMay_ok (u : UnitD) (M : Mem) (hf : Fit u) : ACalls (WC gl) 92 [.agg u.row] M (fun v M' => v = B (mayR u) ∧ M' = M) := by
  obtain ⟨hg, hl, hc⟩ := hf
  refine w_body hB Tryz.func92 rfl rfl rfl rfl rfl rfl ?_
  have hR : mayR u = (rightU u && decide (depthN u ≤ 8) && decide (countN u ≤ 1024) && idsR u) := rfl
  simp (dsimp := false) (implicitDefEqProofs := false)
  refine w_calls (inv_of Tryz.func142 rfl rfl (rRight_ok gl u M hg hl)) ?_
  rintro _ _ ⟨rfl, rfl⟩
  cases h1 : rightU u
  case false =>
    rw [h1] at hR
    simp only [Bool.false_and] at hR
    simp (dsimp := false) (implicitDefEqProofs := false) [hR]
  rw [h1, Bool.true_and] at hR
  simp (dsimp := false) (implicitDefEqProofs := false)
  refine w_calls (inv_of Tryz.func143 rfl rfl (rDepth_ok gl u _ hg hc)) ?_
  rintro _ _ ⟨rfl, rfl⟩
  by_cases h2 : depthN u ≤ 8
  case neg =>
    have h2' : ¬ (depthN u : Int) ≤ 8 := by omega
    rw [decide_eq_false h2] at hR
    simp only [Bool.false_and] at hR
    simp (dsimp := false) (implicitDefEqProofs := false) [h2', hR]
  have h2' : (depthN u : Int) ≤ 8 := by omega
  rw [decide_eq_true h2, Bool.true_and] at hR
  simp (dsimp := false) (implicitDefEqProofs := false) [h2']
  refine w_calls (inv_of Tryz.func49 rfl rfl (rCount_ok gl u _ hg hc)) ?_
  rintro _ _ ⟨rfl, rfl⟩
  have h3 : countN u ≤ 1024 := by omega
  have h3' : (countN u : Int) ≤ 1024 := by omega
  rw [decide_eq_true h3, Bool.true_and] at hR
  simp (dsimp := false) (implicitDefEqProofs := false) [h3']
  refine w_calls (inv_of Tryz.func144 rfl rfl (rIds_ok gl u _ hg hc)) ?_
  rintro _ _ ⟨rfl, rfl⟩
  simp (dsimp := false) (implicitDefEqProofs := false) [hR]
theorem isBook_ok (hg0 : gl 0 = belowAV) (hg1 : gl 1 = namesAV) (u : UnitD) (M : Mem) (hf : Fit u) : ACalls (WC gl) 50 [.agg u.row] M (fun v M' => v = B (bookP u) ∧ M' = M) := by
  have key : ACalls (WC gl) 50 [.agg u.row] M (fun v M' => (∃ x, v = .val x ∧ x = .bool (bookP u)) ∧ Grow M M') := by
    have hval := fun M => valid_ok gl hg0 hg1 u M hf
    obtain ⟨hg, hl, hc⟩ := hf
    have hcol := collect_ok gl u [] M.length (M ++ [.map [] 0]) hg (MapAt.new M)
    have hcnt := fun M => count_ok gl u M hg hc
    obtain ⟨q1, q2⟩ := collectM_map u [] M.length (M ++ [.map [] 0]) (MapAt.new M)
    have hlen : (putAll [] (preU u)).length = (addS [] (idsU u)).length := by
      have := putAll_keys (preU u) []
      rw [preU_ids] at this
      rw [← List.length_map (f := fun p : IdD × UnitD => p.1), this]; rfl
    have hlm : lenMore Tryz.prog 92 (collectM u M.length (M ++ [.map [] 0])) (.mapr M.length) = some (addS [] (idsU u)).length := by rw [q1.len (kt := 23) (et := 27) (by simp), hlen]
    have hgr : Grow M (collectM u M.length (M ++ [.map [] 0])) := by
      refine ⟨by have := q2.1; simp at this; omega, fun j hj _ => ?_⟩
      rw [q2.2 j (by simp; omega) (by simp; omega), List.getElem?_append_left hj]
    rw [u.row_eq] at hval hcol hcnt ⊢
    have hR : bookP u = (decide (u.kind = 0) && validP u && decide ((addS [] (idsU u)).length = countN u)) := rfl
    refine w_body hB Tryz.func50 rfl rfl rfl rfl rfl rfl ?_
    simp (dsimp := false) (implicitDefEqProofs := false)
    refine w_drawn hB (cfollows gl) (fun k => if k = 9 ∨ k = 10 ∨ k = 11 then 2 else 0) (fun _ => 0) (by rfl) (by kernel_rfl) ?_
    by_cases k0 : u.kind = 0
    case neg =>
      rw [decide_eq_false k0] at hR
      simp only [Bool.false_and] at hR
      simp (dsimp := false) (implicitDefEqProofs := false) [k0, hR, KeepsBut.refl]
    rw [decide_eq_true k0, Bool.true_and] at hR
    simp (dsimp := false) (implicitDefEqProofs := false) [eq_true k0]
    refine w_call0 (fun M => inv_of Tryz.func109 rfl rfl (hval M)) ?_
    cases h1 : validP u
    case false =>
      rw [h1, Bool.false_and] at hR
      simp (dsimp := false) (implicitDefEqProofs := false) [eq_true k0, hR, KeepsBut.refl]
    rw [h1, Bool.true_and] at hR
    simp (dsimp := false) (implicitDefEqProofs := false) [eq_true k0]
    refine w_call2 (inv_of Tryz.func102 rfl rfl hcol) ?_
    simp (dsimp := false) (implicitDefEqProofs := false) [lenAV_map, hlm, eq_true k0]
    refine w_call0 (fun M => inv_of Tryz.func30 rfl rfl (hcnt M)) ?_
    by_cases h2 : (addS [] (idsU u)).length = countN u
    · have h2' : ((addS [] (idsU u)).length : Int) = (countN u : Int) := by omega
      rw [decide_eq_true h2] at hR
      simp (dsimp := false) (implicitDefEqProofs := false) [eq_true k0, eq_true h2', eq_true h2, hR, hgr]
    · have h2' : ¬ ((addS [] (idsU u)).length : Int) = (countN u : Int) := by omega
      rw [decide_eq_false h2] at hR
      simp (dsimp := false) (implicitDefEqProofs := false) [eq_true k0, h2', h2, hR, hgr]
  exact (grow_cut key).mono (by rintro v M' ⟨⟨x, rfl, rfl⟩, rfl⟩; exact ⟨rfl, rfl⟩)
theorem rBook_ok (u : UnitD) (M : Mem) (hf : Fit u) : ACalls (WC gl) 35 [.agg u.row] M (fun v M' => v = B (bookR u) ∧ M' = M) := by
  have key : ACalls (WC gl) 35 [.agg u.row] M (fun v M' => (∃ x, v = .val x ∧ x = .bool (bookR u)) ∧ Grow M M') := by
    have hmay := rMay_ok gl u M hf
    obtain ⟨hg, hl, hc⟩ := hf
    have hall := rAll_ok gl u M hg hc
    have hlen := idsU_len u
    rw [u.row_eq] at hmay hall ⊢
    have hR : bookR u = (decide (u.kind = 0) && mayR u && distL (idsU u) []) := rfl
    refine w_body hB Tryz.func35 rfl rfl rfl rfl rfl rfl ?_
    by_cases k0 : u.kind = 0
    case neg =>
      rw [decide_eq_false k0] at hR
      simp only [Bool.false_and] at hR
      simp (dsimp := false) (implicitDefEqProofs := false) [k0, hR, KeepsBut.refl]
    rw [decide_eq_true k0, Bool.true_and] at hR
    simp (dsimp := false) (implicitDefEqProofs := false) [eq_true k0]
    refine w_calls (inv_of Tryz.func92 rfl rfl hmay) ?_
    rintro _ M ⟨rfl, rfl⟩
    cases h1 : mayR u
    case false =>
      rw [h1, Bool.false_and] at hR
      simp (dsimp := false) (implicitDefEqProofs := false) [eq_true k0, hR, KeepsBut.refl]
    rw [h1, Bool.true_and] at hR
    simp (dsimp := false) (implicitDefEqProofs := false) [eq_true k0]
    refine w_calls (inv_of Tryz.func74 rfl rfl hall) ?_
    rintro v M1 ⟨hv, hgr, _⟩
    simp (dsimp := false) (implicitDefEqProofs := false) [eq_true k0]
    refine w_calls (inv_of Tryz.func93 rfl rfl (once_ok gl (idsU u) (by omega) v M1 hv)) ?_
    rintro _ M1 ⟨rfl, rfl⟩
    simp (dsimp := false) (implicitDefEqProofs := false) [eq_true k0, hR, hgr]
  exact (grow_cut key).mono (by rintro v M' ⟨⟨x, rfl, rfl⟩, rfl⟩; exact ⟨rfl, rfl⟩)
end
/-! ### the two ways agree -/
theorem everyB_mk (id : IdD) (k : Int) (l : ByteArray) (h w : List WordD) (ks : List UnitD) : everyB (.mk id k l h w ks) = (aloneP (.mk id k l h w ks) && ks.all everyB) := by
  have hl : ∀ ks : List UnitD, (everyFL aloneP (fun (_ : Unit) _ => ()) ks ()).1 = ks.all everyB := by
    intro ks
    induction ks with
    | nil => rw [everyFL]; rfl
    | cons k ks ih =>
      rw [everyFL, List.all_cons]
      have : (everyF aloneP (fun (_ : Unit) _ => ()) k ()).1 = everyB k := rfl
      rw [this]
      cases everyB k
      · rfl
      · rw [if_pos rfl, Bool.true_and]; exact ih
  rw [everyB, everyF]
  cases aloneP (.mk id k l h w ks)
  · rfl
  · rw [if_pos rfl, Bool.true_and]; exact hl ks
theorem rowOk_nil : rowOk [] = true := rfl
theorem alone_split (u : UnitD) : (ownP u && decide (u.kids.length ≤ 64)) = aloneR u := by
  unfold ownP aloneR
  by_cases k0 : u.kind = 0
  · rw [if_pos k0, if_pos k0, Bool.eq_iff_iff]
    simp only [Bool.and_eq_true, decide_eq_true_eq]
    constructor
    · rintro ⟨⟨h1, h2⟩, h3⟩
      have hh : u.head = [] := List.eq_nil_of_length_eq_zero (by omega)
      have hw : u.words = [] := List.eq_nil_of_length_eq_zero (by omega)
      rw [hh, hw]
      exact ⟨⟨⟨⟨by omega, h3⟩, rfl⟩, rfl⟩, ⟨h1, rfl⟩, rfl⟩
    · rintro ⟨⟨⟨⟨_, h3⟩, _⟩, _⟩, ⟨h1, h4⟩, h5⟩
      exact ⟨⟨h1, by omega⟩, h3⟩
  · rw [if_neg k0, if_neg k0, Bool.eq_iff_iff]
    simp only [Bool.and_eq_true, decide_eq_true_eq]
    constructor
    · rintro ⟨⟨⟨⟨h1, h2⟩, h3⟩, h4⟩, h5⟩; exact ⟨⟨⟨⟨by omega, h5⟩, h3⟩, h4⟩, h2⟩
    · rintro ⟨⟨⟨⟨h1, h5⟩, h3⟩, h4⟩, h2⟩; exact ⟨⟨⟨⟨by omega, h2⟩, h3⟩, h4⟩, h5⟩
theorem kids_split (kind : Int) : ∀ (ks before : List UnitD), (∀ k ∈ ks, everyB k = rightU k) → (kidsP kind ks (before.map fun u => (u.kind, u.label)) && ks.all everyB) = rightL kind ks before
  | [], _, _ => by rw [kidsP, rightL]; rfl
  | k :: ks, before, h => by
    have ih := kids_split kind ks (before ++ [k]) fun x hx => h x (by simp [hx])
    rw [List.map_append] at ih
    have ih : (kidsP kind ks (before.map (fun u => (u.kind, u.label)) ++ [(k.kind, k.label)]) && ks.all everyB) = rightL kind ks (before ++ [k]) := ih
    rw [kidsP, rightL, ← ih, List.all_cons, h k (by simp)]
    have ha : ((before.map fun u => (u.kind, u.label)).any fun y => decide (y = (k.kind, k.label))) = before.any fun a => sameKL a k := by
      rw [List.any_map]
      congr 1
      funext a
      simp only [Function.comp, sameKL, Prod.mk.injEq, Bool.decide_and]
    rw [ha]
    cases nestsB kind k.kind <;> cases rightU k <;> cases (before.any fun a => sameKL a k) <;> simp
theorem every_right : ∀ u : UnitD, everyB u = rightU u
  | .mk id k l h w ks => by
    have ih : ∀ x ∈ ks, everyB x = rightU x := fun x hx => by
      have := UnitD.kid_lt (u := .mk id k l h w ks) hx
      exact every_right x
    have h1 := kids_split k ks [] ih
    have h2 := alone_split (.mk id k l h w ks)
    rw [everyB_mk, rightU, ← h1, ← h2]
    show (ownP (.mk id k l h w ks) && kidsP k ks [] && decide (ks.length ≤ 64) && ks.all everyB) = (ownP (.mk id k l h w ks) && decide (ks.length ≤ 64) && (kidsP k ks [] && ks.all everyB))
    cases ownP (.mk id k l h w ks) <;> cases kidsP k ks [] <;> cases decide (ks.length ≤ 64) <;> simp
termination_by u => SizeOf.sizeOf u
theorem book_same (u : UnitD) : bookP u = bookR u := by
  have h := addS_full (idsU u) ([] : List IdD)
  simp only [List.length_nil, Nat.zero_add] at h
  have h2 : decide ((addS [] (idsU u)).length = countN u) = distL (idsU u) [] := by
    rw [Bool.eq_iff_iff, decide_eq_true_eq, ← h, idsU_len]
  simp only [bookP, bookR, validP, mayR, every_right, ids_same, h2]
end Go.Abs
end
