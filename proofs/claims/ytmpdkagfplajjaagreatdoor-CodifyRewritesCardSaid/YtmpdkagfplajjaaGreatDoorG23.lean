/- The texts CyO, CyP, CyV: what each proves stands at its head. -/
import Derived.Test.YtmpdkagfplajjaaGreatDoorG22
section
/- Contract of the reference's Rewrite. -/
set_option maxRecDepth 100000
set_option linter.unusedSimpArgs false
set_option linter.unusedVariables false
namespace Go.Abs
open Go.Proofs TryTypes

def hY : Hint := ⟨fun _ => true, fun _ => false, fun d => d == 19 || d == 95 || d == 102 || d == 105 || d == 158⟩
@[simp] theorem hY_imm : hY.imm = fun _ => true := rfl
@[simp] theorem hY_own : hY.own = fun _ => false := rfl
@[simp] theorem hY_vec : hY.vec = fun d => d == 19 || d == 95 || d == 102 || d == 105 || d == 158 := rfl
theorem Own1.spot2 {e : TypeId} {M : Mem} {v : AV} {cs : List AV} (h : Own1 e M v cs) {t : TypeId} (ht : aggOf Tryz.prog t = some false) (hs : szOf Tryz.prog t = some 1) {i : Nat} (hi : i < cs.length) :
    ∃ p f, idxAV (some (some 1)) v (I i) = some p ∧ obj v = some f ∧ obOf p = some f ∧ loadAV Tryz.prog t M p = some cs[i] ∧ ∀ x : AV, x.storable = true → x.cells = [x] → ∃ M', storeAV (some 1) M p x = some M' ∧ Own1 e M' v (cs.set i x) ∧ KeepsBut (obj v) M M' := by
  obtain ⟨p, h1, h2, h3⟩ := h.spot ht hs hi
  rcases h with ⟨rfl, hn⟩ | ⟨f, g, hist, rfl, hf, hl⟩
  · subst hn; simp at hi
  · refine ⟨p, f, h1, rfl, ?_, h2, h3⟩
    simp [hi] at h1
    rw [← h1]; rfl

section
variable (gl : Nat → AV) (M : Mem)
set_option maxHeartbeats 4000000 in
theorem refRewrite_ok (l : List ByteArray) (old : List CiteD) (names : List (List Step)) (o1 o2 o3 : Own) (hl : l.length ≤ 100) (hls : ∀ s ∈ l, s.size ≤ maxLen) (ho : old.length ≤ 20) (hn : ∀ p ∈ names, smallP p) :
    ACalls (WC gl) 19 [.list 1 (rowsS l) o1, .list 5 (rowsC old) o2, .list 1 (rowsN names) o3] M (fun v M' => StrsV M' v (rewriteL l old names) ∧ Grow M M') := by
  refine w_body hY Tryz.func19 rfl rfl rfl rfl rfl rfl ?_
  by_cases hlen : old.length = names.length
  case neg =>
    have hlen' : ¬ (old.length : Int) = names.length := by omega
    simp (dsimp := false) (implicitDefEqProofs := false) [hlen', rewriteL, hlen, Grow.refl]
    exact .inl ⟨o1, rfl⟩
  have hlen' : (old.length : Int) = names.length := by omega
  have hrw : rewriteL l old names = runR l old names old.length 0 [] 0 := by rw [rewriteL, if_pos hlen]
  rw [hrw]
  simp (dsimp := false) (implicitDefEqProofs := false) [hlen', hlen]
  refine w_looped hY (fun T M1 => ∃ (i : Nat) (out : List ByteArray) (e : Int), i ≤ old.length ∧ FreshS M out (T 7) M1 ∧ T 0 = .list 1 (rowsS l) o1 ∧ T 1 = .list 5 (rowsC old) o2 ∧ T 2 = .list 1 (rowsN names) o3 ∧
      T 8 = I e ∧ 0 ≤ e ∧ e ≤ l.length ∧ T 9 = I i ∧ out.length ≤ i * 200 ∧ runR l old names old.length 0 [] 0 = runR l old names (old.length - i) i out e)
    (fun T M1 => match T 9 with | .val (.int _ i) => old.length - i.toNat | _ => 0) (by kernel_rfl) ?_ ?_
  · refine ⟨0, [], 0, ?_⟩
    simp (dsimp := false) (implicitDefEqProofs := false) [hlen]
    exact ⟨own_empty M, .app _ _ _, fun f hf => by simp at hf; omega⟩
  · rintro T M1 ⟨i, out, e, h1, h2, h3, h4, h5, h6, h7, h8, h11, h12, h13⟩
    generalize hT7 : T 7 = ov at h2
    by_cases hi : i < old.length
    · have hi' : (i : Int) < old.length := by omega
      have hin : i < names.length := by omega
      have hin' : (i : Int) < names.length := by omega
      have hw : IntKind.i64.wrap ((i : Int) + 1) = (i + 1 : Nat) := by rw [wrap_in (by omega) (by omega)]; omega
      have hp := hn names[i] (List.getElem_mem hin)
      have hstep : runR l old names (old.length - i) i out e = match stepR l old names i out e with | none => l | some r => runR l old names (old.length - (i + 1)) (i + 1) r.1 r.2 := by
        rw [show old.length - i = (old.length - (i + 1)) + 1 by omega]; rfl
      have hoi : old[i]? = some old[i] := List.getElem?_eq_getElem hi
      have hni : names[i]? = some names[i] := List.getElem?_eq_getElem hin
      simp (dsimp := false) (implicitDefEqProofs := false) [h3, h4, h5, h6, h11, hi, hi', hin, hin']
      refine w_calls (inv_of Tryz.func65 rfl rfl (refWrite_ok gl _ names[i] .no hp)) ?_
      intro w M2 hf2
      have hM2 : (M2 ++ [AObj.cells 110 old[i].row])[M2.length]? = some (AObj.cells 110 old[i].row) := by simp
      have hgM : Grow M M2 := h2.2.1.trans hf2.2.1
      have hag : againAt old i = (decide (0 < i) && (match old[i - 1]?, old[i]? with | some a, some b => sameC a b | _, _ => false)) := rfl
      simp (dsimp := false) (implicitDefEqProofs := false) [h3, h4, h5, h6, h11, hi, hi', allocAV, storeAV, overwrite, CiteD.row]
      refine w_cutR (fun T M => M = M2 ++ [AObj.cells 110 old[i].row] ∧ T 0 = .list 1 (rowsS l) o1 ∧ T 1 = .list 5 (rowsC old) o2 ∧ T 2 = .list 1 (rowsN names) o3 ∧ T 7 = ov ∧ T 8 = I e ∧ T 9 = I i ∧ T 11 = .ptr M2.length 0 ∧ T 10 = w ∧ T 12 = B (againAt old i)) ?_ ?_
      · refine w_drawn hY (cfollows gl) (fun k => if k = 10 ∨ k = 21 then 1 else 0) (fun _ => M2.length) (by rfl) (by kernel_rfl) ?_
        by_cases i0 : i = 0
        · subst i0
          simp (dsimp := false) (implicitDefEqProofs := false) [h3, h4, h5, h6, h11, hT7, againAt, CiteD.row]
        · have hip : (0 : Int) < i := by omega
          have hip2 : 0 < i := by omega
          have hwm : IntKind.i64.wrap ((i : Int) - 1) = (i - 1 : Nat) := by rw [wrap_in (by omega) (by omega)]; omega
          have hil : i - 1 < old.length := by omega
          have hil' : ((i - 1 : Nat) : Int) < old.length := by omega
          have hao : againAt old i = sameC old[i - 1] old[i] := by
            rw [hag, hoi, List.getElem?_eq_getElem hil]; simp [hip2]
          rw [hao]
          simp only [CiteD.row] at hM2
          by_cases c1 : old[i - 1].frm = old[i].frm
          · by_cases c2 : old[i - 1].at_ = old[i].at_
            · have hs : sameC old[i - 1] old[i] = true := by simp [sameC, c1, c2]
              simp (dsimp := false) (implicitDefEqProofs := false) [h3, h4, h5, h6, h11, hT7, hip, hip2, hwm, hil, hil', loadAV_ptr hM2, CiteD.row, c1, c2, hs]
            · have hs : sameC old[i - 1] old[i] = false := by simp [sameC, c1, c2]
              simp (dsimp := false) (implicitDefEqProofs := false) [h3, h4, h5, h6, h11, hT7, hip, hip2, hwm, hil, hil', loadAV_ptr hM2, CiteD.row, c1, c2, hs]
          · have hs : sameC old[i - 1] old[i] = false := by simp [sameC, c1]
            simp (dsimp := false) (implicitDefEqProofs := false) [h3, h4, h5, h6, h11, hT7, hip, hip2, hwm, hil, hil', loadAV_ptr hM2, CiteD.row, c1, hs]
      · rintro T2 M2' ⟨hM2e, k1, k2, k3, k4, k5, k6, k7, k8, k9⟩
        rw [← hM2e] at hM2
        have hw2 : Own1 9 M2' w ((addrW names[i]).map S) := by rw [hM2e]; exact hf2.1.keep (.app none _ _) (by simp)
        have hwl : lenAV Tryz.prog 37 w = some (addrW names[i]).length := by rw [hf2.1.len (e := 9) (by simp)]; simp
        have hgM' : Grow M M2' := by rw [hM2e]; exact hgM.trans (.app none _ _)
        by_cases hbad : addrW names[i] = [] ∨ old[i].frm < 0 ∨ old[i].at_ ≤ old[i].frm ∨ old[i].at_ > l.length ∨ (againAt old i = false ∧ old[i].frm < e)
        · have hs0 : stepR l old names i out e = none := by simp only [stepR, hoi, hni]; rw [if_pos hbad]
          have hres : runR l old names old.length 0 [] 0 = l := by rw [h13, hstep, hs0]
          rw [hres]
          have fin : StrsV M2' (.list 1 (rowsS l) o1) l ∧ Grow M M2' := ⟨.inl ⟨o1, rfl⟩, hgM'⟩
          by_cases b1 : addrW names[i] = []
          · simp (dsimp := false) (implicitDefEqProofs := false) [hwl, b1, k1, k2, k3, k4, k5, k6, k7, k8, k9]
            exact fin
          have b1' : ¬ (addrW names[i]).length = 0 := fun e => b1 (List.eq_nil_of_length_eq_zero e)
          by_cases b2 : old[i].frm < 0
          · simp (dsimp := false) (implicitDefEqProofs := false) [hwl, b1, b2, k1, k2, k3, k4, k5, k6, k7, k8, k9, loadAV_ptr hM2, CiteD.row]
            exact fin
          by_cases b3 : old[i].at_ ≤ old[i].frm
          · simp (dsimp := false) (implicitDefEqProofs := false) [hwl, b1, b2, b3, k1, k2, k3, k4, k5, k6, k7, k8, k9, loadAV_ptr hM2, CiteD.row]
            exact fin
          by_cases b4 : old[i].at_ > l.length
          · have b4' : (l.length : Int) < old[i].at_ := b4
            simp (dsimp := false) (implicitDefEqProofs := false) [hwl, b1, b2, b3, b4, b4', k1, k2, k3, k4, k5, k6, k7, k8, k9, loadAV_ptr hM2, CiteD.row]
            exact fin
          have b5 : againAt old i = false ∧ old[i].frm < e := by
            rcases hbad with h | h | h | h | h
            · exact absurd h b1
            · exact absurd h b2
            · exact absurd h b3
            · exact absurd h b4
            · exact h
          have b4' : ¬ (l.length : Int) < old[i].at_ := b4
          simp (dsimp := false) (implicitDefEqProofs := false) [hwl, b1, b2, b3, b4, b4', b5.1, b5.2, k1, k2, k3, k4, k5, k6, k7, k8, k9, loadAV_ptr hM2, CiteD.row]
          exact fin
        · have hbad0 := hbad
          simp only [not_or, not_and] at hbad
          obtain ⟨b1, b2, b3, b4, b5⟩ := hbad
          have b1' : ¬ (addrW names[i]).length = 0 := fun e => b1 (List.eq_nil_of_length_eq_zero e)
          have b4' : ¬ (l.length : Int) < old[i].at_ := b4
          have g2 : 0 ≤ old[i].frm := by omega
          have g3 : old[i].frm ≤ l.length := by omega
          obtain ⟨mid, hmid⟩ : ∃ mid, mid = if againAt old i = true then [andW] else (l.take old[i].frm.toNat).drop e.toNat := ⟨_, rfl⟩
          have hst : stepR l old names i out e = some (if endsAt old i = true then addLast (out ++ mid ++ addrW names[i]) (markOf (l.getD (old[i].at_.toNat - 1) .empty)) else out ++ mid ++ addrW names[i], old[i].at_) := by
            have hm : (if againAt old i = true then out ++ [andW] else out ++ (l.take old[i].frm.toNat).drop e.toNat) = out ++ mid := by rw [hmid]; split <;> rfl
            simp only [stepR, hoi, hni]
            rw [if_neg hbad0, hm]
          rw [hst] at hstep
          simp only at hstep
          have g1 : 1 ≤ old[i].at_ := by omega
          have g4 : 0 ≤ old[i].at_ := by omega
          have g7 : old[i].at_ ≤ l.length := by omega
          have hmlen : mid.length ≤ 100 := by
            rw [hmid]; split
            · simp
            · simp; omega
          have hM12 : M1.length ≤ M2.length := hf2.2.1.1
          have hM22 : M2'.length = M2.length + 1 := by rw [hM2e]; simp
          have ho2 : Own1 9 M2' ov (out.map S) := by rw [hM2e]; exact h2.1.keep (hf2.2.1.trans (.app none _ _)) (by simp)
          have hovb : obj ov ≠ some M2.length := fun e => by have := h2.1.lt e; omega
          have how : ∀ f, obj w = some f → obj ov ≠ some f := fun f e1 e2 => by have := hf2.2.2 _ e1; have := h2.1.lt e2; omega
          have hwlt : ∀ f, obj w = some f → f < M2'.length := fun f e1 => hw2.lt e1
          have mk : ∀ v3 M3, Own1 9 M3 v3 (out.map S ++ mid.map S) → KeepsBut (obj ov) M2' M3 → (obj v3 = obj ov ∨ Later M2'.length v3) →
              FreshS M (out ++ mid) v3 M3 ∧ Own1 9 M3 w ((addrW names[i]).map S) ∧ M3[M2.length]? = some (AObj.cells 110 old[i].row) ∧ obj v3 ≠ some M2.length ∧ (∀ f, obj w = some f → obj v3 ≠ some f) := by
            intro v3 M3 q1 q2 q3
            refine ⟨?_, hw2.keep q2 how, q2.get hM2 hovb, ?_, ?_⟩
            · refine ⟨by simpa using q1, ⟨by have := hgM'.1; have := q2.1; omega, fun j hj _ => ?_⟩, fun f hf => ?_⟩
              · rw [q2.2 j (by have := hgM'.1; omega) fun e => by have := h2.2.2 _ e; omega]; exact hgM'.2 j hj (by simp)
              · rcases q3 with e | e
                · exact h2.2.2 f (by rw [← e]; exact hf)
                · have := e f hf; have := hgM'.1; omega
            · intro e1
              rcases q3 with e | e
              · exact hovb (by rw [← e]; exact e1)
              · have := e _ e1; omega
            · intro f e1 e2
              rcases q3 with e | e
              · exact how f e1 (by rw [← e]; exact e2)
              · have := e _ e2; have := hwlt f e1; omega
          have hal := addrW_len names[i]
          have hol : (out ++ mid ++ addrW names[i]).length ≤ (i + 1) * 200 := by simp; omega
          cases hA : againAt old i
          case' false =>
            have g5 : e ≤ old[i].frm := by have := b5 hA; omega
            have g6 : ¬ old[i].frm < e := by omega
            have hm : mid = (l.take old[i].frm.toNat).drop e.toNat := by rw [hmid, hA]; rfl
            rw [hA] at k9
            simp (dsimp := false) (implicitDefEqProofs := false) [hwl, b1, b1', b2, b3, b4, b4', g6, k1, k2, k3, k4, k5, k6, k7, k8, k9, loadAV_ptr hM2, CiteD.row, h7, g5, g3]
            have hsl : List.drop e.toNat (List.take old[i].frm.toNat (rowsS l)) = rowsS mid := by rw [rowsS_take, rowsS_drop, hm]
            rw [hsl]
            refine push (C := WC gl) (e := 9) elem37 src37 eok9 ho2 (news := mid.map S) (m := mid.length) (srcS _ _ _) (by simp) (by simp; omega) rfl ?_
            intro v3 M3 q1 q2 q3 _
            obtain ⟨hf3, hw3, hX3, hb3, hwv3⟩ := mk v3 M3 q1 q2 q3
            have hws : srcCells M3 1 w = some ((addrW names[i]).map S, (addrW names[i]).length) := by rw [hw3.src]; simp
            simp (dsimp := false) (implicitDefEqProofs := false) [k1, k2, k3, k4, k5, k6, k7, k8, k9]
          case' true =>
            have hm : mid = [andW] := by rw [hmid, hA]; rfl
            rw [hA] at k9
            simp (dsimp := false) (implicitDefEqProofs := false) [hwl, b1, b1', b2, b3, b4, b4', k1, k2, k3, k4, k5, k6, k7, k8, k9, loadAV_ptr hM2, CiteD.row, buildSliceAV, rowsGo]
            refine push (C := WC gl) (e := 9) elem37 src37 eok9 ho2 (news := [andW].map S) (m := 1) rfl rfl (by simp; omega) rfl ?_
            rw [← hm]
            intro v3 M3 q1 q2 q3 _
            obtain ⟨hf3, hw3, hX3, hb3, hwv3⟩ := mk v3 M3 q1 q2 q3
            have hws : srcCells M3 1 w = some ((addrW names[i]).map S, (addrW names[i]).length) := by rw [hw3.src]; simp
            simp (dsimp := false) (implicitDefEqProofs := false) [k1, k2, k3, k4, k5, k6, k7, k8, k9]
          all_goals
            refine push (C := WC gl) (e := 9) elem37 src37 eok9 hf3.1 (news := (addrW names[i]).map S) (m := (addrW names[i]).length) hws (by simp) (by simp; omega) rfl ?_
            intro v4 M4 r1 r2 r3 _
            have hf4 := fresh_push (X := []) hf3 r1 (by simpa using r2) (by simpa using r3)
            have hX4 := r2.get hX3 hb3
            simp (dsimp := false) (implicitDefEqProofs := false) [loadAV_ptr hX4, CiteD.row, k1, k2, k3, k4, k5, k6, k7, k8, k9]
            refine w_cutR (fun T M => M = M4 ∧ T 0 = .list 1 (rowsS l) o1 ∧ T 1 = .list 5 (rowsC old) o2 ∧ T 2 = .list 1 (rowsN names) o3 ∧ T 7 = v4 ∧ T 8 = I old[i].at_ ∧ T 9 = I i ∧ T 11 = .ptr M2.length 0 ∧ T 134 = B (endsAt old i)) ?_ ?_
            · refine w_drawn hY (cfollows gl) (fun k => if k = 13 ∨ k = 24 then 1 else 0) (fun _ => M2.length) (by rfl) (by kernel_rfl) ?_
              simp only [CiteD.row] at hX4
              by_cases il : i + 1 = old.length
              · have il' : ((i + 1 : Nat) : Int) = old.length := by omega
                have hen : endsAt old i = true := by simp [endsAt, il]
                simp (dsimp := false) (implicitDefEqProofs := false) [k1, k2, k3, k4, k5, k6, k7, k8, k9, hw, il', hen]
              · have il' : ¬ ((i + 1 : Nat) : Int) = old.length := by omega
                have il2 : i + 1 < old.length := by omega
                have il3 : ((i + 1 : Nat) : Int) < old.length := by omega
                have il4 : (0 : Int) ≤ ((i + 1 : Nat) : Int) := by omega
                have il5 : ((i + 1 : Nat) : Int).toNat = i + 1 := by omega
                have hen : endsAt old i = !sameC old[i + 1] old[i] := by simp [endsAt, il, hoi, List.getElem?_eq_getElem il2]
                rw [hen]
                generalize hj : ((i + 1 : Nat) : Int) = j at *
                by_cases c1 : old[i + 1].frm = old[i].frm
                · by_cases c2 : old[i + 1].at_ = old[i].at_
                  · have hs : sameC old[i + 1] old[i] = true := by simp [sameC, c1, c2]
                    simp (dsimp := false) (implicitDefEqProofs := false) [k1, k2, k3, k4, k5, k6, k7, k8, k9, hw, il', il2, il3, il4, il5, loadAV_ptr hX4, CiteD.row, c1, c2, hs]
                  · have hs : sameC old[i + 1] old[i] = false := by simp [sameC, c1, c2]
                    simp (dsimp := false) (implicitDefEqProofs := false) [k1, k2, k3, k4, k5, k6, k7, k8, k9, hw, il', il2, il3, il4, il5, loadAV_ptr hX4, CiteD.row, c1, c2, hs]
                · have hs : sameC old[i + 1] old[i] = false := by simp [sameC, c1]
                  simp (dsimp := false) (implicitDefEqProofs := false) [k1, k2, k3, k4, k5, k6, k7, k8, k9, hw, il', il2, il3, il4, il5, loadAV_ptr hX4, CiteD.row, c1, hs]
            · rintro T3 M4' ⟨rfl, j1, j2, j3, j4, j5, j6, j7, j8⟩
              have hrun := h13.trans hstep
              cases hE : endsAt old i
              · rw [hE] at j8 hrun
                simp (dsimp := false) (implicitDefEqProofs := false) [j1, j2, j3, j4, j5, j6, j7, j8, hw, h11]
                exact ⟨⟨i + 1, by clear hw; omega, _, hf4, g4, g7, by simp, hol, by simpa using hrun⟩, by clear hw; omega⟩
              · rw [hE] at j8 hrun
                simp only [if_true] at hrun
                have hsmall : ((out ++ mid ++ addrW names[i]).getD ((out ++ mid ++ addrW names[i]).length - 1) .empty).size ≤ 16 := addrW_small _ (last_mem b1)
                have hne : 0 < (out ++ mid ++ addrW names[i]).length := by simp; omega
                generalize out ++ mid ++ addrW names[i] = out2 at *
                have hlv4 : lenAV Tryz.prog 37 v4 = some out2.length := by rw [hf4.1.len (e := 9) (by simp)]; simp
                have hol2 : out2.length ≤ 10000 := by omega
                have hwl2 : IntKind.i64.wrap ((out2.length : Int) - 1) = (out2.length - 1 : Nat) := by rw [wrap_in (by omega) (by omega)]; omega
                have hlt1 : out2.length - 1 < out2.length := by omega
                obtain ⟨sp, sf, s1, s4, s5, s2, s3⟩ := hf4.1.spot2 (t := 9) agg9 sz9 (i := out2.length - 1) (by simp; omega)
                have hlast : out2.getD (out2.length - 1) .empty = out2[out2.length - 1] := by simp [hlt1]
                simp only [List.getElem_map, ← hlast] at s2
                generalize hla : out2.getD (out2.length - 1) .empty = last at *
                have g8 : old[i].at_.toNat - 1 < l.length := by omega
                have g9 : old[i].at_ - 1 < l.length := by omega
                have hwa : IntKind.i64.wrap (old[i].at_ - 1) = old[i].at_ - 1 := wrap_in (by omega) (by omega)
                have hgl : l.getD (old[i].at_.toNat - 1) .empty = l[old[i].at_.toNat - 1] := by simp [g8]
                rw [hgl] at hrun
                have hms := markOf_small l[old[i].at_.toNat - 1]
                obtain ⟨M9, t4, t5, t6⟩ := s3 (S (last ++ markOf l[old[i].at_.toNat - 1])) rfl rfl
                simp only [CiteD.row] at hX4
                simp (dsimp := false) (implicitDefEqProofs := false) [j1, j2, j3, j4, j5, j6, j7, j8]
                refine w_drawn hY (cfollows gl) (fun k => if k = 9 ∨ k = 12 then 1 else if k = 19 then 2 else 0) (fun k => if k = 9 then sf else M2.length) (by rfl) (by kernel_rfl) ?_
                simp (dsimp := false) (implicitDefEqProofs := false) [j1, j2, j3, j4, j5, j6, j7, j8, hlv4, hwl2, s1, s2, s5, loadAV_ptr hX4, CiteD.row, hwa, g1, g9, g8]
                refine w_call0 (r := S (markOf l[old[i].at_.toNat - 1])) (fun M => inv_of Tryz.func66 rfl rfl (sign_ok gl M l[old[i].at_.toNat - 1] (hls _ (List.getElem_mem g8)))) ?_
                have hf9 : FreshS M (addLast out2 (markOf l[old[i].at_.toNat - 1])) v4 M9 := by
                  refine ⟨by rw [map_set_last, hla]; simpa using t5, ⟨?_, fun j hj _ => ?_⟩, hf4.2.2⟩
                  · have := hf4.2.1.1; have := t6.1; omega
                  · have := hf4.2.1.1
                    rw [t6.2 j (by omega) fun e => by have := hf4.2.2 _ e; omega]
                    exact hf4.2.1.2 j hj (by simp)
                have hol3 : (addLast out2 (markOf l[old[i].at_.toNat - 1])).length ≤ (i + 1) * 200 := by simp [addLast]; omega
                have hnb : ¬ (9223372036854775807 : Int) < (last.size : Int) + ((markOf l[old[i].at_.toNat - 1]).size : Int) := by omega
                simp (dsimp := false) (implicitDefEqProofs := false) [j1, j2, j3, j4, j5, j6, j7, j8, hlv4, hwl2, s1, t4, hw, h11, hnb]
                exact ⟨⟨i + 1, by clear hw; omega, _, hf9, g4, g7, by simp, hol3, by simpa using hrun⟩, by clear hw; omega⟩
    · have hi' : ¬ (i : Int) < old.length := by omega
      rw [h13, show old.length - i = 0 by omega]
      simp (dsimp := false) (implicitDefEqProofs := false) [h3, h4, h6, h11, hi', hT7, h7, h8]
      have hsl : List.drop e.toNat (rowsS l) = rowsS (l.drop e.toNat) := rowsS_drop
      rw [hsl]
      refine push (C := WC gl) (e := 9) elem37 src37 eok9 h2.1 (news := (l.drop e.toNat).map S) (m := (l.drop e.toNat).length) (srcS _ _ _) (by simp) (by simp; omega) rfl ?_
      intro v' M' q1 q2 q3 _
      have hf := fresh_push (X := []) h2 q1 (by simpa using q2) (by simpa using q3)
      simp (dsimp := false) (implicitDefEqProofs := false) [runR]
      exact ⟨.inr hf.1, hf.2.1⟩
end
end Go.Abs
end
section
/- CodifyRewrites answers true. -/
set_option maxRecDepth 100000
set_option linter.unusedSimpArgs false
set_option linter.unusedVariables false
namespace Go.Abs
open Go.Proofs TryTypes

theorem stepR_len {l : List ByteArray} {old : List CiteD} {names : List (List Step)} {i : Nat} {out : List ByteArray} {e : Int} {r : List ByteArray × Int} (h : stepR l old names i out e = some r) : r.1.length ≤ out.length + l.length + 19 := by
  unfold stepR at h
  split at h
  · rename_i c p _ _
    split at h
    · simp at h
    · simp only [Option.some.injEq] at h
      subst h
      have hal := addrW_len p
      have hd : ((l.take c.frm.toNat).drop e.toNat).length ≤ l.length := by simp; omega
      split
      · simp only [addLast, List.length_set, List.length_append]
        split <;> simp only [List.length_append, List.length_singleton] <;> omega
      · simp only [List.length_append]
        split <;> simp only [List.length_append, List.length_singleton] <;> omega
  · simp at h
theorem runR_len {l : List ByteArray} {old : List CiteD} {names : List (List Step)} : ∀ (n i : Nat) (out : List ByteArray) (e : Int), (runR l old names n i out e).length ≤ out.length + (n + 1) * (l.length + 19)
  | 0, i, out, e => by simp only [runR, List.length_append, List.length_drop]; omega
  | n + 1, i, out, e => by
    simp only [runR]
    split
    · rw [Nat.add_mul]; omega
    · rename_i r hr
      have h1 := stepR_len hr
      have h2 := runR_len (l := l) (old := old) (names := names) n (i + 1) r.1 r.2
      rw [Nat.add_mul (n + 1)]; omega
theorem rewriteL_len {l : List ByteArray} {old : List CiteD} {names : List (List Step)} (h1 : l.length ≤ 100) (h2 : old.length ≤ 20) : (rewriteL l old names).length ≤ 1000000 := by
  unfold rewriteL
  split
  · have := runR_len (l := l) (old := old) (names := names) old.length 0 [] 0
    have h3 : (old.length + 1) * (l.length + 19) ≤ 21 * 119 := Nat.mul_le_mul (by omega) (by omega)
    simp only [List.length_nil] at this
    omega
  · omega
section
variable (gl : Nat → AV)
set_option maxHeartbeats 1000000 in
theorem law4_ok (l : List ByteArray) (old : List CiteD) (names : List (List Step)) (o1 o2 o3 : Own) (hls : ∀ s ∈ l, s.size ≤ maxLen) (hns : ∀ p ∈ names, ∀ s ∈ p, s.lab.size ≤ maxLen) (hA : Invk (WC gl) 10 [] [] (fun v _ => v = B true)) :
    ACalls (WC gl) 4 [.list 1 (rowsS l) o1, .list 5 (rowsC old) o2, .list 1 (rowsN names) o3] [] (fun v _ => v = B true) := by
  refine w_body hB Tryz.func4 rfl rfl rfl rfl rfl rfl ?_
  simp (dsimp := false) (implicitDefEqProofs := false)
  refine w_calls hA ?_
  rintro r M rfl
  by_cases c1 : l.length ≤ 100
  case neg =>
    have i1 : (100 : Int) < l.length := by omega
    simp (dsimp := false) (implicitDefEqProofs := false) [i1]
  have i1 : ¬ (100 : Int) < l.length := by omega
  by_cases c2 : old.length ≤ 20
  case neg =>
    have i2 : (20 : Int) < old.length := by omega
    simp (dsimp := false) (implicitDefEqProofs := false) [i1, i2]
  have i2 : ¬ (20 : Int) < old.length := by omega
  by_cases c3 : names.length ≤ 20
  case neg =>
    have i3 : (20 : Int) < names.length := by omega
    simp (dsimp := false) (implicitDefEqProofs := false) [i1, i2, i3]
  have i3 : ¬ (20 : Int) < names.length := by omega
  simp (dsimp := false) (implicitDefEqProofs := false) [i1, i2, i3]
  refine w_looped hB (fun T M1 => ∃ i : Nat, i ≤ names.length ∧ T 0 = .list 1 (rowsS l) o1 ∧ T 1 = .list 5 (rowsC old) o2 ∧ T 2 = .list 1 (rowsN names) o3 ∧ T 7 = I i ∧ ∀ p ∈ names.take i, p.length ≤ 12)
    (fun T M1 => match T 7 with | .val (.int _ i) => names.length - i.toNat | _ => 0) (by kernel_rfl) ?_ ?_
  · refine ⟨0, ?_⟩
    simp (dsimp := false) (implicitDefEqProofs := false)
  · rintro T M1 ⟨i, h1, h2, h3, h4, h5, h6⟩
    by_cases hi : i < names.length
    · have hi' : (i : Int) < names.length := by omega
      have hw : IntKind.i64.wrap ((i : Int) + 1) = (i + 1 : Nat) := by rw [wrap_in (by omega) (by omega)]; omega
      by_cases c : names[i].length ≤ 12
      · have ic : ¬ (12 : Int) < names[i].length := by omega
        simp (dsimp := false) (implicitDefEqProofs := false) [h2, h3, h4, h5, hi, hi', ic, hw]
        refine ⟨⟨i + 1, ?_⟩, by clear hw; omega⟩
        refine ⟨by clear hw; omega, by simp, ?_⟩
        intro p hp
        rw [List.take_succ_eq_append_getElem hi, List.mem_append] at hp
        rcases hp with hp | hp
        · exact h6 p hp
        · simp only [List.mem_singleton] at hp; subst hp; exact c
      · have ic : (12 : Int) < names[i].length := by omega
        simp (dsimp := false) (implicitDefEqProofs := false) [h2, h3, h4, h5, hi, hi', ic]
    · have hi' : ¬ (i : Int) < names.length := by omega
      rw [List.take_of_length_le (by omega)] at h6
      have hn : ∀ p ∈ names, smallP p := fun p hp => ⟨by have := h6 p hp; omega, hns p hp⟩
      simp (dsimp := false) (implicitDefEqProofs := false) [h2, h3, h4, h5, hi']
      refine w_calls (inv_of Tryz.func18 rfl rfl (rewrite_ok gl M1 l old names o1 o2 o3 c1 hls c2 hn)) ?_
      intro v M2 hf
      simp (dsimp := false) (implicitDefEqProofs := false) [h2, h3, h4, h5]
      refine w_calls (inv_of Tryz.func19 rfl rfl (refRewrite_ok gl M2 l old names o1 o2 o3 c1 hls c2 hn)) ?_
      rintro v2 M3 ⟨hs, hg⟩
      have hv := hf.1.keep hg (by simp)
      simp (dsimp := false) (implicitDefEqProofs := false)
      have hlen : (rewriteL l old names).length ≤ 1000000 := rewriteL_len c1 c2
      refine w_calls (inv_of Tryz.func17 rfl rfl (Same_ok gl M3 v v2 _ _ (.inr hv) hs hlen)) ?_
      rintro r M4 ⟨rfl, rfl⟩
      simp (dsimp := false) (implicitDefEqProofs := false)
end
end Go.Abs
end
section
/- Shapes of CodifyRewrites' arguments. -/
set_option maxRecDepth 100000
namespace Go.Abs
open Go.Proofs

theorem rows_shape {E : ShEnv} {e : Sh} {α : Type} {f : α → List AV} {Q : α → Prop} (key : ∀ r, Shaped E e r → ∃ x, r = f x ∧ Q x) : ∀ rows : List (List AV), (∀ r ∈ rows, Shaped E e r) → ∃ l : List α, rows = l.map f ∧ ∀ x ∈ l, Q x
  | [], _ => ⟨[], rfl, fun _ h => by simp at h⟩
  | r :: rows, h => by
    obtain ⟨x, rfl, hx⟩ := key r (h r (by simp))
    obtain ⟨l, rfl, hl⟩ := rows_shape key rows fun r hr => h r (by simp [hr])
    exact ⟨x :: l, rfl, fun y hy => (List.mem_cons.1 hy).elim (fun e => e ▸ hx) (hl y)⟩
def shStep : Sh := .parts [.int .i64, .str]
def shCite : Sh := .parts [.int .i64, .slice 2 shStep, .str, .int .i64, .int .i64]
theorem sh_int {E : ShEnv} {r : List AV} (h : Shaped E (.int .i64) r) : ∃ n, r = [I n] := by
  generalize hs : Sh.int .i64 = s at h
  cases h <;> cases hs
  exact ⟨_, rfl⟩
theorem sh_str {E : ShEnv} {r : List AV} (h : Shaped E .str r) : ∃ s, r = [S s] ∧ s.size ≤ maxLen := by
  generalize hs : Sh.str = s at h
  cases h <;> cases hs
  exact ⟨_, rfl, by assumption⟩
theorem sh_slice {E : ShEnv} {sz : Nat} {e : Sh} {r : List AV} (h : Shaped E (.slice sz e) r) : ∃ rows, r = [.list sz rows .no] ∧ ∀ x ∈ rows, Shaped E e x := by
  generalize hs : Sh.slice sz e = s at h
  cases h <;> cases hs
  exact ⟨_, rfl, by assumption⟩
theorem sh_cons {E : ShEnv} {s : Sh} {l : List Sh} {r : List AV} (h : Shaped E (.parts (s :: l)) r) : ∃ a b, r = a ++ b ∧ Shaped E s a ∧ Shaped E (.parts l) b := by
  generalize hs : Sh.parts (s :: l) = t at h
  cases h <;> cases hs
  exact ⟨_, _, rfl, by assumption, by assumption⟩
theorem sh_nil {E : ShEnv} {r : List AV} (h : Shaped E (.parts []) r) : r = [] := by
  generalize hs : Sh.parts [] = t at h
  cases h <;> cases hs
  rfl
theorem sh_step {E : ShEnv} {r : List AV} (h : Shaped E shStep r) : ∃ s : Step, r = s.row ∧ s.lab.size ≤ maxLen := by
  obtain ⟨a, b, rfl, h1, h2⟩ := sh_cons h
  obtain ⟨c, d, rfl, h3, h4⟩ := sh_cons h2
  obtain rfl := sh_nil h4
  obtain ⟨n, rfl⟩ := sh_int h1
  obtain ⟨s, rfl, hs⟩ := sh_str h3
  exact ⟨⟨n, s⟩, rfl, hs⟩
theorem sh_path {E : ShEnv} {r : List AV} (h : Shaped E (.slice 2 shStep) r) : ∃ p : List Step, r = [pathV p] ∧ ∀ s ∈ p, s.lab.size ≤ maxLen := by
  obtain ⟨rows, rfl, hr⟩ := sh_slice h
  obtain ⟨l, rfl, hl⟩ := rows_shape (fun r h => sh_step h) rows hr
  exact ⟨l, rfl, hl⟩
theorem sh_cite {E : ShEnv} {r : List AV} (h : Shaped E shCite r) : ∃ c : CiteD, r = c.row ∧ True := by
  obtain ⟨a, b, rfl, h1, h2⟩ := sh_cons h
  obtain ⟨c, d, rfl, h3, h4⟩ := sh_cons h2
  obtain ⟨e, f, rfl, h5, h6⟩ := sh_cons h4
  obtain ⟨g, i, rfl, h7, h8⟩ := sh_cons h6
  obtain ⟨j, k, rfl, h9, h10⟩ := sh_cons h8
  obtain rfl := sh_nil h10
  obtain ⟨n, rfl⟩ := sh_int h1
  obtain ⟨p, rfl, _⟩ := sh_path h3
  obtain ⟨s, rfl, _⟩ := sh_str h5
  obtain ⟨x, rfl⟩ := sh_int h7
  obtain ⟨y, rfl⟩ := sh_int h9
  exact ⟨⟨n, p, s, x, y⟩, rfl, trivial⟩
theorem sh_strs {E : ShEnv} {r : List AV} (h : Shaped E (.slice 1 .str) r) : ∃ l, r = [.list 1 (rowsS l) .no] ∧ ∀ s ∈ l, s.size ≤ maxLen := by
  obtain ⟨rows, rfl, hr⟩ := sh_slice h
  obtain ⟨l, rfl, hl⟩ := rows_shape (fun r h => sh_str h) rows hr
  exact ⟨l, rfl, hl⟩
theorem sh_cites {E : ShEnv} {r : List AV} (h : Shaped E (.slice 5 shCite) r) : ∃ l, r = [.list 5 (rowsC l) .no] := by
  obtain ⟨rows, rfl, hr⟩ := sh_slice h
  obtain ⟨l, rfl, hl⟩ := rows_shape (fun r h => sh_cite h) rows hr
  exact ⟨l, rfl⟩
theorem sh_names {E : ShEnv} {r : List AV} (h : Shaped E (.slice 1 (.slice 2 shStep)) r) : ∃ l, r = [.list 1 (rowsN l) .no] ∧ ∀ p ∈ l, ∀ s ∈ p, s.lab.size ≤ maxLen := by
  obtain ⟨rows, rfl, hr⟩ := sh_slice h
  obtain ⟨l, rfl, hl⟩ := rows_shape (fun r h => sh_path h) rows hr
  exact ⟨l, rfl, hl⟩
end Go.Abs
end
