/- The law PagestoreAtomic: its simp (dsimp := false) (implicitDefEqProofs := false). -/
import Derived.Test.YteillgpoonhdjaaPsMa
set_option maxRecDepth 100000
set_option linter.unusedSimpArgs false
set_option maxHeartbeats 4000000
set_option pp.maxSteps 600
namespace Go.Abs
open Go.Proofs

theorem atomic_ok (l1 l2 : List CallD) (fuse keep : Int) (o1 o2 : Own) (M : Mem) (hl1 : l1.length ≤ maxLen) (hl2 : l2.length ≤ maxLen) (hx1 : ∀ x ∈ l1, x.n ≤ 9223372036854775807) (hx2 : ∀ x ∈ l2, x.n ≤ 9223372036854775807) (hfu : fuse ≤ 9223372036854775807) :
    ACalls PC 6 [.list 3 (rowsC l1) o1, .list 3 (rowsC l2) o2, I fuse, I keep] M (fun v _ => v = B true) := by
  refine w_body hintB Try.func6 rfl rfl rfl rfl rfl rfl ?_
  simp (dsimp := false) (implicitDefEqProofs := false) []
  refine w_calls (C := PC) Try.call8 (awake_ok M) ?_
  rintro _ M1 rfl
  simp (dsimp := false) (implicitDefEqProofs := false) []
  refine w_calls (C := PC) Try.call15 (heavy_ok l1 20 o1 M1 hl1) ?_
  rintro _ M' ⟨hM', hv, rfl, -⟩
  clear hM'
  cases hv
  case true => simp (dsimp := false) (implicitDefEqProofs := false) []
  simp (dsimp := false) (implicitDefEqProofs := false) []
  refine w_calls (C := PC) Try.call15 (heavy_ok l2 12 o2 M' hl2) ?_
  rintro _ M' ⟨hM', hv, rfl, hlen2⟩
  clear hM'
  cases hv
  case true => simp (dsimp := false) (implicitDefEqProofs := false) []
  have h12 := hlen2 rfl
  simp (dsimp := false) (implicitDefEqProofs := false) []
  refine w_calls (C := PC) Try.call9 (new_ok _) ?_
  rintro _ M2 ⟨rfl, hM2⟩
  simp (dsimp := false) (implicitDefEqProofs := false) []
  refine w_calls (C := PC) Try.call16 (rnew_ok _) ?_
  rintro _ M3 ⟨rfl, hM3⟩
  have t := duo_new M' _ rfl
  rw [← hM2, ← hM3] at t
  clear hM3 hM2
  generalize M'.length = b at t ⊢
  generalize M2.length = c at t ⊢
  simp (dsimp := false) (implicitDefEqProofs := false) []
  refine w_looped hintB (fun T M => T 0 = .list 3 (rowsC l1) o1 ∧ T 1 = .list 3 (rowsC l2) o2 ∧ T 2 = I fuse ∧ T 3 = I keep ∧ T 9 = .ptr b 0 ∧ T 10 = .ptr c 0 ∧ ∃ i : Nat, T 11 = I i ∧ i ≤ l1.length ∧ ∃ pv pw s s', Duo M b pv s c pw s') (fun T _ => match T 11 with | .val (.int _ i) => l1.length - i.toNat | _ => 0) rfl ?_ ?_
  · exact ⟨by simp (dsimp := false) (implicitDefEqProofs := false) [], by simp (dsimp := false) (implicitDefEqProofs := false) [], by simp (dsimp := false) (implicitDefEqProofs := false) [], by simp (dsimp := false) (implicitDefEqProofs := false) [], by simp (dsimp := false) (implicitDefEqProofs := false) [], by simp (dsimp := false) (implicitDefEqProofs := false) [], 0, by simp (dsimp := false) (implicitDefEqProofs := false) [], by omega, _, _, _, _, t⟩
  · rintro T M4 ⟨t0, t1, t2, t3, t9, t10, i, t11, hi, pv, pw, s, s', h⟩
    by_cases hlt : i < l1.length
    · have e1 := rowsC_get hlt
      have e2 : (rowsC l1)[i]'(by simpa using hlt) = (l1[i]).cells := by simp [rowsC]
      have c3 : IntKind.i64.wrap ((i : Int) + 1) = ((i + 1 : Nat) : Int) := by rw [IntWalk.i64_in _ (by simp [maxLen] at hl1; omega)]; rfl
      simp (dsimp := false) (implicitDefEqProofs := false) [t0, t1, t2, t3, t9, t10, t11, hlt, e1, e2]
      refine ⟨by simp [CallD.cells], ?_⟩
      rw [show List.take 3 (l1[i]).cells = (l1[i]).cells from rfl]
      refine w_calls (C := PC) Try.call17 (done2_ok _ _ _ _ _ s s' h (l1[i]) (hx1 _ (List.getElem_mem hlt))) ?_
      rintro v5 M5 ⟨pv5, pw5, h5⟩
      simp (dsimp := false) (implicitDefEqProofs := false) [t0, t1, t2, t3, t9, t10, t11, c3]
      exact ⟨⟨i + 1, by simp, by omega, _, _, _, _, h5⟩, by omega⟩
    · simp (dsimp := false) (implicitDefEqProofs := false) [t0, t1, t2, t3, t9, t10, t11, hlt]
      refine w_calls (C := PC) Try.call14 (crash_ok _ _ _ 0 s h.ok h.l) ?_
      rintro _ M5 ⟨p5, rfl, a5, -⟩
      have ok5 := mCrash_ok h.ok 0
      have k5 := kept_crash s 0
      have l5 : (mCrash s 0).lasting = (mCrash s 0).pages.length := rfl
      clear h
      revert a5 ok5 k5 l5
      generalize mCrash s 0 = o
      intro a5 ok5 k5 l5
      simp (dsimp := false) (implicitDefEqProofs := false) [t0, t1, t2, t3, t9, t10, t11]
      refine w_calls (C := PC) Try.call21 (root_ok _ _ _ _ _ _ _ a5.1) ?_
      rintro _ _ ⟨rfl, rfl⟩
      simp (dsimp := false) (implicitDefEqProofs := false) [t0, t1, t2, t3, t9, t10, t11, buildSliceAV, rowsGo]
      refine w_calls (C := PC) Try.call19 (len_ok _ _ _ _ _ _ _ _ a5.1 a5.2) ?_
      rintro _ _ ⟨rfl, rfl⟩
      simp (dsimp := false) (implicitDefEqProofs := false) [t0, t1, t2, t3, t9, t10, t11, buildSliceAV, rowsGo]
      refine w_looped hintB (fun T M => T 1 = .list 3 (rowsC l2) o2 ∧ T 2 = I fuse ∧ T 3 = I keep ∧ T 9 = .ptr b 0 ∧ T 14 = I o.pages.length ∧ ∃ i : Nat, T 15 = I i ∧ i ≤ o.pages.length ∧ Atom M b p5 o (T 12) [o.root] (T 13) (o.pages.take i)) (fun T _ => match T 15 with | .val (.int _ i) => o.pages.length - i.toNat | _ => 0) rfl ?_ ?_
      · refine ⟨by simp (dsimp := false) (implicitDefEqProofs := false) [t1], by simp (dsimp := false) (implicitDefEqProofs := false) [t2], by simp (dsimp := false) (implicitDefEqProofs := false) [t3], by simp (dsimp := false) (implicitDefEqProofs := false) [t9], by simp (dsimp := false) (implicitDefEqProofs := false) [], 0, by simp (dsimp := false) (implicitDefEqProofs := false) [], by omega, ?_⟩
        simp (dsimp := false) (implicitDefEqProofs := false) []
        exact ⟨a5, .inl rfl, .inl rfl, by simp [famOf], by simp [famOf], by simp [Dis, famOf], by simp [Dis, famOf], by simp [Dis, famOf], ok5⟩
      clear t0 t1 t2 t3 t9 t10 t11 hlt hi a5
      rintro T M6 ⟨t1, t2, t3, t9, t14, i, t15, hi, h⟩
      have hlen4 := h.ok.len
      by_cases hlt : i < o.pages.length
      · have c3 : IntKind.i64.wrap ((i : Int) + 1) = ((i + 1 : Nat) : Int) := by rw [IntWalk.i64_in _ (by omega)]; rfl
        simp (dsimp := false) (implicitDefEqProofs := false) [t1, t2, t3, t9, t14, t15]
        refine w_calls (C := PC) Try.call19 (len_ok _ _ _ _ _ _ _ _ h.at'.1 h.at'.2) ?_
        rintro _ _ ⟨rfl, rfl⟩
        simp (dsimp := false) (implicitDefEqProofs := false) [t1, t2, t3, t9, t14, t15, hlt]
        refine w_calls (C := PC) Try.call18 (read_ok _ _ _ _ _ _ _ _ _ h.at'.1 h.at'.2) ?_
        rintro _ _ ⟨rfl, rfl⟩
        have e0 : (0 : Int) ≤ (i : Int) ∧ (i : Int) < o.pages.length := by omega
        rw [show o.down = false from k5.down, if_neg (by simp), if_pos e0]
        simp (dsimp := false) (implicitDefEqProofs := false) [t1, t2, t3, t9, t14, t15, buildSliceAV, rowsGo, hlt]
        refine w_append (e := 9) (sz := 1) (bytes := 16) TryTypes.elem22 TryTypes.src22 TryTypes.eok9 h.gp.size rfl (by rw [h.gp.rows]; simp [rowsLen, asList]; omega) ?_
        obtain ⟨v', M', ea, h'⟩ := h.page o.pages[i]
        rw [List.take_append_getElem hlt] at h'
        simp (dsimp := false) (implicitDefEqProofs := false) [ea, t1, t2, t3, t9, t14, t15, c3]
        exact ⟨⟨i + 1, by simp, by omega, h'⟩, by omega⟩
      · have hi' : i = o.pages.length := by omega
        subst hi'
        rw [List.take_length] at h
        simp (dsimp := false) (implicitDefEqProofs := false) [t1, t2, t3, t9, t14, t15]
        refine w_calls (C := PC) Try.call19 (len_ok _ _ _ _ _ _ _ _ h.at'.1 h.at'.2) ?_
        rintro _ _ ⟨rfl, rfl⟩
        simp (dsimp := false) (implicitDefEqProofs := false) [t1, t2, t3, t9, t14, t15]
        refine w_calls (C := PC) Try.call10 (failAfter_ok _ _ _ _ _ _ _ _ h.at'.1) ?_
        rintro _ _ ⟨rfl, rfl⟩
        have h1 := h.fail_set fuse hfu
        have s1 : Seen (mFail o fuse) [o.root] o.pages o.pages.length := ⟨rfl, rfl, l5⟩
        simp only [St.cells, mFail] at h1
        simp only [mFail] at s1
        clear h
        generalize ({ o with fuse := max fuse (-1)} : St) = q at h1 s1
        have hq : ∃ n : Int, o.pages.length = n := ⟨_, rfl⟩
        simp (dsimp := false) (implicitDefEqProofs := false) [t1, t2, t3, t9, t14, t15]
        refine w_looped hintB (fun T M => T 1 = .list 3 (rowsC l2) o2 ∧ T 3 = I keep ∧ T 9 = .ptr b 0 ∧ ∃ i : Nat, T 18 = I i ∧ i ≤ l2.length ∧ ∃ pv s rs ps lasts, T 14 = I lasts ∧ Atom M b pv s (T 12) rs (T 13) ps ∧ Seen s rs ps lasts ∧ rs.length ≤ i + 1) (fun T _ => match T 18 with | .val (.int _ i) => l2.length - i.toNat | _ => 0) rfl ?_ ?_
        · refine ⟨by simp (dsimp := false) (implicitDefEqProofs := false) [t1], by simp (dsimp := false) (implicitDefEqProofs := false) [t3], by simp (dsimp := false) (implicitDefEqProofs := false) [t9], 0, by simp (dsimp := false) (implicitDefEqProofs := false) [], by omega, p5, q, [o.root], o.pages, o.pages.length, by simp (dsimp := false) (implicitDefEqProofs := false) [t14], ?_, s1, by simp⟩
          simp (dsimp := false) (implicitDefEqProofs := false) []
          exact h1
        clear s1 h1 hq t1 t2 t3 t9 t14 t15
        rintro T M7 ⟨t1, t3, t9, i, t18, hi, pv, s, rs, ps, lasts, t14, h, sn, hrs⟩
        have hps := h.ok.len
        rw [sn.ps] at hps
        by_cases hlt : i < l2.length
        · have e1 := rowsC_get hlt
          have e2 : (rowsC l2)[i]'(by simpa using hlt) = [K (l2[i]).kind, S (l2[i]).text, I (l2[i]).n] := by simp [rowsC, CallD.cells]
          have c3 : IntKind.i64.wrap ((i : Int) + 1) = ((i + 1 : Nat) : Int) := by rw [IntWalk.i64_in _ (by simp [maxLen] at hl2; omega)]; rfl
          generalize l2[i] = x at e2
          obtain ⟨kind, text, n⟩ := x
          have hb7 := getElem?_lt h.at'.1
          have hnew : ∀ cs, (M7 ++ [AObj.cells cs])[M7.length]? = some (.cells cs) := fun cs => by simp
          have hset : ∀ cs ds, (M7 ++ [AObj.cells cs]).set M7.length (.cells ds) = M7 ++ [AObj.cells ds] := fun cs ds => by simp
          have h8 := h.push (.cells [K kind, S text, I n])
          have hx8 := hnew [K kind, S text, I n]
          have hne : M7.length ≠ b := by omega
          simp (dsimp := false) (implicitDefEqProofs := false) [t1, t3, t9, t14, t18, hlt, e1, e2, allocAV, storeAV_ptr (hnew _)]
          generalize M7.length = x7 at hx8 hne ⊢
          generalize M7 ++ [AObj.cells [K kind, S text, I n]] = M8 at h8 hx8 ⊢
          clear hnew hset h hb7 M7
          by_cases hk : kind ≤ 2
          · have k3 : ¬ kind = 3 := by omega
            have k4 : ¬ kind = 4 := by omega
            simp (dsimp := false) (implicitDefEqProofs := false) [t1, t3, t9, t14, t18, loadAV_ptr hx8, hk]
            refine w_calls (C := PC) Try.call12 (append_ok _ _ _ text s h8.ok h8.at') ?_
            rintro _ M9 ⟨pv9, rfl, a9, fr9⟩
            have h9 := h8.store a9 (mAppend_ok h8.ok text) fr9
            have hx9 := h8.box fr9 hne hx8
            have key := sn.append text
            generalize mAppend s text = res at h9 key ⊢
            obtain ⟨⟨r1, r2⟩, s9⟩ := res
            clear h8 a9 fr9 sn hx8
            simp only at h9 key
            simp (dsimp := false) (implicitDefEqProofs := false) [t1, t3, t9, t14, t18]
            refine Or.elim key ?_ ?_
            all_goals clear key
            · rintro ⟨q1, q2, sn9⟩
              simp (dsimp := false) (implicitDefEqProofs := false) [t1, t3, t9, t14, t18, loadAV_ptr hx9, q1, q2, h9.gp.len Try.underlying22, buildSliceAV, rowsGo]
              refine w_append (e := 9) (sz := 1) (bytes := 16) TryTypes.elem22 TryTypes.src22 TryTypes.eok9 h9.gp.size rfl (by rw [h9.gp.rows]; simp [rowsLen, asList]; omega) ?_
              obtain ⟨v', M', ea, h'⟩ := h9.page text
              have hx' := h9.gp.append_keeps ea hx9
              simp (dsimp := false) (implicitDefEqProofs := false) [ea, t1, t3, t9, t14, t18, loadAV_ptr hx', k3, k4, c3]
              exact ⟨⟨i + 1, by simp, by omega, _, _, _, _, h', sn9, by omega⟩, by omega⟩
            · rintro ⟨q1, sn9⟩
              simp (dsimp := false) (implicitDefEqProofs := false) [t1, t3, t9, t14, t18, loadAV_ptr hx9, q1, k3, k4, c3]
              exact ⟨⟨i + 1, by simp, by omega, _, _, _, _, h9, sn9, by omega⟩, by omega⟩
          · by_cases hk3 : kind = 3 ∨ kind = 4
            · rcases hk3 with rfl | rfl
              · simp (dsimp := false) (implicitDefEqProofs := false) [t1, t3, t9, t14, t18, loadAV_ptr hx8]
                refine w_calls (C := PC) Try.call11 (setroot_ok _ _ _ n s h8.ok h8.at') ?_
                rintro _ _ ⟨rfl, rfl⟩
                have h9 := h8.root_set n
                have hx9 := h8.box (Fr.put (.cells ((mSet s n).2.cells pv))) hne hx8
                have key := sn.set n
                generalize mSet s n = res at h9 hx9 key ⊢
                generalize M8.set b (.cells (res.2.cells pv)) = M9 at h9 hx9 ⊢
                obtain ⟨r1, s9⟩ := res
                clear h8 sn hx8
                simp only at h9 key
                simp (dsimp := false) (implicitDefEqProofs := false) [t1, t3, t9, t14, t18]
                refine Or.elim key ?_ ?_
                all_goals clear key
                · rintro ⟨q1, sn9⟩
                  simp (dsimp := false) (implicitDefEqProofs := false) [t1, t3, t9, t14, t18, loadAV_ptr hx9, q1, buildSliceAV, rowsGo]
                  refine w_append (e := 3) (sz := 1) (bytes := 8) TryTypes.elem44 TryTypes.src44 TryTypes.eok3 h9.gr.size rfl (by rw [h9.gr.rows]; simp [rowsLen, asList]; omega) ?_
                  obtain ⟨v', M', ea, h'⟩ := h9.root n
                  simp (dsimp := false) (implicitDefEqProofs := false) [ea, t1, t3, t9, t14, t18, h'.gp.len Try.underlying22, c3]
                  exact ⟨⟨i + 1, by simp, by omega, _, _, _, _, h', by simpa using sn9, by simp; omega⟩, by omega⟩
                · rintro ⟨q1, sn9⟩
                  simp (dsimp := false) (implicitDefEqProofs := false) [t1, t3, t9, t14, t18, loadAV_ptr hx9, q1, c3]
                  exact ⟨⟨i + 1, by simp, by omega, _, _, _, _, h9, sn9, by omega⟩, by omega⟩
              · simp (dsimp := false) (implicitDefEqProofs := false) [t1, t3, t9, t14, t18, loadAV_ptr hx8]
                refine w_calls (C := PC) Try.call11 (setroot_ok _ _ _ n s h8.ok h8.at') ?_
                rintro _ _ ⟨rfl, rfl⟩
                have h9 := h8.root_set n
                have hx9 := h8.box (Fr.put (.cells ((mSet s n).2.cells pv))) hne hx8
                have key := sn.set n
                generalize mSet s n = res at h9 hx9 key ⊢
                generalize M8.set b (.cells (res.2.cells pv)) = M9 at h9 hx9 ⊢
                obtain ⟨r1, s9⟩ := res
                clear h8 sn hx8
                simp only at h9 key
                simp (dsimp := false) (implicitDefEqProofs := false) [t1, t3, t9, t14, t18]
                refine Or.elim key ?_ ?_
                all_goals clear key
                · rintro ⟨q1, sn9⟩
                  simp (dsimp := false) (implicitDefEqProofs := false) [t1, t3, t9, t14, t18, loadAV_ptr hx9, q1, buildSliceAV, rowsGo]
                  refine w_append (e := 3) (sz := 1) (bytes := 8) TryTypes.elem44 TryTypes.src44 TryTypes.eok3 h9.gr.size rfl (by rw [h9.gr.rows]; simp [rowsLen, asList]; omega) ?_
                  obtain ⟨v', M', ea, h'⟩ := h9.root n
                  simp (dsimp := false) (implicitDefEqProofs := false) [ea, t1, t3, t9, t14, t18, h'.gp.len Try.underlying22, c3]
                  exact ⟨⟨i + 1, by simp, by omega, _, _, _, _, h', by simpa using sn9, by simp; omega⟩, by omega⟩
                · rintro ⟨q1, sn9⟩
                  simp (dsimp := false) (implicitDefEqProofs := false) [t1, t3, t9, t14, t18, loadAV_ptr hx9, q1, c3]
                  exact ⟨⟨i + 1, by simp, by omega, _, _, _, _, h9, sn9, by omega⟩, by omega⟩
            · have k3 : ¬ kind = 3 := fun e => hk3 (.inl e)
              have k4 : ¬ kind = 4 := fun e => hk3 (.inr e)
              simp (dsimp := false) (implicitDefEqProofs := false) [t1, t3, t9, t14, t18, loadAV_ptr hx8, hk, k3, k4, c3]
              exact ⟨⟨i + 1, by simp, by omega, _, _, _, _, h8, sn, by omega⟩, by omega⟩
        · simp (dsimp := false) (implicitDefEqProofs := false) [t1, t3, t9, t14, t18, hlt]
          refine w_calls (C := PC) Try.call14 (crash_ok _ _ _ keep s h.ok h.at') ?_
          rintro _ M9 ⟨pv9, rfl, a9, fr9⟩
          have h9 := h.store a9 (mCrash_ok h.ok keep) fr9
          have key := sn.crash h.ok keep
          have last := sn.last
          clear h sn a9 fr9
          obtain ⟨k1, k2, k3, k4, k5'⟩ := key
          rw [← k2] at last
          generalize mCrash s keep = z at h9 k1 k3 k4 k5' last ⊢
          obtain ⟨ow, e12⟩ := h9.gr.is
          obtain ⟨ow', e13⟩ := h9.gp.is
          have e1 : ((rs.map fun n => [I n]) : List (List AV))[rs.length - 1]? = some [I z.root] := by simp [last.2]
          have c4 : IntKind.i64.wrap ((rs.length : Int) - 1) = ((rs.length - 1 : Nat) : Int) := by rw [IntWalk.i64_in _ (by omega)]; omega
          simp (dsimp := false) (implicitDefEqProofs := false) [t1, t3, t9, t14, t18]
          refine w_drawn hintB follows (fun k => if k = 1 then 1 else if k = 11 then 1 else if k = 17 then 1 else if k = 24 then 1 else 0) rfl (by decide +kernel) ?_
          simp (dsimp := false) (implicitDefEqProofs := false) [t1, t3, t9, t14, t18]
          refine w_call1 (C := PC) Try.call21 (root_ok _ _ _ _ _ _ _ h9.at'.1) ?_
          have e12' : rs.length - 1 < rs.length := by omega
          have e2 : rs[rs.length - 1] = z.root := by simpa [e12'] using last.2
          simp (dsimp := false) (implicitDefEqProofs := false) [t1, t3, t9, t14, t18, e12, e13, c4, e1, e2, e12']
          refine w_call1 (C := PC) Try.call19 (len_ok _ _ _ _ _ _ _ _ h9.at'.1 h9.at'.2) ?_
          have k3' : ¬ (z.pages.length : Int) < lasts := by omega
          have k4' : ¬ ps.length < z.pages.length := by omega
          simp (dsimp := false) (implicitDefEqProofs := false) [t1, t3, t9, t14, t18, e12, e13, k3']
          refine w_call1 (C := PC) Try.call19 (len_ok _ _ _ _ _ _ _ _ h9.at'.1 h9.at'.2) ?_
          simp (dsimp := false) (implicitDefEqProofs := false) [t1, t3, t9, t14, t18, e12, e13, k4']
          refine w_call1 (C := PC) Try.call13 (failed_ok _ _ _ _ _ _ _ h9.at'.1) ?_
          rw [k1]
          simp (dsimp := false) (implicitDefEqProofs := false) [t1, t3, t9, t14, t18, e12, e13]
          have a9 := h9.at'
          have ok9 := h9.ok.len
          clear h9 last e1 e12 e12' e2 t1 t3 t14 t18
          refine w_looped hintB (fun T M => M = M9 ∧ T 9 = .ptr b 0 ∧ T 13 = .list 1 (rowsS ps) ow' ∧ ∃ i : Nat, T 22 = I i ∧ i ≤ z.pages.length) (fun T _ => match T 22 with | .val (.int _ i) => z.pages.length - i.toNat | _ => 0) rfl ?_ ?_
          · exact ⟨rfl, by simp (dsimp := false) (implicitDefEqProofs := false) [t9], by simp (dsimp := false) (implicitDefEqProofs := false) [e13], 0, by simp (dsimp := false) (implicitDefEqProofs := false) [], by omega⟩
          clear t9 e13 hlt hi
          rintro T _ ⟨rfl, t9, t13, i, t22, hi⟩
          simp (dsimp := false) (implicitDefEqProofs := false) [t9, t13, t22]
          refine w_calls (C := PC) Try.call19 (len_ok _ _ _ _ _ _ _ _ a9.1 a9.2) ?_
          rintro _ _ ⟨rfl, rfl⟩
          by_cases hlt : i < z.pages.length
          · have c3 : IntKind.i64.wrap ((i : Int) + 1) = ((i + 1 : Nat) : Int) := by rw [IntWalk.i64_in _ (by omega)]; rfl
            have hltp : i < ps.length := by omega
            have e1 : (rowsS ps)[i]? = some [S ps[i]] := by simp [rowsS, hltp]
            have e2 : (rowsS ps)[i]'(by simpa using hltp) = [S ps[i]] := by simp [rowsS]
            have e3 : z.pages[i] = ps[i] := by simpa [hlt, hltp] using k5' i hlt
            simp (dsimp := false) (implicitDefEqProofs := false) [t9, t13, t22, hlt]
            refine w_calls (C := PC) Try.call18 (read_ok _ _ _ _ _ _ _ _ _ a9.1 a9.2) ?_
            rintro _ _ ⟨rfl, rfl⟩
            have e0 : (0 : Int) ≤ (i : Int) ∧ (i : Int) < z.pages.length := by omega
            rw [k1, if_neg (by simp), if_pos e0]
            simp (dsimp := false) (implicitDefEqProofs := false) [t9, t13, t22, hltp, hlt, e1, e2, e3, c3]
            exact ⟨⟨i + 1, by simp, by omega⟩, by omega⟩
          · simp (dsimp := false) (implicitDefEqProofs := false) [t9, t13, t22, hlt]
end Go.Abs
