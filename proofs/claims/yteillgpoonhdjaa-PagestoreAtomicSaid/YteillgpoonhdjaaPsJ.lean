/- The law PagestoreClone: its simp (dsimp := false) (implicitDefEqProofs := false). -/
import Derived.Test.YteillgpoonhdjaaPsI
set_option maxRecDepth 100000
set_option linter.unusedSimpArgs false
namespace Go.Abs
open Go.Proofs

/-- boxes apart; the rows may be shared -/
def SepR (b : Nat) (pv : AV) (c : Nat) (pw : AV) : Prop := b ≠ c ∧ famOf pv ≠ some c ∧ famOf pw ≠ some b
theorem Sep.r {b c : Nat} {pv pw : AV} (h : Sep b pv c pw) : SepR b pv c pw := ⟨h.1, h.2.1, h.2.2.1⟩
theorem SepR.symm {b c : Nat} {pv pw : AV} (h : SepR b pv c pw) : SepR c pw b pv := ⟨h.1.symm, h.2.2, h.2.1⟩
theorem At.keepR {M M' : Mem} {b c : Nat} {pv pv' pw : AV} {t : St} (h : At M c pw t) (sep : SepR b pv c pw) (fr : FrN M M' b pv pv') : At M' c pw t := by
  obtain ⟨hc, hp⟩ := h
  refine ⟨(fr.same c (getElem?_lt hc) sep.1.symm).trans hc, ?_⟩
  rcases hp with hp | ⟨f, rfl, hf⟩
  · exact .inl hp
  · refine .inr ⟨f, rfl, (fr.same f (getElem?_lt hf) ?_).trans hf⟩
    rintro rfl; exact sep.2.2 rfl
theorem At.stepR {M M' : Mem} {b c : Nat} {pv pv' pw : AV} {t : St} (h : At M c pw t) (sep : SepR b pv c pw) (fr : Fr M M' b pv pv') : SepR b pv' c pw := by
  refine ⟨sep.1, ?_, sep.2.2⟩
  intro e
  rcases fr.fam c e with e | e
  · exact sep.2.1 e
  · have := getElem?_lt h.1; omega

/-- two stores with their references, all apart but that the references may share rows -/
structure Four (M : Mem) (a : Nat) (pa : AV) (r : Nat) (pr : AV) (s : St) (a' : Nat) (pa' : AV) (r' : Nat) (pr' : AV) (s' : St) : Prop where
  x : Two M a pa r pr s
  y : Two M a' pa' r' pr' s'
  aa : Sep a pa a' pa'
  ar : Sep a pa r' pr'
  ra : Sep r pr a' pa'
  rr : SepR r pr r' pr'

/-- a step on the second pair -/
theorem Four.step {M M' : Mem} {a r a' r' : Nat} {pa pr pa' pr' qa qr : AV} {s s' t : St} (h : Four M a pa r pr s a' pa' r' pr' s') (hy : Two M' a' qa r' qr t) (fr : Fr2 M M' a' pa' qa r' pr' qr) :
    Four M' a pa r pr s a' qa r' qr t := by
  obtain ⟨M1, f1, f2⟩ := fr
  have la := h.x.l.keep h.aa.symm f1
  have lr := h.x.r.keep h.ra.symm f1
  have s1 := h.x.l.step h.y.l h.aa.symm f1
  have s2 := h.x.r.step h.y.l h.ra.symm f1
  have lr' := h.y.r.keep h.y.sep f1
  have la2 := la.keepR h.ar.symm.r f2
  have lr2 := lr.keepR h.rr.symm f2
  exact ⟨⟨la2, lr2, h.x.sep, h.x.ok⟩, hy, s1.symm, (la.step lr' h.ar.symm f2.fr).symm, s2.symm, (lr.stepR h.rr.symm f2.fr).symm⟩

theorem At.of_same {M M' : Mem} {b : Nat} {pv : AV} {s : St} (h : At M b pv s) (hs : ∀ k, k < M.length → M'[k]? = M[k]?) : At M' b pv s := by
  obtain ⟨hb, hp⟩ := h
  refine ⟨(hs _ (getElem?_lt hb)).trans hb, ?_⟩
  rcases hp with hp | ⟨f, rfl, hf⟩
  · exact .inl hp
  · exact .inr ⟨f, rfl, (hs _ (getElem?_lt hf)).trans hf⟩
theorem At.fam_ne {M : Mem} {b : Nat} {pv : AV} {s : St} (h : At M b pv s) : famOf pv ≠ some b := by
  obtain ⟨hb, hp⟩ := h
  rcases hp with ⟨rfl, _⟩ | ⟨f, rfl, hf⟩
  · simp [famOf]
  · intro e
    simp only [famOf, Option.some.injEq] at e
    subst e
    rw [hb] at hf
    simp at hf
/-- a copy of the shelf's struct -/
theorem four_new {M M5 : Mem} {b c : Nat} {pv pw pa : AV} {s : St} (h : Two M b pv c pw s) (ha : At M5 M.length pa s) (hlen : M.length < M5.length) (hsame : ∀ k, k < M.length → M5[k]? = M[k]?)
    (hfam : ∀ k, famOf pa = some k → M.length < k) : Four (M5 ++ [.cells (s.cells pw)]) b pv c pw s M.length pa M5.length pw s := by
  have hb := getElem?_lt h.l.1
  have hc := getElem?_lt h.r.1
  have hr5 := h.r.of_same hsame
  have fa : ∀ k, famOf pa = some k → k < M5.length := fun k hk => ha.2.fam_lt hk
  have fv : ∀ k, famOf pv = some k → k < M.length := fun k hk => h.l.2.fam_lt hk
  have fw : ∀ k, famOf pw = some k → k < M.length := fun k hk => h.r.2.fam_lt hk
  have hn : At (M5 ++ [.cells (s.cells pw)]) M5.length pw s := by
    refine ⟨by simp, ?_⟩
    exact (hr5.push _).2
  refine ⟨⟨(h.l.of_same hsame).push _, hr5.push _, h.sep, h.ok⟩, ⟨ha.push _, hn, ⟨by omega, ?_, ?_, ?_⟩, h.ok⟩, ⟨by omega, ?_, ?_, ?_⟩, ⟨by omega, ?_, ?_, ?_⟩, ⟨by omega, ?_, ?_, ?_⟩, ⟨by omega, ?_, ?_⟩⟩
  · intro e; have := fa _ e; omega
  · intro e; have := fw _ e; omega
  · intro f e1 e2; have := hfam _ e1; have := fw _ e2; omega
  · intro e; have := fv _ e; omega
  · intro e; have := hfam _ e; omega
  · intro f e1 e2; have := hfam _ e2; have := fv _ e1; omega
  · intro e; have := fv _ e; omega
  · exact h.sep.2.2.1
  · exact h.sep.2.2.2
  · intro e; have := fw _ e; omega
  · intro e; have := hfam _ e; omega
  · intro f e1 e2; have := hfam _ e2; have := fw _ e1; omega
  · intro e; have := fw _ e; omega
  · exact h.r.fam_ne

theorem clone_law (l1 l2 : List CallD) (n : Int) (o1 o2 : Own) (M : Mem) (hl1 : l1.length ≤ maxLen) (hl2 : l2.length ≤ maxLen) (hx1 : ∀ x ∈ l1, x.n ≤ 9223372036854775807) (hx2 : ∀ x ∈ l2, x.n ≤ 9223372036854775807) :
    ACalls PC 7 [.list 3 (rowsC l1) o1, .list 3 (rowsC l2) o2, I n] M (fun v _ => v = B true) := by
  refine w_body hintB Try.func7 rfl rfl rfl rfl rfl rfl ?_
  simp (dsimp := false) (implicitDefEqProofs := false) []
  refine w_calls (C := PC) Try.call8 (awake_ok M) ?_
  rintro _ M1 rfl
  simp (dsimp := false) (implicitDefEqProofs := false) []
  refine w_calls (C := PC) Try.call15 (heavy_ok l1 20 o1 M1 hl1) ?_
  rintro _ M' ⟨hM', hv, rfl, -⟩
  clear hM'
  cases hv
  case true => simp (dsimp := false) (implicitDefEqProofs := false) []
  simp (dsimp := false) (implicitDefEqProofs := false) []
  refine w_calls (C := PC) Try.call15 (heavy_ok l2 10 o2 M' hl2) ?_
  rintro _ M' ⟨hM', hv, rfl, -⟩
  clear hM'
  cases hv
  case true => simp (dsimp := false) (implicitDefEqProofs := false) []
  simp (dsimp := false) (implicitDefEqProofs := false) []
  refine w_calls (C := PC) Try.call9 (new_ok _) ?_
  rintro _ M2 ⟨rfl, hM2⟩
  simp (dsimp := false) (implicitDefEqProofs := false) []
  refine w_calls (C := PC) Try.call16 (rnew_ok _) ?_
  rintro _ M3 ⟨rfl, hM3⟩
  have t := two_new M' _ rfl
  rw [← hM2, ← hM3] at t
  clear hM3 hM2
  generalize M'.length = b at t ⊢
  generalize M2.length = c at t ⊢
  simp (dsimp := false) (implicitDefEqProofs := false) []
  refine w_looped hintB (fun T M => T 0 = .list 3 (rowsC l1) o1 ∧ T 1 = .list 3 (rowsC l2) o2 ∧ T 2 = I n ∧ T 7 = .ptr b 0 ∧ T 8 = .ptr c 0 ∧ ∃ i : Nat, T 9 = I i ∧ i ≤ l1.length ∧ ∃ pv pw s, Two M b pv c pw s) (fun T _ => match T 9 with | .val (.int _ i) => l1.length - i.toNat | _ => 0) rfl ?_ ?_
  · exact ⟨by simp (dsimp := false) (implicitDefEqProofs := false) [], by simp (dsimp := false) (implicitDefEqProofs := false) [], by simp (dsimp := false) (implicitDefEqProofs := false) [], by simp (dsimp := false) (implicitDefEqProofs := false) [], by simp (dsimp := false) (implicitDefEqProofs := false) [], 0, by simp (dsimp := false) (implicitDefEqProofs := false) [], by omega, _, _, _, t⟩
  · rintro T M4 ⟨t0, t1, t2, t7, t8, i, t9, hi, pv, pw, s, h⟩
    by_cases hlt : i < l1.length
    · have e1 := rowsC_get hlt
      have e2 : (rowsC l1)[i]'(by simpa using hlt) = (l1[i]).cells := by simp [rowsC]
      have c3 : IntKind.i64.wrap ((i : Int) + 1) = ((i + 1 : Nat) : Int) := by rw [IntWalk.i64_in _ (by simp [maxLen] at hl1; omega)]; rfl
      simp (dsimp := false) (implicitDefEqProofs := false) [t0, t1, t2, t7, t8, t9, hlt, e1, e2]
      refine ⟨by simp [CallD.cells], ?_⟩
      rw [show List.take 3 (l1[i]).cells = (l1[i]).cells from rfl]
      refine w_calls (C := PC) Try.call17 (done_ok _ _ _ _ _ s h (l1[i]) (hx1 _ (List.getElem_mem hlt))) ?_
      rintro _ M5 ⟨rfl, pv5, pw5, h5, -⟩
      simp (dsimp := false) (implicitDefEqProofs := false) [t0, t1, t2, t7, t8, t9, c3]
      exact ⟨⟨i + 1, by simp, by omega, _, _, _, h5⟩, by omega⟩
    · simp (dsimp := false) (implicitDefEqProofs := false) [t0, t1, t2, t7, t8, t9, hlt]
      refine w_calls (C := PC) Try.call22 (sclone_ok _ _ _ s h.ok h.l) ?_
      rintro _ M5 ⟨pa, rfl, ha, hlen, hsame, hfam⟩
      have hc5 := (h.r.of_same hsame).1
      have h4 := four_new h ha hlen hsame hfam
      simp only [St.cells] at hc5 h4
      have hlast : ∀ o : AObj, (M5 ++ [o])[M5.length]? = some o := fun o => by simp
      simp (dsimp := false) (implicitDefEqProofs := false) [t8, loadAV_ptr hc5, allocAV, storeAV_ptr (hlast _)]
      generalize M5 ++ [AObj.cells [pw, I s.lasting, I s.root, I s.fuse, B s.down]] = M6 at h4 ⊢
      generalize M4.length = b' at h4 ⊢
      generalize M5.length = c' at h4 ⊢
      refine w_looped hintB (fun T M => T 1 = .list 3 (rowsC l2) o2 ∧ T 2 = I n ∧ T 7 = .ptr b 0 ∧ T 8 = .ptr c 0 ∧ T 10 = .ptr b' 0 ∧ T 11 = .ptr c' 0 ∧ ∃ i : Nat, T 12 = I i ∧ i ≤ l2.length ∧ ∃ qa qr s', Four M b pv c pw s b' qa c' qr s') (fun T _ => match T 12 with | .val (.int _ i) => l2.length - i.toNat | _ => 0) rfl ?_ ?_
      · exact ⟨by simp (dsimp := false) (implicitDefEqProofs := false) [t1], by simp (dsimp := false) (implicitDefEqProofs := false) [t2], by simp (dsimp := false) (implicitDefEqProofs := false) [t7], by simp (dsimp := false) (implicitDefEqProofs := false) [t8], by simp (dsimp := false) (implicitDefEqProofs := false) [], by simp (dsimp := false) (implicitDefEqProofs := false) [], 0, by simp (dsimp := false) (implicitDefEqProofs := false) [], by omega, _, _, _, h4⟩
      clear t0 t1 t2 t7 t8 t9 h4 hc5 hlast hsame hfam ha hi
      rintro T M6 ⟨t1, t2, t7, t8, t10, t11, i, t12, hi, qa, qr, s', h⟩
      by_cases hlt : i < l2.length
      · have e1 := rowsC_get hlt
        have e2 : (rowsC l2)[i]'(by simpa using hlt) = (l2[i]).cells := by simp [rowsC]
        have c3 : IntKind.i64.wrap ((i : Int) + 1) = ((i + 1 : Nat) : Int) := by rw [IntWalk.i64_in _ (by simp [maxLen] at hl2; omega)]; rfl
        simp (dsimp := false) (implicitDefEqProofs := false) [t1, t2, t7, t8, t10, t11, t12, hlt, e1, e2]
        refine ⟨by simp [CallD.cells], ?_⟩
        rw [show List.take 3 (l2[i]).cells = (l2[i]).cells from rfl]
        refine w_calls (C := PC) Try.call17 (done_ok _ _ _ _ _ s' h.y (l2[i]) (hx2 _ (List.getElem_mem hlt))) ?_
        rintro _ M7 ⟨rfl, qa5, qr5, h5, hfr⟩
        simp (dsimp := false) (implicitDefEqProofs := false) [t1, t2, t7, t8, t10, t11, t12, c3]
        exact ⟨⟨i + 1, by simp, by omega, _, _, _, h.step h5 hfr⟩, by omega⟩
      · simp (dsimp := false) (implicitDefEqProofs := false) [t1, t2, t7, t8, t10, t11, t12, hlt]
        refine w_calls (C := PC) Try.call20 (even_ok _ _ _ _ _ _ h.x n) ?_
        rintro _ _ ⟨rfl, rfl⟩
        simp (dsimp := false) (implicitDefEqProofs := false) [t1, t2, t7, t8, t10, t11, t12]
        refine w_calls (C := PC) Try.call20 (even_ok _ _ _ _ _ _ h.y n) ?_
        rintro _ _ ⟨rfl, rfl⟩
        simp (dsimp := false) (implicitDefEqProofs := false) [t1, t2, t7, t8, t10, t11, t12]
        refine w_calls (C := PC) Try.call14 (crash_ok _ _ _ 0 s h.x.ok h.x.l) ?_
        rintro _ M8 ⟨p8, rfl, a8, f8⟩
        have aa8 := h.y.l.step h.x.l h.aa f8
        have ar8 := h.y.r.step h.x.l h.ar f8
        have yl8 := h.y.l.keep h.aa f8
        have yr8 := h.y.r.keep h.ar f8
        simp (dsimp := false) (implicitDefEqProofs := false) [t1, t2, t7, t8, t10, t11, t12]
        refine w_calls (C := PC) Try.call12 (append_ok _ _ _ _ _ (mCrash_ok h.x.ok 0) a8) ?_
        rintro _ M9 ⟨p9, rfl, a9, f9⟩
        have y9 : Two M9 b' qa c' qr s' := ⟨yl8.keep aa8 f9, yr8.keep ar8 f9, h.y.sep, h.y.ok⟩
        simp (dsimp := false) (implicitDefEqProofs := false) [t1, t2, t7, t8, t10, t11, t12]
        refine w_calls (C := PC) Try.call20 (even_ok _ _ _ _ _ _ y9 n) ?_
        rintro _ _ ⟨rfl, rfl⟩
        simp (dsimp := false) (implicitDefEqProofs := false) [t1, t2, t7, t8, t10, t11, t12]
end Go.Abs
