/- Contracts of package pagestore's functions that write. -/
import Derived.Test.YteillgpoonhdjaaPsA
set_option maxRecDepth 100000
set_option linter.unusedSimpArgs false
namespace Go.Abs
open Go.Proofs

structure St where
  pages : List ByteArray
  lasting : Int
  root : Int
  fuse : Int
  down : Bool

def St.cells (pv : AV) (s : St) : List AV := [pv, I s.lasting, I s.root, I s.fuse, B s.down]
structure St.ok (s : St) : Prop where
  len : s.pages.length ≤ 4096
  lo : 0 ≤ s.lasting
  hi : s.lasting ≤ s.pages.length
  f0 : -1 ≤ s.fuse
  f1 : s.fuse ≤ 9223372036854775807

def St.burn (s : St) : St := { s with fuse := if 0 < s.fuse then s.fuse - 1 else s.fuse }
def mAppend (s : St) (x : ByteArray) : (Int × Int) × St :=
  if s.down then ((0, 16), s) else if 16384 < (x.size : Int) then ((0, 1), s) else if 4096 ≤ (s.pages.length : Int) then ((0, 6), s)
  else if s.fuse = 0 then ((0, 16), { s with down := true }) else ((s.pages.length, 0), { s.burn with pages := s.pages ++ [x] })
def mSet (s : St) (n : Int) : Int × St :=
  if s.down then (16, s) else if ¬ (0 ≤ n ∧ n < s.pages.length) then (3, s)
  else if s.fuse = 0 then (16, { s with down := true }) else (0, { s.burn with root := n, lasting := s.pages.length })
def mCrash (s : St) (k : Int) : St :=
  let p := s.pages.take (s.lasting + min (max k 0) (s.pages.length - s.lasting)).toNat
  { pages := p, lasting := p.length, root := s.root, fuse := -1, down := false }
def mFail (s : St) (n : Int) : St := { s with fuse := max n (-1) }

def famOf : AV → Option Nat
  | .list _ _ (.fam f) => some f
  | _ => none

/-- what lies at box b: the state s, its pages in the slot's value pv -/
def At (M : Mem) (b : Nat) (pv : AV) (s : St) : Prop := M[b]? = some (.cells (s.cells pv)) ∧ Pg M pv s.pages
/-- what a call on box b may turn -/
structure Fr (M M' : Mem) (b : Nat) (pv pv' : AV) : Prop where
  len : M.length ≤ M'.length
  same : ∀ k, k < M.length → k ≠ b → famOf pv ≠ some k → M'[k]? = M[k]?
  fam : ∀ k, famOf pv' = some k → famOf pv = some k ∨ M.length ≤ k

/-- what a call on box b may turn, where it writes into no row that was there -/
structure FrN (M M' : Mem) (b : Nat) (pv pv' : AV) : Prop where
  len : M.length ≤ M'.length
  same : ∀ k, k < M.length → k ≠ b → M'[k]? = M[k]?
  fam : ∀ k, famOf pv' = some k → famOf pv = some k ∨ M.length ≤ k
theorem FrN.fr {M M' : Mem} {b : Nat} {pv pv' : AV} (h : FrN M M' b pv pv') : Fr M M' b pv pv' := ⟨h.len, fun k h1 h2 _ => h.same k h1 h2, h.fam⟩

theorem wrap_dec {f : Int} (h : 0 < f) (h1 : f ≤ 9223372036854775807) : IntKind.i64.wrap (f - 1) = f - 1 := IntWalk.i64_in _ (by omega)

section
variable (M : Mem) (b : Nat) (pv : AV) (l r f n : Int) (d : Bool) (ps : List ByteArray)
theorem burn_out (hb : M[b]? = some (.cells [pv, I l, I r, I 0, B d])) (clo : AV) : ACalls PC 24 [.ptr b 0, clo] M (fun v M' => v = I 16 ∧ M' = M.set b (.cells [pv, I l, I r, I 0, B true])) := by
  refine w_body hint0 Try.func24 rfl rfl rfl rfl rfl rfl ?_
  simp (dsimp := false) (implicitDefEqProofs := false) [loadAV_ptr hb, storeAV_ptr hb]
theorem burn_run (hb : M[b]? = some (.cells [pv, I l, I r, I f, B d])) (hf : f ≠ 0) (h1 : f ≤ 9223372036854775807) (g : FuncId) (cap : List AV) (Q : AV → Mem → Prop) (he : enters PC.P g)
    (hc : ACalls PC g cap (M.set b (.cells [pv, I l, I r, I (if 0 < f then f - 1 else f), B d])) Q) :
    ACalls PC 24 [.ptr b 0, .func (.func g) [] cap] M (fun v M' => v = I 0 ∧ ∃ x, Q x M') := by
  refine w_body hint0 Try.func24 rfl rfl rfl rfl rfl rfl ?_
  by_cases hp : 0 < f
  · rw [if_pos hp] at hc
    have e := wrap_dec hp h1
    simp (dsimp := false) (implicitDefEqProofs := false) [loadAV_ptr hb, storeAV_ptr hb, hf, hp, e]
    refine w_calls he hc ?_
    intro x M' hq
    simp (dsimp := false) (implicitDefEqProofs := false) []
    exact ⟨x, hq⟩
  · rw [if_neg hp] at hc
    have e : M.set b (.cells [pv, I l, I r, I f, B d]) = M := by
      have hlt := getElem?_lt hb
      rw [List.getElem?_eq_getElem hlt] at hb
      rw [← Option.some.inj hb]; exact List.set_getElem_self hlt
    rw [e] at hc
    simp (dsimp := false) (implicitDefEqProofs := false) [loadAV_ptr hb, storeAV_ptr hb, hf, hp]
    refine w_calls he hc ?_
    intro x M' hq
    simp (dsimp := false) (implicitDefEqProofs := false) []
    exact ⟨x, hq⟩

theorem setroot_clo (hb : M[b]? = some (.cells [pv, I l, I r, I f, B d])) (hp : Pg M pv ps) : ACalls PC 25 [.cptr [I n], .cptr [.ptr b 0]] M (fun v M' => v = .tuple [] ∧ M' = M.set b (.cells [pv, I ps.length, I n, I f, B d])) := by
  refine w_body hint0 Try.func25 rfl rfl rfl rfl rfl rfl ?_
  simp (dsimp := false) (implicitDefEqProofs := false) []
  refine w_drawn hint0 follows (fun k => if k = 6 then 1 else if k = 10 then 2 else if k = 13 then 2 else 0) rfl (by decide +kernel) ?_
  have hlt := getElem?_lt hb
  have h2 : (M.set b (.cells [pv, I l, I n, I f, B d]))[b]? = some (.cells [pv, I l, I n, I f, B d]) := by simp [hlt]
  simp (dsimp := false) (implicitDefEqProofs := false) [loadAV_ptr hb, storeAV_ptr hb, storeAV_ptr h2, hp.len]

theorem Pg.set (hb : M[b]? = some (.cells [pv, I l, I r, I f, B d])) (hp : Pg M pv ps) (cs : List AV) : Pg (M.set b (.cells cs)) pv ps := by
  rcases hp with h | ⟨fm, h1, h2⟩
  · exact .inl h
  · refine .inr ⟨fm, h1, ?_⟩
    have hne : b ≠ fm := by intro e; subst e; rw [hb] at h2; simp at h2
    simpa [List.getElem?_set, hne] using h2

theorem setroot_ok (s : St) (hs : s.ok) (ha : At M b pv s) : ACalls PC 11 [.ptr b 0, I n] M (fun v M' => v = I (mSet s n).1 ∧ M' = M.set b (.cells ((mSet s n).2.cells pv))) := by
  obtain ⟨hb, hp⟩ := ha
  have hlt := getElem?_lt hb
  have hself : M.set b (.cells (s.cells pv)) = M := by
    rw [List.getElem?_eq_getElem hlt] at hb
    rw [← Option.some.inj hb]; exact List.set_getElem_self hlt
  obtain ⟨pages, lasting, root, fuse, down⟩ := s
  simp only [St.cells] at hb hp hself
  refine w_body hintB Try.func11 rfl rfl rfl rfl rfl rfl ?_
  cases down
  · simp (dsimp := false) (implicitDefEqProofs := false) [loadAV_ptr hb]
    refine w_calls (C := PC) Try.call23 (there_ok M b pv lasting root fuse n false pages hb hp) ?_
    rintro _ _ ⟨rfl, rfl⟩
    by_cases hc : 0 ≤ n ∧ n < pages.length
    · simp (dsimp := false) (implicitDefEqProofs := false) [hc]
      by_cases hf : fuse = 0
      · subst hf
        refine w_calls (C := PC) Try.call24 (burn_out _ b pv lasting root false hb _) ?_
        rintro _ _ ⟨rfl, rfl⟩
        simp (dsimp := false) (implicitDefEqProofs := false) [mSet, hc, St.cells]
      · refine w_calls (C := PC) Try.call24 (burn_run _ b pv lasting root fuse false hb hf hs.f1 25 _ _ Try.call25 (setroot_clo _ b pv lasting root _ n false pages (by simp [hlt]; rfl) (Pg.set _ b pv lasting root fuse false pages hb hp _))) ?_
        rintro _ _ ⟨rfl, x, rfl, rfl⟩
        simp (dsimp := false) (implicitDefEqProofs := false) [mSet, hc, hf, St.cells, St.burn]
    · simp (dsimp := false) (implicitDefEqProofs := false) [hc, mSet, St.cells, hself]
  · simp (dsimp := false) (implicitDefEqProofs := false) [loadAV_ptr hb, mSet, St.cells, hself]

theorem append_clo (x : ByteArray) (nb : Nat) (w : AV) (hb : M[b]? = some (.cells [pv, I l, I r, I f, B d])) (hn : M[nb]? = some (.cells [w])) (hne : b ≠ nb) (hp : Pg M pv ps) (hlen : ps.length ≤ 4096) :
    ACalls PC 26 [.cptr [.ptr b 0], .ptr nb 0, .cptr [S x]] M (fun v M' => ∃ pv', v = .tuple [] ∧ M'[b]? = some (.cells [pv', I l, I r, I f, B d]) ∧ M'[nb]? = some (.cells [I ps.length]) ∧ Pg M' pv' (ps ++ [x]) ∧ M.length ≤ M'.length ∧
      (∀ k, k < M.length → k ≠ b → k ≠ nb → famOf pv ≠ some k → M'[k]? = M[k]?) ∧ ∀ k, famOf pv' = some k → famOf pv = some k ∨ M.length ≤ k) := by
  refine w_body hintB Try.func26 rfl rfl rfl rfl rfl rfl ?_
  have hlt := getElem?_lt hb
  have hnlt := getElem?_lt hn
  have hb1 : (M.set nb (.cells [I ps.length]))[b]? = some (.cells [pv, I l, I r, I f, B d]) := by simp [List.getElem?_set, Ne.symm hne, hb]
  simp (dsimp := false) (implicitDefEqProofs := false) [loadAV_ptr hb, storeAV_ptr hn, hp.len]
  refine w_drawn hintB follows (fun k => if k = 4 then 1 else if k = 7 then 2 else if k = 10 then 2 else 0) rfl (by decide +kernel) ?_
  simp (dsimp := false) (implicitDefEqProofs := false) [loadAV_ptr hb1, buildSliceAV, rowsGo]
  rcases hp with ⟨rfl, rfl⟩ | ⟨fm, rfl, hfm⟩
  · refine w_append (e := 9) (sz := 1) (bytes := 16) TryTypes.elem22 TryTypes.src22 TryTypes.eok9 trivial rfl (by simp) ?_
    have hb2 : ((M.set nb (.cells [I 0])) ++ [.fam 1 1])[b]? = some (.cells [.val (.slice none 0 0), I l, I r, I f, B d]) := by
      rw [List.getElem?_append_left (by simpa using hlt)]; simpa using hb1
    simp (dsimp := false) (implicitDefEqProofs := false) [appendAV, storeAV_ptr hb2]
    refine ⟨.list 1 [[S x]] (.fam M.length), ?_, ?_, .inr ⟨M.length, by simp [rowsS], ?_⟩, fun k hk h1 h2 _ => ?_, fun k hk => by simp [famOf] at hk; omega⟩
    · rw [List.getElem?_set_self (by simp; omega)]
    · simp [List.getElem?_set, List.getElem?_append, hne, hnlt]
    · have : b ≠ M.length := by omega
      simp [List.getElem?_set, this]
    · simp [List.getElem?_set, List.getElem?_append, Ne.symm h1, Ne.symm h2, hk]
  · refine w_append (e := 9) (sz := 1) (bytes := 16) TryTypes.elem22 TryTypes.src22 TryTypes.eok9 rfl rfl (by simp; omega) ?_
    have hfn : fm ≠ nb := by intro e; subst e; rw [hn] at hfm; simp at hfm
    have hfb : fm ≠ b := by intro e; subst e; rw [hb] at hfm; simp at hfm
    have hfm1 : (M.set nb (.cells [I ps.length]))[fm]? = some (.fam ps.length 1) := by simp [List.getElem?_set, Ne.symm hfn, hfm]
    have hb2 : ((M.set nb (.cells [I ps.length])).set fm (.fam (ps.length + 1) 1))[b]? = some (.cells [.list 1 (rowsS ps) (.fam fm), I l, I r, I f, B d]) := by
      rw [List.getElem?_set, if_neg hfb]; exact hb1
    simp (dsimp := false) (implicitDefEqProofs := false) [appendAV, hfm1, storeAV_ptr hb2]
    have hflt := getElem?_lt hfm
    refine ⟨.list 1 (rowsS ps ++ [[S x]]) (.fam fm), ?_, ?_, .inr ⟨fm, by simp [rowsS], ?_⟩, fun k hk h1 h2 h3 => ?_, fun k hk => by simp [famOf] at hk ⊢; exact .inl hk⟩
    · simp [List.getElem?_set, hlt]
    · simp [List.getElem?_set, hne, hfn, hnlt]
    · simp [List.getElem?_set, Ne.symm hfb, hflt]
    · have h3' : fm ≠ k := fun e => h3 (by simp [famOf, e])
      simp [List.getElem?_set, Ne.symm h1, Ne.symm h2, h3']

theorem append_ok (x : ByteArray) (s : St) (hs : s.ok) (ha : At M b pv s) : ACalls PC 12 [.ptr b 0, S x] M (fun v M' => ∃ pv', v = .tuple [I (mAppend s x).1.1, I (mAppend s x).1.2] ∧ At M' b pv' (mAppend s x).2 ∧ Fr M M' b pv pv') := by
  obtain ⟨hb, hp⟩ := ha
  have hlt := getElem?_lt hb
  have frefl : Fr M M b pv pv := ⟨Nat.le_refl _, fun _ _ _ _ => rfl, fun _ h => .inl h⟩
  have hAt : At M b pv s := ⟨hb, hp⟩
  obtain ⟨pages, lasting, root, fuse, down⟩ := s
  simp only [St.cells] at hb hp
  refine w_body hintB Try.func12 rfl rfl rfl rfl rfl rfl ?_
  cases down
  · simp (dsimp := false) (implicitDefEqProofs := false) [loadAV_ptr hb]
    by_cases h1 : 16384 < (x.size : Int)
    · simp (dsimp := false) (implicitDefEqProofs := false) [h1, mAppend]
      exact ⟨pv, hAt, frefl⟩
    · simp (dsimp := false) (implicitDefEqProofs := false) [h1, loadAV_ptr hb, hp.len]
      by_cases h2 : 4096 ≤ (pages.length : Int)
      · simp (dsimp := false) (implicitDefEqProofs := false) [h2, h1, mAppend]
        exact ⟨pv, hAt, frefl⟩
      · have hnb : b ≠ M.length := by omega
        have hb1 : (M ++ [.cells [I 0]])[b]? = some (.cells [pv, I lasting, I root, I fuse, B false]) := by rw [List.getElem?_append_left hlt]; exact hb
        have hn1 : (M ++ [AObj.cells [I 0]])[M.length]? = some (.cells [I 0]) := by simp
        simp (dsimp := false) (implicitDefEqProofs := false) [h2, h1, allocAV, storeAV_ptr hn1]
        by_cases hf : fuse = 0
        · subst hf
          refine w_calls (C := PC) Try.call24 (burn_out _ b pv lasting root false (by simpa using hb1) _) ?_
          rintro _ _ ⟨rfl, rfl⟩
          have hfr : ∀ k, k < M.length → k ≠ b → ((M ++ [AObj.cells [I 0]]).set b (.cells [pv, I lasting, I root, I 0, B true]))[k]? = M[k]? := by
            intro k hk hkb
            rw [List.getElem?_set, if_neg (Ne.symm hkb), List.getElem?_append_left hk]
          have hn2 : ((M ++ [AObj.cells [I 0]]).set b (.cells [pv, I lasting, I root, I 0, B true]))[M.length]? = some (.cells [I 0]) := by
            rw [List.getElem?_set, if_neg hnb]; simp
          simp (dsimp := false) (implicitDefEqProofs := false) [mAppend, h1, h2, loadAV_ptr hn2]
          refine ⟨pv, ⟨by rw [List.getElem?_set_self (by simp; omega)]; rfl, ?_⟩, by simp, fun k hk h3 _ => hfr k hk h3, fun k hk => .inl hk⟩
          rcases hp with h | ⟨fm, q1, q2⟩
          · exact .inl h
          · have hfb : fm ≠ b := by intro e; subst e; rw [hb] at q2; simp at q2
            exact .inr ⟨fm, q1, by rw [hfr fm (getElem?_lt q2) hfb]; exact q2⟩
        · have hclo := append_clo ((M ++ [AObj.cells [I 0]]).set b (.cells [pv, I lasting, I root, I (if 0 < fuse then fuse - 1 else fuse), B false])) b pv lasting root (if 0 < fuse then fuse - 1 else fuse) false pages x M.length (I 0)
            (by rw [List.getElem?_set_self (by simp; omega)]) (by rw [List.getElem?_set, if_neg hnb]; simp) hnb (by
              rcases hp with h | ⟨fm, q1, q2⟩
              · exact .inl h
              · have hfb : fm ≠ b := by intro e; subst e; rw [hb] at q2; simp at q2
                exact .inr ⟨fm, q1, by rw [List.getElem?_set, if_neg (Ne.symm hfb), List.getElem?_append_left (getElem?_lt q2)]; exact q2⟩) hs.len
          refine w_calls (C := PC) Try.call24 (burn_run _ b pv lasting root fuse false hb1 hf hs.f1 26 _ _ Try.call26 hclo) ?_
          rintro _ M2 ⟨rfl, y, pv', rfl, q1, q2, q3, q4, q5, q6⟩
          simp (dsimp := false) (implicitDefEqProofs := false) [mAppend, h1, h2, hf, loadAV_ptr q2]
          simp at q4
          refine ⟨pv', ⟨?_, q3⟩, by omega, fun k hk h3 h4 => ?_, fun k hk => ?_⟩
          · rw [q1]; rfl
          · rw [q5 k (by simp; omega) h3 (by omega) h4, List.getElem?_set, if_neg (Ne.symm h3), List.getElem?_append_left hk]
          · rcases q6 k hk with h | h
            · exact .inl h
            · right; simp at h; omega
  · simp (dsimp := false) (implicitDefEqProofs := false) [loadAV_ptr hb, mAppend]
    exact ⟨pv, hAt, frefl⟩
end
end Go.Abs
