/- Operations that turn no mutable object: soundness. -/
import Derived.Test.YteillgpoonhdjaaAbsH
set_option linter.unusedVariables false
namespace Go.Abs

theorem run_v {P : Program} {s : Sem Value} {w w' : World} {v : Value} (h : s.run P w = .ok v w') : (do pure (.value (← s)) : Sem Next).run P w = .ok (.value v) w' := by
  simp only [Sem.run_bind, h, Result.andThen_ok, Sem.run_pure]

theorem szOf_some {P : Program} {t : TypeId} {n : Nat} (h : szOf P t = some n) : ∃ i, P.info? t = some i ∧ i.size = n := by
  unfold szOf at h
  cases hi : P.info? t with
  | none => simp [hi] at h
  | some i => simp [hi] at h; exact ⟨i, rfl, h⟩

theorem offOf_run {P : Program} {t : TypeId} {f k : Nat} (h : offOf P t f = some k) (a : Addr) (w : World) : (Instr.fieldAt t (.pointer (some a)) f).run P w = .ok (.pointer (some (a.add k))) w := by
  unfold offOf at h
  split at h
  case h_2 => simp at h
  rename_i fs hu
  split at h
  case h_2 => simp at h
  rename_i x hf
  cases hs : szOf P x.type with
  | none => simp [hs] at h
  | some n =>
    cases n with
    | zero => simp [hs] at h
    | succ n =>
      simp [hs] at h
      subst h
      simp [Instr.fieldAt, run_underlying hu, hf, Instr.sureAddr, fieldPlace, run_szOf hs]

theorem sliceIdx_run {P : Program} {G : Ghost} {len n : Nat} {v : AV} {x : Value} (hr : Rep G v x) (h : sliceIdx len (some v) = some n) (code : BoundsCode) (w : World) : (Instr.sliceBound x len code).run P w = .ok n w ∧ n ≤ len := by
  unfold sliceIdx at h
  split at h
  · rename_i h'; simp at h'
  · rename_i k i h'
    simp at h'
    subst h'
    simp only [Rep] at hr
    subst hr
    split at h
    · rename_i hc
      simp at h
      subst h
      exact ⟨by simp [Instr.sliceBound, asIntOf, hc], by omega⟩
    · simp at h
  · simp at h

theorem sliceIdx_run' {P : Program} {G : Ghost} {len n y : Nat} {v : AV} {x : Value} (hr : Rep G v x) (h : sliceIdx len (some v) = some n) (hy : len ≤ y) (code : BoundsCode) (w : World) : (Instr.sliceBound x y code).run P w = .ok n w ∧ n ≤ len := by
  unfold sliceIdx at h
  split at h
  · rename_i h'; simp at h'
  · rename_i k i h'
    simp at h'
    subst h'
    simp only [Rep] at hr
    subst hr
    split at h
    · rename_i hc
      simp at h
      subst h
      have hc' : 0 ≤ i ∧ i ≤ (y : Int) := ⟨hc.1, by omega⟩
      exact ⟨by simp [Instr.sliceBound, asIntOf, hc'], by omega⟩
    · simp at h
  · simp at h

section
variable {C : Ctx} {G : Ghost} {M : Mem} {w : World}

theorem slice_list_sound {sz : Nat} {rows : List (List AV)} {own : Own} {xv : Value} (hx : Rep G (.list sz rows own) xv) {t : TypeId} {lo hi mx : Option AV} {xlo xhi xmx : Option Value} {v : AV}
    (hlo : ∀ a, lo = some a → ∃ x, xlo = some x ∧ Rep G a x) (hlo' : lo = none → xlo = none)
    (hhi : ∀ a, hi = some a → ∃ x, xhi = some x ∧ Rep G a x) (hhi' : hi = none → xhi = none)
    (hmx : ∀ a, mx = some a → ∃ x, xmx = some x ∧ Rep G a x) (hmx' : mx = none → xmx = none) (h : sliceListAV C.P t sz rows own lo hi mx = some v) :
    ∃ u, (Instr.sliceAt t xv xlo xhi xmx).run C.P w = .ok u w ∧ Rep G v u := by
  simp only [sliceListAV] at h
  split at h
  case h_2 => simp at h
  rename_i m e hm he
  split at h
  case isFalse => simp at h
  rename_i hsz
  split at h
  case h_2 => simp at h
  rename_i hh hhe hb
  split at h
  case h_2 => simp at h
  rename_i l hl
  simp at h
  subst h
  simp only [Rep] at hx
  obtain ⟨base, cap, rfl, hlc, hcm, hbase, hown⟩ := hx
  -- the bounds
  have hbounds : ∃ m', (Instr.sliceBounds true rows.length cap xlo xhi xmx).run C.P w = .ok (l, hh, m') w ∧ l ≤ hh ∧ hh ≤ rows.length ∧ hh ≤ m' ∧ m' ≤ cap ∧ (∀ q, m = some q → m' = q) ∧ (m = none → m' = cap) := by
    unfold Instr.sliceBounds
    have hlow : ∀ (code : BoundsCode), l ≤ hh ∧ (lo = none → l = 0) ∧ ∀ x, xlo = some x → (Instr.sliceBound x hh code).run C.P w = .ok l w := by
      intro code
      cases lo with
      | none => simp at hl; subst hl; exact ⟨Nat.zero_le _, fun _ => rfl, fun x hx => by rw [hlo' rfl] at hx; simp at hx⟩
      | some a =>
        obtain ⟨x, hx, hr⟩ := hlo a rfl
        have := sliceIdx_run (P := C.P) hr hl code w
        exact ⟨this.2, fun h => by simp at h, fun x' hx' => by rw [hx] at hx'; simp at hx'; subst hx'; exact this.1⟩
    cases mx with
    | none =>
      simp only [Option.some.injEq] at hm
      subst hm
      rw [hmx' rfl]
      simp only [Option.getD_none] at hhe
      cases hi with
      | none =>
        rw [hhi' rfl]
        simp [sliceIdx] at hhe
        subst hhe
        obtain ⟨h1, h2, h3⟩ := hlow .sliceB
        refine ⟨cap, ?_, h1, Nat.le_refl _, hlc, Nat.le_refl _, by simp, by simp⟩
        cases xlo with
        | none => have : lo = none := by
                    cases lo with
                    | none => rfl
                    | some a => obtain ⟨x, hx, _⟩ := hlo a rfl; simp at hx
                  simp [h2 this]
        | some x => simp [h3 x rfl]
      | some b =>
        obtain ⟨y, rfl, hy⟩ := hhi b rfl
        have hy' := sliceIdx_run' (P := C.P) hy hhe hlc .sliceAcap w
        obtain ⟨h1, h2, h3⟩ := hlow .sliceB
        refine ⟨cap, ?_, h1, hy'.2, by omega, Nat.le_refl _, by simp, by simp⟩
        cases xlo with
        | none => have : lo = none := by
                    cases lo with
                    | none => rfl
                    | some a => obtain ⟨x, hx, _⟩ := hlo a rfl; simp at hx
                  simp [h2 this, hy'.1]
        | some x => simp [h3 x rfl, hy'.1]
    | some q =>
      obtain ⟨z, rfl, hz⟩ := hmx q rfl
      simp only [Option.map_eq_some_iff] at hm
      obtain ⟨mm, hmm, rfl⟩ := hm
      have hz' := sliceIdx_run' (P := C.P) hz hmm hlc .slice3Acap w
      simp only [Option.getD_some] at hhe
      cases hi with
      | none => simp at hb
      | some b =>
        obtain ⟨y, rfl, hy⟩ := hhi b rfl
        have hy' := sliceIdx_run (P := C.P) hy hhe .slice3B w
        obtain ⟨h1, h2, h3⟩ := hlow .slice3C
        refine ⟨mm, ?_, h1, by omega, hy'.2, by omega, by simp, by simp⟩
        cases xlo with
        | none => have : lo = none := by
                    cases lo with
                    | none => rfl
                    | some a => obtain ⟨x, hx, _⟩ := hlo a rfl; simp at hx
                  simp [h2 this, hy'.1, hz'.1]
        | some x => simp [h3 x rfl, hy'.1, hz'.1]
  obtain ⟨m', hrun, q1, q2, q3, q4, q5, q6⟩ := hbounds
  refine ⟨.slice (if m' = l then base else base.map (·.add (l * sz))) (hh - l) (m' - l), ?_, ?_⟩
  · simp [Instr.sliceAt, Instr.slice, run_underlying (elemOf_und he), hrun, run_szOf hsz]
  · refine rep_list (by simp; omega) (by simp; omega) (by omega) ?_ ?_
    · cases base with
      | none =>
        obtain ⟨rfl, rfl⟩ := hbase
        have e0 : (if m' = l then (none : Option Addr) else Option.map (fun x : Addr => x.add (l * sz)) none) = none := by split <;> rfl
        rw [e0]
        exact ⟨by simp, by omega⟩
      | some a =>
        obtain ⟨hsp, hrows⟩ := hbase
        by_cases e1 : m' = l
        · rw [if_pos e1]
          refine ⟨hsp, ?_⟩
          have : (rows.take hh).drop l = [] := by
            apply List.eq_nil_of_length_eq_zero
            simp; omega
          rw [this]; simp [RepRows]
        · rw [if_neg e1]
          have ea : a.add (l * sz) = ⟨a.block, a.off + l * sz, none⟩ := by
            have ea : a = ⟨a.block, a.off, none⟩ := by cases a; simp_all
            rw [ea, Addr.add_lit]
          simp only [Option.map_some, ea]
          exact ⟨rfl, (hrows.take hh).drop l⟩
    · have hlen : ((rows.take hh).drop l).length = hh - l := by simp; omega
      rw [hlen]
      unfold sliceOwn
      cases m with
      | some mm =>
        have := q5 mm rfl
        simp only
        split
        · simp only [RepOwn]; omega
        · trivial
      | none =>
        have := q6 rfl
        subst this
        simp only
        cases own with
        | no => trivial
        | full =>
          simp only [RepOwn] at hown
          simp only
          split
          · simp only [RepOwn]; omega
          · trivial
        | fam f =>
          simp only
          split
          · rename_i hc
            obtain ⟨rfl, rfl⟩ := hc
            simp only [RepOwn, Nat.sub_zero] at hown ⊢
            have e2 : (if m' = 0 then base else Option.map (fun x => x.add (0 * sz)) base) = base := by
              split
              · rfl
              · cases base with
                | none => rfl
                | some a => simp [Addr.add]
            rw [e2]; exact hown
          · trivial

theorem slice_string_sound {s : ByteArray} {t : TypeId} {lo hi : Option AV} {xlo xhi : Option Value} {v : AV} (hlo : ∀ a, lo = some a → ∃ x, xlo = some x ∧ Rep G a x) (hlo' : lo = none → xlo = none)
    (hhi : ∀ a, hi = some a → ∃ x, xhi = some x ∧ Rep G a x) (hhi' : hi = none → xhi = none) (h : sliceAV C.P t (.val (.string s)) lo hi none = some v) :
    ∃ u, (Instr.sliceAt t (.string s) xlo xhi none).run C.P w = .ok u w ∧ Rep G v u := by
  simp only [sliceAV] at h
  split at h
  case h_2 => simp at h
  rename_i h' _ hu hh
  split at h
  case h_2 => simp at h
  rename_i l hl
  simp at h
  subst h
  refine ⟨.string (s.extract l h'), ?_, by simp [Rep]⟩
  have e1 : (Instr.sliceBounds false s.size s.size xlo xhi none).run C.P w = .ok (l, h', s.size) w := by
    unfold Instr.sliceBounds
    cases hi with
    | none =>
      rw [hhi' rfl]
      simp [sliceIdx] at hh
      subst hh
      cases lo with
      | none => rw [hlo' rfl]; simp at hl; subst hl; simp
      | some a =>
        obtain ⟨x, rfl, hx⟩ := hlo a rfl
        have := (sliceIdx_run (P := C.P) hx hl .sliceB w).1
        simp [this]
    | some b =>
      obtain ⟨y, rfl, hy⟩ := hhi b rfl
      have hy' := (sliceIdx_run (P := C.P) hy hh .sliceAlen w).1
      cases lo with
      | none => rw [hlo' rfl]; simp at hl; subst hl; simp [hy']
      | some a =>
        obtain ⟨x, rfl, hx⟩ := hlo a rfl
        have := (sliceIdx_run (P := C.P) hx hl .sliceB w).1
        simp [hy', this]
  simp [Instr.sliceAt, Instr.slice, run_underlying hu, e1]
end
end Go.Abs
