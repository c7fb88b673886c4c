/- Slices up to the known length, and clear. -/
import Derived.Test.YtmpdkagfplajjaaGreatDoorG06
set_option linter.unusedVariables false
namespace Go.Abs
section
variable {C : Ctx} {G : Ghost} {M : Mem} {w : World}

def sliceMore (P : Program) (t : TypeId) (M : Mem) (x : AV) (lo hi mx : Option AV) : Option AV := match x with
  | .vref f g sz lo0 len => match hi, M[f]? with
    | some h, some (.vec _ _ _ _ hist) => match hist.lookup g with
      | some n => if lo0 ≤ n then match mx with
          | none => vsliceAV P t f g sz lo0 (n - lo0) lo (some h) none
          | some m => match elemOf? P t, mxIdx (n - lo0) (some m) with
            | some e, some (some q) => match szOf P e, sliceIdx q (some h) with
              | some _, some hh => match loIdx hh lo with
                | some _ => some .poison
                | none => none
              | _, _ => none
            | _, _ => none
        else none
      | none => none
    | _, _ => none
  | _ => none

theorem bounds_len (len len2 cap : Nat) (xlo : Option Value) (h : Value) (xmx : Option Value) : Instr.sliceBounds true len cap xlo (some h) xmx = Instr.sliceBounds true len2 cap xlo (some h) xmx := by
  unfold Instr.sliceBounds
  cases xmx <;> rfl
theorem sliceAt_len {P : Program} {t e : TypeId} (hu : P.underlying t = some (.slice e)) (a : Option Addr) (len len2 cap : Nat) (xlo : Option Value) (h : Value) (xmx : Option Value) (w : World) :
    (Instr.sliceAt t (.slice a len cap) xlo (some h) xmx).run P w = (Instr.sliceAt t (.slice a len2 cap) xlo (some h) xmx).run P w := by
  simp only [Instr.sliceAt, Instr.slice, Sem.run_bind, run_underlying hu, Result.andThen_ok, bounds_len len len2]

theorem sliceMore_sound (hi : Inv C G M w) {t : TypeId} {x : AV} {xv : Value} (hx : Rep G x xv) {lo hiO mx : Option AV} {xlo xhi xmx : Option Value} {v : AV}
    (hlo : ∀ a, lo = some a → ∃ x, xlo = some x ∧ Rep G a x) (hlo' : lo = none → xlo = none)
    (hhi : ∀ a, hiO = some a → ∃ x, xhi = some x ∧ Rep G a x) (hhi' : hiO = none → xhi = none)
    (hmx : ∀ a, mx = some a → ∃ x, xmx = some x ∧ Rep G a x) (hmx' : mx = none → xmx = none) (h : sliceMore C.P t M x lo hiO mx = some v) :
    ∃ u, (Instr.sliceAt t xv xlo xhi xmx).run C.P w = .ok u w ∧ Rep G v u := by
  unfold sliceMore at h
  split at h
  case h_2 => simp at h
  rename_i f g sz lo0 len
  split at h
  case h_2 => simp at h
  rename_i hA e1 s1 cs g1 hist hM
  split at h
  case h_2 => simp at h
  rename_i n hn
  split at h
  case isFalse => simp at h
  rename_i hle
  obtain ⟨hv, hxhi, hrh⟩ := hhi hA rfl
  subst hxhi
  have hx0 := hx
  simp only [Rep] at hx
  obtain ⟨hf, hg, a, a', cap, hd, hsp, hsp', rfl, hlc, hcm, ha'⟩ := hx
  obtain ⟨p0, p2, p3⟩ := hi.obj f _ hM
  obtain ⟨_, q0, b, o, cap', vs, q1, q2, _⟩ := p2 g n (lookup_mem hn)
  rw [q1] at hd
  simp only [Prod.mk.injEq, Option.some.injEq] at hd
  obtain ⟨rfl, rfl⟩ := hd
  split at h
  · have hx2 : Rep G (.vref f g sz lo0 (n - lo0)) (.slice (some a') (n - lo0) (cap' - lo0)) := by
      simp only [Rep]
      exact ⟨hf, hg, _, a', cap', q1, rfl, hsp', rfl, by omega, hcm, ha'⟩
    obtain ⟨u, h1, h2⟩ := vslice_sound (C := C) (w := w) hx2 hlo hlo' (hi := some hA) (fun a ha => by simp at ha; subst ha; exact ⟨hv, rfl, hrh⟩) (by simp) hmx hmx' h
    refine ⟨u, ?_, h2⟩
    have he : ∃ e, elemOf? C.P t = some e := by
      cases he : elemOf? C.P t with
      | none => unfold vsliceAV at h; rw [he] at h; simp [mxIdx] at h
      | some e => exact ⟨e, rfl⟩
    obtain ⟨e, he⟩ := he
    rw [sliceAt_len (elemOf_und he) _ len (n - lo0)]; exact h1
  · rename_i m
    split at h
    case h_2 => simp at h
    rename_i e q he hq
    split at h
    case h_2 => simp at h
    rename_i sz' hh hsz hhe
    split at h
    case h_2 => simp at h
    rename_i l hl
    simp only [Option.some.injEq] at h
    subst h
    obtain ⟨m', hrun, _⟩ := bounds_run (C := C) (w := w) (G := G) (len := n - lo0) (cap := cap' - lo0) (by omega) hlo hlo' (hi := some hA) (fun a ha => by simp at ha; subst ha; exact ⟨hv, rfl, hrh⟩) (by simp) hmx hmx' (m := some q) hq (by simpa using hhe) (by simp) hl
    refine ⟨.slice (if m' = l then some a' else (some a').map (·.add (l * sz'))) (hh - l) (m' - l), ?_, by simp [Rep]⟩
    rw [sliceAt_len (elemOf_und he) _ len (n - lo0)]
    simp only [Instr.sliceAt, Instr.slice, Sem.run_bind, run_underlying (elemOf_und he), Result.andThen_ok, hrun, run_szOf hsz, Sem.run_pure]

def clearAV (P : Program) (t : TypeId) (M : Mem) (x : AV) : Option (AV × Mem) := match x with
  | .vref f g sz lo len => match elemOf? P t with
    | some e => match zeroCells? P e, M[f]? with
      | some z, some (.vec ty sz2 cs g' hist) => match hist.lookup g with
        | some n => if z.length = sz ∧ sz2 = sz ∧ 0 < sz ∧ z.all (·.oneCell') ∧ lo + len ≤ n then
            if len = 0 then some (.tuple [], M) else
            some (.tuple [], M.set f (.vec ty sz (overwrite cs (lo * sz) (List.replicate len (z.map .val)).flatten) g' (keepHist sz g (lo * sz) hist)))
          else none
        | none => none
      | _, _ => none
    | none => none
  | _ => none

theorem clear_sound (hi : Inv C G M w) {t ty : TypeId} {x : AV} {xv : Value} (hx : Rep G x xv) {v : AV} {M' : Mem} (h : clearAV C.P t M x = some (v, M')) :
    ∃ r w', (Builtin.clear_ #[t] ty #[xv]).run C.P w = .ok r w' ∧ Inv C G M' w' ∧ Rep G v r ∧ Ext w w' := by
  unfold clearAV at h
  split at h
  case h_2 => simp at h
  rename_i f g sz lo len
  split at h
  case h_2 => simp at h
  rename_i e he
  split at h
  case h_2 => simp at h
  rename_i z ety sz2 cs g' hist hz hM
  split at h
  case h_2 => simp at h
  rename_i n hn
  split at h
  case isFalse => simp at h
  rename_i hc
  obtain ⟨hzl, rfl, hpos, hz1, hln⟩ := hc
  simp only [Rep] at hx
  obtain ⟨hf, hg, a, a', cap, hdr, hsp, hsp', rfl, hle, hcm, ha'⟩ := hx
  split at h
  · rename_i h0
    subst h0
    simp only [Option.some.injEq, Prod.mk.injEq] at h
    obtain ⟨rfl, rfl⟩ := h
    exact ⟨.tuple #[], w, by simp [Builtin.clear_, run_underlying (elemOf_und he)], hi, by simp [Rep, RepL], .refl _⟩
  · rename_i h0
    simp only [Option.some.injEq, Prod.mk.injEq] at h
    obtain ⟨rfl, rfl⟩ := h
    obtain ⟨zv, hv, hvc, hvr⟩ := zero_rep (P := C.P) hz G w
    have hr0 : ∀ n, RepL G (List.replicate n (z.map AV.val)).flatten (List.replicate n z).flatten := by
      intro n
      induction n with
      | zero => simp [RepL]
      | succ n ih => rw [List.replicate_succ, List.replicate_succ, List.flatten_cons, List.flatten_cons]; exact hvr.append ih
    have hlen : (List.replicate len (z.map AV.val)).flatten.length = len * sz2 := by simp [hzl]
    have hone : ∀ u ∈ (List.replicate len z).flatten, u.oneCell' = true := fun u hu => by
      obtain ⟨l, hl1, hl2⟩ := List.mem_flatten.1 hu
      have := (List.mem_replicate.1 hl1).2
      subst this
      exact List.all_eq_true.1 hz1 u hl2
    have ha := ha' (by
      obtain ⟨_, p2, _⟩ := hi.obj f _ hM
      obtain ⟨_, _, b, o, cap', vs, q1, q2, _⟩ := p2 g n (lookup_mem hn)
      rw [q1] at hdr
      simp only [Prod.mk.injEq] at hdr
      obtain ⟨_, rfl⟩ := hdr
      omega)
    have hb : lo * sz2 + (List.replicate len (z.map AV.val)).flatten.length ≤ n * sz2 := by
      rw [hlen, ← Nat.add_mul]; exact Nat.mul_le_mul_right _ (by omega)
    obtain ⟨a2, w', e2, hst, h2, h3⟩ := vset_sound hi (f := f) (g := g) (off := lo * sz2) (x := .pointer (some ⟨a.block, a.off + lo * sz2, none⟩)) (by simp only [Rep]; exact ⟨hf, hg, a, cap, hdr, rfl⟩) (hr0 len) hone hM hn hb
    simp only [Value.pointer.injEq, Option.some.injEq] at e2
    subst e2
    rw [← ha] at hst
    refine ⟨.tuple #[], w', ?_, h2, by simp [Rep, RepL], h3⟩
    have hzc : (Builtin.zeroCells zv.cells len).toList = (List.replicate len z).flatten := by
      have e : zv.cells = z.toArray := by apply Array.ext'; simpa using hvc
      have := zeros_rows z len sz2 hzl hpos
      rw [e]
      unfold Builtin.zeroCells
      have hs : z.toArray.size = sz2 := by simpa using hzl
      rw [hs] at this ⊢
      exact this
    cases len with
    | zero => exact absurd rfl h0
    | succ k => simp [Builtin.clear_, run_underlying (elemOf_und he), hv, hzc, hst]
end
end Go.Abs
