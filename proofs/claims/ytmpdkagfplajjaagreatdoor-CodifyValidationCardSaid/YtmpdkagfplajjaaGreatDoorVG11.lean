/- The texts AbsV3, AbsV4: what each proves stands at its head. -/
import Derived.Test.YtmpdkagfplajjaaGreatDoorVG10
section
/- The evaluator: code and calls. -/
set_option linter.unusedVariables false
namespace Go.Abs

def nextSlot (f : Foot) (slot : Nat) : Nat := match f.cls with
  | 4 => slot + 1
  | _ => slot
theorem nextSlot_eq (f : Foot) (slot : Nat) : nextSlot f slot = if f.cls = 4 then slot + 1 else slot := by
  unfold nextSlot
  split
  · rename_i h; rw [if_pos h]
  · rename_i h; rw [if_neg (fun e => h e)]
def xDraw (call : CallF) (C : Ctx) (ops : Array Oper) : List Oper → BT → Mem → Nat → Option (BT × Mem × List Foot)
  | [], t, M, _ => some (t, M, [])
  | o :: rest, t, M, slot => match xGuard ops o t with
    | some true => match xDrawOp call C o (t.fn.ev C) M slot with
      | some (f, v, M') => match t.set o.dst v with
        | some t' => match xDraw call C ops rest t' M' (nextSlot f slot) with
          | some (t2, M2, fs) => some (t2, M2, f :: fs)
          | none => none
        | none => none
      | none => none
    | some false => match t.set o.dst (.val undef) with
      | some t' => match xDraw call C ops rest t' M slot with
        | some (t2, M2, fs) => some (t2, M2, F0 :: fs)
        | none => none
      | none => none
    | none => none
def Fits (L : Plan) (k : Nat) (l : List Oper) (fs : List Foot) : Prop := ∀ j, L.rob (k + j) = (footOf fs j).rob ∧ (∀ i, L.aff i (k + j) = (memN (L.rob i) (footOf fs j).ws || Nat.ble (footOf fs j).len (L.rob i))) ∧
  ((L.cls (k + j) = (footOf fs j).cls ∧ L.slot (k + j) = (footOf fs j).slot) ∨ (L.cls (k + j) = 5 ∧ (footOf fs j).cls = 2 ∧ (footOf fs j).ws = [L.slot (k + j)] ∧ ∃ o, l[j]? = some o ∧ isStore o = true))
theorem fits_plan (l : List Oper) (fs : List Foot) : Fits (planOf fs) 0 l fs := fun j => by simp [planOf]
theorem promote_at : ∀ (l : List Oper) (fs : List Foot) (j : Nat), footOf (promote l fs) j = footOf fs j ∨ ∃ (o : Oper) (rob sl r len : Nat), l[j]? = some o ∧ isStore o = true ∧ footOf fs j = ⟨2, rob, sl, [r], len⟩ ∧ footOf (promote l fs) j = ⟨5, rob, r, [r], len⟩
  | [], fs, j => .inl rfl
  | o :: l, [], j => .inl rfl
  | o :: l, f :: fs, j => by
    cases j with
    | zero =>
      simp only [footOf, promote, List.getD_cons_zero]
      unfold promo1
      split
      · rename_i rob sl r len hs
        exact .inr ⟨o, rob, sl, r, len, rfl, hs, rfl, rfl⟩
      · exact .inl rfl
    | succ j =>
      have := promote_at l fs j
      simpa [footOf, promote] using this
theorem fits_promo (l : List Oper) (fs : List Foot) : Fits (planOf (promote l fs)) 0 l fs := fun j => by
  have key : ∀ i, (footOf (promote l fs) i).rob = (footOf fs i).rob ∧ (footOf (promote l fs) i).ws = (footOf fs i).ws ∧ (footOf (promote l fs) i).len = (footOf fs i).len := fun i => by
    rcases promote_at l fs i with h | ⟨o, rob, sl, r, len, _, _, h1, h2⟩
    · rw [h]; exact ⟨rfl, rfl, rfl⟩
    · rw [h1, h2]; exact ⟨rfl, rfl, rfl⟩
  simp only [planOf, Nat.zero_add]
  refine ⟨(key j).1, fun i => by rw [(key j).2.1, (key j).2.2], ?_⟩
  rcases promote_at l fs j with h | ⟨o, rob, sl, r, len, h0, hs, h1, h2⟩
  · rw [h]; exact .inl ⟨rfl, rfl⟩
  · rw [h1, h2]; exact .inr ⟨rfl, rfl, rfl, o, h0, hs⟩
theorem Fits.tail {L : Plan} {k : Nat} {o : Oper} {l : List Oper} {f : Foot} {fs : List Foot} (h : Fits L k (o :: l) (f :: fs)) : Fits L (k + 1) l fs := fun j => by
  have := h (j + 1)
  rw [show k + (j + 1) = k + 1 + j from by omega] at this
  simpa [footOf] using this
def wsFeet (base : Nat) : List Foot → List Nat → List Nat
  | [], ws => ws
  | f :: fs, ws => wsFeet base fs (wsAdd base f.ws ws)
def allocsOf : List Oper → Nat
  | [] => 0
  | o :: l => match isAlloc o with
    | true => allocsOf l + 1
    | false => allocsOf l

theorem xDraw_ok {call : CallF} {C : Ctx} (hc : CallOK C call) {base R : Nat} (hbR : base ≤ R) {ops : Array Oper} : ∀ (l : List Oper) (t : BT) (M : Mem) (slot : Nat) (t' : BT) (M' : Mem) (fs : List Foot), xDraw call C ops l t M slot = some (t', M', fs) → R ≤ slot → R ≤ M.length →
    (∀ L k, Fits L k l fs → L.fl = true → drawRun C HX ops L k l t.fn M (fun T m => T = t'.fn ∧ m = M')) ∧ M.length ≤ M'.length ∧ (∀ s, s < R → M[s]? = some blank → M'[s]? = some blank) ∧ (∀ M0 ws, Old base ws M0 M → Old base (wsFeet base fs ws) M0 M') ∧
    (∀ (s : Nat) (X : AObj), s < R → M[s]? = some blank → xDraw call C ops l t (M.set s X) slot = some (t', M'.set s X, fs)) ∧ (∀ j, (footOf fs j).cls = 4 → slot ≤ (footOf fs j).slot ∧ (footOf fs j).slot < slot + allocsOf l) ∧ (∀ j i, j < i → (footOf fs j).cls = 4 → (footOf fs i).cls = 4 → (footOf fs j).slot ≠ (footOf fs i).slot) ∧ (∀ j, (footOf fs j).cls ≠ 5)
  | [], t, M, slot, t', M', fs, h, hs, hM => by
    simp only [xDraw, Option.some.injEq, Prod.mk.injEq] at h
    obtain ⟨rfl, rfl, rfl⟩ := h
    exact ⟨fun _ _ _ _ => ⟨rfl, rfl⟩, Nat.le_refl _, fun _ _ h => h, fun _ _ h => h, fun _ _ _ _ => rfl, fun j hj => by simp [footOf, F0] at hj, fun j i _ hj => by simp [footOf, F0] at hj, fun j => by simp [footOf, F0]⟩
  | o :: rest, t, M, slot, t', M', fs, h, hs, hM => by
    simp only [xDraw] at h
    split at h
    · rename_i hgd
      split at h
      case h_2 => simp at h
      rename_i f v M1 ho
      split at h
      case h_2 => simp at h
      rename_i t1 ht
      split at h
      case h_2 => simp at h
      rename_i t2 M2 fs1 hr
      simp only [Option.some.injEq, Prod.mk.injEq] at h
      obtain ⟨rfl, rfl, rfl⟩ := h
      have hD := xDrawOp_ok hc hs ho
      have hns : slot ≤ nextSlot f slot := by rw [nextSlot_eq]; split <;> omega
      obtain ⟨i1, i2, i3, i4, i5, i6, i7, i8⟩ := xDraw_ok hc hbR rest t1 M1 (nextSlot f slot) t2 M2 fs1 hr (by omega) (by have := hD.grow; omega)
      refine ⟨fun L k hL hfl => ?_, Nat.le_trans hD.grow i2, fun s h1 h2 => i3 s h1 (hD.keep s h1 h2), fun M0 ws h0 => i4 M0 _ (h0.add (by omega) hD.old), fun s X h1 h2 => ?_, fun j hj => ?_, fun j i hji hj hi => ?_, fun j => ?_⟩
      · obtain ⟨e2, e4, e13⟩ := hL 0
        simp only [footOf, List.getD_cons_zero, Nat.add_zero] at e2 e4 e13
        simp only [drawRun]
        rw [xGuard_ok hgd, if_pos rfl, e2, hfl]
        have both : ∀ K : AV → Mem → Prop, K v M1 → dOp C HX true (L.cls k) f.rob (L.slot k) o (t.fn.ev C) M K := fun K hk => by
          rcases e13 with ⟨e1, e3⟩ | ⟨e1, q1, q2, o', q3, q4⟩
          · rw [e1, e3]; exact hD.run K hk
          · simp only [List.getElem?_cons_zero, Option.some.injEq] at q3
            subst q3
            rw [e1]; exact hD.run5 _ q4 q1 q2 K hk
        refine both _ ⟨fun i hi ha => ?_, ?_⟩
        · rcases hD.len with h1 | h1
          · rw [h1]
          · rw [e4 i] at ha
            simp only [Bool.or_eq_false_iff] at ha
            refine hD.old _ ?_ (fun hm => ?_)
            · have : ¬ (f.len ≤ L.rob i) := fun hle => by rw [Nat.ble_eq_true_of_le hle] at ha; simp at ha
              omega
            · rw [memN_iff.2 hm] at ha; simp at ha
        · rw [← BT.set_fn ht]; exact i1 L (k + 1) hL.tail hfl
      · simp only [xDraw, hgd, hD.fill s X h1 h2, ht, i5 s X h1 (hD.keep s h1 h2)]
      · cases j with
        | zero =>
          simp only [footOf, List.getD_cons_zero] at hj ⊢
          obtain ⟨h1, h2, _⟩ := hD.slot hj
          simp only [allocsOf, h2]
          omega
        | succ j =>
          have := i6 j (by simpa [footOf] using hj)
          simp only [footOf, List.getD_cons_succ] at this ⊢
          rw [nextSlot_eq] at this
          simp only [allocsOf]
          by_cases h4 : f.cls = 4
          · rw [if_pos h4] at this
            rw [(hD.slot h4).2.1]
            simp only
            omega
          · rw [if_neg h4] at this
            split <;> omega
      · cases i with
        | zero => omega
        | succ i =>
          cases j with
          | zero =>
            simp only [footOf, List.getD_cons_zero, List.getD_cons_succ] at hj hi ⊢
            obtain ⟨h1, _, _⟩ := hD.slot hj
            have := (i6 i (by simpa [footOf] using hi)).1
            rw [nextSlot_eq, if_pos hj] at this
            simp only [footOf] at this
            omega
          | succ j =>
            have := i7 j i (by omega) (by simpa [footOf] using hj) (by simpa [footOf] using hi)
            simpa [footOf] using this
      · cases j with
        | zero => exact hD.no5
        | succ j => have := i8 j; simpa [footOf] using this
    · rename_i hgd
      split at h
      case h_2 => simp at h
      rename_i t1 ht
      split at h
      case h_2 => simp at h
      rename_i t2 M2 fs1 hr
      simp only [Option.some.injEq, Prod.mk.injEq] at h
      obtain ⟨rfl, rfl, rfl⟩ := h
      obtain ⟨i1, i2, i3, i4, i5, i6, i7, i8⟩ := xDraw_ok hc hbR rest t1 M slot t2 M2 fs1 hr hs hM
      refine ⟨fun L k hL hfl => ?_, i2, i3, fun M0 ws h0 => i4 M0 _ h0, fun s X h1 h2 => ?_, fun j hj => ?_, fun j i hji hj hi => ?_, fun j => ?_⟩
      · simp only [drawRun]
        rw [xGuard_ok hgd, if_neg (by simp), ← BT.set_fn ht]
        exact i1 L (k + 1) hL.tail hfl
      · simp only [xDraw, hgd, ht, i5 s X h1 h2]
      · cases j with
        | zero => simp [footOf, F0] at hj
        | succ j =>
          have := i6 j (by simpa [footOf] using hj)
          simp only [footOf, List.getD_cons_succ, allocsOf] at this ⊢
          split <;> omega
      · cases i with
        | zero => omega
        | succ i =>
          cases j with
          | zero => simp [footOf, F0] at hj
          | succ j =>
            have := i7 j i (by omega) (by simpa [footOf] using hj) (by simpa [footOf] using hi)
            simpa [footOf] using this
      · cases j with
        | zero => simp [footOf, F0]
        | succ j => have := i8 j; simpa [footOf] using this
    · simp at h

/-- a plan for the region -/
theorem okF_plan {ops : Array Oper} {fs : List Foot} (h : okF ops fs = true) (h7 : ∀ j i, j < i → (footOf fs j).cls = 4 → (footOf fs i).cls = 4 → (footOf fs j).slot ≠ (footOf fs i).slot) (h8 : ∀ j, (footOf fs j).cls ≠ 5) :
    ∃ L : Plan, okDraw ops L = true ∧ Fits L 0 ops.toList fs ∧ L.fl = true := by
  unfold okF at h
  split at h
  · rename_i h0
    exact ⟨planOf fs, okF0_ok h0 (fun j i hji h1 h2 => h7 j i hji (h1.resolve_right (h8 j)) (h2.resolve_right (h8 i))), fits_plan _ fs, rfl⟩
  · simp only [Bool.and_eq_true] at h
    exact ⟨planOf (promote ops.toList fs), okF0_ok h.1 (nodupN_at h.2), fits_promo _ fs, rfl⟩

/-! ### code -/
def withSlots : Nat → Mem → Mem
  | 0, M => M
  | n + 1, M => M ++ List.replicate (n + 1) blank
theorem withSlots_eq (n : Nat) (M : Mem) : withSlots n M = M ++ List.replicate n blank := by
  cases n with
  | zero => simp [withSlots]
  | succ n => rfl
abbrev XC := Exit × BT × Mem × List Nat
def xLoop (f : BT → Mem → List Nat → Option XC) : Nat → BT → Mem → List Nat → Option XC
  | 0, _, _, _ => none
  | n + 1, t, M, ws => match f t M ws with
    | some (.normal, t, M, ws) => xLoop f n t M ws
    | r => r
def xCode (call : CallF) (C : Ctx) (fuel base : Nat) : Code → BT → Mem → List Nat → Option XC
  | .skip, t, M, ws => some (.normal, t, M, ws)
  | .label _, t, M, ws => some (.normal, t, M, ws)
  | .region _ ops draw, t, M, ws => match draw with
    | true => match xDraw call C ops ops.toList t (withSlots (allocsOf ops.toList) M) M.length with
      | some (t', M', fs) => match okF ops fs with
        | true => some (.normal, t', M', wsFeet base fs ws)
        | false => none
      | none => none
    | false => match xOps call C base ops ops.toList t M ws with
      | some s => some (.normal, s)
      | none => none
  | .seq x y, t, M, ws => match xCode call C fuel base x t M ws with
    | some (.normal, t, M, ws) => xCode call C fuel base y t M ws
    | r => r
  | .cond c x y, t, M, ws => match t.fn.ev C c with
    | .val (.bool true) => xCode call C fuel base x t M ws
    | .val (.bool false) => xCode call C fuel base y t M ws
    | _ => none
  | .block id c, t, M, ws => match xCode call C fuel base c t M ws with
    | some (.exit i, s) => match Nat.beq i id with
      | true => some (.normal, s)
      | false => some (.exit i, s)
    | r => r
  | .loop c, t, M, ws => xLoop (xCode call C fuel base c) fuel t M ws
  | .exit id, t, M, ws => some (.exit id, t, M, ws)
  | .ret, t, M, ws => some (.ret, t, M, ws)
  | _, _, _, _ => none

/-- all slots that are read lie in the frame, in drawn regions too -/
def codeIn (N : Nat) : Code → Bool
  | .region _ ops _ => opsInside N ops ops.toList
  | .seq x y => codeIn N x && codeIn N y
  | .cond c x y => Operand.inside N c && codeIn N x && codeIn N y
  | .block _ c => codeIn N c
  | .loop c => codeIn N c
  | _ => true

theorem vcGuard_mono {ops : Array Oper} {o : Oper} {T : Env} {r r' s s' : Prop} (hr : r → r') (hs : s → s') (h : vcGuard ops o T r s) : vcGuard ops o T r' s' := by
  unfold vcGuard at h ⊢
  split at h
  · exact hr h
  · split at h
    · split at h
      · split at h
        · rename_i e; rw [if_pos e]; exact hr h
        · rename_i e; rw [if_neg e]; exact hs h
      · exact hs h
      · exact h.elim
    · exact h.elim
theorem vcOp_mono {C : Ctx} {h : Hint} {o : Oper} {K K' : AV → Mem → Prop} {ρ : Operand → AV} {M : Mem} (hk : ∀ v m, K v m → K' v m) (hv : vcOp C h o K ρ M) : vcOp C h o K' ρ M := by
  unfold vcOp at hv ⊢
  split at hv
  · split at hv
    · exact hv.mono hk
    · exact hv.elim
  · split at hv
    · obtain ⟨e, sz, bytes, h1, h2⟩ := hv
      refine ⟨e, sz, bytes, h1, ?_⟩
      split at h2
      · exact hk _ _ h2
      · exact h2.elim
    · exact hv.elim
  · split at hv
    · exact hk _ _ hv
    · exact ⟨hv.1, fun b => hk _ _ (hv.2 b)⟩
theorem vcOps_mono {C : Ctx} {h : Hint} {ops : Array Oper} {K K' : Env → Mem → Prop} (hk : ∀ T m, K T m → K' T m) : ∀ (l : List Oper) (T : Env) (M : Mem), vcOps C h ops l K T M → vcOps C h ops l K' T M
  | [], T, M, hv => hk _ _ hv
  | o :: rest, T, M, hv => by
    simp only [vcOps] at hv ⊢
    exact vcGuard_mono (fun h1 => vcOp_mono (fun v m h2 => vcOps_mono hk rest _ _ h2) h1) (fun h1 => vcOps_mono hk rest _ _ h1) hv

def At2 (e : Exit) (t : BT) (M : Mem) : Exit → Env → Mem → Prop := fun e2 T m => e2 = e ∧ T = t.fn ∧ m = M

theorem xLoop_ok {C : Ctx} {N base : Nat} {c : Code} {f : BT → Mem → List Nat → Option XC} (hf : ∀ t M ws e t' M' ws', base ≤ M.length → f t M ws = some (e, t', M', ws') → AWp C N c (At2 e t' M') t.fn M ∧ Goes base (fun m => f t m ws) (fun m => (e, t', m, ws')) M M' ws ws')
    {n : Nat} {t : BT} {M : Mem} {ws : List Nat} {e : Exit} {t' : BT} {M' : Mem} {ws' : List Nat} (hb : base ≤ M.length) (h : xLoop f n t M ws = some (e, t', M', ws')) : AWp C N (.loop c) (At2 e t' M') t.fn M ∧ Goes base (fun m => xLoop f n t m ws) (fun m => (e, t', m, ws')) M M' ws ws' := by
  have key : ∀ n t M ws, base ≤ M.length → xLoop f n t M ws = some (e, t', M', ws') → Goes base (fun m => xLoop f n t m ws) (fun m => (e, t', m, ws')) M M' ws ws' ∧ ∀ G w a, Inv C G M w → RepEnv G N t.fn a → ∀ b k cs,
      ∃ e2 a' w', Lift C N (At2 e t' M') G w e2 a' w' ∧ Arrives C.P (lone (b.at a (.code c :: .inLoop c :: k)) cs w) b k cs e2 a' w' := by
    intro n
    induction n with
    | zero => intro t M ws _ h; simp [xLoop] at h
    | succ n ih =>
      intro t M ws hb h
      simp only [xLoop] at h
      split at h
      · rename_i t1 M1 ws1 h1
        obtain ⟨q1, q2⟩ := hf _ _ _ _ _ _ _ hb h1
        obtain ⟨r1, r2⟩ := ih t1 M1 ws1 (Nat.le_trans hb q2.grow) h
        refine ⟨q2.trans r1 (fun A B e => by simp only [xLoop, e]), fun G w a hi he b k cs => ?_⟩
        obtain ⟨e1, a1, w1, ⟨T1, m1, G1, ⟨rfl, rfl, rfl⟩, g1, i1, he1, x1⟩, harr⟩ := q1 G w a hi he b (.inLoop c :: k) cs
        obtain ⟨e₂, a₂, w₂, hq₂, harr₂⟩ := r2 G1 w1 a1 i1 he1 b k cs
        exact ⟨e₂, a₂, w₂, Lift.mono g1 x1 hq₂, .of_steps (Steps.trans harr (.one step_inLoop)) harr₂⟩
      · rename_i hne
        obtain ⟨q1, q2⟩ := hf _ _ _ _ _ _ _ hb h
        have hen : e ≠ .normal := by intro e1; subst e1; exact hne _ _ _ h
        refine ⟨q2.turn (fun A B e2 => ?_), fun G w a hi he b k cs => ?_⟩
        · simp only [xLoop, e2]
          cases e with
          | normal => exact absurd rfl hen
          | _ => rfl
        obtain ⟨e1, a1, w1, hq, harr⟩ := q1 G w a hi he b (.inLoop c :: k) cs
        have he1 : e1 = e := by obtain ⟨T1, m1, G1, ⟨h1, _, _⟩, _⟩ := hq; exact h1
        subst he1
        refine ⟨_, a1, w1, hq, ?_⟩
        cases e1 with
        | normal => exact absurd rfl hen
        | _ => exact .pass (x := .inLoop c) rfl (fun _ _ => .inl (by simp)) harr
  obtain ⟨k1, k2⟩ := key n t M ws hb h
  refine ⟨fun G w a hi he b k cs => ?_, k1⟩
  obtain ⟨e2, a', w', hq, harr⟩ := k2 G w a hi he b k cs
  exact ⟨e2, a', w', hq, .of_steps (.one step_loop) harr⟩

theorem drawRun_mono' {C : Ctx} {h : Hint} {ops : Array Oper} {L : Plan} {K K' : Env → Mem → Prop} (hk : ∀ T m, K T m → K' T m) : ∀ (l : List Oper) (k : Nat) (T : Env) (M : Mem), drawRun C h ops L k l T M K → drawRun C h ops L k l T M K' := by
  have on : ∀ {α : Type} (o : Option α) (f g : α → Prop), (∀ a, f a → g a) → onSome o f → onSome o g := by
    intro α o f g hfg ho
    cases o with
    | none => exact ho
    | some a => exact hfg a ho
  have res : ∀ (fl : Bool) (f : Mem → Option (AV × Mem)) (M : Mem) (K K' : AV → Mem → Prop), (∀ v m, K v m → K' v m) → resOK fl f M K → resOK fl f M K' := by
    intro fl f M K K' hk h
    unfold resOK at h ⊢
    split at h
    · exact ⟨h.1, hk _ _ h.2⟩
    · exact h
  have dop : ∀ (fl : Bool) (c r s : Nat) (o : Oper) (ρ : Operand → AV) (M : Mem) (K K' : AV → Mem → Prop), (∀ v m, K v m → K' v m) → dOp C h fl c r s o ρ M K → dOp C h fl c r s o ρ M K' := by
    intro fl c r s o ρ M K K' hk hv
    unfold dOp at hv ⊢
    split at hv
    · split at hv
      · split at hv
        · rename_i e; rw [if_pos e]; obtain ⟨r, q1, q2⟩ := hv; exact ⟨r, q1, hk _ _ q2⟩
        · rename_i e; rw [if_neg e]; obtain ⟨r, M1, q1, q2, q3, q4⟩ := hv; exact ⟨r, M1, q1, q2, q3, hk _ _ q4⟩
      · exact hv.elim
    · split at hv
      · obtain ⟨e, sz, bytes, h1, h1', h2⟩ := hv
        exact ⟨e, sz, bytes, h1, h1', res _ _ _ _ _ hk h2⟩
      · exact hv.elim
    · split at hv
      · rename_i e; rw [if_pos e]; exact ⟨hv.1, hv.2.1, on _ _ _ (fun a h => hk _ _ h) hv.2.2⟩
      · rename_i e; rw [if_neg e]; exact ⟨hv.1, res _ _ _ _ _ hk hv.2⟩
    · split at hv
      · rename_i e; rw [if_pos e]; exact on _ _ _ (fun a h => hk _ _ h) hv
      · rename_i e
        rw [if_neg e]
        split at hv
        · rename_i e1; rw [if_pos e1]; exact ⟨hv.1, on _ _ _ (fun a h => hk _ _ h) hv.2⟩
        · rename_i e1
          rw [if_neg e1]
          split at hv
          · rename_i e2; rw [if_pos e2]; exact ⟨hv.1, on _ _ _ (fun a h => hk _ _ h) hv.2⟩
          · rename_i e2; rw [if_neg e2]; exact ⟨hv.1, res _ _ _ _ _ hk hv.2⟩
  intro l
  induction l with
  | nil => intro k T M hv; exact hk _ _ hv
  | cons o rest ih =>
    intro k T M hv
    simp only [drawRun] at hv ⊢
    exact vcGuard_mono (fun h1 => dop _ _ _ _ _ _ _ _ _ (fun v m h2 => ⟨h2.1, ih _ _ _ h2.2⟩) h1) (fun h1 => ih _ _ _ h1) hv

theorem xCode_ok {call : CallF} {C : Ctx} (hmix : C.P.follows .mixedOrders = true) (hc : CallOK C call) {fuel base N : Nat} : ∀ (c : Code) (t : BT) (M : Mem) (ws : List Nat) (e : Exit) (t' : BT) (M' : Mem) (ws' : List Nat), codeIn N c = true → base ≤ M.length →
    xCode call C fuel base c t M ws = some (e, t', M', ws') → AWp C N c (At2 e t' M') t.fn M ∧ Goes base (fun m => xCode call C fuel base c t m ws) (fun m => (e, t', m, ws')) M M' ws ws' 
  | .skip, t, M, ws, e, t', M', ws', _, _, h => by
    simp only [xCode, Option.some.injEq, Prod.mk.injEq] at h
    obtain ⟨rfl, rfl, rfl, rfl⟩ := h
    exact ⟨awp_skip ⟨rfl, rfl, rfl⟩, .same fun _ _ _ => by simp only [xCode]⟩
  | .label l, t, M, ws, e, t', M', ws', _, _, h => by
    simp only [xCode, Option.some.injEq, Prod.mk.injEq] at h
    obtain ⟨rfl, rfl, rfl, rfl⟩ := h
    exact ⟨awp_label ⟨rfl, rfl, rfl⟩, .same fun _ _ _ => by simp only [xCode]⟩
  | .region id ops draw, t, M, ws, e, t', M', ws', hin, hb, h => by
    simp only [codeIn] at hin
    simp only [xCode] at h
    cases draw with
    | true =>
      simp only at h
      split at h
      case h_2 => simp at h
      rename_i t1 M1 fs hd
      split at h
      case h_2 => simp at h
      rename_i hok
      simp only [Option.some.injEq, Prod.mk.injEq] at h
      obtain ⟨rfl, rfl, rfl, rfl⟩ := h
      have hd' := hd
      rw [withSlots_eq] at hd
      have hlen : M.length ≤ (M ++ List.replicate (allocsOf ops.toList) blank).length := by simp
      obtain ⟨i1, i2, i3, i4, i5, i6, i7, i8⟩ := xDraw_ok hc hb ops.toList t _ M.length t1 M1 fs hd (Nat.le_refl _) hlen
      obtain ⟨L, hokd, hfit, hfl⟩ := okF_plan hok i7 i8
      have sub : ∀ s, s < M.length → M[s]? = some blank → (M ++ List.replicate (allocsOf ops.toList) blank)[s]? = some blank := fun s h1 h2 => by rw [List.getElem?_append_left h1]; exact h2
      refine ⟨awp_reserve (allocsOf ops.toList) (awp_draw (h := HX) hmix L hin hokd ?_ ?_), ⟨Nat.le_trans hlen i2, fun s hs => i3 s (getElem?_lt hs) (sub s (getElem?_lt hs) hs), fun hb M0 h0 => i4 M0 ws (fun i hi hn => ?_), fun s X hs => ?_⟩⟩
      · intro k _ hk
        have hk' : (footOf fs k).cls = 4 ∧ L.slot k = (footOf fs k).slot := by
          have := (hfit k).2.2
          rw [Nat.zero_add] at this
          rcases this with ⟨q1, q2⟩ | ⟨q1, _⟩
          · exact ⟨q1.symm.trans hk, q2⟩
          · omega
        obtain ⟨j1, j2⟩ := i6 k hk'.1
        rw [hk'.2]
        rw [List.getElem?_append_right j1, List.getElem?_replicate, if_pos (by omega)]
      · exact drawRun_mono' (fun T m h => ⟨rfl, h⟩) _ _ _ _ (i1 L 0 hfit hfl)
      · rw [List.getElem?_append_left (by omega)]; exact h0 i hi hn
      · have hl := getElem?_lt hs
        have h5 := i5 s X hl (sub s hl hs)
        simp only [xCode, withSlots_eq, List.length_set]
        rw [← List.set_append_left _ _ hl, h5]
        simp only [hok]
    | false =>
      simp only at h
      split at h
      case h_2 => simp at h
      rename_i s hd
      simp only [Option.some.injEq, Prod.mk.injEq] at h
      obtain ⟨rfl, rfl⟩ := h
      obtain ⟨h1, h2⟩ := xOps_ok hc ops.toList t M ws t' M' ws' hd
      refine ⟨awp_region (h := HX) hin ?_, h2.turn (fun A B e => by simp only [xCode, e])⟩
      exact vcOps_mono (fun T m h => ⟨rfl, h⟩) _ _ _ h1
  | .seq x y, t, M, ws, e, t', M', ws', hin, hb, h => by
    simp only [codeIn, Bool.and_eq_true] at hin
    simp only [xCode] at h
    split at h
    · rename_i t1 M1 ws1 h1
      obtain ⟨q1, q2⟩ := xCode_ok hmix hc x t M ws _ t1 M1 ws1 hin.1 hb h1
      obtain ⟨r1, r2⟩ := xCode_ok hmix hc y t1 M1 ws1 e t' M' ws' hin.2 (Nat.le_trans hb q2.grow) h
      refine ⟨awp_seq (q1.mono ?_), q2.trans r2 (fun A B e => by simp only [xCode, e])⟩
      rintro e2 T m ⟨rfl, rfl, rfl⟩
      exact r1
    · rename_i hne
      obtain ⟨q1, q2⟩ := xCode_ok hmix hc x t M ws e t' M' ws' hin.1 hb h
      have hen : e ≠ .normal := by intro e1; subst e1; exact hne _ _ _ h
      refine ⟨awp_seq (q1.mono ?_), q2.turn (fun A B e2 => ?_)⟩
      · rintro e2 T m ⟨rfl, rfl, rfl⟩
        cases e2 with
        | normal => exact absurd rfl hen
        | _ => exact ⟨rfl, rfl, rfl⟩
      · simp only [xCode, e2]
        cases e with
        | normal => exact absurd rfl hen
        | _ => rfl
  | .cond c x y, t, M, ws, e, t', M', ws', hin, hb, h => by
    simp only [codeIn, Bool.and_eq_true] at hin
    simp only [xCode] at h
    split at h
    · rename_i hv
      obtain ⟨q1, q2⟩ := xCode_ok hmix hc x t M ws e t' M' ws' hin.1.2 hb h
      exact ⟨awp_cond hin.1.1 hv (fun _ => q1) (fun e => by simp at e), q2.turn (fun A B e => by simp only [xCode, hv]; exact e)⟩
    · rename_i hv
      obtain ⟨q1, q2⟩ := xCode_ok hmix hc y t M ws e t' M' ws' hin.2 hb h
      exact ⟨awp_cond hin.1.1 hv (fun e => by simp at e) (fun _ => q1), q2.turn (fun A B e => by simp only [xCode, hv]; exact e)⟩
    · simp at h
  | .block id c, t, M, ws, e, t', M', ws', hin, hb, h => by
    simp only [codeIn] at hin
    simp only [xCode] at h
    split at h
    · rename_i i s hx
      obtain ⟨t1, M1, ws1⟩ := s
      obtain ⟨q1, q2⟩ := xCode_ok hmix hc c t M ws _ t1 M1 ws1 hin hb hx
      split at h
      · rename_i hi
        have hi' := Nat.eq_of_beq_eq_true hi
        simp only [Option.some.injEq, Prod.mk.injEq] at h
        obtain ⟨rfl, rfl, rfl, rfl⟩ := h
        refine ⟨awp_block (q1.mono ?_), q2.turn (fun A B e => by simp only [xCode, e, hi])⟩
        rintro e2 T m ⟨rfl, rfl, rfl⟩
        simp only [inBlockK, hi', if_true]
        exact ⟨rfl, rfl, rfl⟩
      · rename_i hi
        have hi' : i ≠ id := by intro e; subst e; rw [Nat.beq_refl] at hi; simp at hi
        simp only [Option.some.injEq, Prod.mk.injEq] at h
        obtain ⟨rfl, rfl, rfl, rfl⟩ := h
        refine ⟨awp_block (q1.mono ?_), q2.turn (fun A B e => by simp only [xCode, e, hi])⟩
        rintro e2 T m ⟨rfl, rfl, rfl⟩
        simp only [inBlockK, hi', if_false]
        exact ⟨rfl, rfl, rfl⟩
    · rename_i hne
      obtain ⟨q1, q2⟩ := xCode_ok hmix hc c t M ws e t' M' ws' hin hb h
      refine ⟨awp_block (q1.mono ?_), q2.turn (fun A B e2 => ?_)⟩
      · rintro e2 T m ⟨rfl, rfl, rfl⟩
        cases e2 with
        | exit i => exact absurd h (hne _ _)
        | _ => exact ⟨rfl, rfl, rfl⟩
      · simp only [xCode, e2]
        cases e with
        | exit i => exact absurd h (hne _ _)
        | _ => rfl
  | .loop c, t, M, ws, e, t', M', ws', hin, hb, h => by
    simp only [codeIn] at hin
    simp only [xCode] at h
    obtain ⟨q1, q2⟩ := xLoop_ok (fun t M ws e t' M' ws' hb h => xCode_ok hmix hc c t M ws e t' M' ws' hin hb h) hb h
    exact ⟨q1, q2.turn (fun A B e => by simp only [xCode]; exact e)⟩
  | .exit id, t, M, ws, e, t', M', ws', _, _, h => by
    simp only [xCode, Option.some.injEq, Prod.mk.injEq] at h
    obtain ⟨rfl, rfl, rfl, rfl⟩ := h
    exact ⟨awp_exit ⟨rfl, rfl, rfl⟩, .same fun _ _ _ => by simp only [xCode]⟩
  | .ret, t, M, ws, e, t', M', ws', _, _, h => by
    simp only [xCode, Option.some.injEq, Prod.mk.injEq] at h
    obtain ⟨rfl, rfl, rfl, rfl⟩ := h
    exact ⟨awp_ret ⟨rfl, rfl, rfl⟩, .same fun _ _ _ => by simp only [xCode]⟩
  | .rangeFunc _ _ _ _, t, M, ws, e, t', M', ws', _, _, h => by simp [xCode] at h
  | .scope _, t, M, ws, e, t', M', ws', _, _, h => by simp [xCode] at h
  | .goto _, t, M, ws, e, t', M', ws', _, _, h => by simp [xCode] at h
  | .refuse _, t, M, ws, e, t', M', ws', _, _, h => by simp [xCode] at h
end Go.Abs
end
section
/- The evaluator: calls. -/
set_option linter.unusedVariables false
namespace Go.Abs

theorem resList_fill {C : Ctx} {T : Env} {M : Mem} {s : Nat} {X : AObj} (hs : M[s]? = some blank) : ∀ (rs : List ResultVar) (vs : List AV), resList C T M rs = some vs → resList C T (M.set s X) rs = some vs
  | [], vs, h => h
  | r :: rs, vs, h => by
    simp only [resList] at h ⊢
    split at h
    case h_2 => simp at h
    rename_i v vs' h1 h2
    rw [resList_fill hs rs vs' h2]
    have : resAV C T (M.set s X) r = some v := by
      cases r with
      | tmp t => exact h1
      | cell a ty =>
        simp only [resAV, Option.bind_eq_some_iff] at h1 ⊢
        obtain ⟨cs, h3, h4⟩ := h1
        exact ⟨cs, memOf_fill hs h3, h4⟩
    rw [this]
    exact h
theorem resultAV_fill {C : Ctx} {T : Env} {M : Mem} {s : Nat} {X : AObj} (hs : M[s]? = some blank) {rs : List ResultVar} {v : AV} (h : resultAV C rs T M = some v) : resultAV C rs T (M.set s X) = some v := by
  unfold resultAV at h ⊢
  cases hl : resList C T M rs with
  | none => rw [hl] at h; simp at h
  | some vs => rw [resList_fill hs rs vs hl]; rw [hl] at h; exact h

/-- functions that are not run but answer as is known -/
abbrev Intr := FuncId → Option (List AV → Mem → Option XR)
def IntrOK (C : Ctx) (intr : Intr) : Prop := ∀ f g, intr f = some g → ∀ args M v M1 ws, g args M = some (v, M1, ws) → Invk C f args M (fun r m => r = v ∧ m = M1) ∧ XActs (g args) M v M1 ws

def xRet (C : Ctx) (fn : Func) (t : BT) (M M' : Mem) (ws : List Nat) : Option XR := match resultAV C fn.results.toList t.fn M' with
  | some v => match ws, flat v with
    | [], true => some (v, M, [])
    | _, _ => some (v, M', ws)
  | none => none
def xCall (C : Ctx) (intr : Intr) (fuel : Nat) : Nat → CallF
  | 0, _, _, _ => none
  | n + 1, f, args, M => match intr f with
    | some g => g args M
    | none => match C.P.funcs[f]? with
      | some fn => match fn.body with
        | some c => match Nat.ble args.length fn.ntmps, BT.args args 0 (BT.mk (Nat.log2 fn.ntmps + 1)) with
          | true, some t => match xCode (xCall C intr fuel n) C fuel M.length c t M [] with
            | some (.normal, t, M', ws) => xRet C fn t M M' ws
            | some (.ret, t, M', ws) => xRet C fn t M M' ws
            | _ => none
          | _, _ => none
        | none => none
      | none => none

def okFunc (fn : Func) : Bool := match fn.body with
  | some c => codeIn fn.ntmps c && resInside fn.ntmps fn.results.toList && !(fn.name == "runtime.NumGoroutine")
  | none => true

theorem enters_of {P : Program} {f : FuncId} {fn : Func} {c : Code} (hf : P.funcs[f]? = some fn) (hb : fn.body = some c) (hn : (fn.name == "runtime.NumGoroutine") = false) : enters P f := by
  intro args w
  have hn' : ¬ fn.name = "runtime.NumGoroutine" := by simpa using hn
  simp [callFunc, hf, hb, hn']

theorem xRet_ok {C : Ctx} {fn : Func} {t : BT} {M M' M1 : Mem} {ws ws' : List Nat} {v : AV} (hg : M.length ≤ M'.length) (hk : KeepsBlank M M') (ho : ∀ i, i < M.length → i ∉ ws → M'[i]? = M[i]?) (h : xRet C fn t M M' ws = some (v, M1, ws')) :
    (∃ v0, resultAV C fn.results.toList t.fn M' = some v0 ∧ ((v = v0 ∧ M1 = M' ∧ ws' = ws) ∨ (v = v0 ∧ M1 = M ∧ ws' = [] ∧ ws = [] ∧ flat v0 = true))) ∧
    M.length ≤ M1.length ∧ (∀ i, i < M.length → i ∉ ws' → M1[i]? = M[i]?) ∧ KeepsBlank M M1 ∧ ∀ (s : Nat) (X : AObj), M[s]? = some blank → xRet C fn t (M.set s X) (M'.set s X) ws = some (v, M1.set s X, ws') := by
  unfold xRet at h
  split at h
  case h_2 => simp at h
  rename_i v0 hv
  split at h
  · rename_i hfl
    simp only [Option.some.injEq, Prod.mk.injEq] at h
    obtain ⟨rfl, rfl, rfl⟩ := h
    exact ⟨⟨v0, hv, .inr ⟨rfl, rfl, rfl, rfl, hfl⟩⟩, Nat.le_refl _, fun _ _ _ => rfl, fun _ h => h, fun s X hs => by simp only [xRet, resultAV_fill (hk s hs) hv, hfl]⟩
  · rename_i hne
    simp only [Option.some.injEq, Prod.mk.injEq] at h
    obtain ⟨rfl, rfl, rfl⟩ := h
    refine ⟨⟨v0, hv, .inl ⟨rfl, rfl, rfl⟩⟩, hg, ho, hk, fun s X hs => ?_⟩
    simp only [xRet, resultAV_fill (hk s hs) hv]

theorem xCall_ok {C : Ctx} (hmix : C.P.follows .mixedOrders = true) {intr : Intr} (hintr : IntrOK C intr) (hfn : ∀ (f : Nat) (fn : Func), C.P.funcs[f]? = some fn → okFunc fn = true) (fuel : Nat) : ∀ n, CallOK C (xCall C intr fuel n)
  | 0 => by
    intro g args M v M' ws h
    simp [xCall] at h
  | n + 1 => by
    intro g args M v M' ws h
    simp only [xCall] at h
    split at h
    · rename_i gi hr
      obtain ⟨h1, h2⟩ := hintr g gi hr _ _ _ _ _ h
      exact ⟨h1, h2.grow, h2.old, h2.keep, fun s X hs => by simp only [xCall, hr]; exact h2.fill s X hs⟩
    rename_i hin
    split at h
    case h_2 => simp at h
    rename_i fn hf
    split at h
    case h_2 => simp at h
    rename_i c hb
    have hok := hfn g fn hf
    simp only [okFunc, hb, Bool.and_eq_true, Bool.not_eq_true'] at hok
    obtain ⟨⟨hci, hri⟩, hnm⟩ := hok
    split at h
    case h_2 => simp at h
    rename_i t hlen ht
    have ih := xCall_ok hmix hintr hfn fuel n
    have fin : ∀ e t1 M1 ws1, (e = .normal ∨ e = .ret) → xCode (xCall C intr fuel n) C fuel M.length c t M [] = some (e, t1, M1, ws1) → xRet C fn t1 M M1 ws1 = some (v, M', ws) →
        Invk C g args M (fun r m => r = v ∧ m = M') ∧ XActs (xCall C intr fuel (n + 1) g args) M v M' ws := by
      intro e t1 M1 ws1 he hx hret
      obtain ⟨q1, q2⟩ := xCode_ok hmix ih c t M [] e t1 M1 ws1 hci (Nat.le_refl _) hx
      rw [BT.args_of ht] at q1
      have hold : ∀ i, i < M.length → i ∉ ws1 → M1[i]? = M[i]? := fun i hi hn => q2.old (Nat.le_refl _) M (fun _ _ _ => rfl) i hi hn
      obtain ⟨⟨v0, hv0, hcase⟩, r1, r2, r3, r4⟩ := xRet_ok q2.grow q2.keep hold hret
      have main : ACalls C g args M (fun r m => r = v0 ∧ m = M1) := by
        refine acalls_of_body hf hb rfl (by simp) (by simpa using Nat.le_of_ble_eq_true hlen) hri (q1.mono ?_)
        rintro e2 T m ⟨rfl, rfl, rfl⟩
        rcases he with rfl | rfl <;> (unfold bodyQ; simp only; rw [hv0]; exact ⟨rfl, trivial⟩)
      refine ⟨.inl ⟨enters_of hf hb hnm, ?_⟩, r1, r2, r3, fun s X hs => ?_⟩
      · rcases hcase with ⟨rfl, rfl, rfl⟩ | ⟨rfl, rfl, rfl, rfl, hfl⟩
        · exact main
        · refine main.cut ?_
          rintro r m ⟨rfl, rfl⟩
          obtain ⟨Y, hY⟩ : ∃ Y, m = M' ++ Y := by
            refine ⟨m.drop M'.length, ?_⟩
            apply List.ext_getElem?
            intro i
            by_cases hi : i < M'.length
            · rw [List.getElem?_append_left hi]; exact hold i hi (by simp)
            · rw [List.getElem?_append_right (by omega), List.getElem?_drop]
              congr 1; omega
          exact ⟨Y, hY, flat_bdd _ hfl, rfl, rfl⟩
      · have hfil := q2.fill s X hs
        have hr4 := r4 s X hs
        simp only [xCall, hin, hf, hb, hlen, ht, List.length_set, hfil]
        rcases he with rfl | rfl <;> exact hr4
    split at h
    · rename_i t1 M1 ws1 hx; exact fin _ _ _ _ (.inl rfl) hx h
    · rename_i t1 M1 ws1 hx; exact fin _ _ _ _ (.inr rfl) hx h
    · simp at h

/-- what the evaluator answers is the call's contract -/
def xTrue (C : Ctx) (intr : Intr) (fuel n : Nat) (f : FuncId) : Bool := match xCall C intr fuel n f [] [] with
  | some (.val (.bool true), [], _) => true
  | _ => false
theorem xTrue_acalls {C : Ctx} (hmix : C.P.follows .mixedOrders = true) {intr : Intr} (hintr : IntrOK C intr) (hfn : ∀ (f : Nat) (fn : Func), C.P.funcs[f]? = some fn → okFunc fn = true) {fuel n : Nat} {f : FuncId} (h : xTrue C intr fuel n f = true) :
    Invk C f [] [] (fun r m => r = .val (.bool true) ∧ m = []) := by
  unfold xTrue at h
  split at h
  · rename_i ws hr; exact (xCall_ok hmix hintr hfn fuel n _ _ _ _ _ _ hr).1
  · simp at h
end Go.Abs
end
