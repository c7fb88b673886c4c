/- The texts AbsV2, AbsVo, AbsV3, AbsV4: what each proves stands at its head. -/
import Derived.Test.YtiipcnbedgamdaaGreatDoorVG13
section
/- The evaluator: regions whose order is open. -/
set_option linter.unusedVariables false
namespace Go.Abs

structure Foot where
  cls : Nat
  rob : Nat
  slot : Nat
  ws : List Nat
  len : Nat
def isAlloc (o : Oper) : Bool := match o.op with
  | .alloc _ => true
  | _ => false
def xDrawOp (call : CallF) (C : Ctx) (o : Oper) (ρ : Operand → AV) (M : Mem) (slot : Nat) : Option (Foot × AV × Mem) :=
  match o.op with
  | .call { callee := .value f, args, .. } => match ρ f with
    | .func (.func g) first captured => match call g (first ++ args.toList.map ρ ++ captured) M with
      | some (v, M', l) => some (⟨2, 0, 0, l, M.length⟩, v, M')
      | none => none
    | _ => none
  | .call { callee := .builtin .append, args, argTypes } => match args.toList, argTypes.toList with
    | [s, x], [t, u] => match o.dst with
      | some _ => match xAppend C.P t u (ρ s) (ρ x) M with
        | some (v, M', l) => some (⟨2, 0, 0, l, M.length⟩, v, M')
        | none => none
      | none => none
    | _, _ => none
  | .alloc e => match slotObj C.P e, M[slot]? with
    | some X, some (.vec 0 1 [] 0 []) => some (⟨4, 0, slot, [slot], M.length⟩, .vptr slot 1 0, M.set slot X)
    | _, _ => none
  | _ => match (evalPure C HX o ρ).or (evalPure1 C o ρ) with
    | some v => some (⟨0, 0, 0, [], 0⟩, v, M)
    | none => match readObj o ρ with
      | some r => match readAV C o ρ M with
        | some v => some (⟨1, r, 0, [], 0⟩, v, M)
        | none => none
      | none => match evalOp C HX o ρ M with
        | some (v, M') => some (⟨2, 0, 0, writesOf o ρ, M.length⟩, v, M')
        | none => none

theorem readAV_fill {C : Ctx} {o : Oper} {ρ : Operand → AV} {M : Mem} {v : AV} {s r : Nat} {X : AObj} (hs : M[s]? = some blank) (hr : readObj o ρ = some r) (h : readAV C o ρ M = some v) : readAV C o ρ (M.set s X) = some v := by
  obtain ⟨d, op, t, p, af, g⟩ := o
  unfold readAV at h
  simp only at h
  split at h
  · rename_i t' x
    simp only [readAV]
    unfold loadAV at h ⊢
    cases hm : memOf M (ρ x) with
    | none => rw [hm] at h; simp at h
    | some cs => rw [memOf_fill hs hm]; rw [hm] at h; exact h
  · simp only [readAV]
    exact lookupAV_fill hs h
  · rename_i args ts
    split at h
    case h_2 => simp at h
    rename_i x t' ha ht
    simp only [readAV, ha, ht]
    cases hl : lenAV C.P t' (ρ x) with
    | some n => rw [hl] at h; simp only [Option.some_or] at h ⊢; exact h
    | none =>
      rw [hl] at h
      simp only [Option.none_or] at h ⊢
      cases hm : lenMore C.P t' M (ρ x) with
      | none => rw [hm] at h; simp at h
      | some n => rw [lenMore_fill hs hm]; rw [hm] at h; exact h
  · simp at h

def isStore (o : Oper) : Bool := match o.op with
  | .store .. => true
  | _ => false
theorem storeObj_of {o : Oper} {ρ : Operand → AV} {r : Nat} (hs : isStore o = true) (hw : writesOf o ρ = [r]) : storeObj o ρ = some r := by
  obtain ⟨d, op, t, p, af, g⟩ := o
  cases op <;> first | (simp [isStore] at hs; done) | skip
  case store st a x =>
    simp only [writesOf] at hw
    simp only [storeObj]
    split at hw <;> simp_all
/-- what is known of one operation of such a region -/
structure DrawOK (C : Ctx) (o : Oper) (ρ : Operand → AV) (g : Mem → Option (Foot × AV × Mem)) (M : Mem) (f : Foot) (v : AV) (M' : Mem) (slot R : Nat) : Prop where
  run : ∀ K : AV → Mem → Prop, K v M' → dOp C HX true f.cls f.rob f.slot o ρ M K
  grow : M.length ≤ M'.length
  len : M' = M ∨ f.len = M.length
  old : ∀ i, i < M.length → i ∉ f.ws → M'[i]? = M[i]?
  keep : ∀ s, s < R → M[s]? = some blank → M'[s]? = some blank
  fill : ∀ (s : Nat) (X : AObj), s < R → M[s]? = some blank → g (M.set s X) = some (f, v, M'.set s X)
  slot : f.cls = 4 → f.slot = slot ∧ isAlloc o = true ∧ ∃ X, M' = M.set slot X
  run5 : ∀ r, isStore o = true → f.cls = 2 → f.ws = [r] → ∀ K : AV → Mem → Prop, K v M' → dOp C HX true 5 f.rob r o ρ M K
  no5 : f.cls ≠ 5

theorem xDrawOp_ok {call : CallF} {C : Ctx} (hc : CallOK C call) {o : Oper} {ρ : Operand → AV} {M M' : Mem} {v : AV} {f : Foot} {slot R : Nat} (hR : R ≤ slot) (h : xDrawOp call C o ρ M slot = some (f, v, M')) :
    DrawOK C o ρ (fun m => xDrawOp call C o ρ m slot) M f v M' slot R := by
  obtain ⟨d, op, t, p, af, g⟩ := o
  unfold xDrawOp at h
  simp only at h
  split at h
  · rename_i fo args ts
    split at h
    case h_2 => simp at h
    rename_i g' first captured hf
    split at h
    case h_2 => simp at h
    rename_i v1 M1 l1 hcall
    simp only [Option.some.injEq, Prod.mk.injEq] at h
    obtain ⟨rfl, rfl, rfl⟩ := h
    obtain ⟨h1, h2⟩ := hc _ _ _ _ _ _ hcall
    refine ⟨fun K hk => ?_, h2.grow, .inr rfl, h2.old, fun s _ => h2.keep s, fun s X _ hs => by simp only [xDrawOp, hf, h2.fill s X hs, List.length_set], fun e => by simp at e, fun r hs => by simp [isStore] at hs, by simp⟩
    simp only [dOp, hf]
    rw [if_neg (by simp)]
    exact ⟨v1, M1, by trivial, h1, fun _ => ⟨h2.keep, fun l hl => (hc _ _ _ _ _ _ (fills_of (f := call g' (first ++ args.toList.map ρ ++ captured)) (fun M v M1 ws h => (hc _ _ _ _ _ _ h).2) l M M1 v1 l1 hcall hl)).1⟩, hk⟩
  · rename_i args ts
    split at h
    case h_2 => simp at h
    rename_i s x t' u ha ht
    split at h
    case h_2 => simp at h
    rename_i d0
    split at h
    case h_2 => simp at h
    rename_i v1 M1 l1 happ
    simp only [Option.some.injEq, Prod.mk.injEq] at h
    obtain ⟨rfl, rfl, rfl⟩ := h
    obtain ⟨⟨e, sz, bytes, q1, q2, q4⟩, q3⟩ := xAppend_ok happ
    refine ⟨fun K hk => ?_, q3.grow, .inr rfl, q3.old, fun s _ => q3.keep s, fun s X _ hs => by simp only [xDrawOp, ha, ht, q3.fill s X hs, List.length_set], fun e => by simp at e, fun r hs => by simp [isStore] at hs, by simp⟩
    simp only [dOp, ha, ht]
    refine ⟨e, sz, bytes, q1, ?_, ?_⟩
    · trivial
    have q2' : appMem (hintAt HX.own (some d0)) (hintAt HX.vec (some d0)) e sz bytes (ρ s) (ρ x) M = some (v1, M1) := q2
    unfold resOK
    rw [q2']
    refine ⟨fun _ => ⟨q3.keep, fun l hl => ?_⟩, hk⟩
    have hv : vecLike true (ρ s) = true := by
      unfold xAppend at happ
      split at happ
      case h_2 => simp at happ
      split at happ
      case h_2 => simp at happ
      split at happ
      case h_2 => simp at happ
      rename_i hv; exact hv
    have gen : ∀ (l : List (Nat × AObj)) (M M1 : Mem) (v : AV), appMem false true e sz bytes (ρ s) (ρ x) M = some (v, M1) → Blanks M l → appMem false true e sz bytes (ρ s) (ρ x) (Go.Abs.fill M l) = some (v, Go.Abs.fill M1 l) := by
      intro l
      induction l with
      | nil => intro M M1 v h _; exact h
      | cons p l ih =>
        intro M M1 v h hb
        obtain ⟨b1, b2⟩ := blanks_tail hb
        exact ih (M.set p.1 p.2) (M1.set p.1 p.2) v ((appMem_acts hv h).fill p.1 p.2 b1) b2
    exact gen l M M1 v1 q2 hl
  · rename_i e
    split at h
    case h_2 => simp at h
    rename_i X hX hM
    simp only [Option.some.injEq, Prod.mk.injEq] at h
    obtain ⟨rfl, rfl, rfl⟩ := h
    have hM' : M[slot]? = some blank := hM
    refine ⟨fun K hk => ?_, by simp, .inr rfl, fun i _ hn => ?_, fun s hs hb => ?_, fun s Y hs hb => ?_, fun _ => ⟨rfl, rfl, X, rfl⟩, fun r hs => by simp [isStore] at hs, by simp⟩
    · simp only [dOp]
      rw [if_pos trivial]
      exact ⟨trivial, hM', by rw [hX]; exact hk⟩
    · rw [List.getElem?_set_ne (fun e => hn (by simp [e]))]
    · rw [List.getElem?_set_ne (by omega)]; exact hb
    · have : (M.set s Y)[slot]? = some (.vec 0 1 [] 0 []) := by rw [List.getElem?_set_ne (by omega)]; exact hM
      simp only [xDrawOp, hX, this, List.length_set]
      rw [List.set_comm _ _ (by omega)]
  · rename_i hne1 hne2 hne3
    have key : ∀ c r s M K, dOp C HX true c r s ⟨d, op, t, p, af, g⟩ ρ M K = (if c = 0 then onSome ((evalPure C HX ⟨d, op, t, p, af, g⟩ ρ).or (evalPure1 C ⟨d, op, t, p, af, g⟩ ρ)) (fun v => K v M) else if c = 1 then readObj ⟨d, op, t, p, af, g⟩ ρ = some r ∧ onSome (readAV C ⟨d, op, t, p, af, g⟩ ρ M) (fun v => K v M)
      else if c = 5 then storeObj ⟨d, op, t, p, af, g⟩ ρ = some s ∧ onSome (evalOp C HX ⟨d, op, t, p, af, g⟩ ρ M) (fun r => K r.1 r.2)
      else c = 2 ∧ resOK true (evalOp C HX ⟨d, op, t, p, af, g⟩ ρ) M K) := by
      intro c r s M K
      unfold dOp
      split
      · rename_i heq; exact absurd heq (by intro e; exact hne1 _ _ _ e)
      · rename_i heq; exact absurd heq (by intro e; exact hne2 _ _ e)
      · rename_i heq; exact absurd heq (by intro e; exact hne3 _ e)
      · rfl
    have xkey : ∀ M2, xDrawOp call C ⟨d, op, t, p, af, g⟩ ρ M2 slot = (match (evalPure C HX ⟨d, op, t, p, af, g⟩ ρ).or (evalPure1 C ⟨d, op, t, p, af, g⟩ ρ) with
    | some v => some (⟨0, 0, 0, [], 0⟩, v, M2)
    | none => match readObj ⟨d, op, t, p, af, g⟩ ρ with
      | some r => match readAV C ⟨d, op, t, p, af, g⟩ ρ M2 with
        | some v => some (⟨1, r, 0, [], 0⟩, v, M2)
        | none => none
      | none => match evalOp C HX ⟨d, op, t, p, af, g⟩ ρ M2 with
        | some (v, M') => some (⟨2, 0, 0, writesOf ⟨d, op, t, p, af, g⟩ ρ, M2.length⟩, v, M')
        | none => none) := by
      intro M2
      unfold xDrawOp
      split
      · rename_i heq; exact absurd heq (by intro e; exact hne1 _ _ _ e)
      · rename_i heq; exact absurd heq (by intro e; exact hne2 _ _ e)
      · rename_i heq; exact absurd heq (by intro e; exact hne3 _ e)
      · rfl
    split at h
    · rename_i v1 he
      simp only [Option.some.injEq, Prod.mk.injEq] at h
      obtain ⟨rfl, rfl, rfl⟩ := h
      exact ⟨fun K hk => by rw [key, if_pos rfl, he]; exact hk, Nat.le_refl _, .inl rfl, fun _ _ _ => rfl, fun _ _ h => h, fun s X _ _ => by simp only [xkey, he], fun e => by simp at e, fun r _ hc => by simp at hc, by simp⟩
    · rename_i hnone
      split at h
      · rename_i r hr
        split at h
        case h_2 => simp at h
        rename_i v1 hrd
        simp only [Option.some.injEq, Prod.mk.injEq] at h
        obtain ⟨rfl, rfl, rfl⟩ := h
        exact ⟨fun K hk => by rw [key, if_neg (by simp), if_pos rfl, hrd]; exact ⟨hr, hk⟩, Nat.le_refl _, .inl rfl, fun _ _ _ => rfl, fun _ _ h => h, fun s X _ hs => by simp only [xkey, hnone, hr, readAV_fill hs hr hrd], fun e => by simp at e, fun r _ hc => by simp at hc, by simp⟩
      · rename_i hno
        split at h
        case h_2 => simp at h
        rename_i v1 M1 he
        simp only [Option.some.injEq, Prod.mk.injEq] at h
        obtain ⟨rfl, rfl, rfl⟩ := h
        have ha := evalOp_acts he
        refine ⟨fun K hk => ?_, ha.grow, .inr rfl, ha.old, fun s _ => ha.keep s, fun s X _ hs => ?_, fun e => by simp at e, fun r hst _ hw K hk => by rw [key, if_neg (by simp), if_neg (by simp), if_pos rfl, he]; exact ⟨storeObj_of hst hw, hk⟩, by simp⟩
        · rw [key, if_neg (by simp), if_neg (by simp), if_neg (by simp)]
          refine ⟨rfl, ?_⟩
          unfold resOK
          rw [he]
          refine ⟨fun _ => ⟨ha.keep, fun l hl => ?_⟩, hk⟩
          have gen : ∀ (l : List (Nat × AObj)) (M M1 : Mem) (v : AV), evalOp C HX ⟨d, op, t, p, af, g⟩ ρ M = some (v, M1) → Blanks M l → evalOp C HX ⟨d, op, t, p, af, g⟩ ρ (Go.Abs.fill M l) = some (v, Go.Abs.fill M1 l) := by
            intro l
            induction l with
            | nil => intro M M1 v h _; exact h
            | cons p l ih =>
              intro M M1 v h hb
              obtain ⟨b1, b2⟩ := blanks_tail hb
              exact ih (M.set p.1 p.2) (M1.set p.1 p.2) v ((evalOp_acts h).fill p.1 p.2 b1) b2
          exact gen l M M1 v1 he hl
        · simp only [xkey, hnone]
          simp only [hno, ha.fill s X hs, List.length_set]
end Go.Abs
end
section
/- Whether a region's order matters: a check that the kernel runs quickly. -/
set_option linter.unusedVariables false
set_option linter.unnecessarySimpa false
namespace Go.Abs

def F0 : Foot := ⟨0, 0, 0, [], 0⟩
def footOf (fs : List Foot) (k : Nat) : Foot := fs.getD k F0
def planOf (fs : List Foot) : Plan :=
  { cls := fun k => (footOf fs k).cls, rob := fun k => (footOf fs k).rob, slot := fun k => (footOf fs k).slot,
    aff := fun i k => memN (footOf fs i).rob (footOf fs k).ws || Nat.ble (footOf fs k).len (footOf fs i).rob, fl := true }

def bindsOn (o : Oper) : List Nat := (o.after.toList.filter (Region.binds .any)).map (·.on)
def maskOf (ms : List Nat) : List Nat → Nat
  | [] => 0
  | on :: l => Nat.lor (Nat.lor (Nat.shiftLeft 1 on) (ms.getD on 0)) (maskOf ms l)
/-- for each operation the earlier ones that it may come ahead of; none: slots conflict -/
def scan (ops : Array Oper) : List Oper → Nat → List Nat → Option (List (List Nat))
  | [], _, _ => some []
  | o :: l, i, ms => match (bindsOn o).all (fun on => Nat.blt on i) with
    | true => match ((List.range i).filter fun j => !(Nat.testBit (maskOf ms (bindsOn o)) j)).all (fun j => match ops[j]? with | some x => !slotConf ops x o | none => true) with
      | true => match scan ops l (i + 1) (ms ++ [maskOf ms (bindsOn o)]) with
        | some r => some (((List.range i).filter fun j => !(Nat.testBit (maskOf ms (bindsOn o)) j)) :: r)
        | none => none
      | false => none
    | false => none
/-- a ahead of b in the text: must they keep that order -/
def confF (a b : Foot) : Bool := match a.cls with
  | 0 => false
  | 1 => match b.cls with
    | 2 => memN a.rob b.ws || Nat.ble b.len a.rob
    | 4 => Nat.beq a.rob b.slot
    | 5 => Nat.beq a.rob b.slot
    | _ => false
  | 2 => match b.cls with
    | 2 => true
    | 5 => true
    | 1 => memN b.rob a.ws || Nat.ble a.len b.rob
    | _ => false
  | 4 => match b.cls with
    | 2 => true
    | 1 => Nat.beq b.rob a.slot
    | _ => false
  | 5 => match b.cls with
    | 2 => true
    | 1 => Nat.beq b.rob a.slot
    | _ => false
  | _ => true
def freeOf (all : List Foot) (f : Foot) : List Nat → Bool
  | [] => true
  | j :: l => match confF (footOf all j) f with
    | true => false
    | false => freeOf all f l
def chkF (all : List Foot) : List (List Nat) → List Foot → Bool
  | free :: r, f :: fs => match f.cls with
    | 0 => chkF all r fs
    | _ => match freeOf all f free with
      | true => chkF all r fs
      | false => false
  | [], [] => true
  | _, _ => false
def okF0 (ops : Array Oper) (fs : List Foot) : Bool := match scan ops ops.toList 0 [] with
  | some r => chkF fs r fs
  | none => false
/-- a store that is taken as turning its own object alone -/
def promo1 (o : Oper) (f : Foot) : Foot := match isStore o, f with
  | true, ⟨2, rob, _, [r], len⟩ => ⟨5, rob, r, [r], len⟩
  | _, f => f
def promote : List Oper → List Foot → List Foot
  | o :: l, f :: fs => promo1 o f :: promote l fs
  | _, fs => fs
def putSlots : List Foot → List Nat
  | [] => []
  | f :: fs => match isPut f.cls with
    | true => f.slot :: putSlots fs
    | false => putSlots fs
def nodupN : List Nat → Bool
  | [] => true
  | a :: l => !memN a l && nodupN l
def okF (ops : Array Oper) (fs : List Foot) : Bool := match okF0 ops fs with
  | true => true
  | false => okF0 ops (promote ops.toList fs) && nodupN (putSlots (promote ops.toList fs))

theorem mem_bindsOn {o : Oper} {e : Edge} (he : e ∈ o.after.toList) (hb : Region.binds .any e = true) : e.on ∈ bindsOn o :=
  List.mem_map.2 ⟨e, List.mem_filter.2 ⟨he, hb⟩, rfl⟩
theorem of_bindsOn {o : Oper} {j : Nat} (h : j ∈ bindsOn o) : ∃ e ∈ o.after.toList, Region.binds .any e = true ∧ e.on = j := by
  obtain ⟨e, he, rfl⟩ := List.mem_map.1 h
  obtain ⟨h1, h2⟩ := List.mem_filter.1 he
  exact ⟨e, h1, h2, rfl⟩
theorem testBit_maskOf {ms : List Nat} {j : Nat} : ∀ {l : List Nat}, Nat.testBit (maskOf ms l) j = true → ∃ on ∈ l, on = j ∨ Nat.testBit (ms.getD on 0) j = true
  | [], h => by simp [maskOf] at h
  | on :: l, h => by
    simp only [maskOf] at h
    have e : Nat.lor (Nat.lor (Nat.shiftLeft 1 on) (ms.getD on 0)) (maskOf ms l) = ((1 <<< on) ||| ms.getD on 0) ||| maskOf ms l := rfl
    rw [e, Nat.testBit_or, Nat.testBit_or, Nat.testBit_shiftLeft] at h
    simp only [Bool.or_eq_true, Bool.and_eq_true, decide_eq_true_eq] at h
    rcases h with (h | h) | h
    · refine ⟨on, by simp, .inl ?_⟩
      obtain ⟨h1, h2⟩ := h
      rw [Nat.testBit_one_eq_true_iff_self_eq_zero] at h2
      omega
    · exact ⟨on, by simp, .inr h⟩
    · obtain ⟨x, hx, h2⟩ := testBit_maskOf h
      exact ⟨x, by simp [hx], h2⟩

theorem reach_succ {ops : Array Oper} : ∀ (f j i : Nat), reach ops f j i = true → reach ops (f + 1) j i = true
  | 0, j, i, h => by simp [reach] at h
  | f + 1, j, i, h => by
    rw [reach] at h ⊢
    split at h
    case h_2 => simp at h
    rename_i o ho
    rw [← Array.any_toList] at h ⊢
    obtain ⟨e, he, hb⟩ := List.any_eq_true.1 h
    refine List.any_eq_true.2 ⟨e, he, ?_⟩
    simp only [Bool.and_eq_true, Bool.or_eq_true] at hb ⊢
    exact ⟨hb.1, hb.2.imp id (reach_succ f j e.on)⟩
theorem reach_le {ops : Array Oper} {f g j i : Nat} (h : reach ops f j i = true) (hfg : f ≤ g) : reach ops g j i = true := by
  induction hfg with
  | refl => exact h
  | step _ ih => exact reach_succ _ _ _ ih

/-- what the masks say -/
def MasksOK (ops : Array Oper) (ms : List Nat) : Prop := ∀ i j, i < ms.length → Nat.testBit (ms.getD i 0) j = true → reach ops (i + 1) j i = true

theorem maskOf_reach {ops : Array Oper} {ms : List Nat} (hm : MasksOK ops ms) {o : Oper} {i j : Nat} (ho : ops[i]? = some o) (hi : i = ms.length) (hb : (bindsOn o).all (fun on => Nat.blt on i) = true) (h : Nat.testBit (maskOf ms (bindsOn o)) j = true) : reach ops (i + 1) j i = true := by
  obtain ⟨on, hon, hc⟩ := testBit_maskOf h
  have hlt : on < i := by
    have h1 := List.all_eq_true.1 hb on hon
    have : on + 1 ≤ i := Nat.le_of_ble_eq_true h1
    omega
  obtain ⟨e, he, hbe, rfl⟩ := of_bindsOn hon
  rw [reach, ho]
  simp only
  rw [← Array.any_toList]
  refine List.any_eq_true.2 ⟨e, he, ?_⟩
  simp only [Bool.and_eq_true, Bool.or_eq_true, beq_iff_eq]
  refine ⟨hbe, ?_⟩
  rcases hc with hc | hc
  · exact .inl hc
  · exact .inr (reach_le (hm e.on j (by omega) hc) (by omega))

/-- the scan's word -/
theorem scan_ok {ops : Array Oper} : ∀ (l : List Oper) (i : Nat) (ms : List Nat) (r : List (List Nat)), scan ops l i ms = some r → i = ms.length → MasksOK ops ms → (∀ k o, l[k]? = some o → ops[i + k]? = some o) →
    r.length = l.length ∧ ∀ k o, l[k]? = some o → (∀ e ∈ o.after.toList, Region.binds .any e = true → e.on < i + k) ∧ ∀ j x, j < i + k → ops[j]? = some x → (reach ops (i + k + 1) j (i + k) = true ∨ (slotConf ops x o = false ∧ ∃ fr, r[k]? = some fr ∧ j ∈ fr))
  | [], i, ms, r, h, _, _, _ => by
    simp only [scan, Option.some.injEq] at h
    subst h
    exact ⟨rfl, by simp⟩
  | o :: l, i, ms, r, h, hi, hm, hl => by
    simp only [scan] at h
    split at h
    case h_2 => simp at h
    rename_i hb
    split at h
    case h_2 => simp at h
    rename_i hs
    split at h
    case h_2 => simp at h
    rename_i r1 hr
    simp only [Option.some.injEq] at h
    subst h
    have ho : ops[i]? = some o := by have := hl 0 o rfl; simpa using this
    have hm' : MasksOK ops (ms ++ [maskOf ms (bindsOn o)]) := by
      intro i' j hi' ht
      by_cases e : i' < ms.length
      · refine hm i' j e ?_
        rw [List.getD_eq_getElem?_getD, List.getElem?_append_left e, ← List.getD_eq_getElem?_getD] at ht
        exact ht
      · have e2 : i' = i := by simp at hi'; omega
        subst e2
        rw [List.getD_eq_getElem?_getD, hi, List.getElem?_append_right (Nat.le_refl _)] at ht
        simp at ht
        exact maskOf_reach hm ho hi hb ht
    obtain ⟨i1, i2⟩ := scan_ok l (i + 1) _ r1 hr (by simp [hi]) hm' (fun k o' h' => by
      have := hl (k + 1) o' (by simpa using h')
      rwa [show i + (k + 1) = i + 1 + k from by omega] at this)
    refine ⟨by simp [i1], fun k o' hk => ?_⟩
    cases k with
    | zero =>
      simp only [List.getElem?_cons_zero, Option.some.injEq] at hk
      subst hk
      refine ⟨fun e he hbe => ?_, fun j x hj hx => ?_⟩
      · have h1 := List.all_eq_true.1 hb _ (mem_bindsOn he hbe)
        have : e.on + 1 ≤ i := Nat.le_of_ble_eq_true h1
        omega
      · cases ht : Nat.testBit (maskOf ms (bindsOn o)) j with
        | true => exact .inl (maskOf_reach hm ho hi hb ht)
        | false =>
          have hmem : j ∈ (List.range i).filter fun j => !(Nat.testBit (maskOf ms (bindsOn o)) j) := List.mem_filter.2 ⟨List.mem_range.2 (by omega), by simp [ht]⟩
          have h1 := List.all_eq_true.1 hs j hmem
          rw [hx] at h1
          exact .inr ⟨by simpa using h1, _, rfl, hmem⟩
    | succ k =>
      have := i2 k o' (by simpa using hk)
      rw [show i + (k + 1) = i + 1 + k from by omega]
      simpa using this

theorem freeOf_at {all : List Foot} {f : Foot} : ∀ {l : List Nat}, freeOf all f l = true → ∀ j ∈ l, confF (footOf all j) f = false
  | [], _, j, hj => by simp at hj
  | x :: l, h, j, hj => by
    simp only [freeOf] at h
    split at h
    · simp at h
    · rename_i hc
      rcases List.mem_cons.1 hj with rfl | hj
      · exact hc
      · exact freeOf_at h j hj
theorem chkF_at {all : List Foot} : ∀ (r : List (List Nat)) (fs : List Foot), chkF all r fs = true → r.length = fs.length ∧ ∀ (k : Nat) (fr : List Nat) (f : Foot), r[k]? = some fr → fs[k]? = some f → f.cls = 0 ∨ ∀ j ∈ fr, confF (footOf all j) f = false
  | [], [], _ => ⟨rfl, by simp⟩
  | [], f :: fs, h => by simp [chkF] at h
  | fr :: r, [], h => by simp [chkF] at h
  | fr :: r, f :: fs, h => by
    have step : ∀ hh : chkF all r fs = true, (f.cls = 0 ∨ ∀ j ∈ fr, confF (footOf all j) f = false) → (fr :: r).length = (f :: fs).length ∧ ∀ (k : Nat) (fr' : List Nat) (f' : Foot), (fr :: r)[k]? = some fr' → (f :: fs)[k]? = some f' → f'.cls = 0 ∨ ∀ j ∈ fr', confF (footOf all j) f' = false := by
      intro hh h0
      obtain ⟨i1, i2⟩ := chkF_at r fs hh
      refine ⟨by simp [i1], fun k fr' f' e1 e2 => ?_⟩
      cases k with
      | zero => simp at e1 e2; subst e1; subst e2; exact h0
      | succ k => exact i2 k fr' f' (by simpa using e1) (by simpa using e2)
    simp only [chkF] at h
    split at h
    · rename_i hc; exact step h (.inl hc)
    · split at h
      · rename_i hf; exact step h (.inr (freeOf_at hf))
      · simp at h

theorem confF_mem {fs : List Foot} {j i : Nat} (h : confF (footOf fs j) (footOf fs i) = false) : memConf (planOf fs) j i = false := by
  simp only [memConf, planOf]
  revert h
  generalize footOf fs j = a
  generalize footOf fs i = b
  intro h
  obtain ⟨ac, ar, asl, aw, al⟩ := a
  obtain ⟨bc, br, bs, bw, bl⟩ := b
  simp only [confF] at h ⊢
  have beqN : ∀ a b : Nat, Nat.beq a b = false → (a == b) = false := fun a b h => by
    rw [beq_eq_false_iff_ne]
    intro e; subst e; rw [Nat.beq_refl] at h; simp at h
  split at h
  · simp [isPut]
  · split at h
    · simp [h, isPut]
    · simp [beqN _ _ h, isPut]
    · simp [beqN _ _ h, isPut]
    · rename_i e2 e3 e4
      have n2 : (bc == 2) = false := by rw [beq_eq_false_iff_ne]; exact e2
      have n4 : (bc == 4) = false := by rw [beq_eq_false_iff_ne]; exact e3
      have n5 : (bc == 5) = false := by rw [beq_eq_false_iff_ne]; exact e4
      simp [n2, n4, n5, isPut]
  · split at h
    · simp at h
    · simp at h
    · simp [h, isPut]
    · rename_i e2 e4 e3
      have n2 : (bc == 2) = false := by rw [beq_eq_false_iff_ne]; exact e2
      have n1 : (bc == 1) = false := by rw [beq_eq_false_iff_ne]; exact e3
      have n5 : (bc == 5) = false := by rw [beq_eq_false_iff_ne]; exact e4
      simp [n2, n1, n5, isPut]
  · split at h
    · simp at h
    · simp [beqN _ _ h, isPut]
    · rename_i e2 e3
      have n2 : (bc == 2) = false := by rw [beq_eq_false_iff_ne]; exact e2
      have n1 : (bc == 1) = false := by rw [beq_eq_false_iff_ne]; exact e3
      simp [n2, n1, isPut]
  · split at h
    · simp at h
    · simp [beqN _ _ h, isPut]
    · rename_i e2 e3
      have n2 : (bc == 2) = false := by rw [beq_eq_false_iff_ne]; exact e2
      have n1 : (bc == 1) = false := by rw [beq_eq_false_iff_ne]; exact e3
      simp [n2, n1, isPut]
  · simp at h

theorem okF0_ok {ops : Array Oper} {fs : List Foot} (h : okF0 ops fs = true) (hsl : ∀ j i, j < i → ((footOf fs j).cls = 4 ∨ (footOf fs j).cls = 5) → ((footOf fs i).cls = 4 ∨ (footOf fs i).cls = 5) → (footOf fs j).slot ≠ (footOf fs i).slot) : okDraw ops (planOf fs) = true := by
  unfold okF0 at h
  split at h
  case h_2 => simp at h
  rename_i r hr
  obtain ⟨s1, s2⟩ := scan_ok ops.toList 0 [] r hr rfl (fun i j hi => by simp at hi) (fun k o hk => by simpa using hk)
  obtain ⟨c1, c2⟩ := chkF_at r fs h
  refine List.all_eq_true.2 fun i hi => ?_
  have hi' := List.mem_range.1 hi
  have ho : ops[i]? = some ops[i] := Array.getElem?_eq_getElem hi'
  rw [ho]
  obtain ⟨q1, q2⟩ := s2 i ops[i] (by simpa using ho)
  simp only [Nat.zero_add] at q1 q2
  simp only [Bool.and_eq_true]
  refine ⟨⟨?_, by simp [planOf]⟩, List.all_eq_true.2 fun j hj => ?_⟩
  · rw [← Array.all_toList]
    refine List.all_eq_true.2 fun e he => ?_
    cases hb : Region.binds .any e with
    | false => rfl
    | true => simp [q1 e he hb]
  · have hj' := List.mem_range.1 hj
    have hx : ops[j]? = some ops[j] := Array.getElem?_eq_getElem (by omega)
    rw [hx]
    simp only [Bool.and_eq_true]
    refine ⟨?_, ?_⟩
    · rcases q2 j _ hj' hx with hc | ⟨hc, fr, hfr, hm⟩
      · rw [reach_le hc (by omega)]; simp
      · have hfi : fs[i]? = some (footOf fs i) := by
          have : i < fs.length := by rw [← c1, s1]; simpa using hi'
          simp [footOf, List.getD_eq_getElem?_getD, List.getElem?_eq_getElem this]
        have hmc : memConf (planOf fs) j i = false := by
          rcases c2 i fr _ hfr hfi with h0 | h0
          · simp only [memConf, planOf]
            simp [h0, isPut]
          · exact confF_mem (h0 j hm)
        rw [hc, hmc]; simp
    · have := hsl j i hj'
      simp only [planOf]
      cases e1 : isPut (footOf fs i).cls with
      | false => rfl
      | true =>
        cases e2 : isPut (footOf fs j).cls with
        | false => rfl
        | true =>
          have := this (isPut_iff.1 e2) (isPut_iff.1 e1)
          simp [this]
theorem nodupN_at {fs : List Foot} : nodupN (putSlots fs) = true → ∀ j i, j < i → ((footOf fs j).cls = 4 ∨ (footOf fs j).cls = 5) → ((footOf fs i).cls = 4 ∨ (footOf fs i).cls = 5) → (footOf fs j).slot ≠ (footOf fs i).slot := by
  have mem : ∀ (fs : List Foot) i, ((footOf fs i).cls = 4 ∨ (footOf fs i).cls = 5) → (footOf fs i).slot ∈ putSlots fs := by
    intro fs
    induction fs with
    | nil => intro i h; simp [footOf, F0] at h
    | cons f fs ih =>
      intro i h
      cases i with
      | zero =>
        simp only [footOf, List.getD_cons_zero] at h ⊢
        simp only [putSlots, isPut_iff.2 h]; simp
      | succ i =>
        have := ih i (by simpa [footOf] using h)
        simp only [putSlots]
        have e : (footOf (f :: fs) (i + 1)).slot = (footOf fs i).slot := by simp [footOf]
        rw [e]
        split
        · exact List.mem_cons_of_mem _ this
        · exact this
  induction fs with
  | nil => intro _ j i _ h; simp [footOf, F0] at h
  | cons f fs ih =>
    intro hn j i hji hj hi
    have hn' : nodupN (putSlots fs) = true := by
      simp only [putSlots] at hn
      split at hn
      · simp only [nodupN, Bool.and_eq_true] at hn; exact hn.2
      · exact hn
    cases i with
    | zero => omega
    | succ i =>
      cases j with
      | succ j =>
        have := ih hn' j i (by omega) (by simpa [footOf] using hj) (by simpa [footOf] using hi)
        simpa [footOf] using this
      | zero =>
        have hm := mem fs i (by simpa [footOf] using hi)
        simp only [footOf, List.getD_cons_zero] at hj
        simp only [putSlots, isPut_iff.2 hj, nodupN, Bool.and_eq_true, Bool.not_eq_true'] at hn
        intro e
        have e1 : (footOf (f :: fs) 0).slot = f.slot := rfl
        have e2 : (footOf (f :: fs) (i + 1)).slot = (footOf fs i).slot := by simp [footOf]
        rw [e1, e2] at e
        rw [← e] at hm
        rw [memN_iff.2 hm] at hn
        simp at hn
end Go.Abs
end
section
/- The evaluator: code and calls. -/
set_option linter.unusedVariables false
namespace Go.Abs

def nextSlot (f : Foot) (slot : Nat) : Nat := match f.cls with
  | 4 => slot + 1
  | _ => slot
theorem nextSlot_eq (f : Foot) (slot : Nat) : nextSlot f slot = if f.cls = 4 then slot + 1 else slot := by
  unfold nextSlot
  split
  · rename_i h; rw [if_pos h]
  · rename_i h; rw [if_neg (fun e => h e)]
def xDraw (call : CallF) (C : Ctx) (ops : Array Oper) : List Oper → BT → Mem → Nat → Option (BT × Mem × List Foot)
  | [], t, M, _ => some (t, M, [])
  | o :: rest, t, M, slot => match xGuard ops o t with
    | some true => match xDrawOp call C o (t.fn.ev C) M slot with
      | some (f, v, M') => match t.set o.dst v with
        | some t' => match xDraw call C ops rest t' M' (nextSlot f slot) with
          | some (t2, M2, fs) => some (t2, M2, f :: fs)
          | none => none
        | none => none
      | none => none
    | some false => match t.set o.dst (.val undef) with
      | some t' => match xDraw call C ops rest t' M slot with
        | some (t2, M2, fs) => some (t2, M2, F0 :: fs)
        | none => none
      | none => none
    | none => none
def Fits (L : Plan) (k : Nat) (l : List Oper) (fs : List Foot) : Prop := ∀ j, L.rob (k + j) = (footOf fs j).rob ∧ (∀ i, L.aff i (k + j) = (memN (L.rob i) (footOf fs j).ws || Nat.ble (footOf fs j).len (L.rob i))) ∧
  ((L.cls (k + j) = (footOf fs j).cls ∧ L.slot (k + j) = (footOf fs j).slot) ∨ (L.cls (k + j) = 5 ∧ (footOf fs j).cls = 2 ∧ (footOf fs j).ws = [L.slot (k + j)] ∧ ∃ o, l[j]? = some o ∧ isStore o = true))
theorem fits_plan (l : List Oper) (fs : List Foot) : Fits (planOf fs) 0 l fs := fun j => by simp [planOf]
theorem promote_at : ∀ (l : List Oper) (fs : List Foot) (j : Nat), footOf (promote l fs) j = footOf fs j ∨ ∃ (o : Oper) (rob sl r len : Nat), l[j]? = some o ∧ isStore o = true ∧ footOf fs j = ⟨2, rob, sl, [r], len⟩ ∧ footOf (promote l fs) j = ⟨5, rob, r, [r], len⟩
  | [], fs, j => .inl rfl
  | o :: l, [], j => .inl rfl
  | o :: l, f :: fs, j => by
    cases j with
    | zero =>
      simp only [footOf, promote, List.getD_cons_zero]
      unfold promo1
      split
      · rename_i rob sl r len hs
        exact .inr ⟨o, rob, sl, r, len, rfl, hs, rfl, rfl⟩
      · exact .inl rfl
    | succ j =>
      have := promote_at l fs j
      simpa [footOf, promote] using this
theorem fits_promo (l : List Oper) (fs : List Foot) : Fits (planOf (promote l fs)) 0 l fs := fun j => by
  have key : ∀ i, (footOf (promote l fs) i).rob = (footOf fs i).rob ∧ (footOf (promote l fs) i).ws = (footOf fs i).ws ∧ (footOf (promote l fs) i).len = (footOf fs i).len := fun i => by
    rcases promote_at l fs i with h | ⟨o, rob, sl, r, len, _, _, h1, h2⟩
    · rw [h]; exact ⟨rfl, rfl, rfl⟩
    · rw [h1, h2]; exact ⟨rfl, rfl, rfl⟩
  simp only [planOf, Nat.zero_add]
  refine ⟨(key j).1, fun i => by rw [(key j).2.1, (key j).2.2], ?_⟩
  rcases promote_at l fs j with h | ⟨o, rob, sl, r, len, h0, hs, h1, h2⟩
  · rw [h]; exact .inl ⟨rfl, rfl⟩
  · rw [h1, h2]; exact .inr ⟨rfl, rfl, rfl, o, h0, hs⟩
theorem Fits.tail {L : Plan} {k : Nat} {o : Oper} {l : List Oper} {f : Foot} {fs : List Foot} (h : Fits L k (o :: l) (f :: fs)) : Fits L (k + 1) l fs := fun j => by
  have := h (j + 1)
  rw [show k + (j + 1) = k + 1 + j from by omega] at this
  simpa [footOf] using this
def wsFeet (base : Nat) : List Foot → List Nat → List Nat
  | [], ws => ws
  | f :: fs, ws => wsFeet base fs (wsAdd base f.ws ws)
def allocsOf : List Oper → Nat
  | [] => 0
  | o :: l => match isAlloc o with
    | true => allocsOf l + 1
    | false => allocsOf l

theorem xDraw_ok {call : CallF} {C : Ctx} (hc : CallOK C call) {base R : Nat} (hbR : base ≤ R) {ops : Array Oper} : ∀ (l : List Oper) (t : BT) (M : Mem) (slot : Nat) (t' : BT) (M' : Mem) (fs : List Foot), xDraw call C ops l t M slot = some (t', M', fs) → R ≤ slot → R ≤ M.length →
    (∀ L k, Fits L k l fs → L.fl = true → drawRun C HX ops L k l t.fn M (fun T m => T = t'.fn ∧ m = M')) ∧ M.length ≤ M'.length ∧ (∀ s, s < R → M[s]? = some blank → M'[s]? = some blank) ∧ (∀ M0 ws, Old base ws M0 M → Old base (wsFeet base fs ws) M0 M') ∧
    (∀ (s : Nat) (X : AObj), s < R → M[s]? = some blank → xDraw call C ops l t (M.set s X) slot = some (t', M'.set s X, fs)) ∧ (∀ j, (footOf fs j).cls = 4 → slot ≤ (footOf fs j).slot ∧ (footOf fs j).slot < slot + allocsOf l) ∧ (∀ j i, j < i → (footOf fs j).cls = 4 → (footOf fs i).cls = 4 → (footOf fs j).slot ≠ (footOf fs i).slot) ∧ (∀ j, (footOf fs j).cls ≠ 5)
  | [], t, M, slot, t', M', fs, h, hs, hM => by
    simp only [xDraw, Option.some.injEq, Prod.mk.injEq] at h
    obtain ⟨rfl, rfl, rfl⟩ := h
    exact ⟨fun _ _ _ _ => ⟨rfl, rfl⟩, Nat.le_refl _, fun _ _ h => h, fun _ _ h => h, fun _ _ _ _ => rfl, fun j hj => by simp [footOf, F0] at hj, fun j i _ hj => by simp [footOf, F0] at hj, fun j => by simp [footOf, F0]⟩
  | o :: rest, t, M, slot, t', M', fs, h, hs, hM => by
    simp only [xDraw] at h
    split at h
    · rename_i hgd
      split at h
      case h_2 => simp at h
      rename_i f v M1 ho
      split at h
      case h_2 => simp at h
      rename_i t1 ht
      split at h
      case h_2 => simp at h
      rename_i t2 M2 fs1 hr
      simp only [Option.some.injEq, Prod.mk.injEq] at h
      obtain ⟨rfl, rfl, rfl⟩ := h
      have hD := xDrawOp_ok hc hs ho
      have hns : slot ≤ nextSlot f slot := by rw [nextSlot_eq]; split <;> omega
      obtain ⟨i1, i2, i3, i4, i5, i6, i7, i8⟩ := xDraw_ok hc hbR rest t1 M1 (nextSlot f slot) t2 M2 fs1 hr (by omega) (by have := hD.grow; omega)
      refine ⟨fun L k hL hfl => ?_, Nat.le_trans hD.grow i2, fun s h1 h2 => i3 s h1 (hD.keep s h1 h2), fun M0 ws h0 => i4 M0 _ (h0.add (by omega) hD.old), fun s X h1 h2 => ?_, fun j hj => ?_, fun j i hji hj hi => ?_, fun j => ?_⟩
      · obtain ⟨e2, e4, e13⟩ := hL 0
        simp only [footOf, List.getD_cons_zero, Nat.add_zero] at e2 e4 e13
        simp only [drawRun]
        rw [xGuard_ok hgd, if_pos rfl, e2, hfl]
        have both : ∀ K : AV → Mem → Prop, K v M1 → dOp C HX true (L.cls k) f.rob (L.slot k) o (t.fn.ev C) M K := fun K hk => by
          rcases e13 with ⟨e1, e3⟩ | ⟨e1, q1, q2, o', q3, q4⟩
          · rw [e1, e3]; exact hD.run K hk
          · simp only [List.getElem?_cons_zero, Option.some.injEq] at q3
            subst q3
            rw [e1]; exact hD.run5 _ q4 q1 q2 K hk
        refine both _ ⟨fun i hi ha => ?_, ?_⟩
        · rcases hD.len with h1 | h1
          · rw [h1]
          · rw [e4 i] at ha
            simp only [Bool.or_eq_false_iff] at ha
            refine hD.old _ ?_ (fun hm => ?_)
            · have : ¬ (f.len ≤ L.rob i) := fun hle => by rw [Nat.ble_eq_true_of_le hle] at ha; simp at ha
              omega
            · rw [memN_iff.2 hm] at ha; simp at ha
        · rw [← BT.set_fn ht]; exact i1 L (k + 1) hL.tail hfl
      · simp only [xDraw, hgd, hD.fill s X h1 h2, ht, i5 s X h1 (hD.keep s h1 h2)]
      · cases j with
        | zero =>
          simp only [footOf, List.getD_cons_zero] at hj ⊢
          obtain ⟨h1, h2, _⟩ := hD.slot hj
          simp only [allocsOf, h2]
          omega
        | succ j =>
          have := i6 j (by simpa [footOf] using hj)
          simp only [footOf, List.getD_cons_succ] at this ⊢
          rw [nextSlot_eq] at this
          simp only [allocsOf]
          by_cases h4 : f.cls = 4
          · rw [if_pos h4] at this
            rw [(hD.slot h4).2.1]
            simp only
            omega
          · rw [if_neg h4] at this
            split <;> omega
      · cases i with
        | zero => omega
        | succ i =>
          cases j with
          | zero =>
            simp only [footOf, List.getD_cons_zero, List.getD_cons_succ] at hj hi ⊢
            obtain ⟨h1, _, _⟩ := hD.slot hj
            have := (i6 i (by simpa [footOf] using hi)).1
            rw [nextSlot_eq, if_pos hj] at this
            simp only [footOf] at this
            omega
          | succ j =>
            have := i7 j i (by omega) (by simpa [footOf] using hj) (by simpa [footOf] using hi)
            simpa [footOf] using this
      · cases j with
        | zero => exact hD.no5
        | succ j => have := i8 j; simpa [footOf] using this
    · rename_i hgd
      split at h
      case h_2 => simp at h
      rename_i t1 ht
      split at h
      case h_2 => simp at h
      rename_i t2 M2 fs1 hr
      simp only [Option.some.injEq, Prod.mk.injEq] at h
      obtain ⟨rfl, rfl, rfl⟩ := h
      obtain ⟨i1, i2, i3, i4, i5, i6, i7, i8⟩ := xDraw_ok hc hbR rest t1 M slot t2 M2 fs1 hr hs hM
      refine ⟨fun L k hL hfl => ?_, i2, i3, fun M0 ws h0 => i4 M0 _ h0, fun s X h1 h2 => ?_, fun j hj => ?_, fun j i hji hj hi => ?_, fun j => ?_⟩
      · simp only [drawRun]
        rw [xGuard_ok hgd, if_neg (by simp), ← BT.set_fn ht]
        exact i1 L (k + 1) hL.tail hfl
      · simp only [xDraw, hgd, ht, i5 s X h1 h2]
      · cases j with
        | zero => simp [footOf, F0] at hj
        | succ j =>
          have := i6 j (by simpa [footOf] using hj)
          simp only [footOf, List.getD_cons_succ, allocsOf] at this ⊢
          split <;> omega
      · cases i with
        | zero => omega
        | succ i =>
          cases j with
          | zero => simp [footOf, F0] at hj
          | succ j =>
            have := i7 j i (by omega) (by simpa [footOf] using hj) (by simpa [footOf] using hi)
            simpa [footOf] using this
      · cases j with
        | zero => simp [footOf, F0]
        | succ j => have := i8 j; simpa [footOf] using this
    · simp at h

/-- a plan for the region -/
theorem okF_plan {ops : Array Oper} {fs : List Foot} (h : okF ops fs = true) (h7 : ∀ j i, j < i → (footOf fs j).cls = 4 → (footOf fs i).cls = 4 → (footOf fs j).slot ≠ (footOf fs i).slot) (h8 : ∀ j, (footOf fs j).cls ≠ 5) :
    ∃ L : Plan, okDraw ops L = true ∧ Fits L 0 ops.toList fs ∧ L.fl = true := by
  unfold okF at h
  split at h
  · rename_i h0
    exact ⟨planOf fs, okF0_ok h0 (fun j i hji h1 h2 => h7 j i hji (h1.resolve_right (h8 j)) (h2.resolve_right (h8 i))), fits_plan _ fs, rfl⟩
  · simp only [Bool.and_eq_true] at h
    exact ⟨planOf (promote ops.toList fs), okF0_ok h.1 (nodupN_at h.2), fits_promo _ fs, rfl⟩

/-! ### code -/
def withSlots : Nat → Mem → Mem
  | 0, M => M
  | n + 1, M => M ++ List.replicate (n + 1) blank
theorem withSlots_eq (n : Nat) (M : Mem) : withSlots n M = M ++ List.replicate n blank := by
  cases n with
  | zero => simp [withSlots]
  | succ n => rfl
abbrev XC := Exit × BT × Mem × List Nat
def xLoop (f : BT → Mem → List Nat → Option XC) : Nat → BT → Mem → List Nat → Option XC
  | 0, _, _, _ => none
  | n + 1, t, M, ws => match f t M ws with
    | some (.normal, t, M, ws) => xLoop f n t M ws
    | r => r
def xCode (call : CallF) (C : Ctx) (fuel base : Nat) : Code → BT → Mem → List Nat → Option XC
  | .skip, t, M, ws => some (.normal, t, M, ws)
  | .label _, t, M, ws => some (.normal, t, M, ws)
  | .region _ ops draw, t, M, ws => match draw with
    | true => match xDraw call C ops ops.toList t (withSlots (allocsOf ops.toList) M) M.length with
      | some (t', M', fs) => match okF ops fs with
        | true => some (.normal, t', M', wsFeet base fs ws)
        | false => none
      | none => none
    | false => match xOps call C base ops ops.toList t M ws with
      | some s => some (.normal, s)
      | none => none
  | .seq x y, t, M, ws => match xCode call C fuel base x t M ws with
    | some (.normal, t, M, ws) => xCode call C fuel base y t M ws
    | r => r
  | .cond c x y, t, M, ws => match t.fn.ev C c with
    | .val (.bool true) => xCode call C fuel base x t M ws
    | .val (.bool false) => xCode call C fuel base y t M ws
    | _ => none
  | .block id c, t, M, ws => match xCode call C fuel base c t M ws with
    | some (.exit i, s) => match Nat.beq i id with
      | true => some (.normal, s)
      | false => some (.exit i, s)
    | r => r
  | .loop c, t, M, ws => xLoop (xCode call C fuel base c) fuel t M ws
  | .exit id, t, M, ws => some (.exit id, t, M, ws)
  | .ret, t, M, ws => some (.ret, t, M, ws)
  | _, _, _, _ => none

/-- all slots that are read lie in the frame, in drawn regions too -/
def codeIn (N : Nat) : Code → Bool
  | .region _ ops _ => opsInside N ops ops.toList
  | .seq x y => codeIn N x && codeIn N y
  | .cond c x y => Operand.inside N c && codeIn N x && codeIn N y
  | .block _ c => codeIn N c
  | .loop c => codeIn N c
  | _ => true

theorem vcGuard_mono {ops : Array Oper} {o : Oper} {T : Env} {r r' s s' : Prop} (hr : r → r') (hs : s → s') (h : vcGuard ops o T r s) : vcGuard ops o T r' s' := by
  unfold vcGuard at h ⊢
  split at h
  · exact hr h
  · split at h
    · split at h
      · split at h
        · rename_i e; rw [if_pos e]; exact hr h
        · rename_i e; rw [if_neg e]; exact hs h
      · exact hs h
      · exact h.elim
    · exact h.elim
theorem vcOp_mono {C : Ctx} {h : Hint} {o : Oper} {K K' : AV → Mem → Prop} {ρ : Operand → AV} {M : Mem} (hk : ∀ v m, K v m → K' v m) (hv : vcOp C h o K ρ M) : vcOp C h o K' ρ M := by
  unfold vcOp at hv ⊢
  split at hv
  · split at hv
    · exact hv.mono hk
    · exact hv.elim
  · split at hv
    · obtain ⟨e, sz, bytes, h1, h2⟩ := hv
      refine ⟨e, sz, bytes, h1, ?_⟩
      split at h2
      · exact hk _ _ h2
      · exact h2.elim
    · exact hv.elim
  · split at hv
    · exact hk _ _ hv
    · exact ⟨hv.1, fun b => hk _ _ (hv.2 b)⟩
theorem vcOps_mono {C : Ctx} {h : Hint} {ops : Array Oper} {K K' : Env → Mem → Prop} (hk : ∀ T m, K T m → K' T m) : ∀ (l : List Oper) (T : Env) (M : Mem), vcOps C h ops l K T M → vcOps C h ops l K' T M
  | [], T, M, hv => hk _ _ hv
  | o :: rest, T, M, hv => by
    simp only [vcOps] at hv ⊢
    exact vcGuard_mono (fun h1 => vcOp_mono (fun v m h2 => vcOps_mono hk rest _ _ h2) h1) (fun h1 => vcOps_mono hk rest _ _ h1) hv

def At2 (e : Exit) (t : BT) (M : Mem) : Exit → Env → Mem → Prop := fun e2 T m => e2 = e ∧ T = t.fn ∧ m = M

theorem xLoop_ok {C : Ctx} {N base : Nat} {c : Code} {f : BT → Mem → List Nat → Option XC} (hf : ∀ t M ws e t' M' ws', base ≤ M.length → f t M ws = some (e, t', M', ws') → AWp C N c (At2 e t' M') t.fn M ∧ Goes base (fun m => f t m ws) (fun m => (e, t', m, ws')) M M' ws ws')
    {n : Nat} {t : BT} {M : Mem} {ws : List Nat} {e : Exit} {t' : BT} {M' : Mem} {ws' : List Nat} (hb : base ≤ M.length) (h : xLoop f n t M ws = some (e, t', M', ws')) : AWp C N (.loop c) (At2 e t' M') t.fn M ∧ Goes base (fun m => xLoop f n t m ws) (fun m => (e, t', m, ws')) M M' ws ws' := by
  have key : ∀ n t M ws, base ≤ M.length → xLoop f n t M ws = some (e, t', M', ws') → Goes base (fun m => xLoop f n t m ws) (fun m => (e, t', m, ws')) M M' ws ws' ∧ ∀ G w a, Inv C G M w → RepEnv G N t.fn a → ∀ b k cs,
      ∃ e2 a' w', Lift C N (At2 e t' M') G w e2 a' w' ∧ Arrives C.P (lone (b.at a (.code c :: .inLoop c :: k)) cs w) b k cs e2 a' w' := by
    intro n
    induction n with
    | zero => intro t M ws _ h; simp [xLoop] at h
    | succ n ih =>
      intro t M ws hb h
      simp only [xLoop] at h
      split at h
      · rename_i t1 M1 ws1 h1
        obtain ⟨q1, q2⟩ := hf _ _ _ _ _ _ _ hb h1
        obtain ⟨r1, r2⟩ := ih t1 M1 ws1 (Nat.le_trans hb q2.grow) h
        refine ⟨q2.trans r1 (fun A B e => by simp only [xLoop, e]), fun G w a hi he b k cs => ?_⟩
        obtain ⟨e1, a1, w1, ⟨T1, m1, G1, ⟨rfl, rfl, rfl⟩, g1, i1, he1, x1⟩, harr⟩ := q1 G w a hi he b (.inLoop c :: k) cs
        obtain ⟨e₂, a₂, w₂, hq₂, harr₂⟩ := r2 G1 w1 a1 i1 he1 b k cs
        exact ⟨e₂, a₂, w₂, Lift.mono g1 x1 hq₂, .of_steps (Steps.trans harr (.one step_inLoop)) harr₂⟩
      · rename_i hne
        obtain ⟨q1, q2⟩ := hf _ _ _ _ _ _ _ hb h
        have hen : e ≠ .normal := by intro e1; subst e1; exact hne _ _ _ h
        refine ⟨q2.turn (fun A B e2 => ?_), fun G w a hi he b k cs => ?_⟩
        · simp only [xLoop, e2]
          cases e with
          | normal => exact absurd rfl hen
          | _ => rfl
        obtain ⟨e1, a1, w1, hq, harr⟩ := q1 G w a hi he b (.inLoop c :: k) cs
        have he1 : e1 = e := by obtain ⟨T1, m1, G1, ⟨h1, _, _⟩, _⟩ := hq; exact h1
        subst he1
        refine ⟨_, a1, w1, hq, ?_⟩
        cases e1 with
        | normal => exact absurd rfl hen
        | _ => exact .pass (x := .inLoop c) rfl (fun _ _ => .inl (by simp)) harr
  obtain ⟨k1, k2⟩ := key n t M ws hb h
  refine ⟨fun G w a hi he b k cs => ?_, k1⟩
  obtain ⟨e2, a', w', hq, harr⟩ := k2 G w a hi he b k cs
  exact ⟨e2, a', w', hq, .of_steps (.one step_loop) harr⟩

theorem drawRun_mono' {C : Ctx} {h : Hint} {ops : Array Oper} {L : Plan} {K K' : Env → Mem → Prop} (hk : ∀ T m, K T m → K' T m) : ∀ (l : List Oper) (k : Nat) (T : Env) (M : Mem), drawRun C h ops L k l T M K → drawRun C h ops L k l T M K' := by
  have on : ∀ {α : Type} (o : Option α) (f g : α → Prop), (∀ a, f a → g a) → onSome o f → onSome o g := by
    intro α o f g hfg ho
    cases o with
    | none => exact ho
    | some a => exact hfg a ho
  have res : ∀ (fl : Bool) (f : Mem → Option (AV × Mem)) (M : Mem) (K K' : AV → Mem → Prop), (∀ v m, K v m → K' v m) → resOK fl f M K → resOK fl f M K' := by
    intro fl f M K K' hk h
    unfold resOK at h ⊢
    split at h
    · exact ⟨h.1, hk _ _ h.2⟩
    · exact h
  have dop : ∀ (fl : Bool) (c r s : Nat) (o : Oper) (ρ : Operand → AV) (M : Mem) (K K' : AV → Mem → Prop), (∀ v m, K v m → K' v m) → dOp C h fl c r s o ρ M K → dOp C h fl c r s o ρ M K' := by
    intro fl c r s o ρ M K K' hk hv
    unfold dOp at hv ⊢
    split at hv
    · split at hv
      · split at hv
        · rename_i e; rw [if_pos e]; obtain ⟨r, q1, q2⟩ := hv; exact ⟨r, q1, hk _ _ q2⟩
        · rename_i e; rw [if_neg e]; obtain ⟨r, M1, q1, q2, q3, q4⟩ := hv; exact ⟨r, M1, q1, q2, q3, hk _ _ q4⟩
      · exact hv.elim
    · split at hv
      · obtain ⟨e, sz, bytes, h1, h1', h2⟩ := hv
        exact ⟨e, sz, bytes, h1, h1', res _ _ _ _ _ hk h2⟩
      · exact hv.elim
    · split at hv
      · rename_i e; rw [if_pos e]; exact ⟨hv.1, hv.2.1, on _ _ _ (fun a h => hk _ _ h) hv.2.2⟩
      · rename_i e; rw [if_neg e]; exact ⟨hv.1, res _ _ _ _ _ hk hv.2⟩
    · split at hv
      · rename_i e; rw [if_pos e]; exact on _ _ _ (fun a h => hk _ _ h) hv
      · rename_i e
        rw [if_neg e]
        split at hv
        · rename_i e1; rw [if_pos e1]; exact ⟨hv.1, on _ _ _ (fun a h => hk _ _ h) hv.2⟩
        · rename_i e1
          rw [if_neg e1]
          split at hv
          · rename_i e2; rw [if_pos e2]; exact ⟨hv.1, on _ _ _ (fun a h => hk _ _ h) hv.2⟩
          · rename_i e2; rw [if_neg e2]; exact ⟨hv.1, res _ _ _ _ _ hk hv.2⟩
  intro l
  induction l with
  | nil => intro k T M hv; exact hk _ _ hv
  | cons o rest ih =>
    intro k T M hv
    simp only [drawRun] at hv ⊢
    exact vcGuard_mono (fun h1 => dop _ _ _ _ _ _ _ _ _ (fun v m h2 => ⟨h2.1, ih _ _ _ h2.2⟩) h1) (fun h1 => ih _ _ _ h1) hv

theorem xCode_ok {call : CallF} {C : Ctx} (hmix : C.P.follows .mixedOrders = true) (hc : CallOK C call) {fuel base N : Nat} : ∀ (c : Code) (t : BT) (M : Mem) (ws : List Nat) (e : Exit) (t' : BT) (M' : Mem) (ws' : List Nat), codeIn N c = true → base ≤ M.length →
    xCode call C fuel base c t M ws = some (e, t', M', ws') → AWp C N c (At2 e t' M') t.fn M ∧ Goes base (fun m => xCode call C fuel base c t m ws) (fun m => (e, t', m, ws')) M M' ws ws' 
  | .skip, t, M, ws, e, t', M', ws', _, _, h => by
    simp only [xCode, Option.some.injEq, Prod.mk.injEq] at h
    obtain ⟨rfl, rfl, rfl, rfl⟩ := h
    exact ⟨awp_skip ⟨rfl, rfl, rfl⟩, .same fun _ _ _ => by simp only [xCode]⟩
  | .label l, t, M, ws, e, t', M', ws', _, _, h => by
    simp only [xCode, Option.some.injEq, Prod.mk.injEq] at h
    obtain ⟨rfl, rfl, rfl, rfl⟩ := h
    exact ⟨awp_label ⟨rfl, rfl, rfl⟩, .same fun _ _ _ => by simp only [xCode]⟩
  | .region id ops draw, t, M, ws, e, t', M', ws', hin, hb, h => by
    simp only [codeIn] at hin
    simp only [xCode] at h
    cases draw with
    | true =>
      simp only at h
      split at h
      case h_2 => simp at h
      rename_i t1 M1 fs hd
      split at h
      case h_2 => simp at h
      rename_i hok
      simp only [Option.some.injEq, Prod.mk.injEq] at h
      obtain ⟨rfl, rfl, rfl, rfl⟩ := h
      have hd' := hd
      rw [withSlots_eq] at hd
      have hlen : M.length ≤ (M ++ List.replicate (allocsOf ops.toList) blank).length := by simp
      obtain ⟨i1, i2, i3, i4, i5, i6, i7, i8⟩ := xDraw_ok hc hb ops.toList t _ M.length t1 M1 fs hd (Nat.le_refl _) hlen
      obtain ⟨L, hokd, hfit, hfl⟩ := okF_plan hok i7 i8
      have sub : ∀ s, s < M.length → M[s]? = some blank → (M ++ List.replicate (allocsOf ops.toList) blank)[s]? = some blank := fun s h1 h2 => by rw [List.getElem?_append_left h1]; exact h2
      refine ⟨awp_reserve (allocsOf ops.toList) (awp_draw (h := HX) hmix L hin hokd ?_ ?_), ⟨Nat.le_trans hlen i2, fun s hs => i3 s (getElem?_lt hs) (sub s (getElem?_lt hs) hs), fun hb M0 h0 => i4 M0 ws (fun i hi hn => ?_), fun s X hs => ?_⟩⟩
      · intro k _ hk
        have hk' : (footOf fs k).cls = 4 ∧ L.slot k = (footOf fs k).slot := by
          have := (hfit k).2.2
          rw [Nat.zero_add] at this
          rcases this with ⟨q1, q2⟩ | ⟨q1, _⟩
          · exact ⟨q1.symm.trans hk, q2⟩
          · omega
        obtain ⟨j1, j2⟩ := i6 k hk'.1
        rw [hk'.2]
        rw [List.getElem?_append_right j1, List.getElem?_replicate, if_pos (by omega)]
      · exact drawRun_mono' (fun T m h => ⟨rfl, h⟩) _ _ _ _ (i1 L 0 hfit hfl)
      · rw [List.getElem?_append_left (by omega)]; exact h0 i hi hn
      · have hl := getElem?_lt hs
        have h5 := i5 s X hl (sub s hl hs)
        simp only [xCode, withSlots_eq, List.length_set]
        rw [← List.set_append_left _ _ hl, h5]
        simp only [hok]
    | false =>
      simp only at h
      split at h
      case h_2 => simp at h
      rename_i s hd
      simp only [Option.some.injEq, Prod.mk.injEq] at h
      obtain ⟨rfl, rfl⟩ := h
      obtain ⟨h1, h2⟩ := xOps_ok hc ops.toList t M ws t' M' ws' hd
      refine ⟨awp_region (h := HX) hin ?_, h2.turn (fun A B e => by simp only [xCode, e])⟩
      exact vcOps_mono (fun T m h => ⟨rfl, h⟩) _ _ _ h1
  | .seq x y, t, M, ws, e, t', M', ws', hin, hb, h => by
    simp only [codeIn, Bool.and_eq_true] at hin
    simp only [xCode] at h
    split at h
    · rename_i t1 M1 ws1 h1
      obtain ⟨q1, q2⟩ := xCode_ok hmix hc x t M ws _ t1 M1 ws1 hin.1 hb h1
      obtain ⟨r1, r2⟩ := xCode_ok hmix hc y t1 M1 ws1 e t' M' ws' hin.2 (Nat.le_trans hb q2.grow) h
      refine ⟨awp_seq (q1.mono ?_), q2.trans r2 (fun A B e => by simp only [xCode, e])⟩
      rintro e2 T m ⟨rfl, rfl, rfl⟩
      exact r1
    · rename_i hne
      obtain ⟨q1, q2⟩ := xCode_ok hmix hc x t M ws e t' M' ws' hin.1 hb h
      have hen : e ≠ .normal := by intro e1; subst e1; exact hne _ _ _ h
      refine ⟨awp_seq (q1.mono ?_), q2.turn (fun A B e2 => ?_)⟩
      · rintro e2 T m ⟨rfl, rfl, rfl⟩
        cases e2 with
        | normal => exact absurd rfl hen
        | _ => exact ⟨rfl, rfl, rfl⟩
      · simp only [xCode, e2]
        cases e with
        | normal => exact absurd rfl hen
        | _ => rfl
  | .cond c x y, t, M, ws, e, t', M', ws', hin, hb, h => by
    simp only [codeIn, Bool.and_eq_true] at hin
    simp only [xCode] at h
    split at h
    · rename_i hv
      obtain ⟨q1, q2⟩ := xCode_ok hmix hc x t M ws e t' M' ws' hin.1.2 hb h
      exact ⟨awp_cond hin.1.1 hv (fun _ => q1) (fun e => by simp at e), q2.turn (fun A B e => by simp only [xCode, hv]; exact e)⟩
    · rename_i hv
      obtain ⟨q1, q2⟩ := xCode_ok hmix hc y t M ws e t' M' ws' hin.2 hb h
      exact ⟨awp_cond hin.1.1 hv (fun e => by simp at e) (fun _ => q1), q2.turn (fun A B e => by simp only [xCode, hv]; exact e)⟩
    · simp at h
  | .block id c, t, M, ws, e, t', M', ws', hin, hb, h => by
    simp only [codeIn] at hin
    simp only [xCode] at h
    split at h
    · rename_i i s hx
      obtain ⟨t1, M1, ws1⟩ := s
      obtain ⟨q1, q2⟩ := xCode_ok hmix hc c t M ws _ t1 M1 ws1 hin hb hx
      split at h
      · rename_i hi
        have hi' := Nat.eq_of_beq_eq_true hi
        simp only [Option.some.injEq, Prod.mk.injEq] at h
        obtain ⟨rfl, rfl, rfl, rfl⟩ := h
        refine ⟨awp_block (q1.mono ?_), q2.turn (fun A B e => by simp only [xCode, e, hi])⟩
        rintro e2 T m ⟨rfl, rfl, rfl⟩
        simp only [inBlockK, hi', if_true]
        exact ⟨rfl, rfl, rfl⟩
      · rename_i hi
        have hi' : i ≠ id := by intro e; subst e; rw [Nat.beq_refl] at hi; simp at hi
        simp only [Option.some.injEq, Prod.mk.injEq] at h
        obtain ⟨rfl, rfl, rfl, rfl⟩ := h
        refine ⟨awp_block (q1.mono ?_), q2.turn (fun A B e => by simp only [xCode, e, hi])⟩
        rintro e2 T m ⟨rfl, rfl, rfl⟩
        simp only [inBlockK, hi', if_false]
        exact ⟨rfl, rfl, rfl⟩
    · rename_i hne
      obtain ⟨q1, q2⟩ := xCode_ok hmix hc c t M ws e t' M' ws' hin hb h
      refine ⟨awp_block (q1.mono ?_), q2.turn (fun A B e2 => ?_)⟩
      · rintro e2 T m ⟨rfl, rfl, rfl⟩
        cases e2 with
        | exit i => exact absurd h (hne _ _)
        | _ => exact ⟨rfl, rfl, rfl⟩
      · simp only [xCode, e2]
        cases e with
        | exit i => exact absurd h (hne _ _)
        | _ => rfl
  | .loop c, t, M, ws, e, t', M', ws', hin, hb, h => by
    simp only [codeIn] at hin
    simp only [xCode] at h
    obtain ⟨q1, q2⟩ := xLoop_ok (fun t M ws e t' M' ws' hb h => xCode_ok hmix hc c t M ws e t' M' ws' hin hb h) hb h
    exact ⟨q1, q2.turn (fun A B e => by simp only [xCode]; exact e)⟩
  | .exit id, t, M, ws, e, t', M', ws', _, _, h => by
    simp only [xCode, Option.some.injEq, Prod.mk.injEq] at h
    obtain ⟨rfl, rfl, rfl, rfl⟩ := h
    exact ⟨awp_exit ⟨rfl, rfl, rfl⟩, .same fun _ _ _ => by simp only [xCode]⟩
  | .ret, t, M, ws, e, t', M', ws', _, _, h => by
    simp only [xCode, Option.some.injEq, Prod.mk.injEq] at h
    obtain ⟨rfl, rfl, rfl, rfl⟩ := h
    exact ⟨awp_ret ⟨rfl, rfl, rfl⟩, .same fun _ _ _ => by simp only [xCode]⟩
  | .rangeFunc _ _ _ _, t, M, ws, e, t', M', ws', _, _, h => by simp [xCode] at h
  | .scope _, t, M, ws, e, t', M', ws', _, _, h => by simp [xCode] at h
  | .goto _, t, M, ws, e, t', M', ws', _, _, h => by simp [xCode] at h
  | .refuse _, t, M, ws, e, t', M', ws', _, _, h => by simp [xCode] at h
end Go.Abs
end
section
/- The evaluator: calls. -/
set_option linter.unusedVariables false
namespace Go.Abs

theorem resList_fill {C : Ctx} {T : Env} {M : Mem} {s : Nat} {X : AObj} (hs : M[s]? = some blank) : ∀ (rs : List ResultVar) (vs : List AV), resList C T M rs = some vs → resList C T (M.set s X) rs = some vs
  | [], vs, h => h
  | r :: rs, vs, h => by
    simp only [resList] at h ⊢
    split at h
    case h_2 => simp at h
    rename_i v vs' h1 h2
    rw [resList_fill hs rs vs' h2]
    have : resAV C T (M.set s X) r = some v := by
      cases r with
      | tmp t => exact h1
      | cell a ty =>
        simp only [resAV, Option.bind_eq_some_iff] at h1 ⊢
        obtain ⟨cs, h3, h4⟩ := h1
        exact ⟨cs, memOf_fill hs h3, h4⟩
    rw [this]
    exact h
theorem resultAV_fill {C : Ctx} {T : Env} {M : Mem} {s : Nat} {X : AObj} (hs : M[s]? = some blank) {rs : List ResultVar} {v : AV} (h : resultAV C rs T M = some v) : resultAV C rs T (M.set s X) = some v := by
  unfold resultAV at h ⊢
  cases hl : resList C T M rs with
  | none => rw [hl] at h; simp at h
  | some vs => rw [resList_fill hs rs vs hl]; rw [hl] at h; exact h

/-- functions that are not run but answer as is known -/
abbrev Intr := FuncId → Option (List AV → Mem → Option XR)
def IntrOK (C : Ctx) (intr : Intr) : Prop := ∀ f g, intr f = some g → ∀ args M v M1 ws, g args M = some (v, M1, ws) → Invk C f args M (fun r m => r = v ∧ m = M1) ∧ XActs (g args) M v M1 ws

def xRet (C : Ctx) (fn : Func) (t : BT) (M M' : Mem) (ws : List Nat) : Option XR := match resultAV C fn.results.toList t.fn M' with
  | some v => match ws, flat v with
    | [], true => some (v, M, [])
    | _, _ => some (v, M', ws)
  | none => none
def xCall (C : Ctx) (intr : Intr) (fuel : Nat) : Nat → CallF
  | 0, _, _, _ => none
  | n + 1, f, args, M => match intr f with
    | some g => g args M
    | none => match C.P.funcs[f]? with
      | some fn => match fn.body with
        | some c => match Nat.ble args.length fn.ntmps, BT.args args 0 (BT.mk (Nat.log2 fn.ntmps + 1)) with
          | true, some t => match xCode (xCall C intr fuel n) C fuel M.length c t M [] with
            | some (.normal, t, M', ws) => xRet C fn t M M' ws
            | some (.ret, t, M', ws) => xRet C fn t M M' ws
            | _ => none
          | _, _ => none
        | none => none
      | none => none

def okFunc (fn : Func) : Bool := match fn.body with
  | some c => codeIn fn.ntmps c && resInside fn.ntmps fn.results.toList && !(fn.name == "runtime.NumGoroutine")
  | none => true

theorem enters_of {P : Program} {f : FuncId} {fn : Func} {c : Code} (hf : P.funcs[f]? = some fn) (hb : fn.body = some c) (hn : (fn.name == "runtime.NumGoroutine") = false) : enters P f := by
  intro args w
  have hn' : ¬ fn.name = "runtime.NumGoroutine" := by simpa using hn
  simp [callFunc, hf, hb, hn']

theorem xRet_ok {C : Ctx} {fn : Func} {t : BT} {M M' M1 : Mem} {ws ws' : List Nat} {v : AV} (hg : M.length ≤ M'.length) (hk : KeepsBlank M M') (ho : ∀ i, i < M.length → i ∉ ws → M'[i]? = M[i]?) (h : xRet C fn t M M' ws = some (v, M1, ws')) :
    (∃ v0, resultAV C fn.results.toList t.fn M' = some v0 ∧ ((v = v0 ∧ M1 = M' ∧ ws' = ws) ∨ (v = v0 ∧ M1 = M ∧ ws' = [] ∧ ws = [] ∧ flat v0 = true))) ∧
    M.length ≤ M1.length ∧ (∀ i, i < M.length → i ∉ ws' → M1[i]? = M[i]?) ∧ KeepsBlank M M1 ∧ ∀ (s : Nat) (X : AObj), M[s]? = some blank → xRet C fn t (M.set s X) (M'.set s X) ws = some (v, M1.set s X, ws') := by
  unfold xRet at h
  split at h
  case h_2 => simp at h
  rename_i v0 hv
  split at h
  · rename_i hfl
    simp only [Option.some.injEq, Prod.mk.injEq] at h
    obtain ⟨rfl, rfl, rfl⟩ := h
    exact ⟨⟨v0, hv, .inr ⟨rfl, rfl, rfl, rfl, hfl⟩⟩, Nat.le_refl _, fun _ _ _ => rfl, fun _ h => h, fun s X hs => by simp only [xRet, resultAV_fill (hk s hs) hv, hfl]⟩
  · rename_i hne
    simp only [Option.some.injEq, Prod.mk.injEq] at h
    obtain ⟨rfl, rfl, rfl⟩ := h
    refine ⟨⟨v0, hv, .inl ⟨rfl, rfl, rfl⟩⟩, hg, ho, hk, fun s X hs => ?_⟩
    simp only [xRet, resultAV_fill (hk s hs) hv]

theorem xCall_ok {C : Ctx} (hmix : C.P.follows .mixedOrders = true) {intr : Intr} (hintr : IntrOK C intr) (hfn : ∀ (f : Nat) (fn : Func), C.P.funcs[f]? = some fn → okFunc fn = true) (fuel : Nat) : ∀ n, CallOK C (xCall C intr fuel n)
  | 0 => by
    intro g args M v M' ws h
    simp [xCall] at h
  | n + 1 => by
    intro g args M v M' ws h
    simp only [xCall] at h
    split at h
    · rename_i gi hr
      obtain ⟨h1, h2⟩ := hintr g gi hr _ _ _ _ _ h
      exact ⟨h1, h2.grow, h2.old, h2.keep, fun s X hs => by simp only [xCall, hr]; exact h2.fill s X hs⟩
    rename_i hin
    split at h
    case h_2 => simp at h
    rename_i fn hf
    split at h
    case h_2 => simp at h
    rename_i c hb
    have hok := hfn g fn hf
    simp only [okFunc, hb, Bool.and_eq_true, Bool.not_eq_true'] at hok
    obtain ⟨⟨hci, hri⟩, hnm⟩ := hok
    split at h
    case h_2 => simp at h
    rename_i t hlen ht
    have ih := xCall_ok hmix hintr hfn fuel n
    have fin : ∀ e t1 M1 ws1, (e = .normal ∨ e = .ret) → xCode (xCall C intr fuel n) C fuel M.length c t M [] = some (e, t1, M1, ws1) → xRet C fn t1 M M1 ws1 = some (v, M', ws) →
        Invk C g args M (fun r m => r = v ∧ m = M') ∧ XActs (xCall C intr fuel (n + 1) g args) M v M' ws := by
      intro e t1 M1 ws1 he hx hret
      obtain ⟨q1, q2⟩ := xCode_ok hmix ih c t M [] e t1 M1 ws1 hci (Nat.le_refl _) hx
      rw [BT.args_of ht] at q1
      have hold : ∀ i, i < M.length → i ∉ ws1 → M1[i]? = M[i]? := fun i hi hn => q2.old (Nat.le_refl _) M (fun _ _ _ => rfl) i hi hn
      obtain ⟨⟨v0, hv0, hcase⟩, r1, r2, r3, r4⟩ := xRet_ok q2.grow q2.keep hold hret
      have main : ACalls C g args M (fun r m => r = v0 ∧ m = M1) := by
        refine acalls_of_body hf hb rfl (by simp) (by simpa using Nat.le_of_ble_eq_true hlen) hri (q1.mono ?_)
        rintro e2 T m ⟨rfl, rfl, rfl⟩
        rcases he with rfl | rfl <;> (unfold bodyQ; simp only; rw [hv0]; exact ⟨rfl, trivial⟩)
      refine ⟨.inl ⟨enters_of hf hb hnm, ?_⟩, r1, r2, r3, fun s X hs => ?_⟩
      · rcases hcase with ⟨rfl, rfl, rfl⟩ | ⟨rfl, rfl, rfl, rfl, hfl⟩
        · exact main
        · refine main.cut ?_
          rintro r m ⟨rfl, rfl⟩
          obtain ⟨Y, hY⟩ : ∃ Y, m = M' ++ Y := by
            refine ⟨m.drop M'.length, ?_⟩
            apply List.ext_getElem?
            intro i
            by_cases hi : i < M'.length
            · rw [List.getElem?_append_left hi]; exact hold i hi (by simp)
            · rw [List.getElem?_append_right (by omega), List.getElem?_drop]
              congr 1; omega
          exact ⟨Y, hY, flat_bdd _ hfl, rfl, rfl⟩
      · have hfil := q2.fill s X hs
        have hr4 := r4 s X hs
        simp only [xCall, hin, hf, hb, hlen, ht, List.length_set, hfil]
        rcases he with rfl | rfl <;> exact hr4
    split at h
    · rename_i t1 M1 ws1 hx; exact fin _ _ _ _ (.inl rfl) hx h
    · rename_i t1 M1 ws1 hx; exact fin _ _ _ _ (.inr rfl) hx h
    · simp at h

/-- what the evaluator answers is the call's contract -/
def xTrue (C : Ctx) (intr : Intr) (fuel n : Nat) (f : FuncId) : Bool := match xCall C intr fuel n f [] [] with
  | some (.val (.bool true), [], _) => true
  | _ => false
theorem xTrue_acalls {C : Ctx} (hmix : C.P.follows .mixedOrders = true) {intr : Intr} (hintr : IntrOK C intr) (hfn : ∀ (f : Nat) (fn : Func), C.P.funcs[f]? = some fn → okFunc fn = true) {fuel n : Nat} {f : FuncId} (h : xTrue C intr fuel n f = true) :
    Invk C f [] [] (fun r m => r = .val (.bool true) ∧ m = []) := by
  unfold xTrue at h
  split at h
  · rename_i ws hr; exact (xCall_ok hmix hintr hfn fuel n _ _ _ _ _ _ hr).1
  · simp at h
end Go.Abs
end
