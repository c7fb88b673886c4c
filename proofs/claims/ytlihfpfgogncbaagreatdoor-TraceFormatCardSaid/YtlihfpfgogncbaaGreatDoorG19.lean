/- Whether a region's order matters: a check that the kernel runs quickly. -/
import Derived.Test.YtlihfpfgogncbaaGreatDoorG18
set_option linter.unusedVariables false
set_option linter.unnecessarySimpa false
namespace Go.Abs

def F0 : Foot := ⟨0, 0, 0, [], 0⟩
def footOf (fs : List Foot) (k : Nat) : Foot := fs.getD k F0
def planOf (fs : List Foot) : Plan :=
  { cls := fun k => (footOf fs k).cls, rob := fun k => (footOf fs k).rob, slot := fun k => (footOf fs k).slot,
    aff := fun i k => memN (footOf fs i).rob (footOf fs k).ws || Nat.ble (footOf fs k).len (footOf fs i).rob, fl := true }

def bindsOn (o : Oper) : List Nat := (o.after.toList.filter (Region.binds .any)).map (·.on)
def maskOf (ms : List Nat) : List Nat → Nat
  | [] => 0
  | on :: l => Nat.lor (Nat.lor (Nat.shiftLeft 1 on) (ms.getD on 0)) (maskOf ms l)
/-- for each operation the earlier ones that it may come ahead of; none: slots conflict -/
def scan (ops : Array Oper) : List Oper → Nat → List Nat → Option (List (List Nat))
  | [], _, _ => some []
  | o :: l, i, ms => match (bindsOn o).all (fun on => Nat.blt on i) with
    | true => match ((List.range i).filter fun j => !(Nat.testBit (maskOf ms (bindsOn o)) j)).all (fun j => match ops[j]? with | some x => !slotConf ops x o | none => true) with
      | true => match scan ops l (i + 1) (ms ++ [maskOf ms (bindsOn o)]) with
        | some r => some (((List.range i).filter fun j => !(Nat.testBit (maskOf ms (bindsOn o)) j)) :: r)
        | none => none
      | false => none
    | false => none
/-- a ahead of b in the text: must they keep that order -/
def confF (a b : Foot) : Bool := match a.cls with
  | 0 => false
  | 1 => match b.cls with
    | 2 => memN a.rob b.ws || Nat.ble b.len a.rob
    | 4 => Nat.beq a.rob b.slot
    | 5 => Nat.beq a.rob b.slot
    | _ => false
  | 2 => match b.cls with
    | 2 => true
    | 5 => true
    | 1 => memN b.rob a.ws || Nat.ble a.len b.rob
    | _ => false
  | 4 => match b.cls with
    | 2 => true
    | 1 => Nat.beq b.rob a.slot
    | _ => false
  | 5 => match b.cls with
    | 2 => true
    | 1 => Nat.beq b.rob a.slot
    | _ => false
  | _ => true
def freeOf (all : List Foot) (f : Foot) : List Nat → Bool
  | [] => true
  | j :: l => match confF (footOf all j) f with
    | true => false
    | false => freeOf all f l
def chkF (all : List Foot) : List (List Nat) → List Foot → Bool
  | free :: r, f :: fs => match f.cls with
    | 0 => chkF all r fs
    | _ => match freeOf all f free with
      | true => chkF all r fs
      | false => false
  | [], [] => true
  | _, _ => false
def okF0 (ops : Array Oper) (fs : List Foot) : Bool := match scan ops ops.toList 0 [] with
  | some r => chkF fs r fs
  | none => false
/-- a store that is taken as turning its own object alone -/
def promo1 (o : Oper) (f : Foot) : Foot := match isStore o, f with
  | true, ⟨2, rob, _, [r], len⟩ => ⟨5, rob, r, [r], len⟩
  | _, f => f
def promote : List Oper → List Foot → List Foot
  | o :: l, f :: fs => promo1 o f :: promote l fs
  | _, fs => fs
def putSlots : List Foot → List Nat
  | [] => []
  | f :: fs => match isPut f.cls with
    | true => f.slot :: putSlots fs
    | false => putSlots fs
def nodupN : List Nat → Bool
  | [] => true
  | a :: l => !memN a l && nodupN l
def okF (ops : Array Oper) (fs : List Foot) : Bool := match okF0 ops fs with
  | true => true
  | false => okF0 ops (promote ops.toList fs) && nodupN (putSlots (promote ops.toList fs))

theorem mem_bindsOn {o : Oper} {e : Edge} (he : e ∈ o.after.toList) (hb : Region.binds .any e = true) : e.on ∈ bindsOn o :=
  List.mem_map.2 ⟨e, List.mem_filter.2 ⟨he, hb⟩, rfl⟩
theorem of_bindsOn {o : Oper} {j : Nat} (h : j ∈ bindsOn o) : ∃ e ∈ o.after.toList, Region.binds .any e = true ∧ e.on = j := by
  obtain ⟨e, he, rfl⟩ := List.mem_map.1 h
  obtain ⟨h1, h2⟩ := List.mem_filter.1 he
  exact ⟨e, h1, h2, rfl⟩
theorem testBit_maskOf {ms : List Nat} {j : Nat} : ∀ {l : List Nat}, Nat.testBit (maskOf ms l) j = true → ∃ on ∈ l, on = j ∨ Nat.testBit (ms.getD on 0) j = true
  | [], h => by simp [maskOf] at h
  | on :: l, h => by
    simp only [maskOf] at h
    have e : Nat.lor (Nat.lor (Nat.shiftLeft 1 on) (ms.getD on 0)) (maskOf ms l) = ((1 <<< on) ||| ms.getD on 0) ||| maskOf ms l := rfl
    rw [e, Nat.testBit_or, Nat.testBit_or, Nat.testBit_shiftLeft] at h
    simp only [Bool.or_eq_true, Bool.and_eq_true, decide_eq_true_eq] at h
    rcases h with (h | h) | h
    · refine ⟨on, by simp, .inl ?_⟩
      obtain ⟨h1, h2⟩ := h
      rw [Nat.testBit_one_eq_true_iff_self_eq_zero] at h2
      omega
    · exact ⟨on, by simp, .inr h⟩
    · obtain ⟨x, hx, h2⟩ := testBit_maskOf h
      exact ⟨x, by simp [hx], h2⟩

theorem reach_succ {ops : Array Oper} : ∀ (f j i : Nat), reach ops f j i = true → reach ops (f + 1) j i = true
  | 0, j, i, h => by simp [reach] at h
  | f + 1, j, i, h => by
    rw [reach] at h ⊢
    split at h
    case h_2 => simp at h
    rename_i o ho
    rw [← Array.any_toList] at h ⊢
    obtain ⟨e, he, hb⟩ := List.any_eq_true.1 h
    refine List.any_eq_true.2 ⟨e, he, ?_⟩
    simp only [Bool.and_eq_true, Bool.or_eq_true] at hb ⊢
    exact ⟨hb.1, hb.2.imp id (reach_succ f j e.on)⟩
theorem reach_le {ops : Array Oper} {f g j i : Nat} (h : reach ops f j i = true) (hfg : f ≤ g) : reach ops g j i = true := by
  induction hfg with
  | refl => exact h
  | step _ ih => exact reach_succ _ _ _ ih

/-- what the masks say -/
def MasksOK (ops : Array Oper) (ms : List Nat) : Prop := ∀ i j, i < ms.length → Nat.testBit (ms.getD i 0) j = true → reach ops (i + 1) j i = true

theorem maskOf_reach {ops : Array Oper} {ms : List Nat} (hm : MasksOK ops ms) {o : Oper} {i j : Nat} (ho : ops[i]? = some o) (hi : i = ms.length) (hb : (bindsOn o).all (fun on => Nat.blt on i) = true) (h : Nat.testBit (maskOf ms (bindsOn o)) j = true) : reach ops (i + 1) j i = true := by
  obtain ⟨on, hon, hc⟩ := testBit_maskOf h
  have hlt : on < i := by
    have h1 := List.all_eq_true.1 hb on hon
    have : on + 1 ≤ i := Nat.le_of_ble_eq_true h1
    omega
  obtain ⟨e, he, hbe, rfl⟩ := of_bindsOn hon
  rw [reach, ho]
  simp only
  rw [← Array.any_toList]
  refine List.any_eq_true.2 ⟨e, he, ?_⟩
  simp only [Bool.and_eq_true, Bool.or_eq_true, beq_iff_eq]
  refine ⟨hbe, ?_⟩
  rcases hc with hc | hc
  · exact .inl hc
  · exact .inr (reach_le (hm e.on j (by omega) hc) (by omega))

/-- the scan's word -/
theorem scan_ok {ops : Array Oper} : ∀ (l : List Oper) (i : Nat) (ms : List Nat) (r : List (List Nat)), scan ops l i ms = some r → i = ms.length → MasksOK ops ms → (∀ k o, l[k]? = some o → ops[i + k]? = some o) →
    r.length = l.length ∧ ∀ k o, l[k]? = some o → (∀ e ∈ o.after.toList, Region.binds .any e = true → e.on < i + k) ∧ ∀ j x, j < i + k → ops[j]? = some x → (reach ops (i + k + 1) j (i + k) = true ∨ (slotConf ops x o = false ∧ ∃ fr, r[k]? = some fr ∧ j ∈ fr))
  | [], i, ms, r, h, _, _, _ => by
    simp only [scan, Option.some.injEq] at h
    subst h
    exact ⟨rfl, by simp⟩
  | o :: l, i, ms, r, h, hi, hm, hl => by
    simp only [scan] at h
    split at h
    case h_2 => simp at h
    rename_i hb
    split at h
    case h_2 => simp at h
    rename_i hs
    split at h
    case h_2 => simp at h
    rename_i r1 hr
    simp only [Option.some.injEq] at h
    subst h
    have ho : ops[i]? = some o := by have := hl 0 o rfl; simpa using this
    have hm' : MasksOK ops (ms ++ [maskOf ms (bindsOn o)]) := by
      intro i' j hi' ht
      by_cases e : i' < ms.length
      · refine hm i' j e ?_
        rw [List.getD_eq_getElem?_getD, List.getElem?_append_left e, ← List.getD_eq_getElem?_getD] at ht
        exact ht
      · have e2 : i' = i := by simp at hi'; omega
        subst e2
        rw [List.getD_eq_getElem?_getD, hi, List.getElem?_append_right (Nat.le_refl _)] at ht
        simp at ht
        exact maskOf_reach hm ho hi hb ht
    obtain ⟨i1, i2⟩ := scan_ok l (i + 1) _ r1 hr (by simp [hi]) hm' (fun k o' h' => by
      have := hl (k + 1) o' (by simpa using h')
      rwa [show i + (k + 1) = i + 1 + k from by omega] at this)
    refine ⟨by simp [i1], fun k o' hk => ?_⟩
    cases k with
    | zero =>
      simp only [List.getElem?_cons_zero, Option.some.injEq] at hk
      subst hk
      refine ⟨fun e he hbe => ?_, fun j x hj hx => ?_⟩
      · have h1 := List.all_eq_true.1 hb _ (mem_bindsOn he hbe)
        have : e.on + 1 ≤ i := Nat.le_of_ble_eq_true h1
        omega
      · cases ht : Nat.testBit (maskOf ms (bindsOn o)) j with
        | true => exact .inl (maskOf_reach hm ho hi hb ht)
        | false =>
          have hmem : j ∈ (List.range i).filter fun j => !(Nat.testBit (maskOf ms (bindsOn o)) j) := List.mem_filter.2 ⟨List.mem_range.2 (by omega), by simp [ht]⟩
          have h1 := List.all_eq_true.1 hs j hmem
          rw [hx] at h1
          exact .inr ⟨by simpa using h1, _, rfl, hmem⟩
    | succ k =>
      have := i2 k o' (by simpa using hk)
      rw [show i + (k + 1) = i + 1 + k from by omega]
      simpa using this

theorem freeOf_at {all : List Foot} {f : Foot} : ∀ {l : List Nat}, freeOf all f l = true → ∀ j ∈ l, confF (footOf all j) f = false
  | [], _, j, hj => by simp at hj
  | x :: l, h, j, hj => by
    simp only [freeOf] at h
    split at h
    · simp at h
    · rename_i hc
      rcases List.mem_cons.1 hj with rfl | hj
      · exact hc
      · exact freeOf_at h j hj
theorem chkF_at {all : List Foot} : ∀ (r : List (List Nat)) (fs : List Foot), chkF all r fs = true → r.length = fs.length ∧ ∀ (k : Nat) (fr : List Nat) (f : Foot), r[k]? = some fr → fs[k]? = some f → f.cls = 0 ∨ ∀ j ∈ fr, confF (footOf all j) f = false
  | [], [], _ => ⟨rfl, by simp⟩
  | [], f :: fs, h => by simp [chkF] at h
  | fr :: r, [], h => by simp [chkF] at h
  | fr :: r, f :: fs, h => by
    have step : ∀ hh : chkF all r fs = true, (f.cls = 0 ∨ ∀ j ∈ fr, confF (footOf all j) f = false) → (fr :: r).length = (f :: fs).length ∧ ∀ (k : Nat) (fr' : List Nat) (f' : Foot), (fr :: r)[k]? = some fr' → (f :: fs)[k]? = some f' → f'.cls = 0 ∨ ∀ j ∈ fr', confF (footOf all j) f' = false := by
      intro hh h0
      obtain ⟨i1, i2⟩ := chkF_at r fs hh
      refine ⟨by simp [i1], fun k fr' f' e1 e2 => ?_⟩
      cases k with
      | zero => simp at e1 e2; subst e1; subst e2; exact h0
      | succ k => exact i2 k fr' f' (by simpa using e1) (by simpa using e2)
    simp only [chkF] at h
    split at h
    · rename_i hc; exact step h (.inl hc)
    · split at h
      · rename_i hf; exact step h (.inr (freeOf_at hf))
      · simp at h

theorem confF_mem {fs : List Foot} {j i : Nat} (h : confF (footOf fs j) (footOf fs i) = false) : memConf (planOf fs) j i = false := by
  simp only [memConf, planOf]
  revert h
  generalize footOf fs j = a
  generalize footOf fs i = b
  intro h
  obtain ⟨ac, ar, asl, aw, al⟩ := a
  obtain ⟨bc, br, bs, bw, bl⟩ := b
  simp only [confF] at h ⊢
  have beqN : ∀ a b : Nat, Nat.beq a b = false → (a == b) = false := fun a b h => by
    rw [beq_eq_false_iff_ne]
    intro e; subst e; rw [Nat.beq_refl] at h; simp at h
  split at h
  · simp [isPut]
  · split at h
    · simp [h, isPut]
    · simp [beqN _ _ h, isPut]
    · simp [beqN _ _ h, isPut]
    · rename_i e2 e3 e4
      have n2 : (bc == 2) = false := by rw [beq_eq_false_iff_ne]; exact e2
      have n4 : (bc == 4) = false := by rw [beq_eq_false_iff_ne]; exact e3
      have n5 : (bc == 5) = false := by rw [beq_eq_false_iff_ne]; exact e4
      simp [n2, n4, n5, isPut]
  · split at h
    · simp at h
    · simp at h
    · simp [h, isPut]
    · rename_i e2 e4 e3
      have n2 : (bc == 2) = false := by rw [beq_eq_false_iff_ne]; exact e2
      have n1 : (bc == 1) = false := by rw [beq_eq_false_iff_ne]; exact e3
      have n5 : (bc == 5) = false := by rw [beq_eq_false_iff_ne]; exact e4
      simp [n2, n1, n5, isPut]
  · split at h
    · simp at h
    · simp [beqN _ _ h, isPut]
    · rename_i e2 e3
      have n2 : (bc == 2) = false := by rw [beq_eq_false_iff_ne]; exact e2
      have n1 : (bc == 1) = false := by rw [beq_eq_false_iff_ne]; exact e3
      simp [n2, n1, isPut]
  · split at h
    · simp at h
    · simp [beqN _ _ h, isPut]
    · rename_i e2 e3
      have n2 : (bc == 2) = false := by rw [beq_eq_false_iff_ne]; exact e2
      have n1 : (bc == 1) = false := by rw [beq_eq_false_iff_ne]; exact e3
      simp [n2, n1, isPut]
  · simp at h

theorem okF0_ok {ops : Array Oper} {fs : List Foot} (h : okF0 ops fs = true) (hsl : ∀ j i, j < i → ((footOf fs j).cls = 4 ∨ (footOf fs j).cls = 5) → ((footOf fs i).cls = 4 ∨ (footOf fs i).cls = 5) → (footOf fs j).slot ≠ (footOf fs i).slot) : okDraw ops (planOf fs) = true := by
  unfold okF0 at h
  split at h
  case h_2 => simp at h
  rename_i r hr
  obtain ⟨s1, s2⟩ := scan_ok ops.toList 0 [] r hr rfl (fun i j hi => by simp at hi) (fun k o hk => by simpa using hk)
  obtain ⟨c1, c2⟩ := chkF_at r fs h
  refine List.all_eq_true.2 fun i hi => ?_
  have hi' := List.mem_range.1 hi
  have ho : ops[i]? = some ops[i] := Array.getElem?_eq_getElem hi'
  rw [ho]
  obtain ⟨q1, q2⟩ := s2 i ops[i] (by simpa using ho)
  simp only [Nat.zero_add] at q1 q2
  simp only [Bool.and_eq_true]
  refine ⟨⟨?_, by simp [planOf]⟩, List.all_eq_true.2 fun j hj => ?_⟩
  · rw [← Array.all_toList]
    refine List.all_eq_true.2 fun e he => ?_
    cases hb : Region.binds .any e with
    | false => rfl
    | true => simp [q1 e he hb]
  · have hj' := List.mem_range.1 hj
    have hx : ops[j]? = some ops[j] := Array.getElem?_eq_getElem (by omega)
    rw [hx]
    simp only [Bool.and_eq_true]
    refine ⟨?_, ?_⟩
    · rcases q2 j _ hj' hx with hc | ⟨hc, fr, hfr, hm⟩
      · rw [reach_le hc (by omega)]; simp
      · have hfi : fs[i]? = some (footOf fs i) := by
          have : i < fs.length := by rw [← c1, s1]; simpa using hi'
          simp [footOf, List.getD_eq_getElem?_getD, List.getElem?_eq_getElem this]
        have hmc : memConf (planOf fs) j i = false := by
          rcases c2 i fr _ hfr hfi with h0 | h0
          · simp only [memConf, planOf]
            simp [h0, isPut]
          · exact confF_mem (h0 j hm)
        rw [hc, hmc]; simp
    · have := hsl j i hj'
      simp only [planOf]
      cases e1 : isPut (footOf fs i).cls with
      | false => rfl
      | true =>
        cases e2 : isPut (footOf fs j).cls with
        | false => rfl
        | true =>
          have := this (isPut_iff.1 e2) (isPut_iff.1 e1)
          simp [this]
theorem nodupN_at {fs : List Foot} : nodupN (putSlots fs) = true → ∀ j i, j < i → ((footOf fs j).cls = 4 ∨ (footOf fs j).cls = 5) → ((footOf fs i).cls = 4 ∨ (footOf fs i).cls = 5) → (footOf fs j).slot ≠ (footOf fs i).slot := by
  have mem : ∀ (fs : List Foot) i, ((footOf fs i).cls = 4 ∨ (footOf fs i).cls = 5) → (footOf fs i).slot ∈ putSlots fs := by
    intro fs
    induction fs with
    | nil => intro i h; simp [footOf, F0] at h
    | cons f fs ih =>
      intro i h
      cases i with
      | zero =>
        simp only [footOf, List.getD_cons_zero] at h ⊢
        simp only [putSlots, isPut_iff.2 h]; simp
      | succ i =>
        have := ih i (by simpa [footOf] using h)
        simp only [putSlots]
        have e : (footOf (f :: fs) (i + 1)).slot = (footOf fs i).slot := by simp [footOf]
        rw [e]
        split
        · exact List.mem_cons_of_mem _ this
        · exact this
  induction fs with
  | nil => intro _ j i _ h; simp [footOf, F0] at h
  | cons f fs ih =>
    intro hn j i hji hj hi
    have hn' : nodupN (putSlots fs) = true := by
      simp only [putSlots] at hn
      split at hn
      · simp only [nodupN, Bool.and_eq_true] at hn; exact hn.2
      · exact hn
    cases i with
    | zero => omega
    | succ i =>
      cases j with
      | succ j =>
        have := ih hn' j i (by omega) (by simpa [footOf] using hj) (by simpa [footOf] using hi)
        simpa [footOf] using this
      | zero =>
        have hm := mem fs i (by simpa [footOf] using hi)
        simp only [footOf, List.getD_cons_zero] at hj
        simp only [putSlots, isPut_iff.2 hj, nodupN, Bool.and_eq_true, Bool.not_eq_true'] at hn
        intro e
        have e1 : (footOf (f :: fs) 0).slot = f.slot := rfl
        have e2 : (footOf (f :: fs) (i + 1)).slot = (footOf fs i).slot := by simp [footOf]
        rw [e1, e2] at e
        rw [← e] at hm
        rw [memN_iff.2 hm] at hn
        simp at hn
end Go.Abs
