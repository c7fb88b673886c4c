/- A region whose order is open: the theorem. -/
import Derived.Test.YteillgpoonhdjaaAbsP
set_option linter.unusedVariables false
namespace Go.Abs

/-- an operation, its value, the memory behind it -/
structure Told where
  o : Oper
  v : AV
  M : Mem

/-- the slots and the memory behind those that are listed -/
def envOf : List Told → Nat → (Nat → Bool) → Env → Env
  | [], _, _, T => T
  | p :: ps, k, S, T => envOf ps (k + 1) S (if S k then T.put p.o.dst p.v else T)
def memS (cls : Nat → Nat) : List Told → Nat → (Nat → Bool) → Mem → Mem
  | [], _, _, M => M
  | p :: ps, k, S, M => memS cls ps (k + 1) S (if S k && cls k == 2 then p.M else M)

/-- what is known of all operations, each from the state that the order of the text gives it -/
def Known (C : Ctx) (N : Nat) (ops : Array Oper) (cls : Nat → Nat) : List Told → Nat → Env → Mem → Prop
  | [], _, _, _ => True
  | p :: ps, k, T, M => ObSem C N ops (cls k) p.o p.v T M p.M ∧ Known C N ops cls ps (k + 1) (T.put p.o.dst p.v) p.M

def lastEnv : List Told → Env → Env
  | [], T => T
  | p :: ps, T => lastEnv ps (T.put p.o.dst p.v)
def lastMem : List Told → Mem → Mem
  | [], M => M
  | p :: ps, M => lastMem ps p.M

theorem known_of_run {C : Ctx} {N : Nat} {h : Hint} {ops : Array Oper} {cls : Nat → Nat} : ∀ (l : List Oper) (k : Nat) (T : Env) (M : Mem) (K : Env → Mem → Prop), opsInside N ops l = true → drawRun C h ops cls k l T M K →
    ∃ ps : List Told, ps.map (·.o) = l ∧ Known C N ops cls ps k T M ∧ K (lastEnv ps T) (lastMem ps M)
  | [], k, T, M, K, _, hd => ⟨[], rfl, trivial, hd⟩
  | o :: l, k, T, M, K, hin, hd => by
    simp only [opsInside, List.all_cons, Bool.and_eq_true] at hin
    obtain ⟨⟨ho, hg⟩, hrest⟩ := hin
    have hrest' : opsInside N ops l = true := by simpa [opsInside] using hrest
    simp only [drawRun] at hd
    -- decide the guard
    have hd' := hd
    unfold vcGuard at hd
    have runCase : (∀ T2, (∀ s ∈ o.looksAt ops, T2 s = T s) → ∀ run skip : Prop, vcGuard ops o T2 run skip = run) → dOp C h (cls k) o (T.ev C) M (fun v M' => drawRun C h ops cls (k + 1) l (T.put o.dst v) M' K) →
        ∃ ps : List Told, ps.map (·.o) = o :: l ∧ Known C N ops cls ps k T M ∧ K (lastEnv ps T) (lastMem ps M) := by
      intro hgd hr
      obtain ⟨v, M', hk, hw, hob⟩ := dOp_ob (ops := ops) ho hr
      obtain ⟨ps, h1, h2, h3⟩ := known_of_run l (k + 1) _ _ K hrest' hk
      refine ⟨⟨o, v, M'⟩ :: ps, by simp [h1], ⟨⟨hw, fun T2 M2 e1 e2 G w a hi he next Q hK => ?_⟩, h2⟩, h3⟩
      have hgs := guard_sound (C := C) (M := M2) (w := w) he hg (run := True) (skip := False) (by rw [hgd T2 e1]; trivial)
      rcases hgs with ⟨hw', _⟩ | ⟨_, hf⟩
      · simp only at hw' ⊢
        rw [if_pos hw']
        left
        refine hob T2 M2 e1 e2 G w a hi he next Q ?_
        rintro v' M3 G' w' x ⟨rfl, rfl⟩ q1 q2 q3 q4
        exact hK G' w' x q1 q2 q3 q4
      · exact hf.elim
    have skipCase : (∀ T2, (∀ s ∈ o.looksAt ops, T2 s = T s) → ∀ run skip : Prop, vcGuard ops o T2 run skip = skip) → drawRun C h ops cls (k + 1) l (T.put o.dst (.val undef)) M K →
        ∃ ps : List Told, ps.map (·.o) = o :: l ∧ Known C N ops cls ps k T M ∧ K (lastEnv ps T) (lastMem ps M) := by
      intro hgd hr
      obtain ⟨ps, h1, h2, h3⟩ := known_of_run l (k + 1) _ _ K hrest' hr
      refine ⟨⟨o, .val undef, M⟩ :: ps, by simp [h1], ⟨⟨fun _ => rfl, fun T2 M2 e1 e2 G w a hi he next Q hK => ?_⟩, h2⟩, h3⟩
      have hgs := guard_sound (C := C) (M := M2) (w := w) he hg (run := False) (skip := True) (by rw [hgd T2 e1]; trivial)
      rcases hgs with ⟨_, hf⟩ | ⟨hw', _⟩
      · exact hf.elim
      · simp only at hw' ⊢
        rw [if_neg (by simp [hw'])]
        refine hK G w undef (.refl _) ?_ (by simp [Rep]) (.refl _)
        by_cases e : cls k = 2
        · rw [if_pos e]; rw [← e2 (by omega)]; exact hi
        · rw [if_neg e]; exact hi
    split at hd
    · rename_i hn
      exact runCase (fun T2 _ run skip => by unfold vcGuard; rw [hn]) hd
    · rename_i j want hs
      split at hd
      case h_2 => exact hd.elim
      rename_i d hdst
      split at hd
      · rename_i b hb
        by_cases e : b = want
        · rw [if_pos e] at hd
          refine runCase (fun T2 e1 run skip => ?_) hd
          rw [guard_congr e1]
          unfold vcGuard
          rw [hs]; simp only [hdst, hb]; rw [if_pos e]
        · rw [if_neg e] at hd
          refine skipCase (fun T2 e1 run skip => ?_) hd
          rw [guard_congr e1]
          unfold vcGuard
          rw [hs]; simp only [hdst, hb]; rw [if_neg e]
      · rename_i vs hb
        refine skipCase (fun T2 e1 run skip => ?_) hd
        rw [guard_congr e1]
        unfold vcGuard
        rw [hs]; simp only [hdst, hb]
      · exact hd.elim

/-! ### orders -/
def reach (ops : Array Oper) : Nat → Nat → Nat → Bool
  | 0, _, _ => false
  | fuel + 1, j, i => match ops[i]? with
    | some o => o.after.any fun e => Region.binds .any e && (e.on == j || reach ops fuel j e.on)
    | none => false

def slotConf (ops : Array Oper) (x y : Oper) : Bool :=
  (match x.dst with
   | some d => (y.looksAt ops).contains d || y.dst == some d
   | none => false) ||
  (match y.dst with
   | some d => (x.looksAt ops).contains d
   | none => false)
def memConf (a b : Nat) : Bool := a != 0 && b != 0 && (a == 2 || b == 2)

def okDraw (ops : Array Oper) (cls : Nat → Nat) : Bool :=
  (List.range ops.size).all fun i => match ops[i]? with
    | some o => (o.after.all fun e => !Region.binds .any e || decide (e.on < i)) &&
        (List.range i).all fun j => match ops[j]? with
          | some x => !(slotConf ops x o || memConf (cls j) (cls i)) || reach ops ops.size j i
          | none => true
    | none => true

def closed (ops : Array Oper) (S : Nat → Bool) : Prop := ∀ i o, ops[i]? = some o → S i = true → ∀ e ∈ o.after.toList, Region.binds .any e = true → S e.on = true

theorem reach_closed {ops : Array Oper} {S : Nat → Bool} (hc : closed ops S) : ∀ (fuel j i : Nat), reach ops fuel j i = true → (∀ o, ops[i]? = some o → ∀ e ∈ o.after.toList, Region.binds .any e = true → S e.on = true) → S j = true
  | 0, _, _, h, _ => by simp [reach] at h
  | fuel + 1, j, i, h, hp => by
    simp only [reach] at h
    split at h
    case h_2 => simp at h
    rename_i o ho
    rw [← Array.any_toList] at h
    obtain ⟨e, he, hb⟩ := List.any_eq_true.1 h
    simp only [Bool.and_eq_true, Bool.or_eq_true, beq_iff_eq] at hb
    have hs := hp o ho e he hb.1
    rcases hb.2 with h1 | h1
    · rw [← h1]; exact hs
    · exact reach_closed hc fuel j e.on h1 (fun o' ho' e' he' hb' => hc e.on o' ho' hs e' he' hb')

theorem put_other {T : Env} {d : Option Tmp} {v : AV} {s : Nat} (h : d ≠ some s) : T.put d v s = T s := by
  cases d with
  | none => rfl
  | some d => rw [Env.put_some, if_neg (fun e => h (by rw [e]))]

/-- what an unwritten slot reads -/
theorem envOf_untouched (S : Nat → Bool) (s : Nat) : ∀ (ps : List Told) (k : Nat) (T : Env), (∀ j p, ps[j]? = some p → S (k + j) = true → p.o.dst ≠ some s) → envOf ps k S T s = T s
  | [], k, T, _ => rfl
  | p :: ps, k, T, h => by
    simp only [envOf]
    rw [envOf_untouched S s ps (k + 1) _ (fun j q hq hs => h (j + 1) q (by simpa using hq) (by rw [show k + (j + 1) = k + 1 + j from by omega]; exact hs))]
    by_cases hs : S k = true
    · rw [if_pos hs]; exact put_other (h 0 p rfl hs)
    · rw [if_neg hs]

/-- a slot that the i-th operation looks at: as in the order of the text -/
theorem envOf_agree (S : Nat → Bool) (s : Nat) : ∀ (ps : List Told) (k i : Nat) (T : Env), (∀ j p, ps[j]? = some p → p.o.dst = some s → (S (k + j) = true ↔ j < i)) → envOf ps k S T s = lastEnv (ps.take i) T s
  | [], k, i, T, _ => by simp [envOf, lastEnv]
  | p :: ps, k, 0, T, h => by
    simp only [List.take_zero, lastEnv]
    exact envOf_untouched S s (p :: ps) k T (fun j q hq hs hd => by have := (h j q hq hd).1 hs; omega)
  | p :: ps, k, i + 1, T, h => by
    simp only [envOf, List.take_succ_cons, lastEnv]
    have step := envOf_agree S s ps (k + 1) i (if S k = true then T.put p.o.dst p.v else T) (fun j q hq hd => by
      have := h (j + 1) q (by simpa using hq) hd
      rw [show k + (j + 1) = k + 1 + j from by omega] at this
      rw [this]; omega)
    rw [step]
    -- slot s of the start agrees
    have e0 : (if S k = true then T.put p.o.dst p.v else T) s = T.put p.o.dst p.v s := by
      by_cases hd : p.o.dst = some s
      · have := (h 0 p rfl hd).2 (by omega)
        simp only [Nat.add_zero] at this
        rw [if_pos this]
      · by_cases hs : S k = true
        · rw [if_pos hs]
        · rw [if_neg hs, put_other hd]
    have gen : ∀ (qs : List Told) (A B : Env), A s = B s → lastEnv qs A s = lastEnv qs B s := by
      intro qs
      induction qs with
      | nil => intro A B h; exact h
      | cons q qs ih =>
        intro A B h
        simp only [lastEnv]
        refine ih _ _ ?_
        cases q.o.dst with
        | none => exact h
        | some d => simp only [Env.put_some]; split <;> simp_all
    exact gen _ _ _ e0

/-- one more is listed -/
theorem envOf_list (S : Nat → Bool) (i : Nat) : ∀ (ps : List Told) (k : Nat) (T : Env) (p : Told), ps[i]? = some p → S (k + i) = false → (∀ j q, ps[j]? = some q → i < j → S (k + j) = true → ∀ s, p.o.dst = some s → q.o.dst ≠ some s) →
    ∀ s, envOf ps k (fun x => if x = k + i then true else S x) T s = (envOf ps k S T).put p.o.dst p.v s
  | [], k, T, p, hp, _, _ => by simp at hp
  | q :: ps, k, T, p, hp, hS, hc => by
    intro s
    simp only [envOf]
    cases i with
    | zero =>
      simp at hp
      subst hp
      simp only [Nat.add_zero] at hS ⊢
      rw [if_pos (by simp), if_neg (by simp [hS])]
      -- later ones keep off p's slot
      have same : ∀ (rs : List Told) (m : Nat) (A : Env), k < m → envOf rs m (fun x => if x = k then true else S x) A = envOf rs m S A := by
        intro rs
        induction rs with
        | nil => intro m A _; rfl
        | cons r rs ih =>
          intro m A hm
          have hne : ¬ m = k := by omega
          simp only [envOf, if_neg hne]
          exact ih (m + 1) _ (by omega)
      rw [same ps (k + 1) _ (by omega)]
      by_cases hs : q.o.dst = some s
      · have un : ∀ A : Env, envOf ps (k + 1) S A s = A s := fun A => envOf_untouched S s ps (k + 1) A (fun j r hr hsj => by
          exact hc (j + 1) r (by simpa using hr) (by omega) (by rw [show k + (j + 1) = k + 1 + j from by omega]; exact hsj) s hs)
        rw [un, hs, Env.put_some, Env.put_some, if_pos rfl, if_pos rfl]
      · rw [put_other hs]
        have gen : ∀ (rs : List Told) (m : Nat) (A B : Env), A s = B s → envOf rs m S A s = envOf rs m S B s := by
          intro rs
          induction rs with
          | nil => intro m A B h; exact h
          | cons r rs ih =>
            intro m A B h
            simp only [envOf]
            refine ih _ _ _ ?_
            split
            · cases r.o.dst with
              | none => exact h
              | some d => simp only [Env.put_some]; split <;> simp_all
            · exact h
        exact gen ps (k + 1) _ _ (put_other hs)
    | succ i =>
      have hne : ¬ k = k + (i + 1) := by omega
      simp only [if_neg hne]
      have := envOf_list S i ps (k + 1) (if S k = true then T.put q.o.dst q.v else T) p (by simpa using hp) (by rw [show k + 1 + i = k + (i + 1) from by omega]; exact hS)
        (fun j r hr hij hsj => hc (j + 1) r (by simpa using hr) (by omega) (by rw [show k + (j + 1) = k + 1 + j from by omega]; exact hsj)) s
      rw [show k + (i + 1) = k + 1 + i from by omega]
      exact this

def Quiet (cls : Nat → Nat) : List Told → Nat → Mem → Prop
  | [], _, _ => True
  | p :: ps, k, M => (cls k ≠ 2 → p.M = M) ∧ Quiet cls ps (k + 1) p.M

theorem Known.quiet {C : Ctx} {N : Nat} {ops : Array Oper} {cls : Nat → Nat} : ∀ (ps : List Told) (k : Nat) (T : Env) (M : Mem), Known C N ops cls ps k T M → Quiet cls ps k M
  | [], _, _, _, _ => trivial
  | p :: ps, k, T, M, h => ⟨h.1.1, Known.quiet ps (k + 1) _ _ h.2⟩

theorem memS_none (cls : Nat → Nat) (S : Nat → Bool) : ∀ (ps : List Told) (k : Nat) (M : Mem), (∀ j, j < ps.length → cls (k + j) = 2 → S (k + j) = false) → memS cls ps k S M = M
  | [], _, _, _ => rfl
  | p :: ps, k, M, h => by
    simp only [memS]
    have e : (S k && cls k == 2) = false := by
      by_cases hc : cls k = 2
      · have := h 0 (by simp) hc; simp only [Nat.add_zero] at this; simp [this]
      · simp [hc]
    rw [e]
    exact memS_none cls S ps (k + 1) M (fun j hj hc => by
      have := h (j + 1) (by simpa using hj) (by rw [show k + (j + 1) = k + 1 + j from by omega]; exact hc)
      rwa [show k + (j + 1) = k + 1 + j from by omega] at this)

theorem memS_agree (cls : Nat → Nat) (S : Nat → Bool) : ∀ (ps : List Told) (k i : Nat) (M : Mem), Quiet cls ps k M → (∀ j, j < ps.length → cls (k + j) = 2 → (S (k + j) = true ↔ j < i)) → memS cls ps k S M = lastMem (ps.take i) M
  | [], k, i, M, _, _ => by simp [memS, lastMem]
  | p :: ps, k, 0, M, _, h => by
    simp only [List.take_zero, lastMem]
    refine memS_none cls S (p :: ps) k M (fun j hj hc => ?_)
    have := h j hj hc
    cases hs : S (k + j) with
    | false => rfl
    | true => have := this.1 hs; omega
  | p :: ps, k, i + 1, M, hq, h => by
    simp only [memS, List.take_succ_cons, lastMem]
    have e : (if (S k && cls k == 2) = true then p.M else M) = p.M := by
      by_cases hc : cls k = 2
      · have := (h 0 (by simp) hc).2 (by omega)
        simp only [Nat.add_zero] at this
        simp [this, hc]
      · rw [if_neg (by simp [hc])]; exact (hq.1 hc).symm
    rw [e]
    exact memS_agree cls S ps (k + 1) i p.M hq.2 (fun j hj hc => by
      have := h (j + 1) (by simpa using hj) (by rw [show k + (j + 1) = k + 1 + j from by omega]; exact hc)
      rw [show k + (j + 1) = k + 1 + j from by omega] at this
      rw [this]; omega)

theorem memS_list (cls : Nat → Nat) (S : Nat → Bool) (i : Nat) : ∀ (ps : List Told) (k : Nat) (M : Mem) (p : Told), ps[i]? = some p → (cls (k + i) = 2 → ∀ j, j < ps.length → i < j → cls (k + j) = 2 → S (k + j) = false) →
    memS cls ps k (fun x => if x = k + i then true else S x) M = if cls (k + i) = 2 then p.M else memS cls ps k S M
  | [], k, M, p, hp, _ => by simp at hp
  | q :: ps, k, M, p, hp, hc => by
    simp only [memS]
    cases i with
    | zero =>
      simp at hp
      subst hp
      simp only [Nat.add_zero, if_true, Bool.true_and, beq_iff_eq]
      have same : ∀ (rs : List Told) (m : Nat) (A : Mem), k < m → memS cls rs m (fun x => if x = k then true else S x) A = memS cls rs m S A := by
        intro rs
        induction rs with
        | nil => intro m A _; rfl
        | cons r rs ih =>
          intro m A hm
          have hne : ¬ m = k := by omega
          simp only [memS, if_neg hne]
          exact ih (m + 1) _ (by omega)
      rw [same ps (k + 1) _ (by omega)]
      by_cases h2 : cls k = 2
      · rw [if_pos h2, if_pos h2]
        exact memS_none cls S ps (k + 1) q.M (fun j hj hcj => by
          have := hc h2 (j + 1) (by simpa using hj) (by omega) (by rw [show k + (j + 1) = k + 1 + j from by omega]; exact hcj)
          rwa [show k + (j + 1) = k + 1 + j from by omega] at this)
      · rw [if_neg h2, if_neg h2, if_neg (by simp [h2])]
    | succ i =>
      have hne : ¬ k = k + (i + 1) := by omega
      simp only [if_neg hne]
      have := memS_list cls S i ps (k + 1) (if (S k && cls k == 2) = true then q.M else M) p (by simpa using hp) (fun h2 j hj hij hcj => by
        have := hc (by rw [show k + (i + 1) = k + 1 + i from by omega]; exact h2) (j + 1) (by simpa using hj) (by omega) (by rw [show k + (j + 1) = k + 1 + j from by omega]; exact hcj)
        rwa [show k + (j + 1) = k + 1 + j from by omega] at this)
      rw [show k + (i + 1) = k + 1 + i from by omega]
      exact this

theorem Known.at_ {C : Ctx} {N : Nat} {ops : Array Oper} {cls : Nat → Nat} : ∀ (ps : List Told) (k : Nat) (T : Env) (M : Mem), Known C N ops cls ps k T M → ∀ (i : Nat) (p : Told), ps[i]? = some p → ObSem C N ops (cls (k + i)) p.o p.v (lastEnv (ps.take i) T) (lastMem (ps.take i) M) p.M
  | [], _, _, _, _, i, p, hp => by simp at hp
  | q :: ps, k, T, M, h, 0, p, hp => by simp at hp; subst hp; exact h.1
  | q :: ps, k, T, M, h, i + 1, p, hp => by
    have := Known.at_ ps (k + 1) _ _ h.2 i p (by simpa using hp)
    rw [show k + (i + 1) = k + 1 + i from by omega]
    exact this

theorem okDraw_edge {ops : Array Oper} {cls : Nat → Nat} (h : okDraw ops cls = true) {i : Nat} {o : Oper} (ho : ops[i]? = some o) : ∀ e ∈ o.after.toList, Region.binds .any e = true → e.on < i := by
  have hi : i < ops.size := (Array.getElem?_eq_some_iff.1 ho).1
  have := List.all_eq_true.1 h i (List.mem_range.2 hi)
  rw [ho] at this
  simp only [Bool.and_eq_true] at this
  intro e he hb
  have h1 := this.1
  rw [← Array.all_toList] at h1
  have := List.all_eq_true.1 h1 e he
  simp only [hb, Bool.not_true, Bool.false_or, decide_eq_true_eq] at this
  exact this

theorem okDraw_conf {ops : Array Oper} {cls : Nat → Nat} (h : okDraw ops cls = true) {i j : Nat} {o x : Oper} (ho : ops[i]? = some o) (hx : ops[j]? = some x) (hlt : j < i) (hc : slotConf ops x o = true ∨ memConf (cls j) (cls i) = true) : reach ops ops.size j i = true := by
  have hi : i < ops.size := (Array.getElem?_eq_some_iff.1 ho).1
  have := List.all_eq_true.1 h i (List.mem_range.2 hi)
  rw [ho] at this
  simp only [Bool.and_eq_true] at this
  have := List.all_eq_true.1 this.2 j (List.mem_range.2 hlt)
  rw [hx] at this
  simp only [Bool.or_eq_true, Bool.not_eq_true', Bool.or_eq_false_iff] at this
  rcases this with h1 | h1
  · rcases hc with h2 | h2
    · rw [h1.1] at h2; simp at h2
    · rw [h1.2] at h2; simp at h2
  · exact h1

/-- any order comes to what the order of the text comes to -/
theorem any_order {C : Ctx} {N : Nat} {ops : Array Oper} {cls : Nat → Nat} (hok : okDraw ops cls = true) {ps : List Told} (hps : ps.map (·.o) = ops.toList) {T : Env} {M : Mem} (hkn : Known C N ops cls ps 0 T M) {Q : Exit → Act → World → Prop}
    {G0 : Ghost} {w0 : World} (hQ : ∀ G w a, G0.le G → Ext w0 w → Inv C G (lastMem ps M) w → RepEnv G N (lastEnv ps T) a → Q .normal a w) :
    ∀ (fuel : Nat) (listed : Array Bool) (G : Ghost) (w : World) (a : Act), listed.size = ops.size → ((List.range ops.size).filter fun i => !listed.getD i true).length ≤ fuel → closed ops (fun i => listed.getD i false) →
      G0.le G → Ext w0 w → Inv C G (memS cls ps 0 (fun i => listed.getD i false) M) w → RepEnv G N (envOf ps 0 (fun i => listed.getD i false) T) a → wpAny C.P .any ops Q fuel listed a w := by
  have hlen : ps.length = ops.size := by have := congrArg List.length hps; simpa using this
  have hget : ∀ (i : Nat) (p : Told), ps[i]? = some p → ops[i]? = some p.o := by
    intro i p hp
    have : (ps.map (·.o))[i]? = some p.o := by simp [hp]
    rw [hps] at this
    simpa using this
  have hget' : ∀ (i : Nat) (o : Oper), ops[i]? = some o → ∃ p : Told, ps[i]? = some p ∧ p.o = o := by
    intro i o ho
    have : (ps.map (·.o))[i]? = some o := by rw [hps]; simpa using ho
    simpa using this
  -- when nothing is ready, all are listed
  have done : ∀ (listed : Array Bool), listed.size = ops.size → Region.ready .any ops listed = [] → ∀ i, i < ops.size → listed.getD i false = true := by
    intro listed hsz hr i
    induction i using Nat.strongRecOn with
    | _ i ih =>
      intro hi
      cases hl : listed.getD i false with
      | true => rfl
      | false =>
        exfalso
        obtain ⟨o, ho⟩ : ∃ o, ops[i]? = some o := ⟨ops[i], Array.getElem?_eq_getElem hi⟩
        have hmem : i ∈ Region.ready .any ops listed := by
          unfold Region.ready
          refine List.mem_filter.2 ⟨List.mem_range.2 hi, ?_⟩
          have hl' : listed.getD i true = false := by
            have h1 : i < listed.size := by omega
            simp [Array.getD, h1] at hl ⊢
            exact hl
          rw [hl', ho]
          simp only [Bool.not_false, Bool.true_and, Option.map_some, Option.getD_some]
          rw [← Array.all_toList]
          refine List.all_eq_true.2 (fun e he => ?_)
          by_cases hb : Region.binds .any e = true
          · have hlt := okDraw_edge hok ho e he hb
            simp [ih e.on hlt (by omega)]
          · simp [hb]
        rw [hr] at hmem
        simp at hmem
  -- the end
  have fin : ∀ (listed : Array Bool) (G : Ghost) (w : World) (a : Act), listed.size = ops.size → Region.ready .any ops listed = [] → G0.le G → Ext w0 w → Inv C G (memS cls ps 0 (fun i => listed.getD i false) M) w → RepEnv G N (envOf ps 0 (fun i => listed.getD i false) T) a → Q .normal a w := by
    intro listed G w a hsz hr hle hext hi he
    have hall := done listed hsz hr
    have e1 : memS cls ps 0 (fun i => listed.getD i false) M = lastMem ps M := by
      have := memS_agree cls (fun i => listed.getD i false) ps 0 ps.length M (Known.quiet ps 0 T M hkn) (fun j hj _ => by simp only [Nat.zero_add]; exact ⟨fun _ => hj, fun _ => hall j (by omega)⟩)
      simpa using this
    have e2 : ∀ s, envOf ps 0 (fun i => listed.getD i false) T s = lastEnv ps T s := by
      intro s
      have := envOf_agree (fun i => listed.getD i false) s ps 0 ps.length T (fun j p hp _ => by
        have hj := getElem?_lt hp
        simp only [Nat.zero_add]; exact ⟨fun _ => hj, fun _ => hall j (by omega)⟩)
      simpa using this
    rw [e1] at hi
    exact hQ G w a hle hext hi ⟨he.defers, he.size, fun i hi' => by rw [← e2 i]; exact he.at_ i hi'⟩
  intro fuel
  induction fuel with
  | zero =>
    intro listed G w a hsz hcount hcl hle hext hi he
    simp only [wpAny]
    have hnone : Region.ready .any ops listed = [] := by
      unfold Region.ready
      refine List.filter_eq_nil_iff.2 (fun i hi' => ?_)
      have hz := List.eq_nil_of_length_eq_zero (Nat.le_zero.1 hcount)
      have := List.filter_eq_nil_iff.1 hz i hi'
      intro hc
      simp only [Bool.and_eq_true] at hc
      exact this hc.1
    exact ⟨hnone, fin listed G w a hsz hnone hle hext hi he⟩
  | succ fuel ih =>
    intro listed G w a hsz hcount hcl hle hext hi he
    simp only [wpAny]
    refine ⟨fun hr => fin listed G w a hsz hr hle hext hi he, fun i hir => ?_⟩
    -- operation i is taken
    unfold Region.ready at hir
    obtain ⟨hrange, hcond⟩ := List.mem_filter.1 hir
    have hilt := List.mem_range.1 hrange
    obtain ⟨o, ho⟩ : ∃ o, ops[i]? = some o := ⟨ops[i], Array.getElem?_eq_getElem hilt⟩
    rw [ho] at hcond
    simp only [Option.map_some, Option.getD_some, Bool.and_eq_true] at hcond
    obtain ⟨hnl, hpre⟩ := hcond
    have hils : i < listed.size := by omega
    have hSi : listed.getD i false = false := by simpa [Array.getD, hils] using hnl
    obtain ⟨p, hp, hpo⟩ := hget' i o ho
    have hpreds : ∀ o', ops[i]? = some o' → ∀ e ∈ o'.after.toList, Region.binds .any e = true → listed.getD e.on false = true := by
      intro o' ho' e he' hb
      rw [ho] at ho'
      simp at ho'
      subst ho'
      rw [← Array.all_toList] at hpre
      have := List.all_eq_true.1 hpre e he'
      simpa [hb] using this
    -- whatever conflicts with i: listed exactly if it stands ahead
    have conf : ∀ (j : Nat) (x : Oper), ops[j]? = some x → j ≠ i → (slotConf ops x o = true ∨ slotConf ops o x = true ∨ memConf (cls j) (cls i) = true) → (listed.getD j false = true ↔ j < i) := by
      intro j x hx hne hc
      have symSlot : ∀ x y, slotConf ops x y = true → slotConf ops y x = true := by
        intro x y h
        unfold slotConf at h ⊢
        cases hxd : x.dst with
        | none =>
          cases hyd : y.dst with
          | none => rw [hxd, hyd] at h; simp at h
          | some d => rw [hxd, hyd] at h; simp at h ⊢; simp [h]
        | some d =>
          cases hyd : y.dst with
          | none => rw [hxd, hyd] at h; simp at h ⊢; exact h
          | some d' =>
            rw [hxd, hyd] at h
            simp at h ⊢
            rcases h with (h | h) | h
            · simp [h]
            · simp [h]
            · simp [h]
      have symMem : memConf (cls j) (cls i) = memConf (cls i) (cls j) := by
        unfold memConf
        cases (cls j != 0) <;> cases (cls i != 0) <;> cases (cls j == 2) <;> cases (cls i == 2) <;> rfl
      constructor
      · intro hj
        rcases Nat.lt_or_gt_of_ne hne with h | h
        · exact h
        · exfalso
          have hr := okDraw_conf hok hx ho h (by
            rcases hc with h1 | h1 | h1
            · exact .inl (symSlot _ _ h1)
            · exact .inl h1
            · exact .inr (by rw [← symMem]; exact h1))
          have := reach_closed hcl _ _ _ hr (fun o' ho' e he' hb => hcl j o' ho' hj e he' hb)
          rw [hSi] at this
          simp at this
      · intro hj
        have hr := okDraw_conf hok ho hx hj (by
          rcases hc with h1 | h1 | h1
          · exact .inl h1
          · exact .inl (symSlot _ _ h1)
          · exact .inr h1)
        exact reach_closed hcl _ _ _ hr hpreds
    have hob := Known.at_ ps 0 T M hkn i p hp
    simp only [Nat.zero_add] at hob
    -- where it looks: as in the order of the text
    have hlook : ∀ s ∈ p.o.looksAt ops, envOf ps 0 (fun i => listed.getD i false) T s = lastEnv (ps.take i) T s := by
      intro s hs
      refine envOf_agree _ s ps 0 i T (fun j q hq hd => ?_)
      simp only [Nat.zero_add]
      by_cases e : j = i
      · subst e; simp [hSi]
      · refine conf j q.o (hget j q hq) e (.inl ?_)
        unfold slotConf
        rw [hd]
        rw [← hpo]
        simp [hs]
    have hmem : cls i ≠ 0 → memS cls ps 0 (fun i => listed.getD i false) M = lastMem (ps.take i) M := by
      intro hc
      refine memS_agree cls _ ps 0 i M (Known.quiet ps 0 T M hkn) (fun j hj hcj => ?_)
      simp only [Nat.zero_add] at hcj ⊢
      by_cases e : j = i
      · subst e; simp [hSi]
      · obtain ⟨x, hx⟩ : ∃ x, ops[j]? = some x := ⟨ops[j], Array.getElem?_eq_getElem (by omega)⟩
        refine conf j x hx e (.inr (.inr ?_))
        unfold memConf
        simp [hcj, hc]
    unfold wpOp
    rw [ho]
    simp only
    have hgo := hob.2 _ _ hlook hmem G w a hi he (wpAny C.P .any ops Q fuel (listed.setIfInBounds i true)) Q ?_
    · rw [hpo] at hgo; exact hgo
    · intro G' w' x h1 h2 h3 h4
      rw [hpo]
      have hS' : ∀ j, (listed.setIfInBounds i true).getD j false = if j = 0 + i then true else listed.getD j false := by
        intro j
        simp only [Nat.zero_add]
        by_cases e : j = i
        · subst e; simp [Array.getD, hils]
        · have e' : i ≠ j := fun h => e h.symm
          rw [if_neg e]
          by_cases hj : j < listed.size
          · simp [Array.getD, hj, e']
          · simp [Array.getD, hj]
      have hSf : (fun j => (listed.setIfInBounds i true).getD j false) = fun j => if j = 0 + i then true else listed.getD j false := funext hS'
      refine ih _ G' w' _ (by simpa using hsz) ?_ ?_ (hle.trans h1) (hext.trans h4) ?_ ?_
      · -- one fewer is open
        have hdec : ((List.range ops.size).filter fun j => !(listed.setIfInBounds i true).getD j true).length < ((List.range ops.size).filter fun j => !listed.getD j true).length := by
          have hsub : ((List.range ops.size).filter fun j => !(listed.setIfInBounds i true).getD j true) = (((List.range ops.size).filter fun j => !listed.getD j true).filter fun j => j != i) := by
            rw [List.filter_filter]
            refine List.filter_congr (fun j hj => ?_)
            have hj' := List.mem_range.1 hj
            have hjs : j < listed.size := by omega
            by_cases e : j = i
            · subst e; simp [Array.getD, hjs]
            · have e' : i ≠ j := fun h => e h.symm
              simp [Array.getD, hjs, e, e']
          rw [hsub]
          refine List.length_filter_lt_length_iff_exists.2 ⟨i, ?_, by simp⟩
          exact List.mem_filter.2 ⟨hrange, hnl⟩
        omega
      · -- still closed
        intro k o' ho' hk e he' hb
        simp only [hS'] at hk ⊢
        by_cases ek : k = 0 + i
        · have : k = i := by omega
          subst this
          rw [hpreds o' ho' e he' hb]
          simp
        · rw [if_neg ek] at hk
          have := hcl k o' ho' hk e he' hb
          simp only at this
          rw [this]; simp
      · rw [hSf, memS_list cls (fun i => listed.getD i false) i ps 0 M p hp (fun h2 j hj hij hcj => by
          simp only [Nat.zero_add] at h2 hcj ⊢
          obtain ⟨x, hx⟩ : ∃ x, ops[j]? = some x := ⟨ops[j], Array.getElem?_eq_getElem (by omega)⟩
          have := conf j x hx (by omega) (.inr (.inr (by unfold memConf; simp [h2, hcj])))
          cases hs : listed.getD j false with
          | false => rfl
          | true => have := this.1 hs; omega)]
        simpa using h2
      · have hbase : RepEnv G' N ((envOf ps 0 (fun i => listed.getD i false) T).put p.o.dst p.v) (a.put p.o.dst x) := (he.mono h1).put h3
        rw [hpo] at hbase
        refine ⟨hbase.defers, hbase.size, fun s hs => ?_⟩
        rw [hSf, envOf_list (fun i => listed.getD i false) i ps 0 T p hp (by simpa using hSi) (fun j q hq hij hsj s hd hqd => by
          simp only [Nat.zero_add] at hsj
          have := (conf j q.o (hget j q hq) (by omega) (.inl (by
            unfold slotConf
            rw [hqd, ← hpo, hd]; simp))).1 hsj
          omega) s, hpo]
        exact hbase.at_ s hs

theorem awp_draw {C : Ctx} {N : Nat} {h : Hint} {id : Nat} {ops : Array Oper} {Q : Exit → Env → Mem → Prop} {T : Env} {M : Mem} (hmix : C.P.follows .mixedOrders = true) (cls : Nat → Nat) (hin : opsInside N ops ops.toList = true) (hok : okDraw ops cls = true)
    (hr : drawRun C h ops cls 0 ops.toList T M (fun T M => Q .normal T M)) : AWp C N (.region id ops true) Q T M := by
  intro G w a hi he
  obtain ⟨ps, h1, h2, h3⟩ := known_of_run ops.toList 0 T M _ hin hr
  refine wp_region_any hmix ?_
  have e0 : ∀ j, (Array.replicate ops.size false).getD j false = false := fun j => by simp [Array.getD]
  have e0' : (fun j => (Array.replicate ops.size false).getD j false) = fun _ => false := funext e0
  refine any_order hok h1 h2 (G0 := G) (w0 := w) ?_ ops.size (Array.replicate ops.size false) G _ a (by simp) (by have := List.length_filter_le (fun i => !(Array.replicate ops.size false).getD i true) (List.range ops.size); simpa using this) (fun i o _ hs => by simp only [e0] at hs; exact Bool.noConfusion hs) (.refl _) ⟨rfl, rfl, rfl, Nat.le_refl _⟩ ?_ ?_
  · intro G' w' a' q1 q2 q3 q4
    exact ⟨_, _, G', h3, q1, q3, q4, q2⟩
  · rw [e0', memS_none cls _ ps 0 M (fun _ _ _ => rfl)]
    exact hi.world rfl
  · refine ⟨he.defers, he.size, fun s hs => ?_⟩
    rw [e0', envOf_untouched _ s ps 0 T (fun j p _ h => by simp at h)]
    exact he.at_ s hs
end Go.Abs
