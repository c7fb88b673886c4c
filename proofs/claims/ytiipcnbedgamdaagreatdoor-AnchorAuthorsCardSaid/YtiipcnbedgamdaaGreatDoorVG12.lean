/- A region whose order is open: the theorem. -/
import Derived.Test.YtiipcnbedgamdaaGreatDoorVG11
set_option linter.unusedVariables false
namespace Go.Abs

/-- an operation, its value, what it does to the memory -/
structure Told where
  o : Oper
  v : AV
  eff : Eff

/-- the slots and the memory behind those that are listed -/
def envOf : List Told → Nat → (Nat → Bool) → Env → Env
  | [], _, _, T => T
  | p :: ps, k, S, T => envOf ps (k + 1) S (if S k then T.put p.o.dst p.v else T)
def memS : List Told → Nat → (Nat → Bool) → Mem → Mem
  | [], _, _, M => M
  | p :: ps, k, S, M => memS ps (k + 1) S (if S k then p.eff.app M else M)

/-- what is known of all operations, each from the state that the order of the text gives it -/
def Known (C : Ctx) (N : Nat) (ops : Array Oper) (L : Plan) : List Told → Nat → Env → Mem → Prop
  | [], _, _, _ => True
  | p :: ps, k, T, M => ObSem C N ops L.fl (L.cls k) (L.rob k) (L.slot k) p.o p.v T M p.eff ∧ Quiet L k M (p.eff.app M) ∧ Known C N ops L ps (k + 1) (T.put p.o.dst p.v) (p.eff.app M)

def lastEnv : List Told → Env → Env
  | [], T => T
  | p :: ps, T => lastEnv ps (T.put p.o.dst p.v)
def lastMem : List Told → Mem → Mem
  | [], M => M
  | p :: ps, M => lastMem ps (p.eff.app M)

theorem known_of_run {C : Ctx} {N : Nat} {h : Hint} {ops : Array Oper} {L : Plan} : ∀ (l : List Oper) (k : Nat) (T : Env) (M : Mem) (K : Env → Mem → Prop), opsInside N ops l = true → drawRun C h ops L k l T M K →
    ∃ ps : List Told, ps.map (·.o) = l ∧ Known C N ops L ps k T M ∧ K (lastEnv ps T) (lastMem ps M)
  | [], k, T, M, K, _, hd => ⟨[], rfl, trivial, hd⟩
  | o :: l, k, T, M, K, hin, hd => by
    simp only [opsInside, List.all_cons, Bool.and_eq_true] at hin
    obtain ⟨⟨ho, hg⟩, hrest⟩ := hin
    have hrest' : opsInside N ops l = true := by simpa [opsInside] using hrest
    simp only [drawRun] at hd
    -- decide the guard
    have hd' := hd
    unfold vcGuard at hd
    have runCase : (∀ T2, (∀ s ∈ o.looksAt ops, T2 s = T s) → ∀ run skip : Prop, vcGuard ops o T2 run skip = run) → dOp C h L.fl (L.cls k) (L.rob k) (L.slot k) o (T.ev C) M (fun v M' => Quiet L k M M' ∧ drawRun C h ops L (k + 1) l (T.put o.dst v) M' K) →
        ∃ ps : List Told, ps.map (·.o) = o :: l ∧ Known C N ops L ps k T M ∧ K (lastEnv ps T) (lastMem ps M) := by
      intro hgd hr
      obtain ⟨v, eff, ⟨hq, hk⟩, hw, hob⟩ := dOp_ob (ops := ops) ho hr
      obtain ⟨ps, h1, h2, h3⟩ := known_of_run l (k + 1) _ _ K hrest' hk
      refine ⟨⟨o, v, eff⟩ :: ps, by simp [h1], ⟨⟨hw, fun T2 M2 fl e1 e2 G w a hi he next Q hK => ?_⟩, hq, h2⟩, h3⟩
      have hgs := guard_sound (C := C) (M := M2) (w := w) he hg (run := True) (skip := False) (by rw [hgd T2 e1]; trivial)
      rcases hgs with ⟨hw', _⟩ | ⟨_, hf⟩
      · simp only at hw' ⊢
        rw [if_pos hw']
        left
        refine hob T2 M2 fl e1 e2 G w a hi he next Q ?_
        rintro v' M3 G' w' x ⟨rfl, rfl⟩ q1 q2 q3 q4
        exact hK G' w' x q1 q2 q3 q4
      · exact hf.elim
    have skipCase : (∀ T2, (∀ s ∈ o.looksAt ops, T2 s = T s) → ∀ run skip : Prop, vcGuard ops o T2 run skip = skip) → drawRun C h ops L (k + 1) l (T.put o.dst (.val undef)) M K →
        ∃ ps : List Told, ps.map (·.o) = o :: l ∧ Known C N ops L ps k T M ∧ K (lastEnv ps T) (lastMem ps M) := by
      intro hgd hr
      obtain ⟨ps, h1, h2, h3⟩ := known_of_run l (k + 1) _ _ K hrest' hr
      refine ⟨⟨o, .val undef, .none⟩ :: ps, by simp [h1], ⟨⟨trivial, fun T2 M2 fl e1 e2 G w a hi he next Q hK => ?_⟩, fun _ _ _ => rfl, h2⟩, h3⟩
      have hgs := guard_sound (C := C) (M := M2) (w := w) he hg (run := False) (skip := True) (by rw [hgd T2 e1]; trivial)
      rcases hgs with ⟨_, hf⟩ | ⟨hw', _⟩
      · exact hf.elim
      · simp only at hw' ⊢
        rw [if_neg (by simp [hw'])]
        exact hK G w undef (.refl _) hi (by simp [Rep]) (.refl _)
    split at hd
    · rename_i hn
      exact runCase (fun T2 _ run skip => by unfold vcGuard; rw [hn]) hd
    · rename_i j want hs
      split at hd
      case h_2 => exact hd.elim
      rename_i d hdst
      split at hd
      · rename_i b hb
        by_cases e : b = want
        · rw [if_pos e] at hd
          refine runCase (fun T2 e1 run skip => ?_) hd
          rw [guard_congr e1]
          unfold vcGuard
          rw [hs]; simp only [hdst, hb]; rw [if_pos e]
        · rw [if_neg e] at hd
          refine skipCase (fun T2 e1 run skip => ?_) hd
          rw [guard_congr e1]
          unfold vcGuard
          rw [hs]; simp only [hdst, hb]; rw [if_neg e]
      · rename_i vs hb
        refine skipCase (fun T2 e1 run skip => ?_) hd
        rw [guard_congr e1]
        unfold vcGuard
        rw [hs]; simp only [hdst, hb]
      · exact hd.elim

/-! ### orders -/
def reach (ops : Array Oper) : Nat → Nat → Nat → Bool
  | 0, _, _ => false
  | fuel + 1, j, i => match ops[i]? with
    | some o => o.after.any fun e => Region.binds .any e && (e.on == j || reach ops fuel j e.on)
    | none => false

def slotConf (ops : Array Oper) (x y : Oper) : Bool :=
  (match x.dst with
   | some d => (y.looksAt ops).contains d || y.dst == some d
   | none => false) ||
  (match y.dst with
   | some d => (x.looksAt ops).contains d
   | none => false)
/-- does it turn one known object alone -/
def isPut (c : Nat) : Bool := c == 4 || c == 5
theorem isPut_iff {c : Nat} : isPut c = true ↔ c = 4 ∨ c = 5 := by simp [isPut]
/-- j stands ahead of i in the text: must they keep that order for the memory's sake -/
def memConf (L : Plan) (j i : Nat) : Bool :=
  (L.cls j == 2 && L.cls i == 2) || (isPut (L.cls j) && L.cls i == 2) || (L.cls j == 2 && L.cls i == 5) || (L.cls j == 1 && L.cls i == 2 && L.aff j i) || (L.cls i == 1 && L.cls j == 2 && L.aff i j) ||
  (L.cls j == 1 && isPut (L.cls i) && L.rob j == L.slot i) || (L.cls i == 1 && isPut (L.cls j) && L.rob i == L.slot j)

def okDraw (ops : Array Oper) (L : Plan) : Bool :=
  (List.range ops.size).all fun i => match ops[i]? with
    | some o => (o.after.all fun e => !Region.binds .any e || decide (e.on < i)) && (L.cls i != 4 || L.fl) &&
        (List.range i).all fun j => match ops[j]? with
          | some x => (!(slotConf ops x o || memConf L j i) || reach ops ops.size j i) && (!isPut (L.cls i) || !isPut (L.cls j) || L.slot j != L.slot i)
          | none => true
    | none => true

def closed (ops : Array Oper) (S : Nat → Bool) : Prop := ∀ i o, ops[i]? = some o → S i = true → ∀ e ∈ o.after.toList, Region.binds .any e = true → S e.on = true

theorem reach_closed {ops : Array Oper} {S : Nat → Bool} (hc : closed ops S) : ∀ (fuel j i : Nat), reach ops fuel j i = true → (∀ o, ops[i]? = some o → ∀ e ∈ o.after.toList, Region.binds .any e = true → S e.on = true) → S j = true
  | 0, _, _, h, _ => by simp [reach] at h
  | fuel + 1, j, i, h, hp => by
    simp only [reach] at h
    split at h
    case h_2 => simp at h
    rename_i o ho
    rw [← Array.any_toList] at h
    obtain ⟨e, he, hb⟩ := List.any_eq_true.1 h
    simp only [Bool.and_eq_true, Bool.or_eq_true, beq_iff_eq] at hb
    have hs := hp o ho e he hb.1
    rcases hb.2 with h1 | h1
    · rw [← h1]; exact hs
    · exact reach_closed hc fuel j e.on h1 (fun o' ho' e' he' hb' => hc e.on o' ho' hs e' he' hb')

theorem put_other {T : Env} {d : Option Tmp} {v : AV} {s : Nat} (h : d ≠ some s) : T.put d v s = T s := by
  cases d with
  | none => rfl
  | some d => rw [Env.put_some, if_neg (fun e => h (by rw [e]))]

/-- what an unwritten slot reads -/
theorem envOf_untouched (S : Nat → Bool) (s : Nat) : ∀ (ps : List Told) (k : Nat) (T : Env), (∀ j p, ps[j]? = some p → S (k + j) = true → p.o.dst ≠ some s) → envOf ps k S T s = T s
  | [], k, T, _ => rfl
  | p :: ps, k, T, h => by
    simp only [envOf]
    rw [envOf_untouched S s ps (k + 1) _ (fun j q hq hs => h (j + 1) q (by simpa using hq) (by rw [show k + (j + 1) = k + 1 + j from by omega]; exact hs))]
    by_cases hs : S k = true
    · rw [if_pos hs]; exact put_other (h 0 p rfl hs)
    · rw [if_neg hs]

/-- a slot that the i-th operation looks at: as in the order of the text -/
theorem envOf_agree (S : Nat → Bool) (s : Nat) : ∀ (ps : List Told) (k i : Nat) (T : Env), (∀ j p, ps[j]? = some p → p.o.dst = some s → (S (k + j) = true ↔ j < i)) → envOf ps k S T s = lastEnv (ps.take i) T s
  | [], k, i, T, _ => by simp [envOf, lastEnv]
  | p :: ps, k, 0, T, h => by
    simp only [List.take_zero, lastEnv]
    exact envOf_untouched S s (p :: ps) k T (fun j q hq hs hd => by have := (h j q hq hd).1 hs; omega)
  | p :: ps, k, i + 1, T, h => by
    simp only [envOf, List.take_succ_cons, lastEnv]
    have step := envOf_agree S s ps (k + 1) i (if S k = true then T.put p.o.dst p.v else T) (fun j q hq hd => by
      have := h (j + 1) q (by simpa using hq) hd
      rw [show k + (j + 1) = k + 1 + j from by omega] at this
      rw [this]; omega)
    rw [step]
    -- slot s of the start agrees
    have e0 : (if S k = true then T.put p.o.dst p.v else T) s = T.put p.o.dst p.v s := by
      by_cases hd : p.o.dst = some s
      · have := (h 0 p rfl hd).2 (by omega)
        simp only [Nat.add_zero] at this
        rw [if_pos this]
      · by_cases hs : S k = true
        · rw [if_pos hs]
        · rw [if_neg hs, put_other hd]
    have gen : ∀ (qs : List Told) (A B : Env), A s = B s → lastEnv qs A s = lastEnv qs B s := by
      intro qs
      induction qs with
      | nil => intro A B h; exact h
      | cons q qs ih =>
        intro A B h
        simp only [lastEnv]
        refine ih _ _ ?_
        cases q.o.dst with
        | none => exact h
        | some d => simp only [Env.put_some]; split <;> simp_all
    exact gen _ _ _ e0

/-- one more is listed -/
theorem envOf_list (S : Nat → Bool) (i : Nat) : ∀ (ps : List Told) (k : Nat) (T : Env) (p : Told), ps[i]? = some p → S (k + i) = false → (∀ j q, ps[j]? = some q → i < j → S (k + j) = true → ∀ s, p.o.dst = some s → q.o.dst ≠ some s) →
    ∀ s, envOf ps k (fun x => if x = k + i then true else S x) T s = (envOf ps k S T).put p.o.dst p.v s
  | [], k, T, p, hp, _, _ => by simp at hp
  | q :: ps, k, T, p, hp, hS, hc => by
    intro s
    simp only [envOf]
    cases i with
    | zero =>
      simp at hp
      subst hp
      simp only [Nat.add_zero] at hS ⊢
      rw [if_pos (by simp), if_neg (by simp [hS])]
      -- later ones keep off p's slot
      have same : ∀ (rs : List Told) (m : Nat) (A : Env), k < m → envOf rs m (fun x => if x = k then true else S x) A = envOf rs m S A := by
        intro rs
        induction rs with
        | nil => intro m A _; rfl
        | cons r rs ih =>
          intro m A hm
          have hne : ¬ m = k := by omega
          simp only [envOf, if_neg hne]
          exact ih (m + 1) _ (by omega)
      rw [same ps (k + 1) _ (by omega)]
      by_cases hs : q.o.dst = some s
      · have un : ∀ A : Env, envOf ps (k + 1) S A s = A s := fun A => envOf_untouched S s ps (k + 1) A (fun j r hr hsj => by
          exact hc (j + 1) r (by simpa using hr) (by omega) (by rw [show k + (j + 1) = k + 1 + j from by omega]; exact hsj) s hs)
        rw [un, hs, Env.put_some, Env.put_some, if_pos rfl, if_pos rfl]
      · rw [put_other hs]
        have gen : ∀ (rs : List Told) (m : Nat) (A B : Env), A s = B s → envOf rs m S A s = envOf rs m S B s := by
          intro rs
          induction rs with
          | nil => intro m A B h; exact h
          | cons r rs ih =>
            intro m A B h
            simp only [envOf]
            refine ih _ _ _ ?_
            split
            · cases r.o.dst with
              | none => exact h
              | some d => simp only [Env.put_some]; split <;> simp_all
            · exact h
        exact gen ps (k + 1) _ _ (put_other hs)
    | succ i =>
      have hne : ¬ k = k + (i + 1) := by omega
      simp only [if_neg hne]
      have := envOf_list S i ps (k + 1) (if S k = true then T.put q.o.dst q.v else T) p (by simpa using hp) (by rw [show k + 1 + i = k + (i + 1) from by omega]; exact hS)
        (fun j r hr hij hsj => hc (j + 1) r (by simpa using hr) (by omega) (by rw [show k + (j + 1) = k + 1 + j from by omega]; exact hsj)) s
      rw [show k + (i + 1) = k + 1 + i from by omega]
      exact this


theorem Known.at_ {C : Ctx} {N : Nat} {ops : Array Oper} {L : Plan} : ∀ (ps : List Told) (k : Nat) (T : Env) (M : Mem), Known C N ops L ps k T M → ∀ (i : Nat) (p : Told), ps[i]? = some p →
    ObSem C N ops L.fl (L.cls (k + i)) (L.rob (k + i)) (L.slot (k + i)) p.o p.v (lastEnv (ps.take i) T) (lastMem (ps.take i) M) p.eff
  | [], _, _, _, _, i, p, hp => by simp at hp
  | q :: ps, k, T, M, h, 0, p, hp => by simp at hp; subst hp; exact h.1
  | q :: ps, k, T, M, h, i + 1, p, hp => by
    have := Known.at_ ps (k + 1) _ _ h.2.2 i p (by simpa using hp)
    rw [show k + (i + 1) = k + 1 + i from by omega]
    exact this

/-- what of it is told of the memory -/
def Effs (L : Plan) : List Told → Nat → Mem → Prop
  | [], _, _ => True
  | p :: ps, k, M => p.eff.ok L.fl (L.cls k) (L.slot k) M ∧ Quiet L k M (p.eff.app M) ∧ Effs L ps (k + 1) (p.eff.app M)
theorem Known.effs {C : Ctx} {N : Nat} {ops : Array Oper} {L : Plan} : ∀ (ps : List Told) (k : Nat) (T : Env) (M : Mem), Known C N ops L ps k T M → Effs L ps k M
  | [], _, _, _, _ => trivial
  | p :: ps, k, T, M, h => ⟨h.1.1, h.2.1, Known.effs ps (k + 1) _ _ h.2.2⟩

theorem memS_append (S : Nat → Bool) : ∀ (a b : List Told) (k : Nat) (M : Mem), memS (a ++ b) k S M = memS b (k + a.length) S (memS a k S M)
  | [], b, k, M => rfl
  | p :: a, b, k, M => by
    simp only [List.cons_append, memS, List.length_cons]
    rw [memS_append S a b (k + 1), show k + 1 + a.length = k + (a.length + 1) from by omega]
theorem lastMem_append : ∀ (a b : List Told) (M : Mem), lastMem (a ++ b) M = lastMem b (lastMem a M)
  | [], b, M => rfl
  | p :: a, b, M => lastMem_append a b _
theorem Effs.append {L : Plan} : ∀ (a b : List Told) (k : Nat) (M : Mem), Effs L (a ++ b) k M ↔ Effs L a k M ∧ Effs L b (k + a.length) (lastMem a M)
  | [], b, k, M => by simp [Effs, lastMem]
  | p :: a, b, k, M => by
    simp only [List.cons_append, Effs, List.length_cons, lastMem]
    rw [Effs.append a b (k + 1), show k + 1 + a.length = k + (a.length + 1) from by omega]
    simp only [and_assoc]
theorem memS_congr {S S' : Nat → Bool} : ∀ (a : List Told) (k : Nat) (M : Mem), (∀ j, j < a.length → S (k + j) = S' (k + j)) → memS a k S M = memS a k S' M
  | [], k, M, _ => rfl
  | p :: a, k, M, h => by
    simp only [memS]
    have h0 := h 0 (by simp)
    simp only [Nat.add_zero] at h0
    rw [h0]
    exact memS_congr a (k + 1) _ (fun j hj => by
      have := h (j + 1) (by simpa using hj)
      rwa [show k + (j + 1) = k + 1 + j from by omega] at this)

theorem Eff.app_none_of {fl : Bool} {cls slot : Nat} {M : Mem} {eff : Eff} (h : eff.ok fl cls slot M) (h2 : cls ≠ 2) (h4 : ¬ (cls = 4 ∨ cls = 5)) : eff = .none := by
  cases eff with
  | none => rfl
  | put s X => exact absurd h.1 h4
  | mem M1 => exact absurd h.1 h2

/-- all that turn the memory have been done -/
theorem memS_done {L : Plan} {S : Nat → Bool} : ∀ (a : List Told) (k : Nat) (M : Mem), Effs L a k M → (∀ j, j < a.length → L.cls (k + j) = 2 ∨ (L.cls (k + j) = 4 ∨ L.cls (k + j) = 5) → S (k + j) = true) → memS a k S M = lastMem a M
  | [], k, M, _, _ => rfl
  | p :: a, k, M, he, h => by
    simp only [memS, lastMem]
    have h' : ∀ j, j < a.length → L.cls (k + 1 + j) = 2 ∨ (L.cls (k + 1 + j) = 4 ∨ L.cls (k + 1 + j) = 5) → S (k + 1 + j) = true := fun j hj hc => by
      have := h (j + 1) (by simpa using hj) (by rwa [show k + (j + 1) = k + 1 + j from by omega])
      rwa [show k + (j + 1) = k + 1 + j from by omega] at this
    cases hs : S k with
    | true => rw [if_pos rfl]; exact memS_done a (k + 1) _ he.2.2 h'
    | false =>
      have hn : p.eff = .none := Eff.app_none_of he.1 (fun e => by have := h 0 (by simp) (.inl e); simp only [Nat.add_zero] at this; rw [hs] at this; simp at this) (fun e => by have := h 0 (by simp) (.inr e); simp only [Nat.add_zero] at this; rw [hs] at this; simp at this)
      rw [hn]
      simp only [Eff.app]
      have he2 := he.2.2
      rw [hn] at he2
      exact memS_done a (k + 1) _ he2 h'

/-- the reserved places that have been filled -/
def putsOf : List Told → Nat → (Nat → Bool) → List (Nat × AObj)
  | [], _, _ => []
  | p :: ps, k, S => match S k, p.eff with
    | true, .put s X => (s, X) :: putsOf ps (k + 1) S
    | _, _ => putsOf ps (k + 1) S

theorem memS_puts {L : Plan} {S : Nat → Bool} : ∀ (a : List Told) (k : Nat) (M0 M : Mem), Effs L a k M0 → (∀ j, j < a.length → L.cls (k + j) = 2 → S (k + j) = false) → memS a k S M = fill M (putsOf a k S)
  | [], k, M0, M, _, _ => rfl
  | p :: a, k, M0, M, he, h => by
    simp only [memS, putsOf]
    have h' : ∀ j, j < a.length → L.cls (k + 1 + j) = 2 → S (k + 1 + j) = false := fun j hj hc => by
      have := h (j + 1) (by simpa using hj) (by rwa [show k + (j + 1) = k + 1 + j from by omega])
      rwa [show k + (j + 1) = k + 1 + j from by omega] at this
    rw [memS_puts a (k + 1) _ _ he.2.2 h']
    cases hs : S k with
    | false => rfl
    | true =>
      rw [if_pos rfl]
      cases hf : p.eff with
      | none => rfl
      | put s X => rfl
      | mem M1 =>
        have h1 := he.1
        rw [hf] at h1
        have := h 0 (by simp) h1.1
        simp only [Nat.add_zero] at this
        rw [hs] at this; simp at this

theorem putsOf_mem {L : Plan} {S : Nat → Bool} : ∀ (a : List Told) (k : Nat) (M0 : Mem), Effs L a k M0 → ∀ q ∈ putsOf a k S, ∃ j, j < a.length ∧ (L.cls (k + j) = 4 ∨ L.cls (k + j) = 5) ∧ q.1 = L.slot (k + j) ∧ S (k + j) = true
  | [], k, M0, _, q, hq => by simp [putsOf] at hq
  | p :: a, k, M0, he, q, hq => by
    have tl : q ∈ putsOf a (k + 1) S → ∃ j, j < (p :: a).length ∧ (L.cls (k + j) = 4 ∨ L.cls (k + j) = 5) ∧ q.1 = L.slot (k + j) ∧ S (k + j) = true := by
      intro hq
      obtain ⟨j, h1, h2, h3, h4⟩ := putsOf_mem a (k + 1) _ he.2.2 q hq
      exact ⟨j + 1, by simpa using h1, by rwa [show k + (j + 1) = k + 1 + j from by omega], by rwa [show k + (j + 1) = k + 1 + j from by omega], by rwa [show k + (j + 1) = k + 1 + j from by omega]⟩
    simp only [putsOf] at hq
    split at hq
    · rename_i s X hs hf
      rcases List.mem_cons.1 hq with rfl | hq
      · have h1 := he.1
        rw [hf] at h1
        exact ⟨0, by simp, h1.1, h1.2.1, hs⟩
      · exact tl hq
    · exact tl hq

theorem putsOf_nodup {L : Plan} {S : Nat → Bool} : ∀ (a : List Told) (k : Nat) (M0 : Mem), Effs L a k M0 → (∀ j m, j < m → m < a.length → (L.cls (k + j) = 4 ∨ L.cls (k + j) = 5) → (L.cls (k + m) = 4 ∨ L.cls (k + m) = 5) → L.slot (k + j) ≠ L.slot (k + m)) → ((putsOf a k S).map (·.1)).Nodup
  | [], k, M0, _, _ => by simp [putsOf]
  | p :: a, k, M0, he, h => by
    have ih := putsOf_nodup (S := S) a (k + 1) _ he.2.2 (fun j m hj hm h1 h2 => by
      have := h (j + 1) (m + 1) (by omega) (by simpa using hm) (by rwa [show k + (j + 1) = k + 1 + j from by omega]) (by rwa [show k + (m + 1) = k + 1 + m from by omega])
      rwa [show k + (j + 1) = k + 1 + j from by omega, show k + (m + 1) = k + 1 + m from by omega] at this)
    simp only [putsOf]
    split
    · rename_i s X hs hf
      simp only [List.map_cons, List.nodup_cons]
      refine ⟨fun hm => ?_, ih⟩
      obtain ⟨q, hq, hqe⟩ := List.mem_map.1 hm
      obtain ⟨j, h1, h2, h3, _⟩ := putsOf_mem a (k + 1) _ he.2.2 q hq
      have h0 := he.1
      rw [hf] at h0
      refine h 0 (j + 1) (by omega) (by simpa using h1) h0.1 (by rwa [show k + (j + 1) = k + 1 + j from by omega]) ?_
      rw [show k + (j + 1) = k + 1 + j from by omega, ← h3, hqe]
      exact h0.2.1.symm
    · exact ih

/-- a reserved place stays so until it is used -/
theorem slot_blank {L : Plan} {s : Nat} : ∀ (a : List Told) (k : Nat) (M : Mem), Effs L a k M → L.fl = true → (∀ j, j < a.length → (L.cls (k + j) = 4 ∨ L.cls (k + j) = 5) → L.slot (k + j) ≠ s) → M[s]? = some blank → (lastMem a M)[s]? = some blank
  | [], k, M, _, _, _, h => h
  | p :: a, k, M, he, hfl, hs, h => by
    refine slot_blank a (k + 1) _ he.2.2 hfl (fun j hj hc => by
      have := hs (j + 1) (by simpa using hj) (by rwa [show k + (j + 1) = k + 1 + j from by omega])
      rwa [show k + (j + 1) = k + 1 + j from by omega] at this) ?_
    have h0 := he.1
    cases hf : p.eff with
    | none => exact h
    | put s' X =>
      rw [hf] at h0
      have := hs 0 (by simp) h0.1
      simp only [Nat.add_zero] at this
      simp only [Eff.app]
      rw [List.getElem?_set_ne (by rw [h0.2.1]; exact this)]; exact h
    | mem M1 => rw [hf] at h0; exact h0.2 hfl s h

/-- ahead of the look: what it looks at is as in the order of the text -/
theorem memS_look1 {L : Plan} {S : Nat → Bool} {r i : Nat} (hr : r = L.rob i) (hi1 : L.cls i = 1) : ∀ (a : List Told) (k : Nat) (A M : Mem), Effs L a k M → (∀ j, j < a.length → L.cls (k + j) = 2 → L.aff i (k + j) = true → S (k + j) = true) →
    (∀ j, j < a.length → (L.cls (k + j) = 4 ∨ L.cls (k + j) = 5) → L.slot (k + j) = r → S (k + j) = true) → A[r]? = M[r]? → (memS a k S A)[r]? = (lastMem a M)[r]?
  | [], k, A, M, _, _, _, h => h
  | p :: a, k, A, M, he, h2, h4, h => by
    simp only [memS, lastMem]
    refine memS_look1 hr hi1 a (k + 1) _ _ he.2.2 (fun j hj hc haf => ?_) (fun j hj hc hsl => ?_) ?_
    · have := h2 (j + 1) (by simpa using hj) (by rwa [show k + (j + 1) = k + 1 + j from by omega]) (by rwa [show k + (j + 1) = k + 1 + j from by omega])
      rwa [show k + (j + 1) = k + 1 + j from by omega] at this
    · have := h4 (j + 1) (by simpa using hj) (by rwa [show k + (j + 1) = k + 1 + j from by omega]) (by rwa [show k + (j + 1) = k + 1 + j from by omega])
      rwa [show k + (j + 1) = k + 1 + j from by omega] at this
    · have h0 := he.1
      cases hf : p.eff with
      | none => simp only [Eff.app]; split <;> exact h
      | mem M1 =>
        rw [hf] at h0
        simp only [Eff.app]
        split
        · rfl
        · rename_i hs
          have haf : L.aff i k = false := by
            cases e : L.aff i k with
            | false => rfl
            | true => have := h2 0 (by simp) h0.1 e; exact absurd this hs
          have := he.2.1 i hi1 haf
          rw [hf] at this
          rw [h, hr]; exact this.symm
      | put s X =>
        rw [hf] at h0
        simp only [Eff.app]
        by_cases e : s = r
        · subst e
          have hs := h4 0 (by simp) h0.1 h0.2.1.symm
          simp only [Nat.add_zero] at hs
          rw [if_pos hs]
          have h1 : s < M.length := by rw [h0.2.1]; exact h0.2.2
          have h3 : s < A.length := getElem?_lt (by rw [h]; exact List.getElem?_eq_getElem h1)
          rw [List.getElem?_set_self h1, List.getElem?_set_self h3]
        · rw [List.getElem?_set_ne e]
          split
          · rw [List.getElem?_set_ne e]; exact h
          · exact h

/-- behind the look -/
theorem memS_look2 {L : Plan} {S : Nat → Bool} {r i : Nat} (hr : r = L.rob i) (hi1 : L.cls i = 1) {V : Option AObj} : ∀ (a : List Told) (k : Nat) (A M : Mem), Effs L a k M → (∀ j, j < a.length → L.cls (k + j) = 2 → L.aff i (k + j) = true → S (k + j) = false) →
    (∀ j, j < a.length → (L.cls (k + j) = 4 ∨ L.cls (k + j) = 5) → L.slot (k + j) = r → S (k + j) = false) → (∀ j m, j < m → m < a.length → (L.cls (k + j) = 2 ∨ (L.cls (k + j) = 4 ∨ L.cls (k + j) = 5)) → L.cls (k + m) = 2 → S (k + m) = true → S (k + j) = true) →
    A[r]? = V → (M[r]? = V ∨ ∀ j, j < a.length → L.cls (k + j) = 2 → S (k + j) = false) → (memS a k S A)[r]? = V
  | [], k, A, M, _, _, _, _, h, _ => h
  | p :: a, k, A, M, he, h2, h4, hp, h, hor => by
    simp only [memS]
    have sh : ∀ j, k + (j + 1) = k + 1 + j := fun j => by omega
    have hor' : (∀ j, j < (p :: a).length → L.cls (k + j) = 2 → S (k + j) = false) → ∀ j, j < a.length → L.cls (k + 1 + j) = 2 → S (k + 1 + j) = false := fun hx j hj hc => by
      have := hx (j + 1) (by simpa using hj) (by rw [sh]; exact hc)
      rwa [sh] at this
    -- the k-th turns the memory and has not been done: none that writes behind it has
    have later : (L.cls k = 2 ∨ (L.cls k = 4 ∨ L.cls k = 5)) → S k = false → ∀ j, j < a.length → L.cls (k + 1 + j) = 2 → S (k + 1 + j) = false := fun hc hs j hj hcj => by
      cases e : S (k + 1 + j) with
      | false => rfl
      | true =>
        have := hp 0 (j + 1) (by omega) (by simpa using hj) (by simpa using hc) (by rw [sh]; exact hcj) (by rw [sh]; exact e)
        simp only [Nat.add_zero] at this
        rw [hs] at this; simp at this
    have go : ∀ A', A'[r]? = V → ((p.eff.app M)[r]? = V ∨ ∀ j, j < a.length → L.cls (k + 1 + j) = 2 → S (k + 1 + j) = false) → (memS a (k + 1) S A')[r]? = V := fun A' hA ho =>
      memS_look2 hr hi1 a (k + 1) _ _ he.2.2 (fun j hj hc haf => by
        have := h2 (j + 1) (by simpa using hj) (by rw [sh]; exact hc) (by rw [sh]; exact haf)
        rwa [sh] at this) (fun j hj hc hsl => by
        have := h4 (j + 1) (by simpa using hj) (by rw [sh]; exact hc) (by rw [sh]; exact hsl)
        rwa [sh] at this) (fun j m hj hm h1 h3 h5 => by
        have := hp (j + 1) (m + 1) (by omega) (by simpa using hm) (by rw [sh]; exact h1) (by rw [sh]; exact h3) (by rw [sh]; exact h5)
        rwa [sh] at this) hA ho
    have h0 := he.1
    cases hf : p.eff with
    | none =>
      have hAA : (if S k = true then Eff.none.app A else A) = A := by simp [Eff.app]
      rw [hAA]
      refine go A h ?_
      rw [hf]
      exact hor.imp id hor'
    | mem M1 =>
      rw [hf] at h0
      have hq := he.2.1
      rw [hf] at hq
      simp only [Eff.app] at hq ⊢
      by_cases haf : L.aff i k = true
      · have hs := h2 0 (by simp) h0.1 haf
        simp only [Nat.add_zero] at hs
        rw [if_neg (by simp [hs])]
        exact go A h (.inr (later (.inl h0.1) hs))
      · have haf' : L.aff i k = false := by simpa using haf
        have e := hq i hi1 haf'
        rw [← hr] at e
        cases hs : S k with
        | true =>
          rw [if_pos rfl]
          have hM : M[r]? = V := by
            rcases hor with hh | hh
            · exact hh
            · have := hh 0 (by simp) h0.1
              simp only [Nat.add_zero] at this
              rw [hs] at this; simp at this
          refine go M1 (by rw [e]; exact hM) (.inl ?_)
          rw [hf]; simp only [Eff.app]; rw [e]; exact hM
        | false =>
          rw [if_neg (by simp)]
          exact go A h (.inr (later (.inl h0.1) hs))
    | put s X =>
      rw [hf] at h0
      simp only [Eff.app]
      by_cases e : s = r
      · subst e
        have hs := h4 0 (by simp) h0.1 h0.2.1.symm
        simp only [Nat.add_zero] at hs
        rw [if_neg (by simp [hs])]
        exact go A h (.inr (later (.inr h0.1) hs))
      · have hA' : (if S k = true then A.set s X else A)[r]? = V := by
          split
          · rw [List.getElem?_set_ne e]; exact h
          · exact h
        refine go _ hA' ?_
        rw [hf]
        simp only [Eff.app]
        rw [List.getElem?_set_ne e]
        exact hor.imp id hor'

/-- a reserved place is blank when its variable is made -/
theorem memS_slot1 {L : Plan} {S : Nat → Bool} {s : Nat} : ∀ (a : List Told) (k : Nat) (A M : Mem), Effs L a k M → L.fl = true → (∀ j, j < a.length → (L.cls (k + j) = 4 ∨ L.cls (k + j) = 5) → L.slot (k + j) ≠ s) → M[s]? = some blank → A[s]? = some blank → (memS a k S A)[s]? = some blank
  | [], k, A, M, _, _, _, _, h => h
  | p :: a, k, A, M, he, hfl, hs, hM, hA => by
    have sh : ∀ j, k + (j + 1) = k + 1 + j := fun j => by omega
    have h0 := he.1
    have hM' : (p.eff.app M)[s]? = some blank := by
      cases hf : p.eff with
      | none => exact hM
      | mem M1 => rw [hf] at h0; exact h0.2 hfl s hM
      | put s' X =>
        rw [hf] at h0
        simp only [Eff.app]
        have := hs 0 (by simp) h0.1
        simp only [Nat.add_zero] at this
        rw [List.getElem?_set_ne (by rw [h0.2.1]; exact this)]; exact hM
    simp only [memS]
    refine memS_slot1 a (k + 1) _ _ he.2.2 hfl (fun j hj hc => by
      have := hs (j + 1) (by simpa using hj) (by rw [sh]; exact hc)
      rwa [sh] at this) hM' ?_
    split
    · cases hf : p.eff with
      | none => exact hA
      | mem M1 => rw [hf] at hM'; exact hM'
      | put s' X =>
        rw [hf] at h0
        simp only [Eff.app]
        have := hs 0 (by simp) h0.1
        simp only [Nat.add_zero] at this
        rw [List.getElem?_set_ne (by rw [h0.2.1]; exact this)]; exact hA
    · exact hA

/-- the object that a store turns is as in the order of the text -/
theorem memS_slot5 {L : Plan} {S : Nat → Bool} {s : Nat} : ∀ (a : List Told) (k : Nat) (A M : Mem), Effs L a k M → (∀ j, j < a.length → L.cls (k + j) = 2 → S (k + j) = true) → (∀ j, j < a.length → (L.cls (k + j) = 4 ∨ L.cls (k + j) = 5) → L.slot (k + j) ≠ s) →
    A[s]? = M[s]? → (memS a k S A)[s]? = (lastMem a M)[s]?
  | [], k, A, M, _, _, _, h => h
  | p :: a, k, A, M, he, h2, hs, h => by
    have sh : ∀ j, k + (j + 1) = k + 1 + j := fun j => by omega
    have h0 := he.1
    simp only [memS, lastMem]
    refine memS_slot5 a (k + 1) _ _ he.2.2 (fun j hj hc => by
      have := h2 (j + 1) (by simpa using hj) (by rw [sh]; exact hc)
      rwa [sh] at this) (fun j hj hc => by
      have := hs (j + 1) (by simpa using hj) (by rw [sh]; exact hc)
      rwa [sh] at this) ?_
    cases hf : p.eff with
    | none => simp only [Eff.app]; split <;> exact h
    | mem M1 =>
      rw [hf] at h0
      have := h2 0 (by simp) h0.1
      simp only [Nat.add_zero] at this
      rw [if_pos this]; rfl
    | put s' X =>
      rw [hf] at h0
      have := hs 0 (by simp) h0.1
      simp only [Nat.add_zero] at this
      have hne : s' ≠ s := by rw [h0.2.1]; exact this
      simp only [Eff.app]
      split
      · rw [List.getElem?_set_ne hne, List.getElem?_set_ne hne]; exact h
      · rw [List.getElem?_set_ne hne]; exact h

theorem fill_get {s : Nat} : ∀ (l : List (Nat × AObj)) (M : Mem), (∀ q ∈ l, q.1 ≠ s) → (fill M l)[s]? = M[s]?
  | [], M, _ => rfl
  | q :: l, M, h => by
    simp only [fill, List.foldl_cons]
    have := fill_get l (M.set q.1 q.2) (fun q' hq' => h q' (List.mem_cons_of_mem _ hq'))
    simp only [fill] at this
    rw [this, List.getElem?_set_ne (h q List.mem_cons_self)]
theorem fill_set {s : Nat} {X : AObj} : ∀ (l : List (Nat × AObj)) (M : Mem), (∀ q ∈ l, q.1 ≠ s) → fill (M.set s X) l = (fill M l).set s X
  | [], M, _ => rfl
  | q :: l, M, h => by
    simp only [fill, List.foldl_cons]
    have := fill_set (s := s) (X := X) l (M.set q.1 q.2) (fun q' hq' => h q' (List.mem_cons_of_mem _ hq'))
    simp only [fill] at this
    rw [List.set_comm _ _ (h q List.mem_cons_self).symm, this]

theorem okDraw_at {ops : Array Oper} {L : Plan} (h : okDraw ops L = true) {i : Nat} {o : Oper} (ho : ops[i]? = some o) : (∀ e ∈ o.after.toList, Region.binds .any e = true → e.on < i) ∧ (L.cls i = 4 → L.fl = true) ∧
    ∀ j x, j < i → ops[j]? = some x → ((slotConf ops x o = true ∨ memConf L j i = true) → reach ops ops.size j i = true) ∧ ((L.cls i = 4 ∨ L.cls i = 5) → (L.cls j = 4 ∨ L.cls j = 5) → L.slot j ≠ L.slot i) := by
  have hi : i < ops.size := (Array.getElem?_eq_some_iff.1 ho).1
  have h1 := List.all_eq_true.1 h i (List.mem_range.2 hi)
  rw [ho] at h1
  simp only [Bool.and_eq_true] at h1
  obtain ⟨⟨h1, h2⟩, h3⟩ := h1
  refine ⟨fun e he hb => ?_, fun hc => ?_, fun j x hj hx => ?_⟩
  · rw [← Array.all_toList] at h1
    have := List.all_eq_true.1 h1 e he
    simp only [hb, Bool.not_true, Bool.false_or, decide_eq_true_eq] at this
    exact this
  · simp only [hc, bne_self_eq_false, Bool.false_or] at h2; exact h2
  · have h4 := List.all_eq_true.1 h3 j (List.mem_range.2 hj)
    rw [hx] at h4
    simp only [Bool.and_eq_true, Bool.or_eq_true, Bool.not_eq_true', Bool.or_eq_false_iff] at h4
    obtain ⟨h5, h6⟩ := h4
    refine ⟨fun hc => ?_, fun a b => ?_⟩
    · rcases h5 with h | h
      · rcases hc with hc | hc
        · rw [h.1] at hc; simp at hc
        · rw [h.2] at hc; simp at hc
      · exact h
    · rcases h6 with (h | h) | h
      · rw [isPut_iff.2 a] at h; simp at h
      · rw [isPut_iff.2 b] at h; simp at h
      · simpa using h

/-- the reserved places are blank to begin with -/
def Reserved (L : Plan) (n : Nat) (M : Mem) : Prop := ∀ k, k < n → L.cls k = 4 → M[L.slot k]? = some blank

/-- any order comes to what the order of the text comes to -/
theorem any_order {C : Ctx} {N : Nat} {ops : Array Oper} {L : Plan} (hok : okDraw ops L = true) {ps : List Told} (hps : ps.map (·.o) = ops.toList) {T : Env} {M : Mem} (hkn : Known C N ops L ps 0 T M) (hres : Reserved L ops.size M) {Q : Exit → Act → World → Prop}
    {G0 : Ghost} {w0 : World} (hQ : ∀ G w a, G0.le G → Ext w0 w → Inv C G (lastMem ps M) w → RepEnv G N (lastEnv ps T) a → Q .normal a w) :
    ∀ (fuel : Nat) (listed : Array Bool) (G : Ghost) (w : World) (a : Act), listed.size = ops.size → ((List.range ops.size).filter fun i => !listed.getD i true).length ≤ fuel → closed ops (fun i => listed.getD i false) →
      G0.le G → Ext w0 w → Inv C G (memS ps 0 (fun i => listed.getD i false) M) w → RepEnv G N (envOf ps 0 (fun i => listed.getD i false) T) a → wpAny C.P .any ops Q fuel listed a w := by
  have heff := Known.effs ps 0 T M hkn
  have hlen : ps.length = ops.size := by have := congrArg List.length hps; simpa using this
  have hget : ∀ (i : Nat) (p : Told), ps[i]? = some p → ops[i]? = some p.o := by
    intro i p hp
    have : (ps.map (·.o))[i]? = some p.o := by simp [hp]
    rw [hps] at this
    simpa using this
  have hget' : ∀ (i : Nat) (o : Oper), ops[i]? = some o → ∃ p : Told, ps[i]? = some p ∧ p.o = o := by
    intro i o ho
    have : (ps.map (·.o))[i]? = some o := by rw [hps]; simpa using ho
    simpa using this
  -- when nothing is ready, all are listed
  have done : ∀ (listed : Array Bool), listed.size = ops.size → Region.ready .any ops listed = [] → ∀ i, i < ops.size → listed.getD i false = true := by
    intro listed hsz hr i
    induction i using Nat.strongRecOn with
    | _ i ih =>
      intro hi
      cases hl : listed.getD i false with
      | true => rfl
      | false =>
        exfalso
        obtain ⟨o, ho⟩ : ∃ o, ops[i]? = some o := ⟨ops[i], Array.getElem?_eq_getElem hi⟩
        have hmem : i ∈ Region.ready .any ops listed := by
          unfold Region.ready
          refine List.mem_filter.2 ⟨List.mem_range.2 hi, ?_⟩
          have hl' : listed.getD i true = false := by
            have h1 : i < listed.size := by omega
            simp [Array.getD, h1] at hl ⊢
            exact hl
          rw [hl', ho]
          simp only [Bool.not_false, Bool.true_and, Option.map_some, Option.getD_some]
          rw [← Array.all_toList]
          refine List.all_eq_true.2 (fun e he => ?_)
          by_cases hb : Region.binds .any e = true
          · have hlt := (okDraw_at hok ho).1 e he hb
            simp [ih e.on hlt (by omega)]
          · simp [hb]
        rw [hr] at hmem
        simp at hmem
  -- the end
  have fin : ∀ (listed : Array Bool) (G : Ghost) (w : World) (a : Act), listed.size = ops.size → Region.ready .any ops listed = [] → G0.le G → Ext w0 w → Inv C G (memS ps 0 (fun i => listed.getD i false) M) w → RepEnv G N (envOf ps 0 (fun i => listed.getD i false) T) a → Q .normal a w := by
    intro listed G w a hsz hr hle hext hi he
    have hall := done listed hsz hr
    have e1 : memS ps 0 (fun i => listed.getD i false) M = lastMem ps M :=
      memS_done ps 0 M heff (fun j hj _ => by simp only [Nat.zero_add]; exact hall j (by omega))
    have e2 : ∀ s, envOf ps 0 (fun i => listed.getD i false) T s = lastEnv ps T s := by
      intro s
      have := envOf_agree (fun i => listed.getD i false) s ps 0 ps.length T (fun j p hp _ => by
        have hj := getElem?_lt hp
        simp only [Nat.zero_add]; exact ⟨fun _ => hj, fun _ => hall j (by omega)⟩)
      simpa using this
    rw [e1] at hi
    exact hQ G w a hle hext hi ⟨he.defers, he.size, fun i hi' => by rw [← e2 i]; exact he.at_ i hi'⟩
  intro fuel
  induction fuel with
  | zero =>
    intro listed G w a hsz hcount hcl hle hext hi he
    simp only [wpAny]
    have hnone : Region.ready .any ops listed = [] := by
      unfold Region.ready
      refine List.filter_eq_nil_iff.2 (fun i hi' => ?_)
      have hz := List.eq_nil_of_length_eq_zero (Nat.le_zero.1 hcount)
      have := List.filter_eq_nil_iff.1 hz i hi'
      intro hc
      simp only [Bool.and_eq_true] at hc
      exact this hc.1
    exact ⟨hnone, fin listed G w a hsz hnone hle hext hi he⟩
  | succ fuel ih =>
    intro listed G w a hsz hcount hcl hle hext hi he
    simp only [wpAny]
    refine ⟨fun hr => fin listed G w a hsz hr hle hext hi he, fun i hir => ?_⟩
    -- operation i is taken
    unfold Region.ready at hir
    obtain ⟨hrange, hcond⟩ := List.mem_filter.1 hir
    have hilt := List.mem_range.1 hrange
    obtain ⟨o, ho⟩ : ∃ o, ops[i]? = some o := ⟨ops[i], Array.getElem?_eq_getElem hilt⟩
    rw [ho] at hcond
    simp only [Option.map_some, Option.getD_some, Bool.and_eq_true] at hcond
    obtain ⟨hnl, hpre⟩ := hcond
    have hils : i < listed.size := by omega
    have hSi : listed.getD i false = false := by simpa [Array.getD, hils] using hnl
    obtain ⟨p, hp, hpo⟩ := hget' i o ho
    have hipl : i < ps.length := getElem?_lt hp
    have hpreds : ∀ o', ops[i]? = some o' → ∀ e ∈ o'.after.toList, Region.binds .any e = true → listed.getD e.on false = true := by
      intro o' ho' e he' hb
      rw [ho] at ho'
      simp at ho'
      subst ho'
      rw [← Array.all_toList] at hpre
      have := List.all_eq_true.1 hpre e he'
      simpa [hb] using this
    have getop : ∀ j, j < ops.size → ∃ x, ops[j]? = some x := fun j hj => ⟨ops[j], Array.getElem?_eq_getElem hj⟩
    -- what conflicts with i and stands ahead is listed, what conflicts and stands behind is not
    have ahead : ∀ (j : Nat) (x : Oper), ops[j]? = some x → j < i → (slotConf ops x o = true ∨ memConf L j i = true) → listed.getD j false = true := fun j x hx hj hc =>
      reach_closed hcl _ _ _ (((okDraw_at hok ho).2.2 j x hj hx).1 hc) hpreds
    have pref : ∀ (j m : Nat), j < m → m < ops.size → memConf L j m = true → listed.getD m false = true → listed.getD j false = true := fun j m hjm hm hc hs => by
      obtain ⟨x, hx⟩ := getop j (by omega)
      obtain ⟨y, hy⟩ := getop m hm
      exact reach_closed hcl _ _ _ (((okDraw_at hok hy).2.2 j x hjm hx).1 (.inr hc)) (fun o' ho' e he' hb => hcl m o' ho' hs e he' hb)
    have behind : ∀ (j : Nat) (x : Oper), ops[j]? = some x → i < j → (slotConf ops o x = true ∨ memConf L i j = true) → listed.getD j false = false := fun j x hx hj hc => by
      cases hs : listed.getD j false with
      | false => rfl
      | true =>
        have := reach_closed hcl _ _ _ (((okDraw_at hok hx).2.2 i o hj ho).1 hc) (fun o' ho' e he' hb => hcl j o' ho' hs e he' hb)
        rw [hSi] at this
        simp at this
    have symSlot : ∀ x y, slotConf ops x y = true → slotConf ops y x = true := by
      intro x y h
      unfold slotConf at h ⊢
      cases hxd : x.dst with
      | none =>
        cases hyd : y.dst with
        | none => rw [hxd, hyd] at h; simp at h
        | some d => rw [hxd, hyd] at h; simp at h ⊢; simp [h]
      | some d =>
        cases hyd : y.dst with
        | none => rw [hxd, hyd] at h; simp at h ⊢; exact h
        | some d' =>
          rw [hxd, hyd] at h
          simp at h ⊢
          rcases h with (h | h) | h
          · simp [h]
          · simp [h]
          · simp [h]
    have conf : ∀ (j : Nat) (x : Oper), ops[j]? = some x → j ≠ i → slotConf ops x o = true → (listed.getD j false = true ↔ j < i) := by
      intro j x hx hne hc
      constructor
      · intro hj
        rcases Nat.lt_or_gt_of_ne hne with h | h
        · exact h
        · rw [behind j x hx h (.inl (symSlot _ _ hc))] at hj; simp at hj
      · intro hj; exact ahead j x hx hj (.inl hc)
    have hob := Known.at_ ps 0 T M hkn i p hp
    simp only [Nat.zero_add] at hob
    -- where it looks: as in the order of the text
    have hlook : ∀ s ∈ p.o.looksAt ops, envOf ps 0 (fun i => listed.getD i false) T s = lastEnv (ps.take i) T s := by
      intro s hs
      refine envOf_agree _ s ps 0 i T (fun j q hq hd => ?_)
      simp only [Nat.zero_add]
      by_cases e : j = i
      · subst e; simp [hSi]
      · refine conf j q.o (hget j q hq) e ?_
        unfold slotConf
        rw [hd]
        rw [← hpo]
        simp [hs]
    -- the list, cut at i
    have hsplit : ps = ps.take i ++ p :: ps.drop (i + 1) := by
      have h1 : ps.drop i = p :: ps.drop (i + 1) := by
        rw [List.drop_eq_getElem_cons hipl]
        congr 1
        rw [List.getElem?_eq_getElem hipl] at hp
        simpa using hp
      rw [← h1, List.take_append_drop]
    have hti : (ps.take i).length = i := by rw [List.length_take]; omega
    have hdl : (ps.drop (i + 1)).length = ps.length - (i + 1) := List.length_drop ..
    have heffs : Effs L (ps.take i) 0 M ∧ p.eff.ok L.fl (L.cls i) (L.slot i) (lastMem (ps.take i) M) ∧ Quiet L i (lastMem (ps.take i) M) (p.eff.app (lastMem (ps.take i) M)) ∧ Effs L (ps.drop (i + 1)) (i + 1) (p.eff.app (lastMem (ps.take i) M)) := by
      have h1 := heff
      rw [hsplit, Effs.append, hti, Nat.zero_add] at h1
      exact h1
    obtain ⟨he1, he2, he3, he4⟩ := heffs
    have hmemS : ∀ S : Nat → Bool, memS ps 0 S M = memS (ps.drop (i + 1)) (i + 1) S (if S i = true then p.eff.app (memS (ps.take i) 0 S M) else memS (ps.take i) 0 S M) := by
      intro S
      rw [show memS ps 0 S M = memS (ps.take i ++ p :: ps.drop (i + 1)) 0 S M from by rw [← hsplit], memS_append, hti, Nat.zero_add]
      rfl
    have slots : ∀ j k, j < k → k < ops.size → (L.cls j = 4 ∨ L.cls j = 5) → (L.cls k = 4 ∨ L.cls k = 5) → L.slot j ≠ L.slot k := fun j k hjk hk h1 h2 => by
      obtain ⟨x, hx⟩ := getop j (by omega)
      obtain ⟨y, hy⟩ := getop k hk
      exact ((okDraw_at hok hy).2.2 j x hjk hx).2 h2 h1
    have hfl4 : ∀ k, k < ops.size → L.cls k = 4 → L.fl = true := fun k hk hc => by
      obtain ⟨y, hy⟩ := getop k hk
      exact (okDraw_at hok hy).2.1 hc
    -- a reserved place of k ≥ i, in the order of the text, ahead of i
    have blankAt : ∀ k, i ≤ k → k < ops.size → L.cls k = 4 → (lastMem (ps.take i) M)[L.slot k]? = some blank := fun k hik hk hc =>
      slot_blank (ps.take i) 0 M he1 (hfl4 k hk hc) (fun j hj h4 => by
        simp only [Nat.zero_add] at h4 ⊢
        exact slots j k (by omega) hk h4 (.inl hc)) (hres k hk hc)
    have sh : ∀ j, i + 1 + j = i + (j + 1) := fun j => by omega
    -- which writes are done when a write is taken
    have w2 : L.cls i = 2 → (∀ j, j < (ps.take i).length → L.cls (0 + j) = 2 ∨ (L.cls (0 + j) = 4 ∨ L.cls (0 + j) = 5) → listed.getD (0 + j) false = true) ∧ (∀ j, j < (ps.drop (i + 1)).length → L.cls (i + 1 + j) = 2 → listed.getD (i + 1 + j) false = false) := by
      intro hc
      refine ⟨fun j hj h => ?_, fun j hj h => ?_⟩
      · simp only [Nat.zero_add] at h ⊢
        obtain ⟨x, hx⟩ := getop j (by omega)
        exact ahead j x hx (by omega) (.inr (by unfold memConf; rcases h with h | h | h <;> simp [h, hc, isPut]))
      · obtain ⟨x, hx⟩ := getop (i + 1 + j) (by omega)
        exact behind _ x hx (by omega) (.inr (by unfold memConf; simp [h, hc]))
    have hagree : Agrees L.fl (L.cls i) (L.rob i) (L.slot i) (lastMem (ps.take i) M) (memS ps 0 (fun i => listed.getD i false) M) (putsOf (ps.drop (i + 1)) (i + 1) (fun i => listed.getD i false)) := by
      refine ⟨fun hc => ?_, fun hc => ⟨?_, ⟨fun q hq => ?_, ?_⟩, fun hfl => ?_⟩, fun hc => ?_, fun hc => ?_⟩
      · rw [hmemS]
        simp only [hSi, Bool.false_eq_true, if_false]
        have h1 := memS_look1 (S := fun i => listed.getD i false) (r := L.rob i) rfl hc (ps.take i) 0 M M he1 (fun j hj h2 haf => by
          simp only [Nat.zero_add] at h2 haf ⊢
          obtain ⟨x, hx⟩ := getop j (by omega)
          exact ahead j x hx (by omega) (.inr (by unfold memConf; simp [h2, hc, haf]))) (fun j hj h4 hsl => by
          simp only [Nat.zero_add] at h4 hsl ⊢
          obtain ⟨x, hx⟩ := getop j (by omega)
          exact ahead j x hx (by omega) (.inr (by unfold memConf; rcases h4 with h4 | h4 <;> simp [h4, hc, hsl, isPut]))) rfl
        have hno : p.eff = .none := Eff.app_none_of he2 (by omega) (by omega)
        refine memS_look2 (S := fun i => listed.getD i false) (r := L.rob i) (i := i) rfl hc (ps.drop (i + 1)) (i + 1) _ _ he4 (fun j hj h2 haf => ?_) (fun j hj h4 hsl => ?_) (fun j m hjm hm h2 h3 hs => ?_) h1 (.inl ?_)
        · obtain ⟨x, hx⟩ := getop (i + 1 + j) (by omega)
          exact behind _ x hx (by omega) (.inr (by unfold memConf; simp [h2, hc, haf]))
        · obtain ⟨x, hx⟩ := getop (i + 1 + j) (by omega)
          exact behind _ x hx (by omega) (.inr (by unfold memConf; rcases h4 with h4 | h4 <;> simp [h4, hc, hsl, isPut]))
        · exact pref (i + 1 + j) (i + 1 + m) (by omega) (by omega) (by unfold memConf; rcases h2 with h | h | h <;> simp [h, h3, isPut]) hs
        · rw [hno]; rfl
      · rw [hmemS]
        simp only [hSi, Bool.false_eq_true, if_false]
        rw [memS_done (ps.take i) 0 M he1 (w2 hc).1]
        exact memS_puts _ _ _ _ he4 (w2 hc).2
      · obtain ⟨j, h1, h2, h3, h5⟩ := putsOf_mem _ _ _ he4 q hq
        rw [h3]
        rcases h2 with h2 | h2
        · exact blankAt (i + 1 + j) (by omega) (by omega) h2
        · obtain ⟨x, hx⟩ := getop (i + 1 + j) (by omega)
          have := behind _ x hx (by omega) (.inr (by unfold memConf; simp [h2, hc]))
          rw [this] at h5; simp at h5
      · exact putsOf_nodup _ _ _ he4 (fun j m hjm hm h1 h2 => slots _ _ (by omega) (by omega) h1 h2)
      · cases hl : putsOf (ps.drop (i + 1)) (i + 1) (fun i => listed.getD i false) with
        | nil => rfl
        | cons q l =>
          obtain ⟨j, h1, h2, h3, h5⟩ := putsOf_mem (S := fun i => listed.getD i false) _ _ _ he4 q (by rw [hl]; exact List.mem_cons_self)
          rcases h2 with h2 | h2
          · have := hfl4 (i + 1 + j) (by omega) h2
            rw [hfl] at this; simp at this
          · obtain ⟨x, hx⟩ := getop (i + 1 + j) (by omega)
            have := behind _ x hx (by omega) (.inr (by unfold memConf; simp [h2, hc]))
            rw [this] at h5; simp at h5
      · rw [hmemS]
        simp only [hSi, Bool.false_eq_true, if_false]
        have h1 : (memS (ps.take i) 0 (fun i => listed.getD i false) M)[L.slot i]? = some blank :=
          memS_slot1 (ps.take i) 0 M M he1 (hfl4 i hilt hc) (fun j hj h4 => by
            simp only [Nat.zero_add] at h4 ⊢
            exact slots j i (by omega) hilt h4 (.inl hc)) (hres i hilt hc) (hres i hilt hc)
        rw [memS_puts _ _ _ _ he4 (fun j hj h2 => by
          obtain ⟨x, hx⟩ := getop (i + 1 + j) (by omega)
          exact behind _ x hx (by omega) (.inr (by unfold memConf; simp [h2, hc, isPut])))]
        rw [fill_get _ _ (fun q hq => by
          obtain ⟨j, h1, h2, h3, _⟩ := putsOf_mem _ _ _ he4 q hq
          rw [h3]
          exact (slots i (i + 1 + j) (by omega) (by omega) (.inl hc) h2).symm)]
        exact h1
      · rw [hmemS]
        simp only [hSi, Bool.false_eq_true, if_false]
        have h1 : (memS (ps.take i) 0 (fun i => listed.getD i false) M)[L.slot i]? = (lastMem (ps.take i) M)[L.slot i]? :=
          memS_slot5 (ps.take i) 0 M M he1 (fun j hj h2 => by
            simp only [Nat.zero_add] at h2 ⊢
            obtain ⟨x, hx⟩ := getop j (by omega)
            exact ahead j x hx (by omega) (.inr (by unfold memConf; simp [h2, hc]))) (fun j hj h4 => by
            simp only [Nat.zero_add] at h4 ⊢
            exact slots j i (by omega) hilt h4 (.inr hc)) rfl
        rw [memS_puts _ _ _ _ he4 (fun j hj h2 => by
          obtain ⟨x, hx⟩ := getop (i + 1 + j) (by omega)
          exact behind _ x hx (by omega) (.inr (by unfold memConf; simp [h2, hc, isPut])))]
        rw [fill_get _ _ (fun q hq => by
          obtain ⟨j, h1, h2, h3, _⟩ := putsOf_mem _ _ _ he4 q hq
          rw [h3]
          exact (slots i (i + 1 + j) (by omega) (by omega) (.inr hc) h2).symm)]
        exact h1
    -- what it does
    have hdo : memS ps 0 (fun x => if x = i then true else listed.getD x false) M = p.eff.appF (putsOf (ps.drop (i + 1)) (i + 1) (fun i => listed.getD i false)) (memS ps 0 (fun i => listed.getD i false) M) := by
      have a1 : memS (ps.take i) 0 (fun x => if x = i then true else listed.getD x false) M = memS (ps.take i) 0 (fun i => listed.getD i false) M :=
        memS_congr _ _ _ (fun j hj => by simp only [Nat.zero_add]; rw [if_neg (by omega)])
      have a2 : ∀ A, memS (ps.drop (i + 1)) (i + 1) (fun x => if x = i then true else listed.getD x false) A = memS (ps.drop (i + 1)) (i + 1) (fun i => listed.getD i false) A := fun A =>
        memS_congr _ _ _ (fun j hj => by rw [if_neg (by omega)])
      rw [hmemS, hmemS, a1, a2]
      simp only [if_true, hSi, Bool.false_eq_true, if_false]
      cases hf : p.eff with
      | none => rfl
      | mem M1 =>
        rw [hf] at he2
        simp only [Eff.app, Eff.appF]
        exact memS_puts _ _ _ _ he4 (w2 he2.1).2
      | put s X =>
        rw [hf] at he2
        have hno2 : ∀ j, j < (ps.drop (i + 1)).length → L.cls (i + 1 + j) = 2 → listed.getD (i + 1 + j) false = false := fun j hj h2 => by
          obtain ⟨x, hx⟩ := getop (i + 1 + j) (by omega)
          exact behind _ x hx (by omega) (.inr (by unfold memConf; rcases he2.1 with h | h <;> simp [h2, h, isPut]))
        simp only [Eff.app, Eff.appF]
        rw [memS_puts _ _ _ _ he4 hno2, memS_puts _ _ _ _ he4 hno2]
        exact fill_set _ _ (fun q hq => by
          obtain ⟨j, h1, h2, h3, _⟩ := putsOf_mem _ _ _ he4 q hq
          rw [h3, he2.2.1]
          exact (slots i (i + 1 + j) (by omega) (by omega) he2.1 h2).symm)
    unfold wpOp
    rw [ho]
    simp only
    have hgo := hob.2 _ _ _ hlook hagree G w a hi he (wpAny C.P .any ops Q fuel (listed.setIfInBounds i true)) Q ?_
    · rw [hpo] at hgo; exact hgo
    · intro G' w' x h1 h2 h3 h4
      rw [hpo]
      have hS' : ∀ j, (listed.setIfInBounds i true).getD j false = if j = i then true else listed.getD j false := by
        intro j
        by_cases e : j = i
        · subst e; simp [Array.getD, hils]
        · have e' : i ≠ j := fun h => e h.symm
          rw [if_neg e]
          by_cases hj : j < listed.size
          · simp [Array.getD, hj, e']
          · simp [Array.getD, hj]
      have hSf : (fun j => (listed.setIfInBounds i true).getD j false) = fun j => if j = i then true else listed.getD j false := funext hS'
      refine ih _ G' w' _ (by simpa using hsz) ?_ ?_ (hle.trans h1) (hext.trans h4) ?_ ?_
      · -- one fewer is open
        have hdec : ((List.range ops.size).filter fun j => !(listed.setIfInBounds i true).getD j true).length < ((List.range ops.size).filter fun j => !listed.getD j true).length := by
          have hsub : ((List.range ops.size).filter fun j => !(listed.setIfInBounds i true).getD j true) = (((List.range ops.size).filter fun j => !listed.getD j true).filter fun j => j != i) := by
            rw [List.filter_filter]
            refine List.filter_congr (fun j hj => ?_)
            have hj' := List.mem_range.1 hj
            have hjs : j < listed.size := by omega
            by_cases e : j = i
            · subst e; simp [Array.getD, hjs]
            · have e' : i ≠ j := fun h => e h.symm
              simp [Array.getD, hjs, e, e']
          rw [hsub]
          refine List.length_filter_lt_length_iff_exists.2 ⟨i, ?_, by simp⟩
          exact List.mem_filter.2 ⟨hrange, hnl⟩
        omega
      · -- still closed
        intro k o' ho' hk e he' hb
        simp only [hS'] at hk ⊢
        by_cases ek : k = i
        · subst ek
          rw [hpreds o' ho' e he' hb]
          simp
        · rw [if_neg ek] at hk
          have := hcl k o' ho' hk e he' hb
          simp only at this
          rw [this]; simp
      · rw [hSf, hdo]
        exact h2
      · have hbase : RepEnv G' N ((envOf ps 0 (fun i => listed.getD i false) T).put p.o.dst p.v) (a.put p.o.dst x) := (he.mono h1).put h3
        rw [hpo] at hbase
        refine ⟨hbase.defers, hbase.size, fun s hs => ?_⟩
        have hel := envOf_list (fun i => listed.getD i false) i ps 0 T p hp (by simpa using hSi) (fun j q hq hij hsj s hd hqd => by
          simp only [Nat.zero_add] at hsj
          have := (conf j q.o (hget j q hq) (by omega) (by
            unfold slotConf
            rw [hqd, ← hpo, hd]; simp)).1 hsj
          omega) s
        simp only [Nat.zero_add] at hel
        rw [hSf, hel, hpo]
        exact hbase.at_ s hs

theorem awp_draw {C : Ctx} {N : Nat} {h : Hint} {id : Nat} {ops : Array Oper} {Q : Exit → Env → Mem → Prop} {T : Env} {M : Mem} (hmix : C.P.follows .mixedOrders = true) (L : Plan) (hin : opsInside N ops ops.toList = true) (hok : okDraw ops L = true) (hres : Reserved L ops.size M)
    (hr : drawRun C h ops L 0 ops.toList T M (fun T M => Q .normal T M)) : AWp C N (.region id ops true) Q T M := by
  intro G w a hi he
  obtain ⟨ps, h1, h2, h3⟩ := known_of_run ops.toList 0 T M _ hin hr
  refine wp_region_any hmix ?_
  have e0 : ∀ j, (Array.replicate ops.size false).getD j false = false := fun j => by simp [Array.getD]
  have e0' : (fun j => (Array.replicate ops.size false).getD j false) = fun _ => false := funext e0
  have hm0 : ∀ (a : List Told) (k : Nat) (M : Mem), memS a k (fun _ => false) M = M := by
    intro a
    induction a with
    | nil => intro k M; rfl
    | cons p a ih => intro k M; simp only [memS, Bool.false_eq_true, if_false]; exact ih _ _
  refine any_order hok h1 h2 hres (G0 := G) (w0 := w) ?_ ops.size (Array.replicate ops.size false) G _ a (by simp) (by have := List.length_filter_le (fun i => !(Array.replicate ops.size false).getD i true) (List.range ops.size); simpa using this) (fun i o _ hs => by simp only [e0] at hs; exact Bool.noConfusion hs) (.refl _) ⟨rfl, rfl, rfl, Nat.le_refl _⟩ ?_ ?_
  · intro G' w' a' q1 q2 q3 q4
    exact ⟨_, _, G', h3, q1, q3, q4, q2⟩
  · rw [e0', hm0]
    exact hi.world rfl
  · refine ⟨he.defers, he.size, fun s hs => ?_⟩
    rw [e0', envOf_untouched _ s ps 0 T (fun j p _ h => by simp at h)]
    exact he.at_ s hs

/-! ### reserving -/
theorem Inv.reserve1 {C : Ctx} {G : Ghost} {M : Mem} {w : World} (hi : Inv C G M w) : ∃ G', G.le G' ∧ Inv C G' (M ++ [blank]) w := by
  have hm := hi.more w.heap.size (fun _ => (none, 0)) 0
  have hk : (M ++ [AObj.gone])[M.length]? = some .gone := by simp
  have ht : (G.more w.heap.size (fun _ => (none, 0)) 0).top M.length = 0 := by simp [Ghost.more, hi.n]
  have hnone : ∀ i, (G.more w.heap.size (fun _ => (none, 0)) 0).st w.heap.size i = none := by
    intro i
    cases h : G.st w.heap.size i with
    | none => exact h
    | some v => have := hi.st_lt h; omega
  have hknone : (G.more w.heap.size (fun _ => (none, 0)) 0).keep w.heap.size = none := by
    cases h : G.keep w.heap.size with
    | none => exact h
    | some v => have := hi.keep_lt h; omega
  have := hm.step (w' := w) (o' := blank) M.length w.heap.size hk (.inr (Nat.le_refl _)) (.refl _) rfl (fun _ => rfl) (fun _ _ => ⟨rfl, rfl⟩) (fun _ _ _ h => .inl h) (fun _ => rfl)
    (fun b hlt _ => rfl) (fun i v h => by rw [hnone] at h; simp at h) (fun o h => by rw [hknone] at h; simp at h)
    ⟨ht, fun _ _ h => by simp at h, fun _ _ _ _ _ _ _ _ h => by simp at h⟩ (fun b ⟨_, _, _, h, _⟩ => by simp at h)
  exact ⟨_, G.le_more w.heap.size (fun _ => (none, 0)) 0, by simpa using this⟩
theorem Inv.reserve {C : Ctx} : ∀ (n : Nat) {G : Ghost} {M : Mem} {w : World}, Inv C G M w → ∃ G', G.le G' ∧ Inv C G' (M ++ List.replicate n blank) w
  | 0, G, M, w, hi => ⟨G, .refl _, by simpa using hi⟩
  | n + 1, G, M, w, hi => by
    obtain ⟨G1, h1, h2⟩ := hi.reserve1
    obtain ⟨G2, h3, h4⟩ := Inv.reserve n h2
    refine ⟨G2, h1.trans h3, ?_⟩
    rw [List.append_assoc] at h4
    exact h4
theorem awp_reserve {C : Ctx} {N : Nat} {c : Code} {Q : Exit → Env → Mem → Prop} {T : Env} {M : Mem} (n : Nat) (h : AWp C N c Q T (M ++ List.replicate n blank)) : AWp C N c Q T M := by
  intro G w a hi he
  obtain ⟨G', h1, h2⟩ := hi.reserve n
  exact wp_mono (h G' w a h2 (he.mono h1)) fun _ _ _ l => Lift.mono h1 (.refl _) l
end Go.Abs
