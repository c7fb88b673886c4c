/- A region whose order is open: every order that the edges allow gives what the order of the text gives. -/
import Derived.Test.YteillgpoonhdjaaAbsO
import Derived.Orders
set_option linter.unusedVariables false
namespace Go.Abs

/-- what an operation does, in the order of the text; cls: 0 no mutable object is looked at, 1 one may be read, 2 one may be written -/
def dOp (C : Ctx) (h : Hint) (cls : Nat) (o : Oper) (ρ : Operand → AV) (M : Mem) (K : AV → Mem → Prop) : Prop :=
  match o.op with
  | .call { callee := .value f, args, .. } => match ρ f with
    | .func (.func g) first captured => enters C.P g ∧
        if cls = 0 then ∃ r, (∀ M, ACalls C g (first ++ args.toList.map ρ ++ captured) M (fun v M' => v = r ∧ M' = M)) ∧ K r M
        else ∃ r M1, ACalls C g (first ++ args.toList.map ρ ++ captured) M (fun v M' => v = r ∧ M' = M1) ∧ (cls ≠ 2 → M1 = M) ∧ K r M1
    | _ => False
  | .call { callee := .builtin .append, args, argTypes } => match args.toList, argTypes.toList with
    | [s, x], [t, u] => ∃ e sz bytes, appendOk C.P t u sz bytes e ∧ sizeOk sz (ρ s) ∧ sizeOk sz (ρ x) ∧ (rowsLen (ρ s) + rowsLen (ρ x)) * bytes ≤ 140737488355328 ∧ cls = 2 ∧
        match appendAV (hintAt h.own o.dst) sz (ρ s) (ρ x) M with
        | some (v, M') => K v M'
        | none => False
    | _, _ => False
  | _ => if cls = 0 then onSome (evalPure C h o ρ) (fun v => K v M) else onSome (evalOp C h o ρ M) (fun x => (cls ≠ 2 → x.2 = M) ∧ K x.1 x.2)

def drawRun (C : Ctx) (h : Hint) (ops : Array Oper) (cls : Nat → Nat) : Nat → List Oper → Env → Mem → (Env → Mem → Prop) → Prop
  | _, [], T, M, K => K T M
  | k, o :: rest, T, M, K => vcGuard ops o T (dOp C h (cls k) o (T.ev C) M (fun v M' => drawRun C h ops cls (k + 1) rest (T.put o.dst v) M' K)) (drawRun C h ops cls (k + 1) rest (T.put o.dst (.val undef)) M K)

/-- what is known of one operation: from every state that agrees where it looks -/
def ObSem (C : Ctx) (N : Nat) (ops : Array Oper) (cls : Nat) (o : Oper) (v : AV) (T : Env) (M M' : Mem) : Prop :=
  (cls ≠ 2 → M' = M) ∧ ∀ T2 M2, (∀ s ∈ o.looksAt ops, T2 s = T s) → (cls ≠ 0 → M2 = M) → ∀ G w a, Inv C G M2 w → RepEnv G N T2 a → ∀ (next : Act → World → Prop) (Q : Exit → Act → World → Prop),
    (∀ G' w' x, G.le G' → Inv C G' (if cls = 2 then M' else M2) w' → Rep G' v x → Ext w w' → next (a.put o.dst x) w') →
    if Region.wanted o (yielded ops a.tmps) then o.wp C.P a w next Q ∨ (o.asks C.P a w ∧ LetsOut Q) else next (a.put o.dst undef) w

theorem ev_congr {C : Ctx} {ops : Array Oper} {T T2 : Env} {o : Oper} (h : ∀ s ∈ o.looksAt ops, T2 s = T s) : ∀ x ∈ o.op.operands.toList, T2.ev C x = T.ev C x := by
  intro x hx
  cases x with
  | tmp t =>
    simp only [Env.ev]
    refine h t ?_
    unfold Oper.looksAt
    exact List.mem_append_left _ (List.mem_filterMap.2 ⟨.tmp t, by simpa using hx, rfl⟩)
  | _ => rfl

theorem guard_congr {ops : Array Oper} {T T2 : Env} {o : Oper} (h : ∀ s ∈ o.looksAt ops, T2 s = T s) (run skip : Prop) : vcGuard ops o T2 run skip = vcGuard ops o T run skip := by
  unfold vcGuard
  split
  · rfl
  · rename_i j want hg
    split
    · rename_i d hd
      have : T2 d = T d := h d (by unfold Oper.looksAt; rw [hg]; simp only [hd]; simp)
      rw [this]
    · rfl

theorem args_congr {ρ ρ' : Operand → AV} {l : List Operand} (h : ∀ x ∈ l, ρ' x = ρ x) : l.map ρ' = l.map ρ := List.map_congr_left h

/-- pure operations look at their operands alone -/
theorem evalPure_congr {C : Ctx} {hn : Hint} {o : Oper} {ρ ρ' : Operand → AV} (h : ∀ x ∈ o.op.operands.toList, ρ' x = ρ x) : evalPure C hn o ρ' = evalPure C hn o ρ := by
  obtain ⟨dst, op, type, pos, after, guard⟩ := o
  simp only at h
  cases op <;> simp only [Op.operands] at h
  case call c =>
    obtain ⟨callee, args, ts⟩ := c
    cases callee <;> try rfl
    simp only [Call.operands] at h
    simp only [evalPure]
    rw [args_congr (l := args.toList) (fun x hx => h x (by simpa using hx))]
  case build t ps =>
    have e : (ps.toList.map fun p => (p.1, ρ' p.2)) = ps.toList.map fun p => (p.1, ρ p.2) := List.map_congr_left fun p hp => by rw [h p.2 (by simp; exact ⟨p.1, by simpa using hp⟩)]
    simp only [evalPure, e]
  case buildSlice t n ps =>
    have e : (ps.toList.map fun p => (p.1, ρ' p.2)) = ps.toList.map fun p => (p.1, ρ p.2) := List.map_congr_left fun p hp => by rw [h p.2 (by simp; exact ⟨p.1, by simpa using hp⟩)]
    simp only [evalPure, e]
  case makeFunc fn f c =>
    simp only [evalPure]
    rw [args_congr (l := f.toList) (fun x hx => h x (by simp; simp at hx; simp [hx])), args_congr (l := c.toList) (fun x hx => h x (by simp; simp at hx; simp [hx]))]
  case slice t x lo hi mx =>
    have e : ∀ (y : Option Operand), (∀ q, y = some q → ρ' q = ρ q) → y.map ρ' = y.map ρ := fun y hy => by cases y with | none => rfl | some q => simp [hy q rfl]
    simp only [evalPure]
    rw [h x (by simp), e lo (fun q hq => h q (by simp [hq])), e hi (fun q hq => h q (by simp [hq])), e mx (fun q hq => h q (by simp [hq]))]
  case unOp op t x =>
    cases op <;> first | rfl | (simp only [evalPure]; rw [h x (by simp)])
  case move x => simp only [evalPure]; rw [h x (by simp)]
  case assign x => simp only [evalPure]; rw [h x (by simp)]
  case pick c a b => simp only [evalPure]; rw [h c (by simp), h a (by simp), h b (by simp)]
  case box e x => simp only [evalPure]; rw [h x (by simp)]
  case nilCheck x => simp only [evalPure]; rw [h x (by simp)]
  case binOp op t x y u => simp only [evalPure]; rw [h x (by simp), h y (by simp)]
  case fieldAddr t x f => simp only [evalPure]; rw [h x (by simp)]
  case field t x f => simp only [evalPure]; rw [h x (by simp)]
  case indexAddr t x i => simp only [evalPure]; rw [h x (by simp), h i (by simp)]
  case index t x i => simp only [evalPure]; rw [h x (by simp), h i (by simp)]
  case load t x => simp only [evalPure]; rw [h x (by simp)]
  case extract x i => simp only [evalPure]; rw [h x (by simp)]
  all_goals rfl

theorem evalMem_congr {C : Ctx} {hn : Hint} {o : Oper} {ρ ρ' : Operand → AV} {M : Mem} (h : ∀ x ∈ o.op.operands.toList, ρ' x = ρ x) : evalMem C hn o ρ' M = evalMem C hn o ρ M := by
  obtain ⟨dst, op, type, pos, after, guard⟩ := o
  simp only at h
  cases op <;> simp only [Op.operands] at h
  case load t x => simp only [evalMem]; rw [h x (by simp)]
  case store t a x => simp only [evalMem]; rw [h a (by simp), h x (by simp)]
  case box e x => simp only [evalMem]; rw [h x (by simp)]
  all_goals rfl

theorem evalOp_congr {C : Ctx} {hn : Hint} {o : Oper} {ρ ρ' : Operand → AV} {M : Mem} (h : ∀ x ∈ o.op.operands.toList, ρ' x = ρ x) : evalOp C hn o ρ' M = evalOp C hn o ρ M := by
  simp only [evalOp, evalPure_congr h, evalMem_congr h]

/-- the run of one operation in the order of the text gives what is known of it in any order -/
theorem dOp_ob {C : Ctx} {N : Nat} {h : Hint} {ops : Array Oper} {cls : Nat} {o : Oper} (hin : Oper.inside N o = true) {T : Env} {M : Mem} {K : AV → Mem → Prop} (hd : dOp C h cls o (T.ev C) M K) :
    ∃ v M', K v M' ∧ (cls ≠ 2 → M' = M) ∧ ∀ T2 M2, (∀ s ∈ o.looksAt ops, T2 s = T s) → (cls ≠ 0 → M2 = M) → ∀ G w a, Inv C G M2 w → RepEnv G N T2 a →
      OpGives C G w o a (fun v' M3 => v' = v ∧ M3 = (if cls = 2 then M' else M2)) := by
  have plain : (if cls = 0 then onSome (evalPure C h o (T.ev C)) (fun v => K v M) else onSome (evalOp C h o (T.ev C) M) (fun x => (cls ≠ 2 → x.2 = M) ∧ K x.1 x.2)) →
      (∀ ρ M2 v M', evalOp C h o ρ M2 = some (v, M') → ∀ K' : AV → Mem → Prop, K' v M' → vcOp C h o K' ρ M2) →
      ∃ v M', K v M' ∧ (cls ≠ 2 → M' = M) ∧ ∀ T2 M2, (∀ s ∈ o.looksAt ops, T2 s = T s) → (cls ≠ 0 → M2 = M) → ∀ G w a, Inv C G M2 w → RepEnv G N T2 a →
      OpGives C G w o a (fun v' M3 => v' = v ∧ M3 = (if cls = 2 then M' else M2)) := by
    intro hp hv
    split at hp
    · rename_i hc
      cases he : evalPure C h o (T.ev C) with
      | none => rw [he] at hp; exact hp.elim
      | some v =>
        rw [he] at hp
        refine ⟨v, M, hp, fun _ => rfl, fun T2 M2 h1 h2 G w a hi hr => ?_⟩
        have he2 : evalPure C h o (T2.ev C) = some v := by rw [evalPure_congr (ev_congr h1)]; exact he
        exact vcOp_sound hi (evs_rep hi hr hin) (hv (T2.ev C) M2 v M2 (by simp [evalOp, he2]) _ ⟨rfl, by simp [hc]⟩)
    · rename_i hc
      cases he : evalOp C h o (T.ev C) M with
      | none => rw [he] at hp; exact hp.elim
      | some x =>
        obtain ⟨v, M'⟩ := x
        rw [he] at hp
        obtain ⟨hp1, hp2⟩ := hp
        refine ⟨v, M', hp2, hp1, fun T2 M2 h1 h2 G w a hi hr => ?_⟩
        have e2 := h2 hc
        subst e2
        have he2 : evalOp C h o (T2.ev C) M2 = some (v, M') := by rw [evalOp_congr (ev_congr h1)]; exact he
        refine vcOp_sound hi (evs_rep hi hr hin) (hv (T2.ev C) M2 v M' he2 _ ⟨rfl, ?_⟩)
        by_cases e : cls = 2
        · simp [e]
        · rw [if_neg e]; exact hp1 e
  obtain ⟨dst, op, type, pos, after, guard⟩ := o
  unfold dOp at hd
  simp only at hd
  split at hd
  · rename_i f args ts
    have hev := @ev_congr C ops T
    split at hd
    case h_2 => exact hd.elim
    rename_i g first captured hf
    obtain ⟨hen, hd⟩ := hd
    have same : ∀ T2 : Env, (∀ s ∈ Oper.looksAt ops ⟨dst, .call { callee := .value f, args := args, argTypes := ts }, type, pos, after, guard⟩, T2 s = T s) → T2.ev C f = .func (.func g) first captured ∧ args.toList.map (T2.ev C) = args.toList.map (T.ev C) := by
      intro T2 h1
      have h2 := ev_congr (C := C) h1
      exact ⟨by rw [h2 f (by simp [Op.operands, Call.operands])]; exact hf, args_congr fun x hx => h2 x (by simp [Op.operands, Call.operands]; simp at hx; simp [hx])⟩
    split at hd
    · rename_i hc
      obtain ⟨r, hcall, hk⟩ := hd
      refine ⟨r, M, hk, fun _ => rfl, fun T2 M2 h1 h2 G w a hi hr => ?_⟩
      obtain ⟨e1, e2⟩ := same T2 h1
      refine vcOp_sound (h := h) hi (evs_rep hi hr hin) ?_
      simp only [vcOp, e1, e2]
      refine ⟨hen, (hcall M2).mono ?_⟩
      rintro v' M3 ⟨rfl, rfl⟩
      exact ⟨rfl, by simp [hc]⟩
    · rename_i hc
      obtain ⟨r, M1, hcall, hp, hk⟩ := hd
      refine ⟨r, M1, hk, hp, fun T2 M2 h1 h2 G w a hi hr => ?_⟩
      have := h2 hc
      subst this
      obtain ⟨e1, e2⟩ := same T2 h1
      refine vcOp_sound (h := h) hi (evs_rep hi hr hin) ?_
      simp only [vcOp, e1, e2]
      refine ⟨hen, hcall.mono ?_⟩
      rintro v' M3 ⟨rfl, rfl⟩
      refine ⟨rfl, ?_⟩
      by_cases e : cls = 2
      · simp [e]
      · rw [if_neg e]; exact hp e
  · rename_i args ts
    split at hd
    case h_2 => exact hd.elim
    rename_i s x t u ha ht
    obtain ⟨e, sz, bytes, hok, hs1, hs2, hb, hc, hm⟩ := hd
    split at hm
    case h_2 => exact hm.elim
    rename_i v M' hap
    refine ⟨v, M', hm, fun e => absurd hc e, fun T2 M2 h1 h2 G w a hi hr => ?_⟩
    have := h2 (by omega)
    subst this
    have h3 := ev_congr (C := C) h1
    have es : T2.ev C s = T.ev C s := h3 s (by simp [Op.operands, Call.operands]; have : s ∈ args.toList := by rw [ha]; simp
                                               simpa using this)
    have ex : T2.ev C x = T.ev C x := h3 x (by simp [Op.operands, Call.operands]; have : x ∈ args.toList := by rw [ha]; simp
                                               simpa using this)
    refine vcOp_sound (h := h) hi (evs_rep hi hr hin) ?_
    simp only [vcOp, ha, ht, es, ex]
    exact ⟨e, sz, bytes, hok, hs1, hs2, hb, by rw [hap]; exact ⟨rfl, by simp [hc]⟩⟩
  · rename_i hne1 hne2
    refine plain hd (fun ρ M2 v M' he K' hk => ?_)
    unfold vcOp
    split
    · rename_i heq; exact absurd heq (by intro e; exact hne1 _ _ _ e)
    · rename_i heq; exact absurd heq (by intro e; exact hne2 _ _ e)
    · rw [he]; exact hk
end Go.Abs
