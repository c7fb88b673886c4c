/- The texts AbsZ5, AbsZ6, AbsZ7, AbsZ8: what each proves stands at its head. -/
import Derived.Test.YtiipcnbedgamdaaGreatDoorVG32
section
/- The quick evaluator: regions. -/
set_option linter.unusedVariables false
namespace Go.Abs

abbrev YR := AV × HT × Nat × List Nat
abbrev YCallF := FuncId → List AV → HT → Nat → Option YR
/-- the quick call answers as the other does -/
def YOK (call : CallF) (yc : YCallF) : Prop := ∀ g args h n M v h' n' ws, Hp h n M → yc g args h n = some (v, h', n', ws) → ∃ M', call g args M = some (v, M', ws) ∧ Hp h' n' M'

structure FO where
  o : Oper
  f : FOp
noncomputable def fos (C : Ctx) (l : List Oper) : List FO := List.rec (motive := fun _ => List FO) [] (fun o _ r => ⟨o, fopOf C o⟩ :: r) l
theorem fos_nil {C : Ctx} : fos C [] = [] := rfl
theorem fos_cons {C : Ctx} {o : Oper} {l : List Oper} : fos C (o :: l) = ⟨o, fopOf C o⟩ :: fos C l := rfl
noncomputable def yCallOp (yc : YCallF) (t : BT) (f : Arg) (as : List Arg) (h : HT) (n : Nat) : Option YR := match rd t f with
  | .func (.func g) first captured => yc g (first ++ as.map (rd t) ++ captured) h n
  | _ => none
noncomputable def eff (h : HT) (n : Nat) : Option FR → Option YR
  | some (v, .non, k) => some (v, h, n, k.ws)
  | some (v, .put b o, k) => some (v, h.put b o, n, k.ws)
  | some (v, .push o, k) => some (v, h.put n o, n + 1, k.ws)
  | none => none
noncomputable def effA (h : HT) (n : Nat) (ws : List Nat) : Option (AV × Ef) → Option YR
  | some (v, .non) => some (v, h, n, ws)
  | some (v, .put b o) => some (v, h.put b o, n, ws)
  | some (v, .push o) => some (v, h.put n o, n + 1, ws)
  | none => none
noncomputable def yOp (yc : YCallF) (C : Ctx) (fo : FO) (t : BT) (h : HT) (n : Nat) : Option YR := match fo.f with
  | .call f as => yCallOp yc t f as h n
  | .app ty u s x => effA h n (appWrites (rd t s)) (appendG C.P ty u (rd t s) (rd t x) h.get n)
  | f => eff h n (runOp C fo.o f t h.get n)

theorem eff_some {h : HT} {n : Nat} {r : Option FR} {v : AV} {h' : HT} {n' : Nat} {ws : List Nat} (hr : eff h n r = some (v, h', n', ws)) : ∃ e k, r = some (v, e, k) ∧ h' = e.ht h n ∧ n' = e.n n ∧ ws = k.ws := by
  unfold eff at hr
  split at hr
  · simp only [Option.some.injEq, Prod.mk.injEq] at hr
    obtain ⟨rfl, rfl, rfl, rfl⟩ := hr
    exact ⟨_, _, rfl, rfl, rfl, rfl⟩
  · simp only [Option.some.injEq, Prod.mk.injEq] at hr
    obtain ⟨rfl, rfl, rfl, rfl⟩ := hr
    exact ⟨_, _, rfl, rfl, rfl, rfl⟩
  · simp only [Option.some.injEq, Prod.mk.injEq] at hr
    obtain ⟨rfl, rfl, rfl, rfl⟩ := hr
    exact ⟨_, _, rfl, rfl, rfl, rfl⟩
  · simp at hr
theorem effA_some {h : HT} {n : Nat} {ws0 : List Nat} {r : Option (AV × Ef)} {v : AV} {h' : HT} {n' : Nat} {ws : List Nat} (hr : effA h n ws0 r = some (v, h', n', ws)) : ∃ e, r = some (v, e) ∧ h' = e.ht h n ∧ n' = e.n n ∧ ws = ws0 := by
  unfold effA at hr
  split at hr
  · simp only [Option.some.injEq, Prod.mk.injEq] at hr
    obtain ⟨rfl, rfl, rfl, rfl⟩ := hr
    exact ⟨_, rfl, rfl, rfl, rfl⟩
  · simp only [Option.some.injEq, Prod.mk.injEq] at hr
    obtain ⟨rfl, rfl, rfl, rfl⟩ := hr
    exact ⟨_, rfl, rfl, rfl, rfl⟩
  · simp only [Option.some.injEq, Prod.mk.injEq] at hr
    obtain ⟨rfl, rfl, rfl, rfl⟩ := hr
    exact ⟨_, rfl, rfl, rfl, rfl⟩
  · simp at hr

/-- neither a call nor append -/
def plainOp (o : Oper) : Prop := (∀ f args ts, o.op ≠ .call { callee := .value f, args := args, argTypes := ts }) ∧ (∀ args ts, o.op ≠ .call { callee := .builtin .append, args := args, argTypes := ts })
def isCA : FOp → Bool
  | .call _ _ => true
  | .app _ _ _ _ => true
  | _ => false
theorem fopOf_isCA {C : Ctx} {o : Oper} (hp : plainOp o) : isCA (fopOf C o) = false := by
  unfold fopOf
  split <;> try rfl
  · split
    · split <;> rfl
    · rfl
  · rename_i heq; exact absurd heq (hp.1 _ _ _)
  · rename_i heq; exact absurd heq (hp.2 _ _)
  · split
    · split <;> rfl
    · rfl
theorem fopOf_plain {C : Ctx} {o : Oper} (hp : plainOp o) : (∀ f as, fopOf C o ≠ .call f as) ∧ (∀ t u s x, fopOf C o ≠ .app t u s x) := by
  have h := fopOf_isCA (C := C) hp
  exact ⟨fun f as e => by rw [e] at h; simp [isCA] at h, fun t u s x e => by rw [e] at h; simp [isCA] at h⟩
theorem fopOf_cases {C : Ctx} (o : Oper) : (∃ f args ts, o.op = .call { callee := .value f, args := args, argTypes := ts } ∧ fopOf C o = .call (argOf C f) (args.toList.map (argOf C))) ∨
    (∃ args ts, o.op = .call { callee := .builtin .append, args := args, argTypes := ts } ∧ ((∃ s x t u d, args.toList = [s, x] ∧ ts.toList = [t, u] ∧ o.dst = some d ∧ fopOf C o = .app t u (argOf C s) (argOf C x)) ∨ fopOf C o = .gen)) ∨
    (plainOp o ∧ (∀ f as, fopOf C o ≠ .call f as) ∧ ∀ t u s x, fopOf C o ≠ .app t u s x) := by
  by_cases h1 : ∃ f args ts, o.op = .call { callee := .value f, args := args, argTypes := ts }
  · obtain ⟨f, args, ts, hop⟩ := h1
    refine .inl ⟨f, args, ts, hop, ?_⟩
    obtain ⟨d, op, ty, p, af, g⟩ := o
    simp only at hop
    subst hop
    rfl
  by_cases h2 : ∃ args ts, o.op = .call { callee := .builtin .append, args := args, argTypes := ts }
  · obtain ⟨args, ts, hop⟩ := h2
    refine .inr (.inl ⟨args, ts, hop, ?_⟩)
    obtain ⟨d, op, ty, p, af, g⟩ := o
    simp only at hop
    subst hop
    simp only [fopOf]
    split
    · rename_i s x t u ha ht
      cases d with
      | none => right; rfl
      | some d => left; exact ⟨s, x, t, u, d, ha, ht, rfl, rfl⟩
    · right; rfl
  · have hp : plainOp o := ⟨fun f args ts h => h1 ⟨f, args, ts, h⟩, fun args ts h => h2 ⟨args, ts, h⟩⟩
    exact .inr (.inr ⟨hp, fopOf_plain hp⟩)

theorem xOp_plain {call : CallF} {C : Ctx} {o : Oper} {ρ : Operand → AV} {M : Mem} {v : AV} {e : Ef} {k : FK} (hp : plainOp o) (h : RunOK C o ρ M v e k) : xOp call C o ρ M = some (v, e.mem M, k.ws) := by
  have xo : xOp call C o ρ M = (match evalPure C HX o ρ with
    | some v => some (v, M, [])
    | none => match evalOp C HX o ρ M with
      | some (v, M') => some (v, M', writesOf o ρ)
      | none => none) := by
    unfold xOp
    split
    · rename_i heq; exact absurd heq (hp.1 _ _ _)
    · rename_i heq; exact absurd heq (hp.2 _ _)
    · rfl
  rw [xo]
  have hk := h.kind
  cases k with
  | pure =>
    obtain ⟨h1, rfl⟩ := hk
    rcases Option.or_eq_some_iff.1 h1 with h2 | ⟨h2, h3⟩
    · simp only [h2, Ef.mem, FK.ws]
    · simp only [h2, h.eval, Ef.mem, FK.ws]
      have : writesOf o ρ = [] := by
        obtain ⟨d, op, t, p, af, g⟩ := o
        cases op <;> first | rfl | (simp [evalPure1] at h3; done)
      rw [this]
  | read r =>
    obtain ⟨h1, h2, h3, rfl, h4⟩ := hk
    simp only [Option.or_eq_none_iff] at h1
    simp only [h1.1, h.eval, Ef.mem, FK.ws, h4]
  | write ws =>
    obtain ⟨h1, h2, rfl⟩ := hk
    simp only [Option.or_eq_none_iff] at h1
    simp only [h1.1, h.eval, FK.ws]

theorem yOp_ok {call : CallF} {yc : YCallF} {C : Ctx} (hc : YOK call yc) {o : Oper} {t : BT} {h h' : HT} {n n' : Nat} {M : Mem} {v : AV} {ws : List Nat} (hp : Hp h n M) (hy : yOp yc C ⟨o, fopOf C o⟩ t h n = some (v, h', n', ws)) :
    ∃ M', xOp call C o (t.fn.ev C) M = some (v, M', ws) ∧ Hp h' n' M' := by
  have hfn := hp.fn
  have hn := hp.len
  have viaRun : plainOp o → eff h n (runOp C o (fopOf C o) t h.get n) = some (v, h', n', ws) → ∃ M', xOp call C o (t.fn.ev C) M = some (v, M', ws) ∧ Hp h' n' M' := by
    intro hpl he
    obtain ⟨e, k, hr, rfl, rfl, rfl⟩ := eff_some he
    rw [hfn, ← hn] at hr
    have hro := runOp_ok hr
    exact ⟨_, xOp_plain hpl hro, hp.ef (hn ▸ hro.ok)⟩
  rcases fopOf_cases (C := C) o with ⟨f, args, ts, hop, hf⟩ | ⟨args, ts, hop, hf⟩ | ⟨hpl, hne1, hne2⟩
  · simp only [yOp, hf] at hy
    unfold yCallOp at hy
    rw [rd_ev] at hy
    split at hy
    case h_2 => simp at hy
    rename_i g first captured hfv
    have hmap : (args.toList.map (argOf C)).map (rd t) = args.toList.map (t.fn.ev C) := by
      rw [List.map_map]
      exact List.map_congr_left fun x _ => rd_ev x
    rw [hmap] at hy
    obtain ⟨M', q1, q2⟩ := hc _ _ _ _ _ _ _ _ _ hp hy
    refine ⟨M', ?_, q2⟩
    unfold xOp
    simp only [hop, hfv]
    exact q1
  · rcases hf with ⟨s, x, ty, u, d, ha, ht, hd, hf⟩ | hf
    · simp only [yOp, hf] at hy
      obtain ⟨e, hr, rfl, rfl, rfl⟩ := effA_some hy
      rw [hfn, ← hn, rd_ev, rd_ev] at hr
      obtain ⟨k1, k2⟩ := append_G hr
      refine ⟨e.mem M, ?_, hp.ef (hn ▸ k2)⟩
      unfold xOp
      simp only [hop, ha, ht, hd, k1, rd_ev]
    · exfalso
      simp only [yOp, hf] at hy
      obtain ⟨e, k, hr, _⟩ := eff_some hy
      simp only [runOp] at hr
      obtain ⟨d, op, ty, p, af, g⟩ := o
      simp only at hop
      subst hop
      simp [genRun, evalPure, callPure, evalPure1, readObj, evalG, builtinG] at hr
  · have e : yOp yc C ⟨o, fopOf C o⟩ t h n = eff h n (runOp C o (fopOf C o) t h.get n) := by
      unfold yOp
      simp only
    rw [e] at hy
    exact viaRun hpl hy

/-! ### regions -/
noncomputable def yGuard (ops : Array Oper) (o : Oper) (t : BT) : Option Bool := match o.guard with
  | none => some true
  | some (j, want) => match (ops[j]?).bind (·.dst) with
    | some d => match t.getR d with
      | .val (.bool b) => some (b == want)
      | .val (.tuple _) => some false
      | _ => none
    | none => none
theorem yGuard_eq (ops : Array Oper) (o : Oper) (t : BT) : yGuard ops o t = xGuard ops o t := by
  unfold yGuard xGuard
  simp only [BT.getR_eq]
  rfl
noncomputable def yOps (yc : YCallF) (C : Ctx) (base : Nat) (ops : Array Oper) (l : List FO) : BT → HT → Nat → List Nat → Option (BT × HT × Nat × List Nat) :=
  List.rec (motive := fun _ => BT → HT → Nat → List Nat → Option (BT × HT × Nat × List Nat)) (fun t h n ws => some (t, h, n, ws))
    (fun fo _ ih t h n ws => match yGuard ops fo.o t with
      | some true => match yOp yc C fo t h n with
        | some (v, h', n', l) => match t.setR fo.o.dst v with
          | some t' => ih t' h' n' (wsAdd base l ws)
          | none => none
        | none => none
      | some false => match t.setR fo.o.dst (.val undef) with
        | some t' => ih t' h n ws
        | none => none
      | none => none) l
theorem yOps_nil {yc : YCallF} {C : Ctx} {base : Nat} {ops : Array Oper} {t : BT} {h : HT} {n : Nat} {ws : List Nat} : yOps yc C base ops [] t h n ws = some (t, h, n, ws) := rfl
theorem yOps_cons {yc : YCallF} {C : Ctx} {base : Nat} {ops : Array Oper} {fo : FO} {rest : List FO} {t : BT} {h : HT} {n : Nat} {ws : List Nat} : yOps yc C base ops (fo :: rest) t h n ws = match xGuard ops fo.o t with
    | some true => match yOp yc C fo t h n with
      | some (v, h', n', l) => match t.set fo.o.dst v with
        | some t' => yOps yc C base ops rest t' h' n' (wsAdd base l ws)
        | none => none
      | none => none
    | some false => match t.set fo.o.dst (.val undef) with
      | some t' => yOps yc C base ops rest t' h n ws
      | none => none
    | none => none := by
  rw [← yGuard_eq]
  simp only [← BT.setR_eq]
  rfl
theorem yOps_ok {call : CallF} {yc : YCallF} {C : Ctx} (hc : YOK call yc) {base : Nat} {ops : Array Oper} : ∀ (l : List Oper) (t : BT) (h : HT) (n : Nat) (M : Mem) (ws : List Nat) (t' : BT) (h' : HT) (n' : Nat) (ws' : List Nat), Hp h n M → yOps yc C base ops (fos C l) t h n ws = some (t', h', n', ws') →
    ∃ M', xOps call C base ops l t M ws = some (t', M', ws') ∧ Hp h' n' M'
  | [], t, h, n, M, ws, t', h', n', ws', hp, hy => by
    rw [fos_nil, yOps_nil] at hy
    simp only [Option.some.injEq, Prod.mk.injEq] at hy
    obtain ⟨rfl, rfl, rfl, rfl⟩ := hy
    exact ⟨M, rfl, hp⟩
  | o :: rest, t, h, n, M, ws, t', h', n', ws', hp, hy => by
    rw [fos_cons, yOps_cons] at hy
    simp only at hy
    simp only [xOps]
    split at hy
    · rename_i hgd
      split at hy
      case h_2 => simp at hy
      rename_i v h1 n1 l ho
      split at hy
      case h_2 => simp at hy
      rename_i t1 ht
      obtain ⟨M1, q1, q2⟩ := yOp_ok hc hp ho
      obtain ⟨M2, q3, q4⟩ := yOps_ok hc rest t1 h1 n1 M1 (wsAdd base l ws) t' h' n' ws' q2 hy
      exact ⟨M2, by simp only [hgd, q1, ht, q3], q4⟩
    · rename_i hgd
      split at hy
      case h_2 => simp at hy
      rename_i t1 ht
      obtain ⟨M2, q3, q4⟩ := yOps_ok hc rest t1 h n M ws t' h' n' ws' hp hy
      exact ⟨M2, by simp only [hgd, ht, q3], q4⟩
    · simp at hy

/-- an operation of a region whose order is open -/
noncomputable def effD (h : HT) (n : Nat) : Option FR → Option (Foot × AV × HT × Nat)
  | some (v, .non, k) => some (k.foot n, v, h, n)
  | some (v, .put b o, k) => some (k.foot n, v, h.put b o, n)
  | some (v, .push o, k) => some (k.foot n, v, h.put n o, n + 1)
  | none => none
def slotOf (P : Program) (o : Oper) : Option AObj := match o.op with
  | .alloc e => slotObj P e
  | _ => none
noncomputable def yDrawOp (yc : YCallF) (C : Ctx) (fo : FO) (t : BT) (h : HT) (n slot : Nat) : Option (Foot × AV × HT × Nat) := match isAlloc fo.o with
  | true => match slotOf C.P fo.o, h.get slot with
    | some X, some (.vec 0 1 [] 0 []) => some (⟨4, 0, slot, [slot], n⟩, .vptr slot 1 0, h.put slot X, n)
    | _, _ => none
  | false => match fo.f with
    | .call f as => match yCallOp yc t f as h n with
      | some (v, h', n', l) => some (⟨2, 0, 0, l, n⟩, v, h', n')
      | none => none
    | .app ty u s x => match effA h n (appWrites (rd t s)) (appendG C.P ty u (rd t s) (rd t x) h.get n) with
      | some (v, h', n', l) => some (⟨2, 0, 0, l, n⟩, v, h', n')
      | none => none
    | f => effD h n (runOp C fo.o f t h.get n)
theorem effD_some {h : HT} {n : Nat} {r : Option FR} {v : AV} {h' : HT} {n' : Nat} {f : Foot} (hr : effD h n r = some (f, v, h', n')) : ∃ e k, r = some (v, e, k) ∧ h' = e.ht h n ∧ n' = e.n n ∧ f = k.foot n := by
  unfold effD at hr
  split at hr
  · simp only [Option.some.injEq, Prod.mk.injEq] at hr
    obtain ⟨rfl, rfl, rfl, rfl⟩ := hr
    exact ⟨_, _, rfl, rfl, rfl, rfl⟩
  · simp only [Option.some.injEq, Prod.mk.injEq] at hr
    obtain ⟨rfl, rfl, rfl, rfl⟩ := hr
    exact ⟨_, _, rfl, rfl, rfl, rfl⟩
  · simp only [Option.some.injEq, Prod.mk.injEq] at hr
    obtain ⟨rfl, rfl, rfl, rfl⟩ := hr
    exact ⟨_, _, rfl, rfl, rfl, rfl⟩
  · simp at hr
theorem xDrawOp_plain {call : CallF} {C : Ctx} {o : Oper} {ρ : Operand → AV} {M : Mem} {v : AV} {e : Ef} {k : FK} {slot : Nat} (hp : plainOp o) (ha : isAlloc o = false) (h : RunOK C o ρ M v e k) : xDrawOp call C o ρ M slot = some (k.foot M.length, v, e.mem M) := by
  have xo : xDrawOp call C o ρ M slot = (match (evalPure C HX o ρ).or (evalPure1 C o ρ) with
    | some v => some (⟨0, 0, 0, [], 0⟩, v, M)
    | none => match readObj o ρ with
      | some r => match readAV C o ρ M with
        | some v => some (⟨1, r, 0, [], 0⟩, v, M)
        | none => none
      | none => match evalOp C HX o ρ M with
        | some (v, M') => some (⟨2, 0, 0, writesOf o ρ, M.length⟩, v, M')
        | none => none) := by
    unfold xDrawOp
    split
    · rename_i heq; exact absurd heq (hp.1 _ _ _)
    · rename_i heq; exact absurd heq (hp.2 _ _)
    · rename_i heq; unfold isAlloc at ha; rw [heq] at ha; simp at ha
    · rfl
  rw [xo]
  have hk := h.kind
  cases k with
  | pure => obtain ⟨h1, rfl⟩ := hk; simp only [h1, Ef.mem, FK.foot]
  | read r => obtain ⟨h1, h2, h3, rfl, _⟩ := hk; simp only [h1, h2, h3, Ef.mem, FK.foot]
  | write ws => obtain ⟨h1, h2, rfl⟩ := hk; simp only [h1, h2, h.eval, FK.foot]
theorem yDrawOp_ok {call : CallF} {yc : YCallF} {C : Ctx} (hc : YOK call yc) {o : Oper} {t : BT} {h h' : HT} {n n' slot : Nat} {M : Mem} {v : AV} {f : Foot} (hp : Hp h n M) (hy : yDrawOp yc C ⟨o, fopOf C o⟩ t h n slot = some (f, v, h', n')) :
    ∃ M', xDrawOp call C o (t.fn.ev C) M slot = some (f, v, M') ∧ Hp h' n' M' := by
  have hfn := hp.fn
  have hn := hp.len
  unfold yDrawOp at hy
  simp only at hy
  split at hy
  · rename_i hal
    split at hy
    case h_2 => simp at hy
    rename_i X hX hM
    simp only [Option.some.injEq, Prod.mk.injEq] at hy
    obtain ⟨rfl, rfl, rfl, rfl⟩ := hy
    rw [hp.at_] at hM
    obtain ⟨d, op, ty, p, af, g⟩ := o
    cases op <;> first | (simp [isAlloc] at hal; done) | skip
    simp only [slotOf] at hX
    refine ⟨M.set slot X, ?_, hp.put (hn ▸ getElem?_lt hM)⟩
    simp only [xDrawOp, hX, hM, hn]
  · rename_i hal
    rcases fopOf_cases (C := C) o with ⟨fo, args, ts, hop, hf⟩ | ⟨args, ts, hop, hf⟩ | ⟨hpl, hne1, hne2⟩
    · simp only [hf] at hy
      unfold yCallOp at hy
      rw [rd_ev] at hy
      split at hy
      case h_2 => simp at hy
      rename_i v1 h1 n1 l hyc
      simp only [Option.some.injEq, Prod.mk.injEq] at hy
      obtain ⟨rfl, rfl, rfl, rfl⟩ := hy
      split at hyc
      case h_2 => simp at hyc
      rename_i g first captured hfv
      have hmap : (args.toList.map (argOf C)).map (rd t) = args.toList.map (t.fn.ev C) := by
        rw [List.map_map]
        exact List.map_congr_left fun x _ => rd_ev x
      rw [hmap] at hyc
      obtain ⟨M', q1, q2⟩ := hc _ _ _ _ _ _ _ _ _ hp hyc
      refine ⟨M', ?_, q2⟩
      unfold xDrawOp
      simp only [hop, hfv, q1, hn]
    · rcases hf with ⟨s, x, ty, u, d, ha, ht, hd, hf⟩ | hf
      · simp only [hf] at hy
        split at hy
        case h_2 => simp at hy
        rename_i v1 h1 n1 l hr0
        simp only [Option.some.injEq, Prod.mk.injEq] at hy
        obtain ⟨rfl, rfl, rfl, rfl⟩ := hy
        obtain ⟨e, hr, rfl, rfl, rfl⟩ := effA_some hr0
        rw [hfn, ← hn, rd_ev, rd_ev] at hr
        obtain ⟨k1, k2⟩ := append_G hr
        refine ⟨e.mem M, ?_, hp.ef (hn ▸ k2)⟩
        unfold xDrawOp
        simp only [hop, ha, ht, hd, k1, rd_ev, hn]
      · exfalso
        simp only [hf] at hy
        obtain ⟨e, k, hr, _⟩ := effD_some hy
        simp only [runOp] at hr
        obtain ⟨d, op, ty, p, af, g⟩ := o
        simp only at hop
        subst hop
        simp [genRun, evalPure, callPure, evalPure1, readObj, evalG, builtinG] at hr
    · have e : effD h n (runOp C o (fopOf C o) t h.get n) = some (f, v, h', n') := by
        split at hy
        · rename_i heq; exact absurd heq (hne1 _ _)
        · rename_i heq; exact absurd heq (hne2 _ _ _ _)
        · exact hy
      obtain ⟨ef, k, hr, rfl, rfl, rfl⟩ := effD_some e
      rw [hfn, ← hn] at hr
      have hro := runOp_ok hr
      exact ⟨_, by rw [xDrawOp_plain hpl hal hro, hn], hp.ef (hn ▸ hro.ok)⟩

noncomputable def yDraw (yc : YCallF) (C : Ctx) (ops : Array Oper) (l : List FO) : BT → HT → Nat → Nat → Option (BT × HT × Nat × List Foot) :=
  List.rec (motive := fun _ => BT → HT → Nat → Nat → Option (BT × HT × Nat × List Foot)) (fun t h n _ => some (t, h, n, []))
    (fun fo _ ih t h n slot => match yGuard ops fo.o t with
      | some true => match yDrawOp yc C fo t h n slot with
        | some (f, v, h', n') => match t.setR fo.o.dst v with
          | some t' => match ih t' h' n' (nextSlot f slot) with
            | some (t2, h2, n2, fs) => some (t2, h2, n2, f :: fs)
            | none => none
          | none => none
        | none => none
      | some false => match t.setR fo.o.dst (.val undef) with
        | some t' => match ih t' h n slot with
          | some (t2, h2, n2, fs) => some (t2, h2, n2, F0 :: fs)
          | none => none
        | none => none
      | none => none) l
theorem yDraw_nil {yc : YCallF} {C : Ctx} {ops : Array Oper} {t : BT} {h : HT} {n slot : Nat} : yDraw yc C ops [] t h n slot = some (t, h, n, []) := rfl
theorem yDraw_cons {yc : YCallF} {C : Ctx} {ops : Array Oper} {fo : FO} {rest : List FO} {t : BT} {h : HT} {n slot : Nat} : yDraw yc C ops (fo :: rest) t h n slot = match xGuard ops fo.o t with
    | some true => match yDrawOp yc C fo t h n slot with
      | some (f, v, h', n') => match t.set fo.o.dst v with
        | some t' => match yDraw yc C ops rest t' h' n' (nextSlot f slot) with
          | some (t2, h2, n2, fs) => some (t2, h2, n2, f :: fs)
          | none => none
        | none => none
      | none => none
    | some false => match t.set fo.o.dst (.val undef) with
      | some t' => match yDraw yc C ops rest t' h n slot with
        | some (t2, h2, n2, fs) => some (t2, h2, n2, F0 :: fs)
        | none => none
      | none => none
    | none => none := by
  rw [← yGuard_eq]
  simp only [← BT.setR_eq]
  rfl
theorem yDraw_ok {call : CallF} {yc : YCallF} {C : Ctx} (hc : YOK call yc) {ops : Array Oper} : ∀ (l : List Oper) (t : BT) (h : HT) (n slot : Nat) (M : Mem) (t' : BT) (h' : HT) (n' : Nat) (fs : List Foot), Hp h n M → yDraw yc C ops (fos C l) t h n slot = some (t', h', n', fs) →
    ∃ M', xDraw call C ops l t M slot = some (t', M', fs) ∧ Hp h' n' M'
  | [], t, h, n, slot, M, t', h', n', fs, hp, hy => by
    rw [fos_nil, yDraw_nil] at hy
    simp only [Option.some.injEq, Prod.mk.injEq] at hy
    obtain ⟨rfl, rfl, rfl, rfl⟩ := hy
    exact ⟨M, rfl, hp⟩
  | o :: rest, t, h, n, slot, M, t', h', n', fs, hp, hy => by
    rw [fos_cons, yDraw_cons] at hy
    simp only at hy
    simp only [xDraw]
    split at hy
    · rename_i hgd
      split at hy
      case h_2 => simp at hy
      rename_i f v h1 n1 ho
      split at hy
      case h_2 => simp at hy
      rename_i t1 ht
      split at hy
      case h_2 => simp at hy
      rename_i t2 h2 n2 fs2 hr
      simp only [Option.some.injEq, Prod.mk.injEq] at hy
      obtain ⟨rfl, rfl, rfl, rfl⟩ := hy
      obtain ⟨M1, q1, q2⟩ := yDrawOp_ok hc hp ho
      obtain ⟨M2, q3, q4⟩ := yDraw_ok hc rest t1 h1 n1 _ M1 _ _ _ _ q2 hr
      exact ⟨M2, by simp only [hgd, q1, ht, q3], q4⟩
    · rename_i hgd
      split at hy
      case h_2 => simp at hy
      rename_i t1 ht
      split at hy
      case h_2 => simp at hy
      rename_i t2 h2 n2 fs2 hr
      simp only [Option.some.injEq, Prod.mk.injEq] at hy
      obtain ⟨rfl, rfl, rfl, rfl⟩ := hy
      obtain ⟨M2, q3, q4⟩ := yDraw_ok hc rest t1 h n _ M _ _ _ _ hp hr
      exact ⟨M2, by simp only [hgd, ht, q3], q4⟩
    · simp at hy
end Go.Abs
end
section
/- The quick evaluator: code and calls. -/
set_option linter.unusedVariables false
namespace Go.Abs

abbrev YC := Exit × BT × HT × Nat × List Nat
noncomputable def yLoop (f : BT → HT → Nat → List Nat → Option YC) : Nat → BT → HT → Nat → List Nat → Option YC
  | 0, _, _, _, _ => none
  | k + 1, t, h, n, ws => match f t h n ws with
    | some (.normal, t, h, n, ws) => yLoop f k t h n ws
    | r => r
noncomputable def slotsH : Nat → HT → Nat → HT
  | 0, h, _ => h
  | k + 1, h, n => slotsH k (h.put n blank) (n + 1)
noncomputable def yCode (yc : YCallF) (C : Ctx) (fuel base : Nat) (c : Code) : BT → HT → Nat → List Nat → Option YC :=
  Code.rec (motive := fun _ => BT → HT → Nat → List Nat → Option YC)
    (fun t h n ws => some (.normal, t, h, n, ws))
    (fun _ ops draw t h n ws => match draw with
      | true => match yDraw yc C ops (fos C ops.toList) t (slotsH (allocsOf ops.toList) h n) (n + allocsOf ops.toList) n with
        | some (t', h', n', fs) => match okF ops fs with
          | true => some (.normal, t', h', n', wsFeet base fs ws)
          | false => none
        | none => none
      | false => match yOps yc C base ops (fos C ops.toList) t h n ws with
        | some s => some (.normal, s)
        | none => none)
    (fun _ _ x y t h n ws => match x t h n ws with
      | some (.normal, t, h, n, ws) => y t h n ws
      | r => r)
    (fun c _ _ x y t h n ws => match rd t (argOf C c) with
      | .val (.bool true) => x t h n ws
      | .val (.bool false) => y t h n ws
      | _ => none)
    (fun id _ c t h n ws => match c t h n ws with
      | some (.exit i, s) => match Nat.beq i id with
        | true => some (.normal, s)
        | false => some (.exit i, s)
      | r => r)
    (fun _ c t h n ws => yLoop c fuel t h n ws)
    (fun _ _ _ _ _ _ _ _ _ _ => none)
    (fun id t h n ws => some (.exit id, t, h, n, ws))
    (fun _ _ _ _ _ _ => none)
    (fun _ t h n ws => some (.normal, t, h, n, ws))
    (fun _ _ _ _ _ => none)
    (fun t h n ws => some (.ret, t, h, n, ws))
    (fun _ _ _ _ _ => none) c
section
variable {yc : YCallF} {C : Ctx} {fuel base : Nat} {t : BT} {h : HT} {n : Nat} {ws : List Nat}
theorem yCode_skip : yCode yc C fuel base .skip t h n ws = some (.normal, t, h, n, ws) := rfl
theorem yCode_label {l : Nat} : yCode yc C fuel base (.label l) t h n ws = some (.normal, t, h, n, ws) := rfl
theorem yCode_ret : yCode yc C fuel base .ret t h n ws = some (.ret, t, h, n, ws) := rfl
theorem yCode_exit {id : Nat} : yCode yc C fuel base (.exit id) t h n ws = some (.exit id, t, h, n, ws) := rfl
theorem yCode_region {id : Nat} {ops : Array Oper} {draw : Bool} : yCode yc C fuel base (.region id ops draw) t h n ws = match draw with
    | true => match yDraw yc C ops (fos C ops.toList) t (slotsH (allocsOf ops.toList) h n) (n + allocsOf ops.toList) n with
      | some (t', h', n', fs) => match okF ops fs with
        | true => some (.normal, t', h', n', wsFeet base fs ws)
        | false => none
      | none => none
    | false => match yOps yc C base ops (fos C ops.toList) t h n ws with
      | some s => some (.normal, s)
      | none => none := rfl
theorem yCode_seq {x y : Code} : yCode yc C fuel base (.seq x y) t h n ws = match yCode yc C fuel base x t h n ws with
    | some (.normal, t, h, n, ws) => yCode yc C fuel base y t h n ws
    | r => r := rfl
theorem yCode_cond {c : Operand} {x y : Code} : yCode yc C fuel base (.cond c x y) t h n ws = match rd t (argOf C c) with
    | .val (.bool true) => yCode yc C fuel base x t h n ws
    | .val (.bool false) => yCode yc C fuel base y t h n ws
    | _ => none := rfl
theorem yCode_block {id : Nat} {c : Code} : yCode yc C fuel base (.block id c) t h n ws = match yCode yc C fuel base c t h n ws with
    | some (.exit i, s) => match Nat.beq i id with
      | true => some (.normal, s)
      | false => some (.exit i, s)
    | r => r := rfl
theorem yCode_loop {c : Code} : yCode yc C fuel base (.loop c) t h n ws = yLoop (yCode yc C fuel base c) fuel t h n ws := rfl
theorem yCode_rangeFunc {f : Operand} {p : Array Tmp} {a b : Code} : yCode yc C fuel base (.rangeFunc f p a b) t h n ws = none := rfl
theorem yCode_scope {c : Code} : yCode yc C fuel base (.scope c) t h n ws = none := rfl
theorem yCode_goto {l : Nat} : yCode yc C fuel base (.goto l) t h n ws = none := rfl
theorem yCode_refuse {s : String} : yCode yc C fuel base (.refuse s) t h n ws = none := rfl
end
theorem slotsH_ok : ∀ (k : Nat) (h : HT) (n : Nat) (M : Mem), Hp h n M → Hp (slotsH k h n) (n + k) (withSlots k M)
  | 0, h, n, M, hp => hp
  | k + 1, h, n, M, hp => by
    have ih := slotsH_ok k (h.put n blank) (n + 1) (M ++ [blank]) hp.push
    rw [withSlots_eq] at ih ⊢
    rw [show n + (k + 1) = n + 1 + k from by omega]
    simp only [slotsH]
    rw [List.replicate_succ, ← List.append_cons] at *
    exact ih

theorem yLoop_ok {f : BT → HT → Nat → List Nat → Option YC} {fx : BT → Mem → List Nat → Option XC} (hf : ∀ t h n M ws e t' h' n' ws', Hp h n M → f t h n ws = some (e, t', h', n', ws') → ∃ M', fx t M ws = some (e, t', M', ws') ∧ Hp h' n' M') :
    ∀ (k : Nat) (t : BT) (h : HT) (n : Nat) (M : Mem) (ws : List Nat) (e : Exit) (t' : BT) (h' : HT) (n' : Nat) (ws' : List Nat), Hp h n M → yLoop f k t h n ws = some (e, t', h', n', ws') → ∃ M', xLoop fx k t M ws = some (e, t', M', ws') ∧ Hp h' n' M'
  | 0, t, h, n, M, ws, e, t', h', n', ws', hp, hy => by simp [yLoop] at hy
  | k + 1, t, h, n, M, ws, e, t', h', n', ws', hp, hy => by
    simp only [yLoop] at hy
    simp only [xLoop]
    split at hy
    · rename_i t1 h1 n1 ws1 hr
      obtain ⟨M1, q1, q2⟩ := hf _ _ _ _ _ _ _ _ _ _ hp hr
      obtain ⟨M2, q3, q4⟩ := yLoop_ok hf k t1 h1 n1 M1 ws1 e t' h' n' ws' q2 hy
      exact ⟨M2, by simp only [q1, q3], q4⟩
    · rename_i hne
      obtain ⟨M1, q1, q2⟩ := hf _ _ _ _ _ _ _ _ _ _ hp hy
      refine ⟨M1, ?_, q2⟩
      rw [q1]
      cases e with
      | normal => exact absurd hy (hne _ _ _ _)
      | _ => rfl

theorem yCode_ok {call : CallF} {yc : YCallF} {C : Ctx} (hc : YOK call yc) {fuel base : Nat} : ∀ (c : Code) (t : BT) (h : HT) (n : Nat) (M : Mem) (ws : List Nat) (e : Exit) (t' : BT) (h' : HT) (n' : Nat) (ws' : List Nat), Hp h n M → yCode yc C fuel base c t h n ws = some (e, t', h', n', ws') →
    ∃ M', xCode call C fuel base c t M ws = some (e, t', M', ws') ∧ Hp h' n' M'
  | .skip, t, h, n, M, ws, e, t', h', n', ws', hp, hy => by
    rw [yCode_skip] at hy
    simp only [Option.some.injEq, Prod.mk.injEq] at hy
    obtain ⟨rfl, rfl, rfl, rfl, rfl⟩ := hy
    exact ⟨M, by simp only [xCode], hp⟩
  | .label l, t, h, n, M, ws, e, t', h', n', ws', hp, hy => by
    rw [yCode_label] at hy
    simp only [Option.some.injEq, Prod.mk.injEq] at hy
    obtain ⟨rfl, rfl, rfl, rfl, rfl⟩ := hy
    exact ⟨M, by simp only [xCode], hp⟩
  | .region id ops draw, t, h, n, M, ws, e, t', h', n', ws', hp, hy => by
    rw [yCode_region] at hy
    simp only [xCode]
    cases draw with
    | true =>
      simp only at hy ⊢
      split at hy
      case h_2 => simp at hy
      rename_i t1 h1 n1 fs hd
      split at hy
      case h_2 => simp at hy
      rename_i hok
      simp only [Option.some.injEq, Prod.mk.injEq] at hy
      obtain ⟨rfl, rfl, rfl, rfl, rfl⟩ := hy
      obtain ⟨M1, q1, q2⟩ := yDraw_ok hc ops.toList t _ _ _ _ _ _ _ _ (slotsH_ok (allocsOf ops.toList) h n M hp) hd
      exact ⟨M1, by rw [hp.len]; simp only [q1, hok], q2⟩
    | false =>
      simp only at hy ⊢
      split at hy
      case h_2 => simp at hy
      rename_i s hd
      simp only [Option.some.injEq, Prod.mk.injEq] at hy
      obtain ⟨rfl, rfl⟩ := hy
      obtain ⟨M1, q1, q2⟩ := yOps_ok hc ops.toList t h n M ws _ _ _ _ hp hd
      exact ⟨M1, by simp only [q1], q2⟩
  | .seq x y, t, h, n, M, ws, e, t', h', n', ws', hp, hy => by
    rw [yCode_seq] at hy
    simp only [xCode]
    split at hy
    · rename_i t1 h1 n1 ws1 hr
      obtain ⟨M1, q1, q2⟩ := yCode_ok hc x t h n M ws _ _ _ _ _ hp hr
      obtain ⟨M2, q3, q4⟩ := yCode_ok hc y t1 h1 n1 M1 ws1 e t' h' n' ws' q2 hy
      exact ⟨M2, by simp only [q1, q3], q4⟩
    · rename_i hne
      obtain ⟨M1, q1, q2⟩ := yCode_ok hc x t h n M ws _ _ _ _ _ hp hy
      refine ⟨M1, ?_, q2⟩
      rw [q1]
      cases e with
      | normal => exact absurd hy (hne _ _ _ _)
      | _ => rfl
  | .cond c x y, t, h, n, M, ws, e, t', h', n', ws', hp, hy => by
    rw [yCode_cond] at hy
    simp only [rd_ev] at hy
    simp only [xCode]
    split at hy
    · rename_i hv
      obtain ⟨M1, q1, q2⟩ := yCode_ok hc x t h n M ws _ _ _ _ _ hp hy
      exact ⟨M1, by simp only [hv, q1], q2⟩
    · rename_i hv
      obtain ⟨M1, q1, q2⟩ := yCode_ok hc y t h n M ws _ _ _ _ _ hp hy
      exact ⟨M1, by simp only [hv, q1], q2⟩
    · simp at hy
  | .block id c, t, h, n, M, ws, e, t', h', n', ws', hp, hy => by
    rw [yCode_block] at hy
    simp only [xCode]
    split at hy
    · rename_i i s hr
      obtain ⟨t1, h1, n1, ws1⟩ := s
      obtain ⟨M1, q1, q2⟩ := yCode_ok hc c t h n M ws _ _ _ _ _ hp hr
      split at hy
      · rename_i hi
        simp only [Option.some.injEq, Prod.mk.injEq] at hy
        obtain ⟨rfl, rfl, rfl, rfl, rfl⟩ := hy
        exact ⟨M1, by simp only [q1, hi], q2⟩
      · rename_i hi
        simp only [Option.some.injEq, Prod.mk.injEq] at hy
        obtain ⟨rfl, rfl, rfl, rfl, rfl⟩ := hy
        exact ⟨M1, by simp only [q1, hi], q2⟩
    · rename_i hne
      obtain ⟨M1, q1, q2⟩ := yCode_ok hc c t h n M ws _ _ _ _ _ hp hy
      refine ⟨M1, ?_, q2⟩
      rw [q1]
      cases e with
      | exit i => exact absurd hy (hne _ _)
      | _ => rfl
  | .loop c, t, h, n, M, ws, e, t', h', n', ws', hp, hy => by
    rw [yCode_loop] at hy
    simp only [xCode]
    exact yLoop_ok (fun t h n M ws e t' h' n' ws' hp hy => yCode_ok hc c t h n M ws e t' h' n' ws' hp hy) fuel t h n M ws e t' h' n' ws' hp hy
  | .exit id, t, h, n, M, ws, e, t', h', n', ws', hp, hy => by
    rw [yCode_exit] at hy
    simp only [Option.some.injEq, Prod.mk.injEq] at hy
    obtain ⟨rfl, rfl, rfl, rfl, rfl⟩ := hy
    exact ⟨M, by simp only [xCode], hp⟩
  | .ret, t, h, n, M, ws, e, t', h', n', ws', hp, hy => by
    rw [yCode_ret] at hy
    simp only [Option.some.injEq, Prod.mk.injEq] at hy
    obtain ⟨rfl, rfl, rfl, rfl, rfl⟩ := hy
    exact ⟨M, by simp only [xCode], hp⟩
  | .rangeFunc _ _ _ _, t, h, n, M, ws, e, t', h', n', ws', hp, hy => by rw [yCode_rangeFunc] at hy; simp at hy
  | .scope _, t, h, n, M, ws, e, t', h', n', ws', hp, hy => by rw [yCode_scope] at hy; simp at hy
  | .goto _, t, h, n, M, ws, e, t', h', n', ws', hp, hy => by rw [yCode_goto] at hy; simp at hy
  | .refuse _, t, h, n, M, ws, e, t', h', n', ws', hp, hy => by rw [yCode_refuse] at hy; simp at hy

/-! ### calls -/
noncomputable def resAVG (C : Ctx) (t : BT) (g : GT) : ResultVar → Option AV
  | .tmp i => some (t.get i)
  | .cell a ty => (memOfG g (t.get a)).bind (loadCells? C.P ty)
noncomputable def resListG (C : Ctx) (t : BT) (g : GT) : List ResultVar → Option (List AV)
  | [] => some []
  | r :: rs => match resAVG C t g r, resListG C t g rs with
    | some v, some vs => some (v :: vs)
    | _, _ => none
noncomputable def resultG (C : Ctx) (rs : List ResultVar) (t : BT) (g : GT) : Option AV := match resListG C t g rs with
  | some [v] => some v
  | some vs => some (.tuple vs)
  | none => none
theorem resList_G {C : Ctx} {t : BT} {M : Mem} : ∀ rs : List ResultVar, resList C t.fn M rs = resListG C t (fun i => M[i]?) rs
  | [] => rfl
  | r :: rs => by
    simp only [resList, resListG, resList_G rs]
    have : resAV C t.fn M r = resAVG C t (fun i => M[i]?) r := by
      cases r with
      | tmp i => rfl
      | cell a ty => simp only [resAV, resAVG, memOf_G]; rfl
    rw [this]
    rfl
theorem result_G {C : Ctx} {t : BT} {M : Mem} (rs : List ResultVar) : resultAV C rs t.fn M = resultG C rs t (fun i => M[i]?) := by
  unfold resultAV resultG
  rw [resList_G]
  rfl

/-- functions that are answered by their contracts: the arguments and a look at the memory give the result -/
abbrev YIntr := FuncId → Option (List AV → (Nat → Option AObj) → Option AV)
def intrOf (yi : YIntr) : Intr := fun f => match yi f with
  | some g => some (fun args M => match g args (fun i => M[i]?) with | some v => some (v, M, []) | none => none)
  | none => none
noncomputable def yRet (C : Ctx) (fn : Func) (t : BT) (h0 : HT) (n0 : Nat) (h : HT) (n : Nat) (ws : List Nat) : Option YR := match resultG C fn.results.toList t h.get with
  | some v => match ws, flat v with
    | [], true => some (v, h0, n0, [])
    | _, _ => some (v, h, n, ws)
  | none => none
noncomputable def yCall (C : Ctx) (yi : YIntr) (fuel : Nat) : Nat → YCallF
  | 0, _, _, _, _ => none
  | k + 1, f, args, h, n => match yi f with
    | some g => match g args h.get with
      | some v => some (v, h, n, [])
      | none => none
    | none => match C.P.funcs[f]? with
      | some fn => match fn.body with
        | some c => match Nat.ble args.length fn.ntmps, BT.args args 0 (BT.mk (Nat.log2 fn.ntmps + 1)) with
          | true, some t => match yCode (yCall C yi fuel k) C fuel n c t h n [] with
            | some (.normal, t, h', n', ws) => yRet C fn t h n h' n' ws
            | some (.ret, t, h', n', ws) => yRet C fn t h n h' n' ws
            | _ => none
          | _, _ => none
        | none => none
      | none => none

theorem yRet_ok {C : Ctx} {fn : Func} {t : BT} {h0 h h' : HT} {n0 n n' : Nat} {M0 M : Mem} {ws ws' : List Nat} {v : AV} (hp0 : Hp h0 n0 M0) (hp : Hp h n M) (hy : yRet C fn t h0 n0 h n ws = some (v, h', n', ws')) : ∃ M', xRet C fn t M0 M ws = some (v, M', ws') ∧ Hp h' n' M' := by
  unfold yRet at hy
  unfold xRet
  rw [result_G, ← hp.fn]
  split at hy
  case h_2 => simp at hy
  rename_i v0 hv
  rw [hv]
  simp only
  split at hy
  · rename_i hfl
    simp only [Option.some.injEq, Prod.mk.injEq] at hy
    obtain ⟨rfl, rfl, rfl, rfl⟩ := hy
    exact ⟨M0, by simp only [hfl], hp0⟩
  · rename_i hne
    simp only [Option.some.injEq, Prod.mk.injEq] at hy
    obtain ⟨rfl, rfl, rfl, rfl⟩ := hy
    refine ⟨M, ?_, hp⟩
    split
    · rename_i hfl; exact (hne rfl hfl).elim
    · rfl

theorem yCall_ok {C : Ctx} {yi : YIntr} {fuel : Nat} : ∀ k, YOK (xCall C (intrOf yi) fuel k) (yCall C yi fuel k)
  | 0 => by
    intro g args h n M v h' n' ws hp hy
    simp [yCall] at hy
  | k + 1 => by
    intro g args h n M v h' n' ws hp hy
    simp only [yCall] at hy
    simp only [xCall]
    split at hy
    · rename_i gi hg
      split at hy
      case h_2 => simp at hy
      rename_i u hu
      rw [hp.fn] at hu
      simp only [Option.some.injEq, Prod.mk.injEq] at hy
      obtain ⟨rfl, rfl, rfl, rfl⟩ := hy
      exact ⟨M, by simp only [intrOf, hg, hu], hp⟩
    rename_i hg
    have hi : intrOf yi g = none := by simp only [intrOf, hg]
    rw [hi]
    simp only
    split at hy
    case h_2 => simp at hy
    rename_i fn hf
    rw [hf]
    simp only
    split at hy
    case h_2 => simp at hy
    rename_i c hb
    rw [hb]
    simp only
    split at hy
    case h_2 => simp at hy
    rename_i t hlen ht
    rw [hlen, ht]
    simp only
    split at hy
    · rename_i t1 h1 n1 ws1 hc
      obtain ⟨M1, q1, q2⟩ := yCode_ok (yCall_ok k) c t h n M [] _ _ _ _ _ hp hc
      obtain ⟨M2, q3, q4⟩ := yRet_ok hp q2 hy
      exact ⟨M2, by rw [hp.len, q1]; exact q3, q4⟩
    · rename_i t1 h1 n1 ws1 hc
      obtain ⟨M1, q1, q2⟩ := yCode_ok (yCall_ok k) c t h n M [] _ _ _ _ _ hp hc
      obtain ⟨M2, q3, q4⟩ := yRet_ok hp q2 hy
      exact ⟨M2, by rw [hp.len, q1]; exact q3, q4⟩
    · simp at hy

/-- a call without arguments answers true and leaves nothing -/
noncomputable def yTrue (C : Ctx) (yi : YIntr) (fuel k : Nat) (f : FuncId) : Bool := match yCall C yi fuel k f [] .nil 0 with
  | some (.val (.bool true), _, 0, _) => true
  | _ => false
theorem yTrue_calls {C : Ctx} (hmix : C.P.follows .mixedOrders = true) {yi : YIntr} (hintr : IntrOK C (intrOf yi)) (hfn : ∀ (f : Nat) (fn : Func), C.P.funcs[f]? = some fn → okFunc fn = true) {fuel k : Nat} {f : FuncId} (h : yTrue C yi fuel k f = true) :
    Invk C f [] [] (fun r m => r = .val (.bool true) ∧ m = []) := by
  unfold yTrue at h
  split at h
  case h_2 => simp at h
  rename_i h' ws hr
  obtain ⟨M', q1, q2⟩ := yCall_ok k f [] .nil 0 [] _ _ _ _ ⟨rfl, fun i => by simp [HT.get]⟩ hr
  have : M' = [] := List.eq_nil_of_length_eq_zero q2.len
  subst this
  exact (xCall_ok hmix hintr hfn fuel k _ _ _ _ _ _ q1).1
end Go.Abs
end
section
/- The quick evaluator: a run cut in two. -/
set_option linter.unusedVariables false
namespace Go.Abs

def preC : Nat → Code → Code
  | 0, _ => .skip
  | k + 1, .seq x y => .seq x (preC k y)
  | _ + 1, _ => .goto 0
def postC : Nat → Code → Code
  | 0, c => c
  | k + 1, .seq _ y => postC k y
  | _ + 1, c => c
theorem yCode_cut {yc : YCallF} {C : Ctx} {fuel base : Nat} {r : YC} : ∀ (k : Nat) (c : Code) (t : BT) (h : HT) (n : Nat) (ws : List Nat) (t1 : BT) (h1 : HT) (n1 : Nat) (ws1 : List Nat),
    yCode yc C fuel base (preC k c) t h n ws = some (.normal, t1, h1, n1, ws1) → yCode yc C fuel base (postC k c) t1 h1 n1 ws1 = some r → yCode yc C fuel base c t h n ws = some r
  | 0, c, t, h, n, ws, t1, h1, n1, ws1, e1, e2 => by
    simp only [preC] at e1
    rw [yCode_skip] at e1
    simp only [Option.some.injEq, Prod.mk.injEq] at e1
    obtain ⟨_, rfl, rfl, rfl, rfl⟩ := e1
    exact e2
  | k + 1, c, t, h, n, ws, t1, h1, n1, ws1, e1, e2 => by
    cases c with
    | seq x y =>
      simp only [preC] at e1
      simp only [postC] at e2
      rw [yCode_seq] at e1 ⊢
      split at e1
      · rename_i t2 h2 n2 ws2 hx
        exact yCode_cut k y t2 h2 n2 ws2 t1 h1 n1 ws1 e1 e2
      · rename_i hne
        exact absurd e1 (hne _ _ _ _)
    | _ => simp only [preC] at e1; rw [yCode_goto] at e1; simp at e1
/-- slots and memory, by lists -/
noncomputable def mkT (k : Nat) (l : List (Nat × AV)) : BT := List.rec (motive := fun _ => BT) (BT.mk k) (fun p _ t => match t.putR p.1 p.2 with | some t => t | none => t) l
noncomputable def mkHA (l : List AObj) : Nat → HT → HT := List.rec (motive := fun _ => Nat → HT → HT) (fun _ h => h) (fun o _ ih n h => ih (n + 1) (h.put n o)) l
noncomputable def mkH (l : List AObj) : HT := mkHA l 0 .nil
noncomputable def endsTrue (C : Ctx) (fn : Func) : Option YC → Bool
  | some (.ret, t, h, n, ws) => match yRet C fn t .nil 0 h n ws with
    | some (.val (.bool true), _, 0, _) => true
    | _ => false
  | _ => false
theorem yTrue_cut {C : Ctx} {yi : YIntr} {fuel k f : Nat} {fn : Func} {c : Code} {t0 t1 : BT} {h1 : HT} {n1 : Nat} {ws1 : List Nat} (j : Nat) (hi : yi f = none) (hf : C.P.funcs[f]? = some fn) (hb : fn.body = some c)
    (ht : BT.args [] 0 (BT.mk (Nat.log2 fn.ntmps + 1)) = some t0) (e1 : yCode (yCall C yi fuel k) C fuel 0 (preC j c) t0 .nil 0 [] = some (.normal, t1, h1, n1, ws1))
    (e2 : endsTrue C fn (yCode (yCall C yi fuel k) C fuel 0 (postC j c) t1 h1 n1 ws1) = true) : yTrue C yi fuel (k + 1) f = true := by
  cases hr : yCode (yCall C yi fuel k) C fuel 0 (postC j c) t1 h1 n1 ws1 with
  | none => rw [hr] at e2; simp [endsTrue] at e2
  | some r =>
    have hc := yCode_cut j c t0 .nil 0 [] t1 h1 n1 ws1 e1 hr
    rw [hr] at e2
    obtain ⟨e, t, h, n, ws⟩ := r
    cases e <;> first | (simp [endsTrue] at e2; done) | skip
    simp only [endsTrue] at e2
    have hl : Nat.ble (List.length ([] : List AV)) fn.ntmps = true := Nat.ble_eq_true_of_le (Nat.zero_le _)
    unfold yTrue yCall
    simp only [hi, hf, hb, hl, ht, hc]
    exact e2
end Go.Abs
end
section
/- The quick evaluator with functions that are answered by other means: they may turn the memory, or hold what was run before. -/
set_option linter.unusedVariables false
namespace Go.Abs

abbrev YCallI := List AV → HT → Nat → Option YR
abbrev EIntr := FuncId → Option YCallI
def EAt (gx : List AV → Mem → Option XR) (g : YCallI) : Prop := ∀ args h n M v h' n' ws, Hp h n M → g args h n = some (v, h', n', ws) → ∃ M', gx args M = some (v, M', ws) ∧ Hp h' n' M'
def EOK (intr : Intr) (ei : EIntr) : Prop := ∀ f, (ei f = none ∧ intr f = none) ∨ ∃ g gx, ei f = some g ∧ intr f = some gx ∧ EAt gx g

noncomputable def eCall (C : Ctx) (ei : EIntr) (fuel : Nat) : Nat → YCallF
  | 0, _, _, _, _ => none
  | k + 1, f, args, h, n => match ei f with
    | some g => g args h n
    | none => match C.P.funcs[f]? with
      | some fn => match fn.body with
        | some c => match Nat.ble args.length fn.ntmps, BT.args args 0 (BT.mk (Nat.log2 fn.ntmps + 1)) with
          | true, some t => match yCode (eCall C ei fuel k) C fuel n c t h n [] with
            | some (.normal, t, h', n', ws) => yRet C fn t h n h' n' ws
            | some (.ret, t, h', n', ws) => yRet C fn t h n h' n' ws
            | _ => none
          | _, _ => none
        | none => none
      | none => none

theorem eCall_ok {C : Ctx} {intr : Intr} {ei : EIntr} (he : EOK intr ei) {fuel : Nat} : ∀ k, YOK (xCall C intr fuel k) (eCall C ei fuel k)
  | 0 => by
    intro g args h n M v h' n' ws hp hy
    simp [eCall] at hy
  | k + 1 => by
    intro g args h n M v h' n' ws hp hy
    simp only [eCall] at hy
    simp only [xCall]
    rcases he g with ⟨e1, e2⟩ | ⟨gy, gx, e1, e2, e3⟩
    case inr =>
      rw [e1] at hy
      rw [e2]
      exact e3 _ _ _ _ _ _ _ _ hp hy
    rw [e1] at hy
    rw [e2]
    simp only at hy ⊢
    split at hy
    case h_2 => simp at hy
    rename_i fn hf
    rw [hf]
    simp only
    split at hy
    case h_2 => simp at hy
    rename_i c hb
    rw [hb]
    simp only
    split at hy
    case h_2 => simp at hy
    rename_i t hlen ht
    rw [hlen, ht]
    simp only
    split at hy
    · rename_i t1 h1 n1 ws1 hc
      obtain ⟨M1, q1, q2⟩ := yCode_ok (eCall_ok he k) c t h n M [] _ _ _ _ _ hp hc
      obtain ⟨M2, q3, q4⟩ := yRet_ok hp q2 hy
      exact ⟨M2, by rw [hp.len, q1]; exact q3, q4⟩
    · rename_i t1 h1 n1 ws1 hc
      obtain ⟨M1, q1, q2⟩ := yCode_ok (eCall_ok he k) c t h n M [] _ _ _ _ _ hp hc
      obtain ⟨M2, q3, q4⟩ := yRet_ok hp q2 hy
      exact ⟨M2, by rw [hp.len, q1]; exact q3, q4⟩
    · simp at hy

/-! ### equal states, found by program -/
noncomputable def all2 {A B : Type} (f : A → B → Bool) (l : List A) : List B → Bool := List.rec (motive := fun _ => List B → Bool)
  (fun m => match m with | [] => true | _ => false) (fun a _ ih m => match m with | [] => false | b :: m => match f a b with | true => ih m | false => false) l
theorem all2_eq {A : Type} {f : A → A → Bool} (hf : ∀ a b, f a b = true → a = b) : ∀ l m : List A, all2 f l m = true → l = m
  | [], [], _ => rfl
  | [], b :: m, h => by simp [all2] at h
  | a :: l, [], h => by simp [all2] at h
  | a :: l, b :: m, h => by
    have h' : (match f a b with | true => all2 f l m | false => false) = true := h
    split at h'
    · rename_i e; rw [hf _ _ e, all2_eq hf l m h']
    · simp at h'
def eqByte (a b : UInt8) : Bool := Nat.beq a.toNat b.toNat
theorem eqByte_eq (a b : UInt8) (h : eqByte a b = true) : a = b := UInt8.toNat_inj.1 (Nat.eq_of_beq_eq_true h)
noncomputable def eqStr (a b : ByteArray) : Bool := all2 eqByte a.data.toList b.data.toList
theorem eqStr_eq (a b : ByteArray) (h : eqStr a b = true) : a = b := by
  have := all2_eq eqByte_eq _ _ h
  cases a; cases b
  simp only [ByteArray.mk.injEq]
  exact Array.toList_inj.1 this
def eqInt : Int → Int → Bool
  | .ofNat a, .ofNat b => Nat.beq a b
  | .negSucc a, .negSucc b => Nat.beq a b
  | _, _ => false
theorem eqInt_eq (a b : Int) (h : eqInt a b = true) : a = b := by
  unfold eqInt at h
  split at h
  · rw [Nat.eq_of_beq_eq_true h]
  · rw [Nat.eq_of_beq_eq_true h]
  · simp at h
def kN : IntKind → Nat
  | .i8 => 0 | .i16 => 1 | .i32 => 2 | .i64 => 3 | .u8 => 4 | .u16 => 5 | .u32 => 6 | .u64 => 7
theorem kN_inj (a b : IntKind) (h : Nat.beq (kN a) (kN b) = true) : a = b := by
  have := Nat.eq_of_beq_eq_true h
  cases a <;> cases b <;> first | rfl | (simp [kN] at this)
def eqBool : Bool → Bool → Bool
  | true, true => true
  | false, false => true
  | _, _ => false
theorem eqBool_eq (a b : Bool) (h : eqBool a b = true) : a = b := by cases a <;> cases b <;> first | rfl | simp [eqBool] at h
noncomputable def and2 (a b : Bool) : Bool := match a with | true => b | false => false
theorem and2_eq {a b : Bool} (h : and2 a b = true) : a = true ∧ b = true := by cases a <;> simp_all [and2]
theorem no_ff {P : Prop} (h : false = true) : P := by simp at h
/-- equal plain values -/
noncomputable def eqV (v u : Value) : Bool := match v with
  | .bool a => match u with | .bool b => eqBool a b | _ => false
  | .int k a => match u with | .int l b => and2 (Nat.beq (kN k) (kN l)) (eqInt a b) | _ => false
  | .string a => match u with | .string b => eqStr a b | _ => false
  | .slice none a c => match u with | .slice none b d => and2 (Nat.beq a b) (Nat.beq c d) | _ => false
  | .pointer none => match u with | .pointer none => true | _ => false
  | .map none => match u with | .map none => true | _ => false
  | .nilFunc => match u with | .nilFunc => true | _ => false
  | .nilIface => match u with | .nilIface => true | _ => false
  | _ => false
theorem eqV_eq (v u : Value) (h : eqV v u = true) : v = u := by
  unfold eqV at h
  split at h <;> (try (simp at h; done)) <;> split at h <;> (try (simp at h; done))
  · rw [eqBool_eq _ _ h]
  · obtain ⟨e, h⟩ := and2_eq h; rw [kN_inj _ _ e, eqInt_eq _ _ h]
  · rw [eqStr_eq _ _ h]
  · obtain ⟨e, h⟩ := and2_eq h; rw [Nat.eq_of_beq_eq_true e, Nat.eq_of_beq_eq_true h]
  all_goals rfl

noncomputable def eqOwn (a b : Own) : Bool := match a with
  | .no => match b with | .no => true | _ => false
  | .full => match b with | .full => true | _ => false
  | .fam f => match b with | .fam g => Nat.beq f g | _ => false
theorem eqOwn_eq (a b : Own) (h : eqOwn a b = true) : a = b := by
  unfold eqOwn at h
  split at h <;> split at h <;> first | rfl | (simp at h; done) | rw [Nat.eq_of_beq_eq_true h]
noncomputable def eqFn (a b : Fn) : Bool := match a with
  | .func f => match b with | .func g => Nat.beq f g | _ => false
  | _ => false
theorem eqFn_eq (a b : Fn) (h : eqFn a b = true) : a = b := by
  unfold eqFn at h
  split at h
  · split at h
    · rw [Nat.eq_of_beq_eq_true h]
    · simp at h
  · simp at h
noncomputable def eqA (k : Nat) : AV → AV → Bool := Nat.rec (motive := fun _ => AV → AV → Bool) (fun _ _ => false) (fun _ eq a b => match a with
  | .poison => match b with | .poison => true | _ => false
  | .val v => match b with | .val u => eqV v u | _ => false
  | .ptr x y => match b with | .ptr x' y' => and2 (Nat.beq x x') (Nat.beq y y') | _ => false
  | .cptr cs => match b with | .cptr ds => all2 eq cs ds | _ => false
  | .list sz rows own => match b with | .list sz' rows' own' => and2 (Nat.beq sz sz') (and2 (all2 (all2 eq) rows rows') (eqOwn own own')) | _ => false
  | .vref f g sz lo len => match b with | .vref f' g' sz' lo' len' => and2 (Nat.beq f f') (and2 (Nat.beq g g') (and2 (Nat.beq sz sz') (and2 (Nat.beq lo lo') (Nat.beq len len')))) | _ => false
  | .vptr f g o => match b with | .vptr f' g' o' => and2 (Nat.beq f f') (and2 (Nat.beq g g') (Nat.beq o o')) | _ => false
  | .mapr x => match b with | .mapr y => Nat.beq x y | _ => false
  | .func fn f c => match b with | .func fn' f' c' => and2 (eqFn fn fn') (and2 (all2 eq f f') (all2 eq c c')) | _ => false
  | .iface t v => match b with | .iface t' v' => and2 (Nat.beq t t') (eq v v') | _ => false
  | .agg cs => match b with | .agg ds => all2 eq cs ds | _ => false
  | .tuple cs => match b with | .tuple ds => all2 eq cs ds | _ => false) k
theorem eqA_eq : ∀ (k : Nat) (a b : AV), eqA k a b = true → a = b
  | 0, a, b, h => by simp [eqA] at h
  | k + 1, a, b, h => by
    have ih := eqA_eq k
    have ihL := all2_eq ih
    have ihR := all2_eq ihL
    have nb : ∀ {x y : Nat}, Nat.beq x y = true → x = y := Nat.eq_of_beq_eq_true
    cases a <;> cases b <;> first | rfl | exact no_ff h | skip
    case val.val v u => rw [eqV_eq v u h]
    case ptr.ptr => obtain ⟨h1, h2⟩ := and2_eq h; rw [nb h1, nb h2]
    case cptr.cptr cs ds => rw [ihL cs ds h]
    case list.list => obtain ⟨h1, h2⟩ := and2_eq h; obtain ⟨h2, h3⟩ := and2_eq h2; rw [nb h1, ihR _ _ h2, eqOwn_eq _ _ h3]
    case vref.vref => obtain ⟨h1, h⟩ := and2_eq h; obtain ⟨h2, h⟩ := and2_eq h; obtain ⟨h3, h⟩ := and2_eq h; obtain ⟨h4, h5⟩ := and2_eq h; rw [nb h1, nb h2, nb h3, nb h4, nb h5]
    case vptr.vptr => obtain ⟨h1, h⟩ := and2_eq h; obtain ⟨h2, h3⟩ := and2_eq h; rw [nb h1, nb h2, nb h3]
    case mapr.mapr x y => rw [nb (x := x) (y := y) h]
    case func.func => obtain ⟨h1, h⟩ := and2_eq h; obtain ⟨h2, h3⟩ := and2_eq h; rw [eqFn_eq _ _ h1, ihL _ _ h2, ihL _ _ h3]
    case iface.iface => obtain ⟨h1, h2⟩ := and2_eq h; rw [nb h1, ih _ _ h2]
    case agg.agg cs ds => rw [ihL cs ds h]
    case tuple.tuple cs ds => rw [ihL cs ds h]
noncomputable def eqNN (p q : Nat × Nat) : Bool := and2 (Nat.beq p.1 q.1) (Nat.beq p.2 q.2)
theorem eqNN_eq (p q : Nat × Nat) (h : eqNN p q = true) : p = q := by
  obtain ⟨h1, h2⟩ := and2_eq h
  exact Prod.ext (Nat.eq_of_beq_eq_true h1) (Nat.eq_of_beq_eq_true h2)
noncomputable def eqE (p q : AV × AV × Nat) : Bool := and2 (eqA 40 p.1 q.1) (and2 (eqA 40 p.2.1 q.2.1) (Nat.beq p.2.2 q.2.2))
theorem eqE_eq (p q : AV × AV × Nat) (h : eqE p q = true) : p = q := by
  obtain ⟨h1, h⟩ := and2_eq h
  obtain ⟨h2, h3⟩ := and2_eq h
  exact Prod.ext (eqA_eq _ _ _ h1) (Prod.ext (eqA_eq _ _ _ h2) (Nat.eq_of_beq_eq_true h3))
noncomputable def eqON (a b : Option Nat) : Bool := match a with
  | none => match b with | none => true | _ => false
  | some x => match b with | some y => Nat.beq x y | none => false
theorem eqON_eq (a b : Option Nat) (h : eqON a b = true) : a = b := by
  cases a <;> cases b <;> first | rfl | exact no_ff h | skip
  rename_i x y
  rw [Nat.eq_of_beq_eq_true (n := x) (m := y) h]
theorem beq_eq (a b : Nat) (h : Nat.beq a b = true) : a = b := Nat.eq_of_beq_eq_true h
noncomputable def eqO (a b : AObj) : Bool := match a with
  | .gone => match b with | .gone => true | _ => false
  | .cells t cs => match b with | .cells t' cs' => and2 (Nat.beq t t') (all2 (eqA 40) cs cs') | _ => false
  | .fam m sz => match b with | .fam m' sz' => and2 (Nat.beq m m') (Nat.beq sz sz') | _ => false
  | .vec e sz cs g hist => match b with | .vec e' sz' cs' g' hist' => and2 (Nat.beq e e') (and2 (Nat.beq sz sz') (and2 (Nat.beq g g') (and2 (all2 eqNN hist hist') (all2 (eqA 40) cs cs')))) | _ => false
  | .map es c => match b with | .map es' c' => and2 (Nat.beq c c') (all2 eqE es es') | _ => false
  | .siter s p => match b with | .siter s' p' => and2 (Nat.beq p p') (eqStr s s') | _ => false
  | .miter m x l y => match b with | .miter m' x' l' y' => and2 (eqON m m') (and2 (Nat.beq x x') (and2 (Nat.beq y y') (all2 Nat.beq l l'))) | _ => false
theorem eqO_eq (a b : AObj) (h : eqO a b = true) : a = b := by
  have nb : ∀ {x y : Nat}, Nat.beq x y = true → x = y := Nat.eq_of_beq_eq_true
  have ihL := all2_eq (eqA_eq 40)
  cases a <;> cases b <;> first | rfl | exact no_ff h | skip
  case cells.cells => obtain ⟨h1, h2⟩ := and2_eq h; rw [nb h1, ihL _ _ h2]
  case fam.fam => obtain ⟨h1, h2⟩ := and2_eq h; rw [nb h1, nb h2]
  case vec.vec => obtain ⟨h1, h⟩ := and2_eq h; obtain ⟨h2, h⟩ := and2_eq h; obtain ⟨h3, h⟩ := and2_eq h; obtain ⟨h4, h5⟩ := and2_eq h; rw [nb h1, nb h2, nb h3, all2_eq eqNN_eq _ _ h4, ihL _ _ h5]
  case map.map => obtain ⟨h1, h2⟩ := and2_eq h; rw [nb h1, all2_eq eqE_eq _ _ h2]
  case siter.siter => obtain ⟨h1, h2⟩ := and2_eq h; rw [nb h1, eqStr_eq _ _ h2]
  case miter.miter => obtain ⟨h1, h⟩ := and2_eq h; obtain ⟨h2, h⟩ := and2_eq h; obtain ⟨h3, h4⟩ := and2_eq h; rw [eqON_eq _ _ h1, nb h2, nb h3, all2_eq beq_eq _ _ h4]
noncomputable def eqH (a : HT) : HT → Bool := HT.rec (motive := fun _ => HT → Bool) (fun b => match b with | .nil => true | .node _ _ _ => false)
  (fun o _ _ el er b => match b with | .nil => false | .node o' l' r' => and2 (eqO o o') (and2 (el l') (er r'))) a
theorem eqH_eq : ∀ a b : HT, eqH a b = true → a = b
  | .nil, .nil, _ => rfl
  | .nil, .node _ _ _, h => by simp [eqH] at h
  | .node _ _ _, .nil, h => by simp [eqH] at h
  | .node o l r, .node o' l' r', h => by
    have h' : and2 (eqO o o') (and2 (eqH l l') (eqH r r')) = true := h
    obtain ⟨h1, h2⟩ := and2_eq h'
    obtain ⟨h2, h3⟩ := and2_eq h2
    rw [eqO_eq _ _ h1, eqH_eq l l' h2, eqH_eq r r' h3]

/-! ### calls that have been run before -/
structure Ent where
  f : Nat
  args : List AV
  h : HT
  n : Nat
  r : YR
noncomputable def memoE (l : List Ent) (f : Nat) : YCallI := List.rec (motive := fun _ => YCallI) (fun _ _ _ => none)
  (fun e _ ih args h n => match and2 (Nat.beq e.f f) (Nat.beq e.n n) with
    | true => match and2 (all2 (eqA 40) e.args args) (eqH e.h h) with
      | true => some e.r
      | false => ih args h n
    | false => ih args h n) l
/-- the entry tells the truth -/
def EntOK (C : Ctx) (intr : Intr) (fuel K : Nat) (e : Ent) : Prop := ∀ M, Hp e.h e.n M → ∃ M', xCall C intr fuel K e.f e.args M = some (e.r.1, M', e.r.2.2.2) ∧ Hp e.r.2.1 e.r.2.2.1 M'
theorem entOK_of {C : Ctx} {intr : Intr} {ei : EIntr} (he : EOK intr ei) {fuel K : Nat} {e : Ent} (h : eCall C ei fuel K e.f e.args e.h e.n = some e.r) : EntOK C intr fuel K e := by
  obtain ⟨f, args, h0, n, v, h', n', ws⟩ := e
  intro M hp
  exact eCall_ok he K _ _ _ _ _ _ _ _ _ hp h
theorem memoE_ok {C : Ctx} {intr : Intr} {fuel K : Nat} (f : Nat) : ∀ (l : List Ent), (∀ e ∈ l, EntOK C intr fuel K e) → EAt (xCall C intr fuel K f) (memoE l f)
  | [], hl => by intro args h n M v h' n' ws hp hy; simp [memoE] at hy
  | e :: l, hl => by
    intro args h n M v h' n' ws hp hy
    have ih := memoE_ok f l (fun e he => hl e (by simp [he])) args h n M v h' n' ws hp
    have hy' : (match and2 (Nat.beq e.f f) (Nat.beq e.n n) with
      | true => match and2 (all2 (eqA 40) e.args args) (eqH e.h h) with
        | true => some e.r
        | false => memoE l f args h n
      | false => memoE l f args h n) = some (v, h', n', ws) := hy
    split at hy'
    · rename_i h1
      split at hy'
      · rename_i h2
        obtain ⟨a1, a2⟩ := and2_eq h1
        obtain ⟨b1, b2⟩ := and2_eq h2
        have e1 := Nat.eq_of_beq_eq_true a1
        have e2 := Nat.eq_of_beq_eq_true a2
        have e3 := all2_eq (eqA_eq 40) _ _ b1
        have e4 := eqH_eq _ _ b2
        have := hl e (by simp)
        obtain ⟨ef, ea, eh, en, er⟩ := e
        simp only [Option.some.injEq] at hy' e1 e2 e3 e4
        subst e1 e2 e3 e4 hy'
        exact this M hp
      · exact ih hy'
    · exact ih hy'
noncomputable def memoX (C : Ctx) (intr : Intr) (fuel K : Nat) (S : Nat → Bool) : Intr := fun f => match S f with
  | true => some (xCall C intr fuel K f)
  | false => intr f
noncomputable def memoY (S : Nat → Bool) (l : List Ent) (ei : EIntr) : EIntr := fun f => match S f with
  | true => some (memoE l f)
  | false => ei f
theorem memo_intr {C : Ctx} (hmix : C.P.follows .mixedOrders = true) {intr : Intr} (hintr : IntrOK C intr) (hfn : ∀ (f : Nat) (fn : Func), C.P.funcs[f]? = some fn → okFunc fn = true) {fuel K : Nat} {S : Nat → Bool} : IntrOK C (memoX C intr fuel K S) := by
  intro f g h
  unfold memoX at h
  split at h
  · simp only [Option.some.injEq] at h
    subst h
    intro args M v M1 ws hc
    exact xCall_ok hmix hintr hfn fuel K _ _ _ _ _ _ hc
  · exact hintr f g h
theorem memo_ok {C : Ctx} {intr : Intr} {ei : EIntr} (he : EOK intr ei) {fuel K : Nat} {S : Nat → Bool} {l : List Ent} (hl : ∀ e ∈ l, EntOK C intr fuel K e) : EOK (memoX C intr fuel K S) (memoY S l ei) := by
  intro f
  unfold memoX memoY
  cases hs : S f with
  | true => exact .inr ⟨_, _, rfl, rfl, memoE_ok f l hl⟩
  | false => exact he f

/-- functions that are answered by a look -/
noncomputable def lookI (g : List AV → (Nat → Option AObj) → Option AV) : YCallI := fun args h n => match g args h.get with
  | some v => some (v, h, n, [])
  | none => none
theorem lookI_ok {g : List AV → (Nat → Option AObj) → Option AV} : EAt (fun args M => match g args (fun i => M[i]?) with | some v => some (v, M, []) | none => none) (lookI g) := by
  intro args h n M v h' n' ws hp hy
  unfold lookI at hy
  split at hy
  · rename_i u hu
    rw [hp.fn] at hu
    simp only [Option.some.injEq, Prod.mk.injEq] at hy
    obtain ⟨rfl, rfl, rfl, rfl⟩ := hy
    exact ⟨M, by simp only [hu], hp⟩
  · simp at hy

noncomputable def eTrue (C : Ctx) (ei : EIntr) (fuel k : Nat) (f : FuncId) : Bool := match eCall C ei fuel k f [] .nil 0 with
  | some (.val (.bool true), _, 0, _) => true
  | _ => false
theorem eTrue_calls {C : Ctx} (hmix : C.P.follows .mixedOrders = true) {intr : Intr} {ei : EIntr} (he : EOK intr ei) (hintr : IntrOK C intr) (hfn : ∀ (f : Nat) (fn : Func), C.P.funcs[f]? = some fn → okFunc fn = true) {fuel k : Nat} {f : FuncId} (h : eTrue C ei fuel k f = true) :
    Invk C f [] [] (fun r m => r = .val (.bool true) ∧ m = []) := by
  unfold eTrue at h
  split at h
  case h_2 => simp at h
  rename_i h' ws hr
  obtain ⟨M', q1, q2⟩ := eCall_ok he k f [] .nil 0 [] _ _ _ _ ⟨rfl, fun i => by simp [HT.get]⟩ hr
  have : M' = [] := List.eq_nil_of_length_eq_zero q2.len
  subst this
  exact (xCall_ok hmix hintr hfn fuel k _ _ _ _ _ _ q1).1
end Go.Abs
end
