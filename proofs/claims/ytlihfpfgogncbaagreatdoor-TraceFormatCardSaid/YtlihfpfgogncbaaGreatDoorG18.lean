/- The texts AbsU, AbsV, AbsV2: what each proves stands at its head. -/
import Derived.Test.YtlihfpfgogncbaaGreatDoorG17
section
/- The evaluator's slots; append as a whole. -/
set_option linter.unusedVariables false
namespace Go.Abs

/-! ### slots in a tree -/
inductive BT where
  | leaf (v : AV)
  | node (l r : BT)
def BT.get : BT → Nat → AV
  | .leaf v, n => match n with | 0 => v | _ => .poison
  | .node l r, n => match n % 2 with
    | 0 => l.get (n / 2)
    | _ => r.get (n / 2)
/-- none: the slot lies outside -/
def BT.put : BT → Nat → AV → Option BT
  | .leaf _, n, v => match n with | 0 => some (.leaf v) | _ => none
  | .node l r, n, v => match n % 2 with
    | 0 => match l.put (n / 2) v with | some l => some (.node l r) | none => none
    | _ => match r.put (n / 2) v with | some r => some (.node l r) | none => none
def BT.mk : Nat → BT
  | 0 => .leaf .poison
  | k + 1 => .node (BT.mk k) (BT.mk k)

theorem BT.get_put : ∀ (t t' : BT) (n : Nat) (v : AV), t.put n v = some t' → ∀ m, t'.get m = if m = n then v else t.get m
  | .leaf u, t', n, v, h, m => by
    simp only [BT.put] at h
    split at h
    · simp only [Option.some.injEq] at h
      subst h
      by_cases e : m = 0
      · subst e; simp [BT.get]
      · rw [if_neg e]; cases m with
        | zero => exact absurd rfl e
        | succ m => rfl
    · simp at h
  | .node l r, t', n, v, h, m => by
    simp only [BT.put] at h
    split at h
    · rename_i a
      split at h
      · rename_i l' hl
        simp only [Option.some.injEq] at h
        subst h
        have ih := BT.get_put l l' (n / 2) v hl (m / 2)
        simp only [BT.get]
        split
        · rw [ih]
          rename_i b
          by_cases e : m / 2 = n / 2
          · have : m = n := by omega
            rw [if_pos e, if_pos this]
          · have : ¬ m = n := by intro h; subst h; exact e rfl
            rw [if_neg e, if_neg this]
        · rename_i b
          have : ¬ m = n := by intro h; subst h; exact b a
          rw [if_neg this]
      · simp at h
    · rename_i a
      split at h
      · rename_i r' hr
        simp only [Option.some.injEq] at h
        subst h
        have ih := BT.get_put r r' (n / 2) v hr (m / 2)
        simp only [BT.get]
        split
        · rename_i b
          rw [if_neg (by intro e; subst e; exact a b)]
        · rename_i b
          rw [ih]
          by_cases e : m / 2 = n / 2
          · have : m = n := by
              have a' : ¬ n % 2 = 0 := a
              have b' : ¬ m % 2 = 0 := b
              omega
            rw [if_pos e, if_pos this]
          · have : ¬ m = n := by intro h; subst h; exact e rfl
            rw [if_neg e, if_neg this]
      · simp at h
theorem BT.get_mk : ∀ (k n : Nat), (BT.mk k).get n = .poison
  | 0, n => by cases n <;> rfl
  | k + 1, n => by
    simp only [BT.get, BT.mk]
    split <;> exact BT.get_mk k _

def BT.fn (t : BT) : Env := t.get
def BT.set (t : BT) (d : Option Nat) (v : AV) : Option BT := match d with
  | none => some t
  | some d => t.put d v
theorem BT.set_fn {t t' : BT} {d : Option Nat} {v : AV} (h : t.set d v = some t') : t'.fn = t.fn.put d v := by
  cases d with
  | none => simp only [BT.set, Option.some.injEq] at h; subst h; rfl
  | some d => funext j; exact BT.get_put t t' d v h j
def BT.args : List AV → Nat → BT → Option BT
  | [], _, t => some t
  | a :: l, i, t => match t.put i a with
    | some t => BT.args l (i + 1) t
    | none => none
theorem BT.args_fn : ∀ (l : List AV) (i : Nat) (t t' : BT), BT.args l i t = some t' → ∀ j, t'.get j = if i ≤ j ∧ j < i + l.length then l.getD (j - i) .poison else t.get j
  | [], i, t, t', h, j => by
    simp only [BT.args, Option.some.injEq] at h
    subst h
    rw [if_neg (by simp only [List.length_nil]; omega)]
  | a :: l, i, t, t', h, j => by
    simp only [BT.args] at h
    split at h
    · rename_i t1 h1
      rw [BT.args_fn l (i + 1) t1 t' h j, BT.get_put _ _ _ _ h1]
      by_cases e : j = i
      · subst e
        rw [if_neg (by omega), if_pos rfl, if_pos (by simp)]
        simp
      · by_cases e2 : i + 1 ≤ j ∧ j < i + 1 + l.length
        · rw [if_pos e2, if_pos (by simp only [List.length_cons]; omega)]
          obtain ⟨m, rfl⟩ : ∃ m, j = i + 1 + m := ⟨j - (i + 1), by omega⟩
          rw [show i + 1 + m - (i + 1) = m from by omega, show i + 1 + m - i = m + 1 from by omega]
          simp
        · rw [if_neg e2, if_neg e, if_neg (by simp only [List.length_cons]; omega)]
    · simp at h
theorem BT.args_of {k : Nat} {l : List AV} {t : BT} (h : BT.args l 0 (BT.mk k) = some t) : t.fn = Env.of l := by
  funext j
  show t.get j = _
  rw [BT.args_fn l 0 _ _ h j]
  simp only [Nat.zero_le, true_and, Nat.zero_add, Nat.sub_zero, Env.of]
  split
  · rfl
  · rename_i hj
    rw [BT.get_mk, List.getD_eq_getElem?_getD, List.getElem?_eq_none (by omega)]; rfl

/-! ### append as a whole -/
theorem vappIn_none {e : TypeId} {sz b : Nat} {s0 x : AV} {M : Mem} {X : AObj} {r1 r2 : List AV × Nat} (hs : M[b]? = some blank) (h1 : srcCells M sz s0 = some r1) (h2 : srcCells M sz x = some r2) (h : vappIn e sz s0 x M = none) : vappIn e sz s0 x (M.set b X) = none := by
  cases s0 with
  | vref f h' s' lo len =>
    simp only [srcCells] at h1
    split at h1
    case h_2 => simp at h1
    rename_i e2 s2 cs g hist hM
    split at h1
    case h_2 => simp at h1
    rename_i n hn
    simp only [vappIn, h2, hM, hn] at h
    simp only [vappIn, srcCells_fill hs h2, fill_get1 hs hM (vec_ne_blank hn), hn]
    split at h
    · simp at h
    · rename_i hc; rw [if_neg hc]
  | _ => simp [vappIn]
theorem appMem_acts {e : TypeId} {sz bytes : Nat} {s0 x v : AV} {M M' : Mem} (hv : vecLike true s0 = true) (h : appMem false true e sz bytes s0 x M = some (v, M')) : Acts (appMem false true e sz bytes s0 x) M v M' (appWrites s0) := by
  unfold appMem at h
  rw [if_pos hv] at h
  split at h
  case h_2 => simp at h
  rename_i c1 k c2 m h1 h2
  split at h
  case isFalse => simp at h
  rename_i hb
  split at h
  · rename_i r hr
    simp only [Option.some.injEq] at h
    subst h
    have ha := vappIn_acts hr
    exact ⟨ha.grow, ha.old, ha.keep, fun s X hs => by simp only [appMem, if_pos hv, srcCells_fill hs h1, srcCells_fill hs h2, if_pos hb, ha.fill s X hs]⟩
  · rename_i hr
    have ha := vappAV_acts h
    exact ⟨ha.grow, ha.old, ha.keep, fun s X hs => by simp only [appMem, if_pos hv, srcCells_fill hs h1, srcCells_fill hs h2, if_pos hb, vappIn_none hs h1 h2 hr, ha.fill s X hs]⟩
end Go.Abs
end
section
/- The evaluator: a call without unknowns is run on abstract values, and what it answers is its contract. -/
set_option linter.unusedVariables false
namespace Go.Abs

def HX : Hint := ⟨fun _ => false, fun _ => false, fun _ => true⟩

abbrev XR := AV × Mem × List Nat
abbrev CallF := FuncId → List AV → Mem → Option XR

structure XActs (f : Mem → Option XR) (M : Mem) (v : AV) (M1 : Mem) (ws : List Nat) : Prop where
  grow : M.length ≤ M1.length
  old : ∀ i, i < M.length → i ∉ ws → M1[i]? = M[i]?
  keep : KeepsBlank M M1
  fill : ∀ (s : Nat) (X : AObj), M[s]? = some blank → f (M.set s X) = some (v, M1.set s X, ws)
theorem Acts.x {f : Mem → Option (AV × Mem)} {M M1 : Mem} {v : AV} {ws : List Nat} (h : Acts f M v M1 ws) {g : Mem → Option XR} (hg : ∀ M2 M3, f M2 = some (v, M3) → g M2 = some (v, M3, ws)) : XActs g M v M1 ws :=
  ⟨h.grow, h.old, h.keep, fun s X hs => hg _ _ (h.fill s X hs)⟩
theorem XActs.same {f : Mem → Option XR} {M : Mem} {v : AV} {ws : List Nat} (h : ∀ (s : Nat) (X : AObj), M[s]? = some blank → f (M.set s X) = some (v, M.set s X, ws)) : XActs f M v M ws :=
  ⟨Nat.le_refl _, fun _ _ _ => rfl, fun _ h => h, h⟩
theorem blanks_tail {M : Mem} {p : Nat × AObj} {l : List (Nat × AObj)} (hb : Blanks M (p :: l)) : M[p.1]? = some blank ∧ Blanks (M.set p.1 p.2) l := by
  obtain ⟨h1, h2⟩ := hb
  simp only [List.map_cons, List.nodup_cons] at h2
  refine ⟨h1 p (by simp), fun q hq => ?_, h2.2⟩
  rw [List.getElem?_set_ne (fun e => h2.1 (by rw [e]; exact List.mem_map_of_mem hq))]
  exact h1 q (by simp [hq])
theorem fills_of {f : Mem → Option XR} (ha : ∀ M v M1 ws, f M = some (v, M1, ws) → XActs f M v M1 ws) : ∀ (l : List (Nat × AObj)) (M M1 : Mem) (v : AV) (ws : List Nat), f M = some (v, M1, ws) → Blanks M l → f (Go.Abs.fill M l) = some (v, Go.Abs.fill M1 l, ws)
  | [], M, M1, v, ws, h, _ => h
  | p :: l, M, M1, v, ws, h, hb => by
    obtain ⟨h1, h2⟩ := blanks_tail hb
    exact fills_of ha l (M.set p.1 p.2) (M1.set p.1 p.2) v ws ((ha _ _ _ _ h).fill p.1 p.2 h1) h2

def CallOK (C : Ctx) (call : CallF) : Prop := ∀ g args M v M1 ws, call g args M = some (v, M1, ws) → Invk C g args M (fun r m => r = v ∧ m = M1) ∧ XActs (call g args) M v M1 ws

/-! ### append -/
def srcOkB (P : Program) (u : TypeId) : Bool := match P.underlying u with | some (.slice _) | some .string => true | _ => false
def elemFacts (P : Program) (e : TypeId) : Option (Nat × Nat) := match P.info? e with
  | some i => match i.zero with
    | some z => if z.cells.size = i.size ∧ 0 < i.bytes then some (i.size, i.bytes) else none
    | none => none
  | none => none
theorem elemFacts_ok {P : Program} {e : TypeId} {sz bytes : Nat} (h : elemFacts P e = some (sz, bytes)) : elemOk P e sz bytes := by
  unfold elemFacts at h
  split at h
  · rename_i i hi
    split at h
    · rename_i z hz
      split at h
      · rename_i hc
        simp only [Option.some.injEq, Prod.mk.injEq] at h
        obtain ⟨rfl, rfl⟩ := h
        exact ⟨i, z, hi, hz, rfl, rfl, hc.1, hc.2⟩
      · simp at h
    · simp at h
  · simp at h
theorem srcOkB_ok {P : Program} {u : TypeId} (h : srcOkB P u = true) : srcOk P u := by
  unfold srcOkB at h
  split at h
  · rename_i e hu; exact .inl ⟨e, hu⟩
  · rename_i hu; exact .inr hu
  · simp at h
def xAppend (P : Program) (t u : TypeId) (s x : AV) (M : Mem) : Option XR := match elemOf? P t with
  | some e => match elemFacts P e with
    | some (sz, bytes) => match srcOkB P u, vecLike true s with
      | true, true => match appMem false true e sz bytes s x M with
        | some (v, M') => some (v, M', appWrites s)
        | none => none
      | _, _ => none
    | none => none
  | none => none
theorem xAppend_ok {C : Ctx} {t u : TypeId} {s x v : AV} {M M' : Mem} {ws : List Nat} (h : xAppend C.P t u s x M = some (v, M', ws)) :
    (∃ e sz bytes, appendOk C.P t u sz bytes e ∧ appMem false true e sz bytes s x M = some (v, M') ∧ Acts (appMem false true e sz bytes s x) M v M' ws) ∧ XActs (xAppend C.P t u s x) M v M' ws := by
  unfold xAppend at h
  split at h
  case h_2 => simp at h
  rename_i e he
  split at h
  case h_2 => simp at h
  rename_i sz bytes hf
  split at h
  case h_2 => simp at h
  rename_i hu hv
  split at h
  case h_2 => simp at h
  rename_i v1 M1 ha
  simp only [Option.some.injEq, Prod.mk.injEq] at h
  obtain ⟨rfl, rfl, rfl⟩ := h
  have hact := appMem_acts hv ha
  refine ⟨⟨e, sz, bytes, ⟨he, srcOkB_ok hu, elemFacts_ok hf⟩, ha, hact⟩, hact.x fun M2 M3 h2 => ?_⟩
  simp only [xAppend, he, hf, hu, hv, h2]

/-! ### one operation -/
def xOp (call : CallF) (C : Ctx) (o : Oper) (ρ : Operand → AV) (M : Mem) : Option XR :=
  match o.op with
  | .call { callee := .value f, args, .. } => match ρ f with
    | .func (.func g) first captured => call g (first ++ args.toList.map ρ ++ captured) M
    | _ => none
  | .call { callee := .builtin .append, args, argTypes } => match args.toList, argTypes.toList with
    | [s, x], [t, u] => match o.dst with
      | some _ => xAppend C.P t u (ρ s) (ρ x) M
      | none => none
    | _, _ => none
  | _ => match evalPure C HX o ρ with
    | some v => some (v, M, [])
    | none => match evalOp C HX o ρ M with
      | some (v, M') => some (v, M', writesOf o ρ)
      | none => none

theorem xOp_ok {call : CallF} {C : Ctx} (hc : CallOK C call) {o : Oper} {ρ : Operand → AV} {M M' : Mem} {v : AV} {ws : List Nat} (h : xOp call C o ρ M = some (v, M', ws)) :
    (∀ K : AV → Mem → Prop, K v M' → vcOp C HX o K ρ M) ∧ XActs (xOp call C o ρ) M v M' ws := by
  obtain ⟨d, op, t, p, af, g⟩ := o
  unfold xOp at h
  simp only at h
  split at h
  · rename_i f args ts
    split at h
    case h_2 => simp at h
    rename_i g' first captured hf
    obtain ⟨h1, h2⟩ := hc _ _ _ _ _ _ h
    refine ⟨fun K hk => ?_, ⟨h2.grow, h2.old, h2.keep, fun s X hs => by simp only [xOp, hf]; exact h2.fill s X hs⟩⟩
    simp only [vcOp, hf]
    refine h1.mono ?_
    rintro r m ⟨rfl, rfl⟩
    exact hk
  · rename_i args ts
    split at h
    case h_2 => simp at h
    rename_i s x t' u ha ht
    split at h
    case h_2 => simp at h
    rename_i d0
    obtain ⟨⟨e, sz, bytes, q1, q2, _⟩, q3⟩ := xAppend_ok h
    refine ⟨fun K hk => ?_, ⟨q3.grow, q3.old, q3.keep, fun s X hs => by simp only [xOp, ha, ht]; exact q3.fill s X hs⟩⟩
    simp only [vcOp, ha, ht]
    refine ⟨e, sz, bytes, q1, ?_⟩
    have : appMem (hintAt HX.own (some d0)) (hintAt HX.vec (some d0)) e sz bytes (ρ s) (ρ x) M = some (v, M') := q2
    rw [this]; exact hk
  · rename_i hne1 hne2
    have vc : ∀ v M', evalOp C HX ⟨d, op, t, p, af, g⟩ ρ M = some (v, M') → ∀ K : AV → Mem → Prop, K v M' → vcOp C HX ⟨d, op, t, p, af, g⟩ K ρ M := by
      intro v M' he K hk
      unfold vcOp
      split
      · rename_i heq; exact absurd heq (by intro e; exact hne1 _ _ _ e)
      · rename_i heq; exact absurd heq (by intro e; exact hne2 _ _ e)
      · rw [he]; exact hk
    have xo : ∀ M2, xOp call C ⟨d, op, t, p, af, g⟩ ρ M2 = (match evalPure C HX ⟨d, op, t, p, af, g⟩ ρ with
    | some v => some (v, M2, [])
    | none => match evalOp C HX ⟨d, op, t, p, af, g⟩ ρ M2 with
      | some (v, M') => some (v, M', writesOf ⟨d, op, t, p, af, g⟩ ρ)
      | none => none) := by
      intro M2
      unfold xOp
      split
      · rename_i heq; exact absurd heq (by intro e; exact hne1 _ _ _ e)
      · rename_i heq; exact absurd heq (by intro e; exact hne2 _ _ e)
      · rfl
    split at h
    · rename_i v1 hp
      simp only [Option.some.injEq, Prod.mk.injEq] at h
      obtain ⟨rfl, rfl, rfl⟩ := h
      exact ⟨vc _ _ (by simp only [evalOp, hp]), .same fun s X _ => by simp only [xo, hp]⟩
    · rename_i hp
      split at h
      · rename_i v1 M1 he
        simp only [Option.some.injEq, Prod.mk.injEq] at h
        obtain ⟨rfl, rfl, rfl⟩ := h
        exact ⟨vc _ _ he, (evalOp_acts he).x fun M2 M3 h2 => by simp only [xo, hp, h2]⟩
      · simp at h

/-! ### what is written -/
def memN : Nat → List Nat → Bool
  | _, [] => false
  | n, a :: l => match Nat.beq n a with
    | true => true
    | false => memN n l
theorem memN_iff {n : Nat} : ∀ {l : List Nat}, memN n l = true ↔ n ∈ l
  | [] => by simp [memN]
  | a :: l => by
    simp only [memN]
    split
    · rename_i h; simp [Nat.eq_of_beq_eq_true h]
    · rename_i h
      rw [memN_iff (l := l)]
      have : n ≠ a := by intro e; subst e; rw [Nat.beq_refl] at h; simp at h
      simp [this]
def wsAdd (base : Nat) : List Nat → List Nat → List Nat
  | [], ws => ws
  | b :: l, ws => match Nat.ble base b, memN b ws with
    | false, false => wsAdd base l (b :: ws)
    | _, _ => wsAdd base l ws
theorem wsAdd_old {base : Nat} : ∀ {l ws : List Nat} {i : Nat}, i < base → i ∉ wsAdd base l ws → i ∉ l ∧ i ∉ ws
  | [], ws, i, _, h => ⟨by simp, h⟩
  | b :: l, ws, i, hi, h => by
    simp only [wsAdd] at h
    split at h
    · have := wsAdd_old hi h
      simp only [List.mem_cons, not_or] at this ⊢
      exact ⟨⟨this.2.1, this.1⟩, this.2.2⟩
    · rename_i hne
      have := wsAdd_old hi h
      refine ⟨?_, this.2⟩
      simp only [List.mem_cons, not_or]
      refine ⟨?_, this.1⟩
      intro e
      subst e
      have h1 : Nat.ble base i = false := by
        cases hb : Nat.ble base i with
        | false => rfl
        | true => have := Nat.le_of_ble_eq_true hb; omega
      have h2 : memN i ws = false := by
        cases hm : memN i ws with
        | false => rfl
        | true => exact absurd (memN_iff.1 hm) this.2
      exact hne h1 h2
def Old (base : Nat) (ws : List Nat) (M0 M : Mem) : Prop := ∀ i, i < base → i ∉ ws → M[i]? = M0[i]?
theorem Old.add {base : Nat} {l ws : List Nat} {M0 M M1 : Mem} (h : Old base ws M0 M) (hb : base ≤ M.length) (hs : ∀ i, i < M.length → i ∉ l → M1[i]? = M[i]?) : Old base (wsAdd base l ws) M0 M1 := by
  intro i hi hn
  obtain ⟨h1, h2⟩ := wsAdd_old hi hn
  rw [hs i (by omega) h1, h i hi h2]

structure Goes {R : Type} (base : Nat) (f : Mem → Option R) (mk : Mem → R) (M M' : Mem) (ws ws' : List Nat) : Prop where
  grow : M.length ≤ M'.length
  keep : KeepsBlank M M'
  old : base ≤ M.length → ∀ M0, Old base ws M0 M → Old base ws' M0 M'
  fill : ∀ (s : Nat) (X : AObj), M[s]? = some blank → f (M.set s X) = some (mk (M'.set s X))
theorem Goes.same {R : Type} {base : Nat} {f : Mem → Option R} {mk : Mem → R} {M : Mem} {ws : List Nat} (h : ∀ (s : Nat) (X : AObj), M[s]? = some blank → f (M.set s X) = some (mk (M.set s X))) : Goes base f mk M M ws ws :=
  ⟨Nat.le_refl _, fun _ h => h, fun _ _ h => h, h⟩
/-- two steps, the second behind the first -/
theorem Goes.trans {R R2 : Type} {base : Nat} {f : Mem → Option R} {mk : Mem → R} {f2 : Mem → Option R2} {mk2 : Mem → R2} {f3 : Mem → Option R2} {M M1 M2 : Mem} {ws ws1 ws2 : List Nat} (h : Goes base f mk M M1 ws ws1) (k : Goes base f2 mk2 M1 M2 ws1 ws2)
    (hf : ∀ A B, f A = some (mk B) → f3 A = f2 B) : Goes base f3 mk2 M M2 ws ws2 :=
  ⟨Nat.le_trans h.grow k.grow, fun s hs => k.keep s (h.keep s hs), fun hb M0 h0 => k.old (Nat.le_trans hb h.grow) M0 (h.old hb M0 h0), fun s X hs => by rw [hf _ _ (h.fill s X hs)]; exact k.fill s X (h.keep s hs)⟩
theorem XActs.goes {R : Type} {base : Nat} {g : Mem → Option XR} {f : Mem → Option R} {mk : Mem → R} {M M1 : Mem} {v : AV} {l ws : List Nat} (h : XActs g M v M1 l) (hf : ∀ A B, g A = some (v, B, l) → f A = some (mk B)) : Goes base f mk M M1 ws (wsAdd base l ws) :=
  ⟨h.grow, h.keep, fun hb M0 h0 => h0.add hb h.old, fun s X hs => hf _ _ (h.fill s X hs)⟩
theorem Goes.turn {R R2 : Type} {base : Nat} {f : Mem → Option R} {mk : Mem → R} {f2 : Mem → Option R2} {mk2 : Mem → R2} {M M1 : Mem} {ws ws1 : List Nat} (h : Goes base f mk M M1 ws ws1) (hf : ∀ A B, f A = some (mk B) → f2 A = some (mk2 B)) : Goes base f2 mk2 M M1 ws ws1 :=
  ⟨h.grow, h.keep, h.old, fun s X hs => hf _ _ (h.fill s X hs)⟩

/-! ### regions -/
def xGuard (ops : Array Oper) (o : Oper) (t : BT) : Option Bool := match o.guard with
  | none => some true
  | some (j, want) => match (ops[j]?).bind (·.dst) with
    | some d => match t.get d with
      | .val (.bool b) => some (b == want)
      | .val (.tuple _) => some false
      | _ => none
    | none => none
theorem xGuard_ok {ops : Array Oper} {o : Oper} {t : BT} {b : Bool} (h : xGuard ops o t = some b) (run skip : Prop) : vcGuard ops o t.fn run skip = if b = true then run else skip := by
  unfold xGuard at h
  unfold vcGuard
  split at h
  · rename_i hg
    simp only [Option.some.injEq] at h
    subst h
    rw [hg]; simp
  · rename_i j want hg
    rw [hg]
    simp only
    split at h
    · rename_i d hd
      rw [hd]
      simp only [BT.fn]
      split at h
      · rename_i b' hb
        simp only [Option.some.injEq] at h
        subst h
        rw [hb]
        simp only [beq_iff_eq]
      · rename_i hb
        simp only [Option.some.injEq] at h
        subst h
        rw [hb]; simp
      · simp at h
    · simp at h

def xOps (call : CallF) (C : Ctx) (base : Nat) (ops : Array Oper) : List Oper → BT → Mem → List Nat → Option (BT × Mem × List Nat)
  | [], t, M, ws => some (t, M, ws)
  | o :: rest, t, M, ws => match xGuard ops o t with
    | some true => match xOp call C o (t.fn.ev C) M with
      | some (v, M', l) => match t.set o.dst v with
        | some t' => xOps call C base ops rest t' M' (wsAdd base l ws)
        | none => none
      | none => none
    | some false => match t.set o.dst (.val undef) with
      | some t' => xOps call C base ops rest t' M ws
      | none => none
    | none => none

theorem xOps_ok {call : CallF} {C : Ctx} (hc : CallOK C call) {base : Nat} {ops : Array Oper} : ∀ (l : List Oper) (t : BT) (M : Mem) (ws : List Nat) (t' : BT) (M' : Mem) (ws' : List Nat), xOps call C base ops l t M ws = some (t', M', ws') →
    vcOps C HX ops l (fun T m => T = t'.fn ∧ m = M') t.fn M ∧ Goes base (fun m => xOps call C base ops l t m ws) (fun m => (t', m, ws')) M M' ws ws'
  | [], t, M, ws, t', M', ws', h => by
    simp only [xOps, Option.some.injEq, Prod.mk.injEq] at h
    obtain ⟨rfl, rfl, rfl⟩ := h
    exact ⟨⟨rfl, rfl⟩, .same fun _ _ _ => rfl⟩
  | o :: rest, t, M, ws, t', M', ws', h => by
    simp only [xOps] at h
    simp only [vcOps]
    split at h
    · rename_i hgd
      split at h
      case h_2 => simp at h
      rename_i v M1 l2 ho
      split at h
      case h_2 => simp at h
      rename_i t1 ht
      obtain ⟨h1, h2⟩ := xOp_ok hc ho
      obtain ⟨h3, h4⟩ := xOps_ok hc rest t1 M1 (wsAdd base l2 ws) t' M' ws' h
      refine ⟨?_, (h2.goes (base := base) (ws := ws) (f := xOp call C o (t.fn.ev C)) (mk := fun B => (v, B, l2)) (fun A B e => e)).trans h4 (fun A B e => ?_)⟩
      · rw [xGuard_ok hgd, if_pos rfl]
        refine h1 _ ?_
        rw [← BT.set_fn ht]; exact h3
      · simp only [xOps, hgd, e, ht]
    · rename_i hgd
      split at h
      case h_2 => simp at h
      rename_i t1 ht
      obtain ⟨h3, h4⟩ := xOps_ok hc rest t1 M ws t' M' ws' h
      refine ⟨?_, h4.turn (fun A B e => by simp only [xOps, hgd, ht]; exact e)⟩
      rw [xGuard_ok hgd, if_neg (by simp), ← BT.set_fn ht]; exact h3
    · simp at h
end Go.Abs
end
section
/- The evaluator: regions whose order is open. -/
set_option linter.unusedVariables false
namespace Go.Abs

structure Foot where
  cls : Nat
  rob : Nat
  slot : Nat
  ws : List Nat
  len : Nat
def isAlloc (o : Oper) : Bool := match o.op with
  | .alloc _ => true
  | _ => false
def xDrawOp (call : CallF) (C : Ctx) (o : Oper) (ρ : Operand → AV) (M : Mem) (slot : Nat) : Option (Foot × AV × Mem) :=
  match o.op with
  | .call { callee := .value f, args, .. } => match ρ f with
    | .func (.func g) first captured => match call g (first ++ args.toList.map ρ ++ captured) M with
      | some (v, M', l) => some (⟨2, 0, 0, l, M.length⟩, v, M')
      | none => none
    | _ => none
  | .call { callee := .builtin .append, args, argTypes } => match args.toList, argTypes.toList with
    | [s, x], [t, u] => match o.dst with
      | some _ => match xAppend C.P t u (ρ s) (ρ x) M with
        | some (v, M', l) => some (⟨2, 0, 0, l, M.length⟩, v, M')
        | none => none
      | none => none
    | _, _ => none
  | .alloc e => match slotObj C.P e, M[slot]? with
    | some X, some (.vec 0 1 [] 0 []) => some (⟨4, 0, slot, [slot], M.length⟩, .vptr slot 1 0, M.set slot X)
    | _, _ => none
  | _ => match (evalPure C HX o ρ).or (evalPure1 C o ρ) with
    | some v => some (⟨0, 0, 0, [], 0⟩, v, M)
    | none => match readObj o ρ with
      | some r => match readAV C o ρ M with
        | some v => some (⟨1, r, 0, [], 0⟩, v, M)
        | none => none
      | none => match evalOp C HX o ρ M with
        | some (v, M') => some (⟨2, 0, 0, writesOf o ρ, M.length⟩, v, M')
        | none => none

theorem readAV_fill {C : Ctx} {o : Oper} {ρ : Operand → AV} {M : Mem} {v : AV} {s r : Nat} {X : AObj} (hs : M[s]? = some blank) (hr : readObj o ρ = some r) (h : readAV C o ρ M = some v) : readAV C o ρ (M.set s X) = some v := by
  obtain ⟨d, op, t, p, af, g⟩ := o
  unfold readAV at h
  simp only at h
  split at h
  · rename_i t' x
    simp only [readAV]
    unfold loadAV at h ⊢
    cases hm : memOf M (ρ x) with
    | none => rw [hm] at h; simp at h
    | some cs => rw [memOf_fill hs hm]; rw [hm] at h; exact h
  · simp only [readAV]
    exact lookupAV_fill hs h
  · rename_i args ts
    split at h
    case h_2 => simp at h
    rename_i x t' ha ht
    simp only [readAV, ha, ht]
    cases hl : lenAV C.P t' (ρ x) with
    | some n => rw [hl] at h; simp only [Option.some_or] at h ⊢; exact h
    | none =>
      rw [hl] at h
      simp only [Option.none_or] at h ⊢
      cases hm : lenMore C.P t' M (ρ x) with
      | none => rw [hm] at h; simp at h
      | some n => rw [lenMore_fill hs hm]; rw [hm] at h; exact h
  · simp at h

def isStore (o : Oper) : Bool := match o.op with
  | .store .. => true
  | _ => false
theorem storeObj_of {o : Oper} {ρ : Operand → AV} {r : Nat} (hs : isStore o = true) (hw : writesOf o ρ = [r]) : storeObj o ρ = some r := by
  obtain ⟨d, op, t, p, af, g⟩ := o
  cases op <;> first | (simp [isStore] at hs; done) | skip
  case store st a x =>
    simp only [writesOf] at hw
    simp only [storeObj]
    split at hw <;> simp_all
/-- what is known of one operation of such a region -/
structure DrawOK (C : Ctx) (o : Oper) (ρ : Operand → AV) (g : Mem → Option (Foot × AV × Mem)) (M : Mem) (f : Foot) (v : AV) (M' : Mem) (slot R : Nat) : Prop where
  run : ∀ K : AV → Mem → Prop, K v M' → dOp C HX true f.cls f.rob f.slot o ρ M K
  grow : M.length ≤ M'.length
  len : M' = M ∨ f.len = M.length
  old : ∀ i, i < M.length → i ∉ f.ws → M'[i]? = M[i]?
  keep : ∀ s, s < R → M[s]? = some blank → M'[s]? = some blank
  fill : ∀ (s : Nat) (X : AObj), s < R → M[s]? = some blank → g (M.set s X) = some (f, v, M'.set s X)
  slot : f.cls = 4 → f.slot = slot ∧ isAlloc o = true ∧ ∃ X, M' = M.set slot X
  run5 : ∀ r, isStore o = true → f.cls = 2 → f.ws = [r] → ∀ K : AV → Mem → Prop, K v M' → dOp C HX true 5 f.rob r o ρ M K
  no5 : f.cls ≠ 5

theorem xDrawOp_ok {call : CallF} {C : Ctx} (hc : CallOK C call) {o : Oper} {ρ : Operand → AV} {M M' : Mem} {v : AV} {f : Foot} {slot R : Nat} (hR : R ≤ slot) (h : xDrawOp call C o ρ M slot = some (f, v, M')) :
    DrawOK C o ρ (fun m => xDrawOp call C o ρ m slot) M f v M' slot R := by
  obtain ⟨d, op, t, p, af, g⟩ := o
  unfold xDrawOp at h
  simp only at h
  split at h
  · rename_i fo args ts
    split at h
    case h_2 => simp at h
    rename_i g' first captured hf
    split at h
    case h_2 => simp at h
    rename_i v1 M1 l1 hcall
    simp only [Option.some.injEq, Prod.mk.injEq] at h
    obtain ⟨rfl, rfl, rfl⟩ := h
    obtain ⟨h1, h2⟩ := hc _ _ _ _ _ _ hcall
    refine ⟨fun K hk => ?_, h2.grow, .inr rfl, h2.old, fun s _ => h2.keep s, fun s X _ hs => by simp only [xDrawOp, hf, h2.fill s X hs, List.length_set], fun e => by simp at e, fun r hs => by simp [isStore] at hs, by simp⟩
    simp only [dOp, hf]
    rw [if_neg (by simp)]
    exact ⟨v1, M1, by trivial, h1, fun _ => ⟨h2.keep, fun l hl => (hc _ _ _ _ _ _ (fills_of (f := call g' (first ++ args.toList.map ρ ++ captured)) (fun M v M1 ws h => (hc _ _ _ _ _ _ h).2) l M M1 v1 l1 hcall hl)).1⟩, hk⟩
  · rename_i args ts
    split at h
    case h_2 => simp at h
    rename_i s x t' u ha ht
    split at h
    case h_2 => simp at h
    rename_i d0
    split at h
    case h_2 => simp at h
    rename_i v1 M1 l1 happ
    simp only [Option.some.injEq, Prod.mk.injEq] at h
    obtain ⟨rfl, rfl, rfl⟩ := h
    obtain ⟨⟨e, sz, bytes, q1, q2, q4⟩, q3⟩ := xAppend_ok happ
    refine ⟨fun K hk => ?_, q3.grow, .inr rfl, q3.old, fun s _ => q3.keep s, fun s X _ hs => by simp only [xDrawOp, ha, ht, q3.fill s X hs, List.length_set], fun e => by simp at e, fun r hs => by simp [isStore] at hs, by simp⟩
    simp only [dOp, ha, ht]
    refine ⟨e, sz, bytes, q1, ?_, ?_⟩
    · trivial
    have q2' : appMem (hintAt HX.own (some d0)) (hintAt HX.vec (some d0)) e sz bytes (ρ s) (ρ x) M = some (v1, M1) := q2
    unfold resOK
    rw [q2']
    refine ⟨fun _ => ⟨q3.keep, fun l hl => ?_⟩, hk⟩
    have hv : vecLike true (ρ s) = true := by
      unfold xAppend at happ
      split at happ
      case h_2 => simp at happ
      split at happ
      case h_2 => simp at happ
      split at happ
      case h_2 => simp at happ
      rename_i hv; exact hv
    have gen : ∀ (l : List (Nat × AObj)) (M M1 : Mem) (v : AV), appMem false true e sz bytes (ρ s) (ρ x) M = some (v, M1) → Blanks M l → appMem false true e sz bytes (ρ s) (ρ x) (Go.Abs.fill M l) = some (v, Go.Abs.fill M1 l) := by
      intro l
      induction l with
      | nil => intro M M1 v h _; exact h
      | cons p l ih =>
        intro M M1 v h hb
        obtain ⟨b1, b2⟩ := blanks_tail hb
        exact ih (M.set p.1 p.2) (M1.set p.1 p.2) v ((appMem_acts hv h).fill p.1 p.2 b1) b2
    exact gen l M M1 v1 q2 hl
  · rename_i e
    split at h
    case h_2 => simp at h
    rename_i X hX hM
    simp only [Option.some.injEq, Prod.mk.injEq] at h
    obtain ⟨rfl, rfl, rfl⟩ := h
    have hM' : M[slot]? = some blank := hM
    refine ⟨fun K hk => ?_, by simp, .inr rfl, fun i _ hn => ?_, fun s hs hb => ?_, fun s Y hs hb => ?_, fun _ => ⟨rfl, rfl, X, rfl⟩, fun r hs => by simp [isStore] at hs, by simp⟩
    · simp only [dOp]
      rw [if_pos trivial]
      exact ⟨trivial, hM', by rw [hX]; exact hk⟩
    · rw [List.getElem?_set_ne (fun e => hn (by simp [e]))]
    · rw [List.getElem?_set_ne (by omega)]; exact hb
    · have : (M.set s Y)[slot]? = some (.vec 0 1 [] 0 []) := by rw [List.getElem?_set_ne (by omega)]; exact hM
      simp only [xDrawOp, hX, this, List.length_set]
      rw [List.set_comm _ _ (by omega)]
  · rename_i hne1 hne2 hne3
    have key : ∀ c r s M K, dOp C HX true c r s ⟨d, op, t, p, af, g⟩ ρ M K = (if c = 0 then onSome ((evalPure C HX ⟨d, op, t, p, af, g⟩ ρ).or (evalPure1 C ⟨d, op, t, p, af, g⟩ ρ)) (fun v => K v M) else if c = 1 then readObj ⟨d, op, t, p, af, g⟩ ρ = some r ∧ onSome (readAV C ⟨d, op, t, p, af, g⟩ ρ M) (fun v => K v M)
      else if c = 5 then storeObj ⟨d, op, t, p, af, g⟩ ρ = some s ∧ onSome (evalOp C HX ⟨d, op, t, p, af, g⟩ ρ M) (fun r => K r.1 r.2)
      else c = 2 ∧ resOK true (evalOp C HX ⟨d, op, t, p, af, g⟩ ρ) M K) := by
      intro c r s M K
      unfold dOp
      split
      · rename_i heq; exact absurd heq (by intro e; exact hne1 _ _ _ e)
      · rename_i heq; exact absurd heq (by intro e; exact hne2 _ _ e)
      · rename_i heq; exact absurd heq (by intro e; exact hne3 _ e)
      · rfl
    have xkey : ∀ M2, xDrawOp call C ⟨d, op, t, p, af, g⟩ ρ M2 slot = (match (evalPure C HX ⟨d, op, t, p, af, g⟩ ρ).or (evalPure1 C ⟨d, op, t, p, af, g⟩ ρ) with
    | some v => some (⟨0, 0, 0, [], 0⟩, v, M2)
    | none => match readObj ⟨d, op, t, p, af, g⟩ ρ with
      | some r => match readAV C ⟨d, op, t, p, af, g⟩ ρ M2 with
        | some v => some (⟨1, r, 0, [], 0⟩, v, M2)
        | none => none
      | none => match evalOp C HX ⟨d, op, t, p, af, g⟩ ρ M2 with
        | some (v, M') => some (⟨2, 0, 0, writesOf ⟨d, op, t, p, af, g⟩ ρ, M2.length⟩, v, M')
        | none => none) := by
      intro M2
      unfold xDrawOp
      split
      · rename_i heq; exact absurd heq (by intro e; exact hne1 _ _ _ e)
      · rename_i heq; exact absurd heq (by intro e; exact hne2 _ _ e)
      · rename_i heq; exact absurd heq (by intro e; exact hne3 _ e)
      · rfl
    split at h
    · rename_i v1 he
      simp only [Option.some.injEq, Prod.mk.injEq] at h
      obtain ⟨rfl, rfl, rfl⟩ := h
      exact ⟨fun K hk => by rw [key, if_pos rfl, he]; exact hk, Nat.le_refl _, .inl rfl, fun _ _ _ => rfl, fun _ _ h => h, fun s X _ _ => by simp only [xkey, he], fun e => by simp at e, fun r _ hc => by simp at hc, by simp⟩
    · rename_i hnone
      split at h
      · rename_i r hr
        split at h
        case h_2 => simp at h
        rename_i v1 hrd
        simp only [Option.some.injEq, Prod.mk.injEq] at h
        obtain ⟨rfl, rfl, rfl⟩ := h
        exact ⟨fun K hk => by rw [key, if_neg (by simp), if_pos rfl, hrd]; exact ⟨hr, hk⟩, Nat.le_refl _, .inl rfl, fun _ _ _ => rfl, fun _ _ h => h, fun s X _ hs => by simp only [xkey, hnone, hr, readAV_fill hs hr hrd], fun e => by simp at e, fun r _ hc => by simp at hc, by simp⟩
      · rename_i hno
        split at h
        case h_2 => simp at h
        rename_i v1 M1 he
        simp only [Option.some.injEq, Prod.mk.injEq] at h
        obtain ⟨rfl, rfl, rfl⟩ := h
        have ha := evalOp_acts he
        refine ⟨fun K hk => ?_, ha.grow, .inr rfl, ha.old, fun s _ => ha.keep s, fun s X _ hs => ?_, fun e => by simp at e, fun r hst _ hw K hk => by rw [key, if_neg (by simp), if_neg (by simp), if_pos rfl, he]; exact ⟨storeObj_of hst hw, hk⟩, by simp⟩
        · rw [key, if_neg (by simp), if_neg (by simp), if_neg (by simp)]
          refine ⟨rfl, ?_⟩
          unfold resOK
          rw [he]
          refine ⟨fun _ => ⟨ha.keep, fun l hl => ?_⟩, hk⟩
          have gen : ∀ (l : List (Nat × AObj)) (M M1 : Mem) (v : AV), evalOp C HX ⟨d, op, t, p, af, g⟩ ρ M = some (v, M1) → Blanks M l → evalOp C HX ⟨d, op, t, p, af, g⟩ ρ (Go.Abs.fill M l) = some (v, Go.Abs.fill M1 l) := by
            intro l
            induction l with
            | nil => intro M M1 v h _; exact h
            | cons p l ih =>
              intro M M1 v h hb
              obtain ⟨b1, b2⟩ := blanks_tail hb
              exact ih (M.set p.1 p.2) (M1.set p.1 p.2) v ((evalOp_acts h).fill p.1 p.2 b1) b2
          exact gen l M M1 v1 he hl
        · simp only [xkey, hnone]
          simp only [hno, ha.fill s X hs, List.length_set]
end Go.Abs
end
