/- A region whose order is open: what is known of one operation, wherever it comes in the order. -/
import Derived.Test.YtiipcnbedgamdaaGreatDoorVG10
import Derived.Orders
set_option linter.unusedVariables false
namespace Go.Abs

/-- a look at a mutable object -/
def readAV (C : Ctx) (o : Oper) (ρ : Operand → AV) (M : Mem) : Option AV :=
  match o.op with
  | .load t x => loadAV C.P t M (ρ x)
  | .lookup t m k ok => lookupAV C.P t M (ρ m) (ρ k) ok
  | .call { callee := .builtin .len, args, argTypes } => match args.toList, argTypes.toList with
    | [x], [t] => ((lenAV C.P t (ρ x)).or (lenMore C.P t M (ρ x))).map fun (n : Nat) => AV.val (.int .i64 n)
    | _, _ => none
  | _ => none

/-- the object that it looks at -/
def readObj (o : Oper) (ρ : Operand → AV) : Option Nat := match o.op with
  | .load _ x => match ρ x with | .ptr b _ => some b | .vptr f _ _ => some f | _ => none
  | .lookup _ m _ _ => match ρ m with | .mapr b => some b | _ => none
  | .call { callee := .builtin .len, args, .. } => match args.toList with
    | [x] => match ρ x with | .mapr b => some b | _ => none
    | _ => none
  | _ => none

/-- a reserved place: an array that has had no time yet -/
def blank : AObj := .vec 0 1 [] 0 []
def fill (M : Mem) (l : List (Nat × AObj)) : Mem := l.foldl (fun M p => M.set p.1 p.2) M
def Blanks (M : Mem) (l : List (Nat × AObj)) : Prop := (∀ p ∈ l, M[p.1]? = some blank) ∧ (l.map (·.1)).Nodup
def KeepsBlank (M M' : Mem) : Prop := ∀ s : Nat, M[s]? = some blank → M'[s]? = some blank
/-- what is done does not lean on the blanks -/
def Fills (f : Mem → Option (AV × Mem)) (M : Mem) (v : AV) (M1 : Mem) : Prop := KeepsBlank M M1 ∧ ∀ l, Blanks M l → f (fill M l) = some (v, fill M1 l)
def FillsC (C : Ctx) (g : FuncId) (args : List AV) (M : Mem) (v : AV) (M1 : Mem) : Prop := KeepsBlank M M1 ∧ ∀ l, Blanks M l → Invk C g args (fill M l) (fun r m => r = v ∧ m = fill M1 l)
def resOK (fl : Bool) (f : Mem → Option (AV × Mem)) (M : Mem) (K : AV → Mem → Prop) : Prop := match f M with
  | some (v, M1) => (fl = true → Fills f M v M1) ∧ K v M1
  | none => False
/-- the variable that an alloc at a reserved place makes -/
def slotObj (P : Program) (e : TypeId) : Option AObj := match zeroCells? P e with
  | some z => if z.all (·.oneCell') then some (.vec e z.length (z.map .val) 1 [(1, 1)]) else none
  | none => none

/-- the object that a store turns -/
def storeObj (o : Oper) (ρ : Operand → AV) : Option Nat := match o.op with
  | .store _ a _ => match ρ a with | .ptr b _ => some b | .vptr f _ _ => some f | _ => none
  | _ => none
theorem evalOp_store {C : Ctx} {h : Hint} {d : Option Tmp} {st : TypeId} {a x : Operand} {t : TypeId} {p : String} {af : Array Edge} {g : Option (Nat × Bool)} {ρ : Operand → AV} {M : Mem} :
    evalOp C h ⟨d, .store st a x, t, p, af, g⟩ ρ M = evalMem C h ⟨d, .store st a x, t, p, af, g⟩ ρ M := by
  simp only [evalOp, evalPure, evalMore, evalPure1, evalX]
  cases evalMem C h ⟨d, .store st a x, t, p, af, g⟩ ρ M <;> rfl
/-- a store leans on its own object alone -/
theorem store_local {C : Ctx} {h : Hint} {o : Oper} {ρ : Operand → AV} {M M1 : Mem} {v : AV} {s : Nat} (hs : storeObj o ρ = some s) (he : evalOp C h o ρ M = some (v, M1)) :
    ∃ X, M1 = M.set s X ∧ s < M.length ∧ ∀ M2 : Mem, M2[s]? = M[s]? → evalOp C h o ρ M2 = some (v, M2.set s X) := by
  obtain ⟨d, op, t, p, af, g⟩ := o
  cases op <;> first | (simp [storeObj] at hs; done) | skip
  case store st a x =>
    simp only [evalOp_store] at he ⊢
    simp only [storeObj] at hs
    split at hs
    · rename_i b off ha
      simp only [Option.some.injEq] at hs
      subst hs
      simp only [evalMem, ha] at he ⊢
      split at he
      case h_2 => simp at he
      rename_i bt cs hM
      split at he
      case isFalse => simp at he
      rename_i hc
      simp only [Option.some.injEq, Prod.mk.injEq] at he
      obtain ⟨rfl, rfl⟩ := he
      refine ⟨_, rfl, getElem?_lt hM, fun M2 h2 => ?_⟩
      rw [h2, hM]
      simp only [if_pos hc]
    · rename_i f gg off ha
      simp only [Option.some.injEq] at hs
      subst hs
      simp only [evalMem, ha] at he ⊢
      split at he
      case h_2 => simp at he
      rename_i vt sz cs g' hist hM
      split at he
      case h_2 => simp at he
      rename_i n hn
      split at he
      case isFalse => simp at he
      rename_i hc
      simp only [Option.some.injEq, Prod.mk.injEq] at he
      obtain ⟨rfl, rfl⟩ := he
      refine ⟨_, rfl, getElem?_lt hM, fun M2 h2 => ?_⟩
      rw [h2, hM]
      simp only [hn, if_pos hc]
    · simp at hs
/-- what an operation does, in the order of the text; cls: 0 no mutable object is looked at, 1 one is looked at (rob), 2 whatever, 4 a variable is made at a reserved place (slot) -/
def dOp (C : Ctx) (h : Hint) (fl : Bool) (cls rob slot : Nat) (o : Oper) (ρ : Operand → AV) (M : Mem) (K : AV → Mem → Prop) : Prop :=
  match o.op with
  | .call { callee := .value f, args, .. } => match ρ f with
    | .func (.func g) first captured =>
        if cls = 0 then ∃ r, (∀ M, Invk C g (first ++ args.toList.map ρ ++ captured) M (fun v M' => v = r ∧ M' = M)) ∧ K r M
        else ∃ r M1, cls = 2 ∧ Invk C g (first ++ args.toList.map ρ ++ captured) M (fun v M' => v = r ∧ M' = M1) ∧ (fl = true → FillsC C g (first ++ args.toList.map ρ ++ captured) M r M1) ∧ K r M1
    | _ => False
  | .call { callee := .builtin .append, args, argTypes } => match args.toList, argTypes.toList with
    | [s, x], [t, u] => ∃ e sz bytes, appendOk C.P t u sz bytes e ∧ cls = 2 ∧ resOK fl (appMem (hintAt h.own o.dst) (hintAt h.vec o.dst) e sz bytes (ρ s) (ρ x)) M K
    | _, _ => False
  | .alloc e => if cls = 4 then fl = true ∧ M[slot]? = some blank ∧ onSome (slotObj C.P e) (fun X => K (.vptr slot 1 0) (M.set slot X)) else cls = 2 ∧ resOK fl (evalOp C h o ρ) M K
  | _ => if cls = 0 then onSome ((evalPure C h o ρ).or (evalPure1 C o ρ)) (fun v => K v M) else if cls = 1 then readObj o ρ = some rob ∧ onSome (readAV C o ρ M) (fun v => K v M)
      else if cls = 5 then storeObj o ρ = some slot ∧ onSome (evalOp C h o ρ M) (fun r => K r.1 r.2)
      else cls = 2 ∧ resOK fl (evalOp C h o ρ) M K

structure Plan where
  cls : Nat → Nat
  rob : Nat → Nat := fun _ => 0
  slot : Nat → Nat := fun _ => 0
  /-- may the operation j turn what the look i looks at -/
  aff : Nat → Nat → Bool := fun _ _ => true
  fl : Bool := false

/-- no look that does not heed the k-th operation is turned by it -/
def Quiet (L : Plan) (k : Nat) (M M' : Mem) : Prop := ∀ i, L.cls i = 1 → L.aff i k = false → M'[L.rob i]? = M[L.rob i]?
def drawRun (C : Ctx) (h : Hint) (ops : Array Oper) (L : Plan) : Nat → List Oper → Env → Mem → (Env → Mem → Prop) → Prop
  | _, [], T, M, K => K T M
  | k, o :: rest, T, M, K => vcGuard ops o T (dOp C h L.fl (L.cls k) (L.rob k) (L.slot k) o (T.ev C) M (fun v M' => Quiet L k M M' ∧ drawRun C h ops L (k + 1) rest (T.put o.dst v) M' K)) (drawRun C h ops L (k + 1) rest (T.put o.dst (.val undef)) M K)

/-- what it does to the memory -/
inductive Eff where
  | none
  | put (s : Nat) (X : AObj)
  | mem (M : Mem)
def Eff.app : Eff → Mem → Mem
  | .none, M => M
  | .put s X, M => M.set s X
  | .mem M1, _ => M1
def Eff.appF (l : List (Nat × AObj)) : Eff → Mem → Mem
  | .none, M => M
  | .put s X, M => M.set s X
  | .mem M1, _ => fill M1 l
def Eff.ok (fl : Bool) (cls slot : Nat) (M : Mem) : Eff → Prop
  | .none => True
  | .put s X => (cls = 4 ∨ cls = 5) ∧ s = slot ∧ slot < M.length
  | .mem M1 => cls = 2 ∧ (fl = true → KeepsBlank M M1)
/-- is the memory M2, at which it is done, what it may be, M being the memory in the order of the text -/
def Agrees (fl : Bool) (cls rob slot : Nat) (M M2 : Mem) (l : List (Nat × AObj)) : Prop :=
  (cls = 1 → M2[rob]? = M[rob]?) ∧ (cls = 2 → M2 = fill M l ∧ Blanks M l ∧ (fl = false → l = [])) ∧ (cls = 4 → M2[slot]? = some blank) ∧ (cls = 5 → M2[slot]? = M[slot]?)

/-- what is known of one operation: from every state that agrees where it looks -/
def ObSem (C : Ctx) (N : Nat) (ops : Array Oper) (fl : Bool) (cls rob slot : Nat) (o : Oper) (v : AV) (T : Env) (M : Mem) (eff : Eff) : Prop :=
  eff.ok fl cls slot M ∧ ∀ T2 M2 l, (∀ s ∈ o.looksAt ops, T2 s = T s) → Agrees fl cls rob slot M M2 l → ∀ G w a, Inv C G M2 w → RepEnv G N T2 a → ∀ (next : Act → World → Prop) (Q : Exit → Act → World → Prop),
    (∀ G' w' x, G.le G' → Inv C G' (eff.appF l M2) w' → Rep G' v x → Ext w w' → next (a.put o.dst x) w') →
    if Region.wanted o (yielded ops a.tmps) then o.wp C.P a w next Q ∨ (o.asks C.P a w ∧ LetsOut Q) else next (a.put o.dst undef) w

theorem readAV_same {C : Ctx} {o : Oper} {ρ : Operand → AV} {A B : Mem} (h : ∀ r, readObj o ρ = some r → A[r]? = B[r]?) : readAV C o ρ A = readAV C o ρ B := by
  obtain ⟨d, op, t, p, af, g⟩ := o
  cases op <;> try rfl
  case load t x =>
    simp only [readAV, loadAV]
    simp only [readObj] at h
    have e : memOf A (ρ x) = memOf B (ρ x) := by
      cases hx : ρ x with
      | ptr b off => rw [hx] at h; simp only [memOf]; rw [h b rfl]
      | vptr f g off => rw [hx] at h; simp only [memOf]; rw [h f rfl]
      | _ => rfl
    rw [e]
  case lookup t m k ok =>
    simp only [readAV, lookupAV]
    have e : entriesOf A (ρ m) = entriesOf B (ρ m) := by
      unfold entriesOf
      simp only [readObj] at h
      split
      · rfl
      · rename_i b hb; rw [hb] at h; simp only at h; rw [h b rfl]
      · rfl
    rw [e]
  case call c =>
    obtain ⟨callee, args, ts⟩ := c
    cases callee with
    | builtin b =>
      cases b <;> try rfl
      simp only [readAV]
      simp only [readObj] at h
      split
      · rename_i x t' ha ht
        rw [ha] at h
        simp only at h
        have e : lenMore C.P t' A (ρ x) = lenMore C.P t' B (ρ x) := by
          unfold lenMore
          split
          · rename_i b hb; rw [hb] at h; simp only at h; rw [h b rfl]
          · rfl
        rw [e]
      · rfl
    | _ => rfl
theorem vcOp_read {C : Ctx} {h : Hint} {o : Oper} {ρ : Operand → AV} {M : Mem} {v : AV} (hr : readAV C o ρ M = some v) {K : AV → Mem → Prop} (hk : K v M) : vcOp C h o K ρ M := by
  obtain ⟨d, op, t, p, af, g⟩ := o
  unfold readAV at hr
  simp only at hr
  split at hr
  · rw [vcOp_load, hr]; exact hk
  · rw [vcOp_lookup, hr]; exact hk
  · rename_i args ts
    split at hr
    · rename_i x t' ha ht
      have hargs : args = #[x] := by apply Array.ext'; simpa using ha
      have hts : ts = #[t'] := by apply Array.ext'; simpa using ht
      subst hargs; subst hts
      simp only [Option.map_eq_some_iff] at hr
      obtain ⟨n, hn, rfl⟩ := hr
      rw [vcOp_len, hn]; exact hk
    · simp at hr
  · simp at hr

theorem ev_congr {C : Ctx} {ops : Array Oper} {T T2 : Env} {o : Oper} (h : ∀ s ∈ o.looksAt ops, T2 s = T s) : ∀ x ∈ o.op.operands.toList, T2.ev C x = T.ev C x := by
  intro x hx
  cases x with
  | tmp t =>
    simp only [Env.ev]
    refine h t ?_
    unfold Oper.looksAt
    exact List.mem_append_left _ (List.mem_filterMap.2 ⟨.tmp t, by simpa using hx, rfl⟩)
  | _ => rfl

theorem guard_congr {ops : Array Oper} {T T2 : Env} {o : Oper} (h : ∀ s ∈ o.looksAt ops, T2 s = T s) (run skip : Prop) : vcGuard ops o T2 run skip = vcGuard ops o T run skip := by
  unfold vcGuard
  split
  · rfl
  · rename_i j want hg
    split
    · rename_i d hd
      have : T2 d = T d := h d (by unfold Oper.looksAt; rw [hg]; simp only [hd]; simp)
      rw [this]
    · rfl

theorem args_congr {ρ ρ' : Operand → AV} {l : List Operand} (h : ∀ x ∈ l, ρ' x = ρ x) : l.map ρ' = l.map ρ := List.map_congr_left h

/-- pure operations look at their operands alone -/
theorem evalPure_congr {C : Ctx} {hn : Hint} {o : Oper} {ρ ρ' : Operand → AV} (h : ∀ x ∈ o.op.operands.toList, ρ' x = ρ x) : evalPure C hn o ρ' = evalPure C hn o ρ := by
  obtain ⟨dst, op, type, pos, after, guard⟩ := o
  simp only at h
  cases op <;> simp only [Op.operands] at h
  case call c =>
    obtain ⟨callee, args, ts⟩ := c
    cases callee <;> try rfl
    simp only [Call.operands] at h
    simp only [evalPure]
    rw [args_congr (l := args.toList) (fun x hx => h x (by simpa using hx))]
  case build t ps =>
    have e : (ps.toList.map fun p => (p.1, ρ' p.2)) = ps.toList.map fun p => (p.1, ρ p.2) := List.map_congr_left fun p hp => by rw [h p.2 (by simp; exact ⟨p.1, by simpa using hp⟩)]
    simp only [evalPure, e]
  case buildSlice t n ps =>
    have e : (ps.toList.map fun p => (p.1, ρ' p.2)) = ps.toList.map fun p => (p.1, ρ p.2) := List.map_congr_left fun p hp => by rw [h p.2 (by simp; exact ⟨p.1, by simpa using hp⟩)]
    simp only [evalPure, e]
  case makeFunc fn f c =>
    simp only [evalPure]
    rw [args_congr (l := f.toList) (fun x hx => h x (by simp; simp at hx; simp [hx])), args_congr (l := c.toList) (fun x hx => h x (by simp; simp at hx; simp [hx]))]
  case slice t x lo hi mx =>
    have e : ∀ (y : Option Operand), (∀ q, y = some q → ρ' q = ρ q) → y.map ρ' = y.map ρ := fun y hy => by cases y with | none => rfl | some q => simp [hy q rfl]
    simp only [evalPure]
    rw [h x (by simp), e lo (fun q hq => h q (by simp [hq])), e hi (fun q hq => h q (by simp [hq])), e mx (fun q hq => h q (by simp [hq]))]
  case unOp op t x =>
    cases op <;> first | rfl | (simp only [evalPure]; rw [h x (by simp)])
  case move x => simp only [evalPure]; rw [h x (by simp)]
  case assign x => simp only [evalPure]; rw [h x (by simp)]
  case pick c a b => simp only [evalPure]; rw [h c (by simp), h a (by simp), h b (by simp)]
  case box e x => simp only [evalPure]; rw [h x (by simp)]
  case nilCheck x => simp only [evalPure]; rw [h x (by simp)]
  case binOp op t x y u => simp only [evalPure]; rw [h x (by simp), h y (by simp)]
  case fieldAddr t x f => simp only [evalPure]; rw [h x (by simp)]
  case field t x f => simp only [evalPure]; rw [h x (by simp)]
  case indexAddr t x i => simp only [evalPure]; rw [h x (by simp), h i (by simp)]
  case index t x i => simp only [evalPure]; rw [h x (by simp), h i (by simp)]
  case load t x => simp only [evalPure]; rw [h x (by simp)]
  case extract x i => simp only [evalPure]; rw [h x (by simp)]
  case convert a b x => simp only [evalPure]; rw [h x (by simp)]
  all_goals rfl

theorem evalMem_congr {C : Ctx} {hn : Hint} {o : Oper} {ρ ρ' : Operand → AV} {M : Mem} (h : ∀ x ∈ o.op.operands.toList, ρ' x = ρ x) : evalMem C hn o ρ' M = evalMem C hn o ρ M := by
  obtain ⟨dst, op, type, pos, after, guard⟩ := o
  simp only at h
  cases op <;> simp only [Op.operands] at h
  case load t x => simp only [evalMem]; rw [h x (by simp)]
  case store t a x => simp only [evalMem]; rw [h a (by simp), h x (by simp)]
  case box e x => simp only [evalMem]; rw [h x (by simp)]
  all_goals rfl

theorem evalMore_congr {C : Ctx} {hn : Hint} {o : Oper} {ρ ρ' : Operand → AV} {M : Mem} (h : ∀ x ∈ o.op.operands.toList, ρ' x = ρ x) : evalMore C hn o ρ' M = evalMore C hn o ρ M := by
  obtain ⟨dst, op, type, pos, after, guard⟩ := o
  simp only at h
  cases op <;> simp only [Op.operands] at h
  case buildSlice t n ps =>
    simp only [evalMore]
    have : (ps.toList.map fun p => (p.1, ρ' p.2)) = (ps.toList.map fun p => (p.1, ρ p.2)) := List.map_congr_left fun p hp => by rw [h p.2 (by simp; exact ⟨_, by simpa using hp⟩)]
    rw [this]
  case makeSlice t l c => simp only [evalMore]; rw [h l (by simp), h c (by simp)]
  case lookup t m k ok => simp only [evalMore]; rw [h m (by simp), h k (by simp)]
  case mapUpdate t m k x => simp only [evalMore]; rw [h m (by simp), h k (by simp), h x (by simp)]
  case insert t m k x => simp only [evalMore]; rw [h m (by simp), h k (by simp), h x (by simp)]
  case call c =>
    obtain ⟨callee, args, ts⟩ := c
    cases callee with
    | builtin b =>
      simp only [evalMore]
      have : args.toList.map ρ' = args.toList.map ρ := List.map_congr_left fun x hx => h x (by simp [Call.operands]; simpa using hx)
      rw [this]
    | _ => rfl
  case makeMap t r => cases r <;> rfl
  all_goals rfl

theorem evalPure1_congr {C : Ctx} {o : Oper} {ρ ρ' : Operand → AV} (h : ∀ x ∈ o.op.operands.toList, ρ' x = ρ x) : evalPure1 C o ρ' = evalPure1 C o ρ := by
  obtain ⟨dst, op, type, pos, after, guard⟩ := o
  simp only at h
  cases op <;> simp only [Op.operands] at h
  case indexAddr t x i => simp only [evalPure1]; rw [h x (by simp), h i (by simp)]
  case index t x i => simp only [evalPure1]; rw [h x (by simp), h i (by simp)]
  case build t ps =>
    have e : (ps.toList.map fun p => (p.1, ρ' p.2)) = ps.toList.map fun p => (p.1, ρ p.2) := List.map_congr_left fun p hp => by rw [h p.2 (by simp; exact ⟨p.1, by simpa using hp⟩)]
    simp only [evalPure1, e]
  case binOp op t x y u => cases op <;> first | rfl | (simp only [evalPure1]; rw [h x (by simp), h y (by simp)])
  case unOp op t x => cases op <;> first | rfl | (simp only [evalPure1]; rw [h x (by simp)])
  case convert a b x => simp only [evalPure1]; rw [h x (by simp)]
  all_goals rfl
theorem evalX_congr {C : Ctx} {o : Oper} {ρ ρ' : Operand → AV} {M : Mem} (h : ∀ x ∈ o.op.operands.toList, ρ' x = ρ x) : evalX C o ρ' M = evalX C o ρ M := by
  obtain ⟨dst, op, type, pos, after, guard⟩ := o
  simp only at h
  cases op <;> simp only [Op.operands] at h
  case range t x => simp only [evalX]; rw [h x (by simp)]
  case next x b => cases b <;> first | rfl | (simp only [evalX]; rw [h x (by simp)])
  case slice t x lo hi mx =>
    have e : ∀ (y : Option Operand), (∀ q, y = some q → ρ' q = ρ q) → y.map ρ' = y.map ρ := fun y hy => by cases y with | none => rfl | some q => simp [hy q rfl]
    simp only [evalX]
    rw [h x (by simp), e lo (fun q hq => h q (by simp [hq])), e hi (fun q hq => h q (by simp [hq])), e mx (fun q hq => h q (by simp [hq]))]
  case convert a b x => simp only [evalX]; rw [h x (by simp)]
  case call c =>
    obtain ⟨callee, args, ts⟩ := c
    cases callee with
    | builtin b =>
      simp only [evalX]
      have : args.toList.map ρ' = args.toList.map ρ := List.map_congr_left fun x hx => h x (by simp [Call.operands]; simpa using hx)
      rw [this]
    | _ => rfl
  all_goals rfl
theorem evalOp_congr {C : Ctx} {hn : Hint} {o : Oper} {ρ ρ' : Operand → AV} {M : Mem} (h : ∀ x ∈ o.op.operands.toList, ρ' x = ρ x) : evalOp C hn o ρ' M = evalOp C hn o ρ M := by
  simp only [evalOp, evalPure_congr h, evalMem_congr h, evalMore_congr h, evalPure1_congr h, evalX_congr h]

theorem readAV_congr {C : Ctx} {o : Oper} {ρ ρ' : Operand → AV} {M : Mem} (h : ∀ x ∈ o.op.operands.toList, ρ' x = ρ x) : readAV C o ρ' M = readAV C o ρ M := by
  obtain ⟨dst, op, type, pos, after, guard⟩ := o
  simp only at h
  cases op <;> simp only [Op.operands] at h
  case load t x => simp only [readAV]; rw [h x (by simp)]
  case lookup t m k ok => simp only [readAV]; rw [h m (by simp), h k (by simp)]
  case call c =>
    obtain ⟨callee, args, ts⟩ := c
    cases callee with
    | builtin b =>
      cases b <;> first | rfl | skip
      simp only [readAV]
      cases ha : args.toList with
      | nil => rfl
      | cons x l =>
        cases l with
        | cons _ _ => rfl
        | nil =>
          cases ht : ts.toList with
          | nil => rfl
          | cons t l2 =>
            cases l2 with
            | cons _ _ => rfl
            | nil =>
              simp only
              have hx : x ∈ args.toList := by rw [ha]; simp
              rw [h x (by simp [Call.operands]; simpa using hx)]
    | _ => rfl
  all_goals rfl

theorem readObj_congr {o : Oper} {ρ ρ' : Operand → AV} (h : ∀ x ∈ o.op.operands.toList, ρ' x = ρ x) : readObj o ρ' = readObj o ρ := by
  obtain ⟨dst, op, type, pos, after, guard⟩ := o
  simp only at h
  cases op <;> simp only [Op.operands] at h
  case load t x => simp only [readObj]; rw [h x (by simp)]
  case lookup t m k ok => simp only [readObj]; rw [h m (by simp)]
  case call c =>
    obtain ⟨callee, args, ts⟩ := c
    cases callee with
    | builtin b =>
      cases b <;> first | rfl | skip
      simp only [readObj]
      cases ha : args.toList with
      | nil => rfl
      | cons x l =>
        cases l with
        | cons _ _ => rfl
        | nil =>
          simp only
          have hx : x ∈ args.toList := by rw [ha]; simp
          rw [h x (by simp [Call.operands]; simpa using hx)]
    | _ => rfl
  all_goals rfl

/-- a variable made at a reserved place -/
theorem slot_alloc {C : Ctx} {G : Ghost} {M : Mem} {w : World} (hi : Inv C G M w) {s : Nat} (hM : M[s]? = some blank) {vs : Array Value} {cs : List AV} (t : TypeId) (hr : RepL G cs vs.toList) (hone : ∀ v ∈ vs.toList, v.oneCell' = true) :
    ∃ G', G.le G' ∧ Inv C G' (M.set s (.vec t cs.length cs 1 [(1, 1)])) (w.alloc (.cells vs t)) ∧ Rep G' (.vptr s 1 0) (.pointer (some ⟨w.heap.size, 0, none⟩)) := by
  obtain ⟨p0, _, _⟩ := hi.obj s _ hM
  have hle := Ghost.le_time (G := G) (f := s) (n := 1) (h := (some (⟨w.heap.size, 0, none⟩ : Addr), 1)) (by omega)
  have hfresh : ∀ i, G.st w.heap.size i = none := by
    intro i
    cases e : G.st w.heap.size i with
    | none => rfl
    | some v => have := World.block_lt_of_cell? w ⟨w.heap.size, i, none⟩ (hi.st _ _ _ e); simp at this
  have hkeep : G.keep w.heap.size = none := by
    cases e : G.keep w.heap.size with
    | none => rfl
    | some o => have := heap_lt (hi.keep _ _ e); omega
  have hclen : cs.length = vs.size := by rw [← hr.length]; simp
  refine ⟨_, hle, hi.step (G' := G.grow s 1 (some ⟨w.heap.size, 0, none⟩, 1) 0 0 []) (w' := w.alloc (.cells vs t)) (o' := .vec t cs.length cs 1 [(1, 1)]) s w.heap.size hM (.inr (Nat.le_refl _)) hle rfl (fun _ => rfl) (fun j hj => by simp [Ghost.grow, hj])
    (fun b i v hv => by rw [Ghost.time_st] at hv; exact .inl hv) (fun _ => rfl) (fun b hb _ => heap_alloc_lt w _ b hb) (fun i v hv => by rw [hfresh i] at hv; simp at hv) (fun o ho => by rw [hkeep] at ho; simp at ho)
    ⟨by simp [Ghost.grow], fun h1 n1 hm => ?_, fun h1 n1 h2 n2 a1 a2 c1' c2' m1 m2 e1 e2 e3 => ?_⟩ (fun b1 ⟨h1, n1, a1, hm, e1, e2⟩ => ?_), ?_⟩
  · simp only [List.mem_singleton, Prod.mk.injEq] at hm
    obtain ⟨rfl, rfl⟩ := hm
    refine ⟨by simp [Ghost.grow], by omega, w.heap.size, 0, 1, vs, Ghost.time_hdr _ _ _ _, Nat.le_refl _, by decide, heap_alloc_new w _, by omega, ?_, ?_, fun i => by rw [Ghost.time_st]; exact hfresh i, hkeep⟩
    · rw [List.drop_zero, Nat.one_mul, List.take_of_length_le (Nat.le_refl _), List.take_of_length_le (by simp [hclen])]
      exact RepL.mono hle _ _ hr
    · intro v hv
      rw [List.drop_zero] at hv
      exact hone v (List.mem_of_mem_take hv)
  · simp only [List.mem_singleton, Prod.mk.injEq] at m1 m2
    obtain ⟨rfl, rfl⟩ := m1
    obtain ⟨rfl, rfl⟩ := m2
    rw [e1] at e2
    simp only [Prod.mk.injEq, Option.some.injEq] at e2
    exact e2.1
  · simp only [List.mem_singleton, Prod.mk.injEq] at hm
    obtain ⟨rfl, rfl⟩ := hm
    rw [Ghost.time_hdr] at e1
    simp only [Option.some.injEq] at e1
    subst e1
    exact .inl e2.symm
  · simp only [Rep]
    exact ⟨by rw [show (G.grow s 1 (some ⟨w.heap.size, 0, none⟩, 1) 0 0 []).n = G.n from rfl, hi.n]; exact getElem?_lt hM, by simp [Ghost.grow], ⟨w.heap.size, 0, none⟩, 1, Ghost.time_hdr _ _ _ _, by simp⟩

/-- an alloc at a reserved place -/
theorem slotObj_gives {C : Ctx} {G : Ghost} {M : Mem} {w : World} (hi : Inv C G M w) {e : TypeId} {X : AObj} (hX : slotObj C.P e = some X) {slot : Nat} (hM : M[slot]? = some blank) {o : Oper} (ho : o.op = .alloc e) (a : Act) :
    OpGives C G w o a (fun v m => v = .vptr slot 1 0 ∧ m = M.set slot X) := by
  unfold slotObj at hX
  split at hX
  case h_2 => simp at hX
  rename_i z hz
  split at hX
  case isFalse => simp at hX
  rename_i hall
  simp only [Option.some.injEq] at hX
  subst hX
  obtain ⟨zv, hv, hvc, hvr⟩ := zero_rep (P := C.P) hz G w
  have hlen : (z.map AV.val).length = z.length := by simp
  obtain ⟨G', h1, h2, h3⟩ := slot_alloc hi hM (vs := zv.cells) e (by rw [hvc]; exact hvr) (fun y hy => by rw [hvc] at hy; exact List.all_eq_true.1 hall y hy)
  intro next Q hK
  obtain ⟨dst, op, type, pos, after, guard⟩ := o
  simp only at ho
  subst ho
  have hrun : (execOp a.eval ⟨dst, .alloc e, type, pos, after, guard⟩).run C.P w = .ok (.value (.pointer (some ⟨w.heap.size, 0, none⟩))) (w.alloc (.cells zv.cells e)) := by
    refine run_v (v := .pointer (some ⟨w.heap.size, 0, none⟩)) ?_
    simp only [Instr.alloc, Sem.run_bind, hv, Result.andThen_ok, newVar, newRow, run_newObj, Sem.run_pure]
    rfl
  unfold Oper.wp
  rw [hrun]
  rw [hlen] at h2
  exact hK _ _ G' _ _ ⟨rfl, rfl⟩ h1 h2 h3 (Ext.alloc _ _)

theorem resOK_at {fl : Bool} {f : Mem → Option (AV × Mem)} {M : Mem} {K : AV → Mem → Prop} (h : resOK fl f M K) : ∃ v M1, K v M1 ∧ (fl = true → KeepsBlank M M1) ∧ ∀ l, Blanks M l → (fl = false → l = []) → f (fill M l) = some (v, fill M1 l) := by
  unfold resOK at h
  split at h
  case h_2 => exact h.elim
  rename_i v M1 hf
  refine ⟨v, M1, h.2, fun e => (h.1 e).1, fun l hb hl => ?_⟩
  cases fl with
  | true => exact (h.1 rfl).2 l hb
  | false => rw [hl rfl]; exact hf

/-- the run of one operation in the order of the text gives what is known of it in any order -/
theorem dOp_ob {C : Ctx} {N : Nat} {h : Hint} {ops : Array Oper} {fl : Bool} {cls rob slot : Nat} {o : Oper} (hin : Oper.inside N o = true) {T : Env} {M : Mem} {K : AV → Mem → Prop} (hd : dOp C h fl cls rob slot o (T.ev C) M K) :
    ∃ (v : AV) (eff : Eff), K v (eff.app M) ∧ eff.ok fl cls slot M ∧ ∀ T2 M2 l, (∀ s ∈ o.looksAt ops, T2 s = T s) → Agrees fl cls rob slot M M2 l → ∀ G w a, Inv C G M2 w → RepEnv G N T2 a →
      OpGives C G w o a (fun v' M3 => v' = v ∧ M3 = eff.appF l M2) := by
  have res : ∀ f, resOK fl f M K → cls = 2 → (∀ T2 M2 v M', (∀ s ∈ o.looksAt ops, T2 s = T s) → f M2 = some (v, M') → ∀ G w a, Inv C G M2 w → RepEnv G N T2 a → OpGives C G w o a (fun v' M3 => v' = v ∧ M3 = M')) →
      ∃ (v : AV) (eff : Eff), K v (Eff.app eff M) ∧ eff.ok fl cls slot M ∧ ∀ T2 M2 l, (∀ s ∈ o.looksAt ops, T2 s = T s) → Agrees fl cls rob slot M M2 l → ∀ G w a, Inv C G M2 w → RepEnv G N T2 a →
      OpGives C G w o a (fun v' M3 => v' = v ∧ M3 = eff.appF l M2) := by
    intro f hf hc hs
    obtain ⟨v, M1, h1, h2, h3⟩ := resOK_at hf
    refine ⟨v, .mem M1, h1, ⟨hc, h2⟩, fun T2 M2 l e1 e2 G w a hi hr => ?_⟩
    obtain ⟨rfl, hb, hl⟩ := e2.2.1 hc
    exact hs T2 _ v _ e1 (h3 l hb hl) G w a hi hr
  have evalCase : (∀ ρ M2 v M', evalOp C h o ρ M2 = some (v, M') → ∀ K' : AV → Mem → Prop, K' v M' → vcOp C h o K' ρ M2) → ∀ T2 M2 v M', (∀ s ∈ o.looksAt ops, T2 s = T s) → evalOp C h o (T.ev C) M2 = some (v, M') → ∀ G w a, Inv C G M2 w → RepEnv G N T2 a → OpGives C G w o a (fun v' M3 => v' = v ∧ M3 = M') := by
    intro hv T2 M2 v M' e1 he G w a hi hr
    exact vcOp_sound hi (evs_rep hi hr hin) (hv (T2.ev C) M2 v M' (by rw [evalOp_congr (ev_congr e1)]; exact he) _ ⟨rfl, rfl⟩)
  have plain : (if cls = 0 then onSome ((evalPure C h o (T.ev C)).or (evalPure1 C o (T.ev C))) (fun v => K v M) else if cls = 1 then readObj o (T.ev C) = some rob ∧ onSome (readAV C o (T.ev C) M) (fun v => K v M)
        else if cls = 5 then storeObj o (T.ev C) = some slot ∧ onSome (evalOp C h o (T.ev C) M) (fun r => K r.1 r.2)
        else cls = 2 ∧ resOK fl (evalOp C h o (T.ev C)) M K) →
      (∀ ρ M2 v M', evalOp C h o ρ M2 = some (v, M') → ∀ K' : AV → Mem → Prop, K' v M' → vcOp C h o K' ρ M2) →
      ∃ (v : AV) (eff : Eff), K v (Eff.app eff M) ∧ eff.ok fl cls slot M ∧ ∀ T2 M2 l, (∀ s ∈ o.looksAt ops, T2 s = T s) → Agrees fl cls rob slot M M2 l → ∀ G w a, Inv C G M2 w → RepEnv G N T2 a →
      OpGives C G w o a (fun v' M3 => v' = v ∧ M3 = eff.appF l M2) := by
    intro hp hv
    split at hp
    · rename_i hc
      cases he : (evalPure C h o (T.ev C)).or (evalPure1 C o (T.ev C)) with
      | none => rw [he] at hp; exact hp.elim
      | some v =>
        rw [he] at hp
        refine ⟨v, .none, hp, trivial, fun T2 M2 l h1 h2 G w a hi hr => ?_⟩
        have he2 : (evalPure C h o (T2.ev C)).or (evalPure1 C o (T2.ev C)) = some v := by rw [evalPure_congr (ev_congr h1), evalPure1_congr (ev_congr h1)]; exact he
        rcases Option.or_eq_some_iff.1 he2 with h3 | ⟨_, h3⟩
        · exact vcOp_sound hi (evs_rep hi hr hin) (hv (T2.ev C) M2 v M2 (by simp [evalOp, h3]) _ ⟨rfl, rfl⟩)
        · intro next Q hK
          obtain ⟨nx, w', G', k1, k2, k3, k4, k5⟩ := pure1_sound hi (evs_rep hi hr hin) h3
          unfold Oper.wp
          rw [k1]
          rcases k2 with ⟨x, rfl, hrx⟩ | ⟨rfl, rfl⟩
          · exact hK v M2 G' w' x ⟨rfl, rfl⟩ k3 k4 hrx k5
          · exact hK _ M2 G' w' undef ⟨rfl, rfl⟩ k3 k4 (by simp [Rep]) k5
    · rename_i hc0
      split at hp
      · rename_i hc
        obtain ⟨hro, hp⟩ := hp
        cases he : readAV C o (T.ev C) M with
        | none => rw [he] at hp; exact hp.elim
        | some v =>
          rw [he] at hp
          refine ⟨v, .none, hp, trivial, fun T2 M2 l h1 h2 G w a hi hr => ?_⟩
          have he2 : readAV C o (T2.ev C) M2 = some v := by
            rw [readAV_congr (ev_congr h1), ← he]
            exact readAV_same (fun r hr => by rw [hro] at hr; simp at hr; subst hr; exact h2.1 hc)
          exact vcOp_sound hi (evs_rep hi hr hin) (vcOp_read (h := h) he2 ⟨rfl, rfl⟩)
      · split at hp
        · rename_i hc
          obtain ⟨hso, hp⟩ := hp
          cases he : evalOp C h o (T.ev C) M with
          | none => rw [he] at hp; exact hp.elim
          | some r =>
            obtain ⟨v, M1⟩ := r
            rw [he] at hp
            obtain ⟨X, rfl, hlt, hX⟩ := store_local hso he
            refine ⟨v, .put slot X, hp, ⟨.inr hc, rfl, hlt⟩, fun T2 M2 l h1 h2 G w a hi hr => ?_⟩
            exact evalCase hv T2 M2 v _ h1 (hX M2 (h2.2.2.2 hc)) G w a hi hr
        · exact res _ hp.2 hp.1 (evalCase hv)
  obtain ⟨dst, op, type, pos, after, guard⟩ := o
  unfold dOp at hd
  simp only at hd
  split at hd
  · rename_i f args ts
    have hev := @ev_congr C ops T
    split at hd
    case h_2 => exact hd.elim
    rename_i g first captured hf
    have same : ∀ T2 : Env, (∀ s ∈ Oper.looksAt ops ⟨dst, .call { callee := .value f, args := args, argTypes := ts }, type, pos, after, guard⟩, T2 s = T s) → T2.ev C f = .func (.func g) first captured ∧ args.toList.map (T2.ev C) = args.toList.map (T.ev C) := by
      intro T2 h1
      have h2 := ev_congr (C := C) h1
      exact ⟨by rw [h2 f (by simp [Op.operands, Call.operands])]; exact hf, args_congr fun x hx => h2 x (by simp [Op.operands, Call.operands]; simp at hx; simp [hx])⟩
    split at hd
    · rename_i hc
      obtain ⟨r, hcall, hk⟩ := hd
      refine ⟨r, .none, hk, trivial, fun T2 M2 l h1 h2 G w a hi hr => ?_⟩
      obtain ⟨e1, e2⟩ := same T2 h1
      refine vcOp_sound (h := h) hi (evs_rep hi hr hin) ?_
      simp only [vcOp, e1, e2]
      exact hcall M2
    · rename_i hc
      obtain ⟨r, M1, hc2, hcall, hfl, hk⟩ := hd
      refine ⟨r, .mem M1, hk, ⟨hc2, fun e => (hfl e).1⟩, fun T2 M2 l h1 h2 G w a hi hr => ?_⟩
      obtain ⟨rfl, hb, hl⟩ := h2.2.1 hc2
      obtain ⟨e1, e2⟩ := same T2 h1
      refine vcOp_sound (h := h) hi (evs_rep hi hr hin) ?_
      simp only [vcOp, e1, e2]
      cases fl with
      | true => exact (hfl rfl).2 l hb
      | false => rw [hl rfl]; exact hcall
  · rename_i args ts
    split at hd
    case h_2 => exact hd.elim
    rename_i s x t u ha ht
    obtain ⟨e, sz, bytes, hok, hc, hm⟩ := hd
    refine res _ hm hc (fun T2 M2 v M' h1 hap G w a hi hr => ?_)
    have h3 := ev_congr (C := C) h1
    have es : T2.ev C s = T.ev C s := h3 s (by simp [Op.operands, Call.operands]; have : s ∈ args.toList := by rw [ha]; simp
                                               simpa using this)
    have ex : T2.ev C x = T.ev C x := h3 x (by simp [Op.operands, Call.operands]; have : x ∈ args.toList := by rw [ha]; simp
                                               simpa using this)
    refine vcOp_sound (h := h) hi (evs_rep hi hr hin) ?_
    simp only [vcOp, ha, ht, es, ex]
    exact ⟨e, sz, bytes, hok, by rw [hap]; exact ⟨rfl, rfl⟩⟩
  · rename_i e
    have hv : ∀ ρ M2 v M', evalOp C h ⟨dst, .alloc e, type, pos, after, guard⟩ ρ M2 = some (v, M') → ∀ K' : AV → Mem → Prop, K' v M' → vcOp C h ⟨dst, .alloc e, type, pos, after, guard⟩ K' ρ M2 := by
      intro ρ M2 v M' he K' hk
      unfold vcOp
      simp only
      rw [he]; exact hk
    split at hd
    · rename_i hc
      obtain ⟨hfl, hM, hd⟩ := hd
      cases hX : slotObj C.P e with
      | none => rw [hX] at hd; exact hd.elim
      | some X =>
        rw [hX] at hd
        refine ⟨_, .put slot X, hd, ⟨.inl hc, rfl, getElem?_lt hM⟩, fun T2 M2 l h1 h2 G w a hi hr => ?_⟩
        exact slotObj_gives hi hX (h2.2.2.1 hc) rfl a
    · exact res _ hd.2 hd.1 (evalCase hv)
  · rename_i hne1 hne2 hne3
    refine plain hd (fun ρ M2 v M' he K' hk => ?_)
    unfold vcOp
    split
    · rename_i heq; exact absurd heq (by intro e; exact hne1 _ _ _ e)
    · rename_i heq; exact absurd heq (by intro e; exact hne2 _ _ e)
    · rw [he]; exact hk
end Go.Abs
