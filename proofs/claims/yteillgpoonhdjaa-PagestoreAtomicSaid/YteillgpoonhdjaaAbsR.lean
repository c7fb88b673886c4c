/- The walk's rules for a region whose order is open. -/
import Derived.Test.YteillgpoonhdjaaAbsQ
set_option linter.unusedVariables false
namespace Go.Abs

def pureKind : Op → Bool
  | .load _ _ | .store _ _ _ | .alloc _ | .box _ _ | .call _ => false
  | _ => true

section
variable {C : Ctx} {h : Hint} {N : Nat} {T : Env} {M : Mem} {K : AV → Mem → Prop} {ρ : Operand → AV} {c : Nat}
variable {d : Option Tmp} {t : TypeId} {p : String} {af : Array Edge} {g : Option (Nat × Bool)}

theorem dOp_congr {o : Oper} {c' : Nat} {M' : Mem} (hc : c = c') (hM : M = M') : dOp C h c o ρ M K = dOp C h c' o ρ M' K := by rw [hc, hM]
theorem drawRun_congr {ops : Array Oper} {cls : Nat → Nat} {k : Nat} {l : List Oper} {T' : Env} {M' : Mem} {K : Env → Mem → Prop} (hT : T = T') (hM : M = M') : drawRun C h ops cls k l T M K = drawRun C h ops cls k l T' M' K := by rw [hT, hM]
theorem drawRun_nil {ops : Array Oper} {cls : Nat → Nat} {k : Nat} {K : Env → Mem → Prop} : drawRun C h ops cls k [] T M K = K T M := rfl
theorem drawRun_cons {ops : Array Oper} {cls : Nat → Nat} {k : Nat} {o : Oper} {rest : List Oper} {K : Env → Mem → Prop} : drawRun C h ops cls k (o :: rest) T M K =
    vcGuard ops o T (dOp C h (cls k) o (T.ev C) M (fun v M' => drawRun C h ops cls (k + 1) rest (T.put o.dst v) M' K)) (drawRun C h ops cls (k + 1) rest (T.put o.dst (.val undef)) M K) := rfl

theorem evalMem_none {op : Op} (hop : pureKind op = true) : evalMem C h ⟨d, op, t, p, af, g⟩ ρ M = none := by
  cases op <;> first | rfl | exact Bool.noConfusion hop

theorem dOp_pure {op : Op} (hop : pureKind op = true) (hn : nilTestO C ⟨d, op, t, p, af, g⟩ ρ = false) : dOp C h c ⟨d, op, t, p, af, g⟩ ρ M K = vcOp C h ⟨d, op, t, p, af, g⟩ K ρ M := by
  have hc : isCall op = false := by cases op <;> first | rfl | exact Bool.noConfusion hop
  rw [vcOp_other hc hn]
  have e : dOp C h c ⟨d, op, t, p, af, g⟩ ρ M K = (if c = 0 then onSome (evalPure C h ⟨d, op, t, p, af, g⟩ ρ) (fun v => K v M) else onSome (evalOp C h ⟨d, op, t, p, af, g⟩ ρ M) (fun x => (c ≠ 2 → x.2 = M) ∧ K x.1 x.2)) := by
    cases op <;> first | rfl | exact Bool.noConfusion hc
  rw [e]
  simp only [evalOp, evalMem_none hop]
  cases evalPure C h ⟨d, op, t, p, af, g⟩ ρ with
  | none => simp
  | some v => simp
theorem dOp_move {x : Operand} : dOp C h c ⟨d, .move x, t, p, af, g⟩ ρ M K = K (ρ x) M := by rw [dOp_pure rfl rfl]; rfl
theorem dOp_assign {x : Operand} : dOp C h c ⟨d, .assign x, t, p, af, g⟩ ρ M K = K (ρ x) M := by rw [dOp_pure rfl rfl]; rfl

theorem dOp_nilCheck {x : Operand} : dOp C h c ⟨d, .nilCheck x, t, p, af, g⟩ ρ M K = onSome (nilAV (ρ x)) (fun v => K v M) := by rw [dOp_pure rfl rfl, vcOp_nilCheck]
theorem dOp_pick {x a b : Operand} : dOp C h c ⟨d, .pick x a b, t, p, af, g⟩ ρ M K = onSome (pickAV (ρ x) (ρ a) (ρ b)) (fun v => K v M) := by rw [dOp_pure rfl rfl, vcOp_pick]
theorem dOp_not {xt : TypeId} {x : Operand} : dOp C h c ⟨d, .unOp .not xt x, t, p, af, g⟩ ρ M K = onSome (notAV (ρ x)) (fun v => K v M) := by rw [dOp_pure rfl rfl, vcOp_not]
theorem dOp_fieldAddr {xt : TypeId} {x : Operand} {f : Nat} : dOp C h c ⟨d, .fieldAddr xt x f, t, p, af, g⟩ ρ M K = onSome (faddrAV (offOf C.P xt f) (ρ x)) (fun v => K v M) := by rw [dOp_pure rfl rfl, vcOp_fieldAddr]
theorem dOp_extract {x : Operand} {i : Nat} : dOp C h c ⟨d, .extract x i, t, p, af, g⟩ ρ M K = onSome (extractAV (ρ x) i) (fun v => K v M) := by rw [dOp_pure rfl rfl, vcOp_extract]
theorem dOp_indexAddr {xt : TypeId} {x i : Operand} : dOp C h c ⟨d, .indexAddr xt x i, t, p, af, g⟩ ρ M K = onSome (idxAV ((elemOf? C.P xt).map (szOf C.P)) (ρ x) (ρ i)) (fun v => K v M) := by rw [dOp_pure rfl rfl, vcOp_indexAddr]
theorem dOp_makeFunc {fn : Fn} {f k : Array Operand} : dOp C h c ⟨d, .makeFunc fn f k, t, p, af, g⟩ ρ M K = K (.func fn (f.toList.map ρ) (k.toList.map ρ)) M := by rw [dOp_pure rfl rfl, vcOp_makeFunc]
theorem dOp_slice {st : TypeId} {x : Operand} {lo hi mx : Option Operand} : dOp C h c ⟨d, .slice st x lo hi mx, t, p, af, g⟩ ρ M K = onSome (sliceAV C.P st (ρ x) (lo.map ρ) (hi.map ρ) (mx.map ρ)) (fun v => K v M) := by rw [dOp_pure rfl rfl, vcOp_slice]
theorem dOp_build {bt : TypeId} {ps : List (Nat × Operand)} : dOp C h c ⟨d, .build bt ps.toArray, t, p, af, g⟩ ρ M K = onSome (buildAV C.P bt (ps.map fun x => (x.1, ρ x.2))) (fun v => K v M) := by rw [dOp_pure rfl rfl, vcOp_build]
theorem dOp_buildSlice {bt : TypeId} {n : Nat} {ps : List (Nat × Operand)} : dOp C h c ⟨d, .buildSlice bt n ps.toArray, t, p, af, g⟩ ρ M K = onSome (buildSliceAV C.P bt n (ps.map fun x => (x.1, ρ x.2))) (fun v => K v M) := by rw [dOp_pure rfl rfl, vcOp_buildSlice]
theorem dOp_binOp {op : BinOp} {xt yt : TypeId} {x y : Operand} : dOp C h c ⟨d, .binOp op xt x y yt, t, p, af, g⟩ ρ M K = onSome (binAV C.P op xt (ρ x) (ρ y)) (fun v => K v M) := by
  have e : dOp C h c ⟨d, .binOp op xt x y yt, t, p, af, g⟩ ρ M K = (if c = 0 then onSome (evalPure C h ⟨d, .binOp op xt x y yt, t, p, af, g⟩ ρ) (fun v => K v M) else onSome (evalOp C h ⟨d, .binOp op xt x y yt, t, p, af, g⟩ ρ M) (fun x => (c ≠ 2 → x.2 = M) ∧ K x.1 x.2)) := rfl
  rw [e]
  simp only [evalOp, evalPure, evalMem]
  cases binAV C.P op xt (ρ x) (ρ y) <;> simp

def load0 (P : Program) (t : TypeId) : AV → Option AV
  | .cptr cs => loadCells? P t cs
  | _ => none
@[simp] theorem load0_cptr {P : Program} {t : TypeId} {cs : List AV} : load0 P t (.cptr cs) = loadCells? P t cs := rfl
theorem dOp_load {lt : TypeId} {x : Operand} : dOp C h c ⟨d, .load lt x, t, p, af, g⟩ ρ M K = if c = 0 then onSome (load0 C.P lt (ρ x)) (fun v => K v M) else onSome (loadAV C.P lt M (ρ x)) (fun v => K v M) := by
  have e : dOp C h c ⟨d, .load lt x, t, p, af, g⟩ ρ M K = (if c = 0 then onSome (evalPure C h ⟨d, .load lt x, t, p, af, g⟩ ρ) (fun v => K v M) else onSome (evalOp C h ⟨d, .load lt x, t, p, af, g⟩ ρ M) (fun x => (c ≠ 2 → x.2 = M) ∧ K x.1 x.2)) := rfl
  rw [e]
  split
  · simp only [evalPure, load0]; cases ρ x <;> rfl
  · simp only [evalOp, evalPure, evalMem, loadAV]
    cases hx : ρ x with
    | cptr cs => simp only [memOf, Option.bind_some]; cases loadCells? C.P lt cs <;> simp
    | ptr b o => simp only []; cases (memOf M (AV.ptr b o)).bind (loadCells? C.P lt) <;> simp
    | _ => simp [memOf]
theorem dOp_store {lt : TypeId} {x y : Operand} : dOp C h 2 ⟨d, .store lt x y, t, p, af, g⟩ ρ M K = onSome (storeAV (szOf C.P lt) M (ρ x) (ρ y)) (fun M' => K (.val undef) M') := by
  have e : dOp C h 2 ⟨d, .store lt x y, t, p, af, g⟩ ρ M K = onSome (evalOp C h ⟨d, .store lt x y, t, p, af, g⟩ ρ M) (fun x => (2 ≠ 2 → x.2 = M) ∧ K x.1 x.2) := rfl
  rw [e]
  have := @vcOp_store C h M (fun v M' => (2 ≠ 2 → M' = M) ∧ K v M') ρ d t p af g lt x y
  rw [vcOp_other rfl rfl] at this
  rw [this]
  simp
def box0 (imm : Bool) (x : AV) : Option AV := if imm = true ∧ x.storable = true then some (.cptr x.cells) else none
theorem dOp_box {e : TypeId} {x : Operand} : dOp C h c ⟨d, .box e x, t, p, af, g⟩ ρ M K = if c = 0 then onSome (box0 (hintAt h.imm d) (ρ x)) (fun v => K v M) else onSome (boxAV (hintAt h.imm d) M (ρ x)) (fun r => (c ≠ 2 → r.2 = M) ∧ K r.1 r.2) := by
  have e' : dOp C h c ⟨d, .box e x, t, p, af, g⟩ ρ M K = (if c = 0 then onSome (evalPure C h ⟨d, .box e x, t, p, af, g⟩ ρ) (fun v => K v M) else onSome (evalOp C h ⟨d, .box e x, t, p, af, g⟩ ρ M) (fun x => (c ≠ 2 → x.2 = M) ∧ K x.1 x.2)) := rfl
  rw [e']
  split
  · simp only [evalPure, box0]
    cases (ρ x).storable <;> cases hintAt h.imm d <;> rfl
  · simp only [evalOp, evalPure, evalMem, boxAV]
    cases (ρ x).storable <;> cases hintAt h.imm d <;> rfl
theorem dOp_len {x : Operand} {xt : TypeId} : dOp C h c ⟨d, .call { callee := .builtin .len, args := #[x], argTypes := #[xt] }, t, p, af, g⟩ ρ M K = onSome (lenAV C.P xt (ρ x)) (fun n => K (.val (.int .i64 n)) M) := by
  have e : dOp C h c ⟨d, .call { callee := .builtin .len, args := #[x], argTypes := #[xt] }, t, p, af, g⟩ ρ M K = (if c = 0 then onSome (evalPure C h ⟨d, .call { callee := .builtin .len, args := #[x], argTypes := #[xt] }, t, p, af, g⟩ ρ) (fun v => K v M) else onSome (evalOp C h ⟨d, .call { callee := .builtin .len, args := #[x], argTypes := #[xt] }, t, p, af, g⟩ ρ M) (fun x => (c ≠ 2 → x.2 = M) ∧ K x.1 x.2)) := rfl
  rw [e]
  simp only [evalOp, evalPure, callPure, List.map_cons, List.map_nil]
  cases hl : lenAV C.P xt (ρ x) <;> simp [hl, goInt, evalMem]
theorem dOp_max {x y : Operand} {ts : Array TypeId} : dOp C h c ⟨d, .call { callee := .builtin .max, args := #[x, y], argTypes := ts }, t, p, af, g⟩ ρ M K = onSome (min2V true (ρ x) (ρ y)) (fun v => K v M) := by
  have e : dOp C h c ⟨d, .call { callee := .builtin .max, args := #[x, y], argTypes := ts }, t, p, af, g⟩ ρ M K = (if c = 0 then onSome (evalPure C h ⟨d, .call { callee := .builtin .max, args := #[x, y], argTypes := ts }, t, p, af, g⟩ ρ) (fun v => K v M) else onSome (evalOp C h ⟨d, .call { callee := .builtin .max, args := #[x, y], argTypes := ts }, t, p, af, g⟩ ρ M) (fun x => (c ≠ 2 → x.2 = M) ∧ K x.1 x.2)) := rfl
  rw [e]
  simp only [evalOp, evalPure, callPure, List.map_cons, List.map_nil]
  cases hl : min2V true (ρ x) (ρ y) <;> simp [evalMem]
theorem dOp_min {x y : Operand} {ts : Array TypeId} : dOp C h c ⟨d, .call { callee := .builtin .min, args := #[x, y], argTypes := ts }, t, p, af, g⟩ ρ M K = onSome (min2V false (ρ x) (ρ y)) (fun v => K v M) := by
  have e : dOp C h c ⟨d, .call { callee := .builtin .min, args := #[x, y], argTypes := ts }, t, p, af, g⟩ ρ M K = (if c = 0 then onSome (evalPure C h ⟨d, .call { callee := .builtin .min, args := #[x, y], argTypes := ts }, t, p, af, g⟩ ρ) (fun v => K v M) else onSome (evalOp C h ⟨d, .call { callee := .builtin .min, args := #[x, y], argTypes := ts }, t, p, af, g⟩ ρ M) (fun x => (c ≠ 2 → x.2 = M) ∧ K x.1 x.2)) := rfl
  rw [e]
  simp only [evalOp, evalPure, callPure, List.map_cons, List.map_nil]
  cases hl : min2V false (ρ x) (ρ y) <;> simp [evalMem]

def callD (C : Ctx) (c : Nat) (f : AV) (args : List AV) (M : Mem) (K : AV → Mem → Prop) : Prop := match f with
  | .func (.func g) first captured => enters C.P g ∧
      if c = 0 then ∃ r, (∀ M, ACalls C g (first ++ args ++ captured) M (fun v M' => v = r ∧ M' = M)) ∧ K r M
      else ∃ r M1, ACalls C g (first ++ args ++ captured) M (fun v M' => v = r ∧ M' = M1) ∧ (c ≠ 2 → M1 = M) ∧ K r M1
  | _ => False
theorem dOp_call {f : Operand} {args : List Operand} {ts : Array TypeId} : dOp C h c ⟨d, .call { callee := .value f, args := args.toArray, argTypes := ts }, t, p, af, g⟩ ρ M K = callD C c (ρ f) (args.map ρ) M K := rfl
theorem callD_congr {c' : Nat} {f f' : AV} {args args' : List AV} {M' : Mem} (hc : c = c') (hf : f = f') (ha : args = args') (hM : M = M') : callD C c f args M K = callD C c' f' args' M' K := by rw [hc, hf, ha, hM]
/-- a call's own place in a drawn region: enters; what comes back; on from there -/
def call0 (C : Ctx) (g : FuncId) (args : List AV) (M : Mem) (K : AV → Mem → Prop) : Prop := enters C.P g ∧ ∃ r, (∀ M, ACalls C g args M (fun v M' => v = r ∧ M' = M)) ∧ K r M
def callM (C : Ctx) (c : Nat) (g : FuncId) (args : List AV) (M : Mem) (K : AV → Mem → Prop) : Prop := enters C.P g ∧ ∃ r M1, ACalls C g args M (fun v M' => v = r ∧ M' = M1) ∧ (c ≠ 2 → M1 = M) ∧ K r M1
theorem call0_congr {g : FuncId} {args args' : List AV} {M' : Mem} (ha : args = args') (hM : M = M') : call0 C g args M K = call0 C g args' M' K := by rw [ha, hM]
theorem callM_congr {g : FuncId} {args args' : List AV} {M' : Mem} (ha : args = args') (hM : M = M') : callM C c g args M K = callM C c g args' M' K := by rw [ha, hM]
theorem callD_zero {g : FuncId} {first captured args : List AV} : callD C 0 (.func (.func g) first captured) args M K = call0 C g (first ++ args ++ captured) M K := by simp [callD, call0]
theorem callD_one {g : FuncId} {first captured args : List AV} : callD C 1 (.func (.func g) first captured) args M K = callM C 1 g (first ++ args ++ captured) M K := by simp [callD, callM]
theorem callD_two {g : FuncId} {first captured args : List AV} : callD C 2 (.func (.func g) first captured) args M K = callM C 2 g (first ++ args ++ captured) M K := by simp [callD, callM]
theorem call0_by {g : FuncId} {args : List AV} {r : AV} (he : enters C.P g) (hc : ∀ M, ACalls C g args M (fun v M' => v = r ∧ M' = M)) (hk : K r M) : call0 C g args M K := ⟨he, r, hc, hk⟩
theorem call1_by {g : FuncId} {args : List AV} {r : AV} (he : enters C.P g) (hc : ACalls C g args M (fun v M' => v = r ∧ M' = M)) (hk : K r M) : callM C 1 g args M K := ⟨he, r, M, hc, fun _ => rfl, hk⟩
theorem call2_by {g : FuncId} {args : List AV} {r : AV} {M1 : Mem} (he : enters C.P g) (hc : ACalls C g args M (fun v M' => v = r ∧ M' = M1)) (hk : K r M1) : callM C 2 g args M K := ⟨he, r, M1, hc, fun h => absurd rfl h, hk⟩
theorem callK_by {g : FuncId} {args : List AV} {Q : AV → Mem → Prop} (he : enters C.P g) (hc : ACalls C g args M Q) (hk : ∀ r M', Q r M' → K r M') : enters C.P g ∧ ACalls C g args M K := ⟨he, hc.mono hk⟩

theorem dOp_append {s x : Operand} {st xt : TypeId} : dOp C h 2 ⟨d, .call { callee := .builtin .append, args := #[s, x], argTypes := #[st, xt] }, t, p, af, g⟩ ρ M K = appendK C (hintAt h.own d) st xt (ρ s) (ρ x) M K := by
  simp only [dOp, appendK, true_and]
  congr; funext e; congr; funext sz; congr; funext bytes
  cases appendAV (hintAt h.own d) sz (ρ s) (ρ x) M with
  | none => rfl
  | some r => rfl
end
end Go.Abs
