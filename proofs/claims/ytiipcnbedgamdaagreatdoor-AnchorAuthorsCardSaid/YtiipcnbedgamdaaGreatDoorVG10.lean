/- The texts AbsN, AbsO: what each proves stands at its head. -/
import Derived.Test.YtiipcnbedgamdaaGreatDoorVG09
section
/- The walk: a function on code whose value is what is left to prove. -/
set_option linter.unusedVariables false
namespace Go.Abs

def vcCode (C : Ctx) (h : Hint) (N : Nat) : Code → (Exit → Env → Mem → Prop) → Env → Mem → Prop
  | .skip, Q, T, M => Q .normal T M
  | .label _, Q, T, M => Q .normal T M
  | .region id ops draw, Q, T, M => if draw = true then AWp C N (.region id ops true) Q T M else vcOps C h ops ops.toList (fun T M => Q .normal T M) T M
  | .seq x y, Q, T, M => vcCode C h N x (thenK (vcCode C h N y Q) Q) T M
  | .cond c x y, Q, T, M => match T.ev C c with
    | .val (.bool b) => if b = true then vcCode C h N x Q T M else vcCode C h N y Q T M
    | _ => False
  | .block id c, Q, T, M => vcCode C h N c (inBlockK id Q) T M
  | .exit id, Q, T, M => Q (.exit id) T M
  | .ret, Q, T, M => Q .ret T M
  | c, Q, T, M => AWp C N c Q T M

def codeInside (N : Nat) : Code → Bool
  | .region _ ops draw => draw || opsInside N ops ops.toList
  | .seq x y => codeInside N x && codeInside N y
  | .cond c x y => Operand.inside N c && codeInside N x && codeInside N y
  | .block _ c => codeInside N c
  | _ => true

theorem vcCode_sound {C : Ctx} {h : Hint} {N : Nat} : ∀ (c : Code) (Q : Exit → Env → Mem → Prop) (T : Env) (M : Mem), codeInside N c = true → vcCode C h N c Q T M → AWp C N c Q T M
  | .skip, Q, T, M, _, hv => awp_skip hv
  | .label _, Q, T, M, _, hv => awp_label hv
  | .region id ops draw, Q, T, M, hin, hv => by
    simp only [vcCode] at hv
    cases draw with
    | true => simpa using hv
    | false => exact awp_region (by simpa [codeInside] using hin) (by simpa using hv)
  | .seq x y, Q, T, M, hin, hv => by
    simp only [codeInside, Bool.and_eq_true] at hin
    simp only [vcCode] at hv
    refine awp_seq ((vcCode_sound x _ T M hin.1 hv).mono ?_)
    intro e T' M' hq
    cases e with
    | normal => exact vcCode_sound y Q T' M' hin.2 hq
    | _ => exact hq
  | .cond c x y, Q, T, M, hin, hv => by
    simp only [codeInside, Bool.and_eq_true] at hin
    simp only [vcCode] at hv
    split at hv
    · rename_i b hb
      refine awp_cond hin.1.1 hb (fun e => ?_) (fun e => ?_)
      · rw [if_pos e] at hv; exact vcCode_sound x Q T M hin.1.2 hv
      · rw [if_neg (by simp [e])] at hv; exact vcCode_sound y Q T M hin.2 hv
    · exact hv.elim
  | .block id c, Q, T, M, hin, hv => awp_block (vcCode_sound c _ T M (by simpa [codeInside] using hin) hv)
  | .exit id, Q, T, M, _, hv => awp_exit hv
  | .ret, Q, T, M, _, hv => awp_ret hv
  | .loop c, Q, T, M, _, hv => hv
  | .rangeFunc _ _ _ _, Q, T, M, _, hv => hv
  | .scope _, Q, T, M, _, hv => hv
  | .goto _, Q, T, M, _, hv => hv
  | .refuse _, Q, T, M, _, hv => hv

def isCall : Op → Bool
  | .call _ => true
  | _ => false

/-! ### the walk's rules -/
def onSome {α : Type} (o : Option α) (f : α → Prop) : Prop := match o with
  | some v => f v
  | none => False
@[simp] theorem onSome_some {α : Type} (v : α) (f : α → Prop) : onSome (some v) f = f v := rfl
@[simp] theorem onSome_none {α : Type} (f : α → Prop) : onSome none f = False := rfl
theorem onSome_congr {α : Type} {o o' : Option α} (f : α → Prop) (h : o = o') : onSome o f = onSome o' f := by rw [h]

theorem onSome_map' {α β : Type} (o : Option α) (g : α → β) (f : β → Prop) : onSome (o.map g) f = onSome o (fun x => f (g x)) := by
  cases o <;> rfl
theorem vcCode_congr {C : Ctx} {h : Hint} {N : Nat} {c : Code} {Q : Exit → Env → Mem → Prop} {T T' : Env} {M M' : Mem} (hT : T = T') (hM : M = M') : vcCode C h N c Q T M = vcCode C h N c Q T' M' := by rw [hT, hM]
theorem vcOps_congr {C : Ctx} {h : Hint} {ops : Array Oper} {l : List Oper} {K : Env → Mem → Prop} {T T' : Env} {M M' : Mem} (hT : T = T') (hM : M = M') : vcOps C h ops l K T M = vcOps C h ops l K T' M' := by rw [hT, hM]
theorem vcOp_congr {C : Ctx} {h : Hint} {o : Oper} {K : AV → Mem → Prop} {ρ : Operand → AV} {M M' : Mem} (hM : M = M') : vcOp C h o K ρ M = vcOp C h o K ρ M' := by rw [hM]
theorem vcGuard_congr {ops : Array Oper} {o : Oper} {T T' : Env} {run skip : Prop} (hT : T = T') : vcGuard ops o T run skip = vcGuard ops o T' run skip := by rw [hT]
theorem AWp_congr {C : Ctx} {N : Nat} {c : Code} {Q : Exit → Env → Mem → Prop} {T T' : Env} {M M' : Mem} (hT : T = T') (hM : M = M') : AWp C N c Q T M = AWp C N c Q T' M' := by rw [hT, hM]
theorem ACalls_congr {C : Ctx} {f : FuncId} {args args' : List AV} {M M' : Mem} {Q : AV → Mem → Prop} (ha : args = args') (hM : M = M') : ACalls C f args M Q = ACalls C f args' M' Q := by rw [ha, hM]
theorem thenK_congr {K : Env → Mem → Prop} {Q : Exit → Env → Mem → Prop} {e : Exit} {T T' : Env} {M M' : Mem} (hT : T = T') (hM : M = M') : thenK K Q e T M = thenK K Q e T' M' := by rw [hT, hM]
theorem inBlockK_congr {id : Nat} {Q : Exit → Env → Mem → Prop} {e : Exit} {T T' : Env} {M M' : Mem} (hT : T = T') (hM : M = M') : inBlockK id Q e T M = inBlockK id Q e T' M' := by rw [hT, hM]
theorem bodyQ_congr {C : Ctx} {rs : List ResultVar} {Q : AV → Mem → Prop} {e : Exit} {T T' : Env} {M M' : Mem} (hT : T = T') (hM : M = M') : bodyQ C rs Q e T M = bodyQ C rs Q e T' M' := by rw [hT, hM]

section
variable {C : Ctx} {h : Hint} {N : Nat} {Q : Exit → Env → Mem → Prop} {T : Env} {M : Mem} {K : AV → Mem → Prop} {ρ : Operand → AV}
theorem vc_skip : vcCode C h N .skip Q T M = Q .normal T M := rfl
theorem vc_label {l : Nat} : vcCode C h N (.label l) Q T M = Q .normal T M := rfl
theorem vc_region {id : Nat} {l : List Oper} : vcCode C h N (.region id l.toArray false) Q T M = vcOps C h l.toArray l (fun T M => Q .normal T M) T M := rfl
theorem vc_draw {id : Nat} {ops : Array Oper} : vcCode C h N (.region id ops true) Q T M = AWp C N (.region id ops true) Q T M := rfl
theorem vc_seq {x y : Code} : vcCode C h N (.seq x y) Q T M = vcCode C h N x (thenK (vcCode C h N y Q) Q) T M := rfl
theorem vc_cond {c : Operand} {x y : Code} {b : Bool} (hc : T.ev C c = .val (.bool b)) : vcCode C h N (.cond c x y) Q T M = if b = true then vcCode C h N x Q T M else vcCode C h N y Q T M := by
  simp only [vcCode, hc]
theorem vc_block {id : Nat} {c : Code} : vcCode C h N (.block id c) Q T M = vcCode C h N c (inBlockK id Q) T M := rfl
theorem vc_exit {id : Nat} : vcCode C h N (.exit id) Q T M = Q (.exit id) T M := rfl
theorem vc_ret : vcCode C h N .ret Q T M = Q .ret T M := rfl
theorem vc_loop {c : Code} : vcCode C h N (.loop c) Q T M = AWp C N (.loop c) Q T M := rfl

theorem thenK_normal {K : Env → Mem → Prop} : thenK K Q .normal T M = K T M := rfl
theorem thenK_exit {K : Env → Mem → Prop} {id : Nat} : thenK K Q (.exit id) T M = Q (.exit id) T M := rfl
theorem thenK_ret {K : Env → Mem → Prop} : thenK K Q .ret T M = Q .ret T M := rfl
theorem inBlockK_normal {id : Nat} : inBlockK id Q .normal T M = Q .normal T M := rfl
theorem inBlockK_ret {id : Nat} : inBlockK id Q .ret T M = Q .ret T M := rfl
theorem inBlockK_exit {id id' : Nat} : inBlockK id Q (.exit id') T M = if id' = id then Q .normal T M else Q (.exit id') T M := rfl
theorem bodyQ_ret {rs : List ResultVar} {Q : AV → Mem → Prop} : bodyQ C rs Q .ret T M = onSome (resultAV C rs T M) (fun r => Q r M) := by simp only [bodyQ, onSome]; cases resultAV C rs T M <;> rfl
theorem bodyQ_normal {rs : List ResultVar} {Q : AV → Mem → Prop} : bodyQ C rs Q .normal T M = onSome (resultAV C rs T M) (fun r => Q r M) := by simp only [bodyQ, onSome]; cases resultAV C rs T M <;> rfl

@[simp] theorem ev_tmp {t : Nat} : T.ev C (.tmp t) = T t := rfl
@[simp] theorem ev_const {v : Value} : T.ev C (.const v) = .val v := rfl
@[simp] theorem ev_global {g : Nat} : T.ev C (.global g) = C.gl g := rfl
@[simp] theorem ev_func {f : Nat} : T.ev C (.func f) = .func (.func f) [] [] := rfl
@[simp] theorem put_at {d j : Nat} {v : AV} : T.put (some d) v j = if j = d then v else T j := rfl

theorem vcOps_nil {ops : Array Oper} {K : Env → Mem → Prop} : vcOps C h ops [] K T M = K T M := rfl
theorem vcOps_cons {ops : Array Oper} {o : Oper} {rest : List Oper} {K : Env → Mem → Prop} : vcOps C h ops (o :: rest) K T M =
    vcGuard ops o T (vcOp C h o (fun v M' => vcOps C h ops rest K (T.put o.dst v) M') (T.ev C) M) (vcOps C h ops rest K (T.put o.dst (.val undef)) M) := rfl
theorem vcGuard_none {ops : Array Oper} {d : Option Tmp} {op : Op} {t : TypeId} {p : String} {af : Array Edge} {run skip : Prop} : vcGuard ops ⟨d, op, t, p, af, none⟩ T run skip = run := rfl
theorem vcGuard_some {ops : Array Oper} {d : Option Tmp} {op : Op} {t : TypeId} {p : String} {af : Array Edge} {run skip : Prop} {j : Nat} {want b : Bool} {d' : Tmp} (hd : (ops[j]?).bind (·.dst) = some d') (hb : T d' = .val (.bool b)) :
    vcGuard ops ⟨d, op, t, p, af, some (j, want)⟩ T run skip = if b = want then run else skip := by simp only [vcGuard, hd, hb]
theorem vcGuard_undef {ops : Array Oper} {d : Option Tmp} {op : Op} {t : TypeId} {p : String} {af : Array Edge} {run skip : Prop} {j : Nat} {want : Bool} {d' : Tmp} (hd : (ops[j]?).bind (·.dst) = some d') (hb : T d' = .val undef) :
    vcGuard ops ⟨d, op, t, p, af, some (j, want)⟩ T run skip = skip := by simp only [vcGuard, hd, hb, undef]

variable {d : Option Tmp} {t : TypeId} {p : String} {af : Array Edge} {g : Option (Nat × Bool)}
theorem vcOp_move {x : Operand} : vcOp C h ⟨d, .move x, t, p, af, g⟩ K ρ M = K (ρ x) M := rfl
theorem vcOp_assign {x : Operand} : vcOp C h ⟨d, .assign x, t, p, af, g⟩ K ρ M = K (ρ x) M := rfl
theorem vcOp_other {op : Op} (hop : isCall op = false) (hn : nilTestO C ⟨d, op, t, p, af, g⟩ ρ = false) : vcOp C h ⟨d, op, t, p, af, g⟩ K ρ M = onSome (evalOp C h ⟨d, op, t, p, af, g⟩ ρ M) (fun x => K x.1 x.2) := by
  have e : vcOp C h ⟨d, op, t, p, af, g⟩ K ρ M = (match evalOp C h ⟨d, op, t, p, af, g⟩ ρ M with | some (v, M') => K v M' | none => nilTestO C ⟨d, op, t, p, af, g⟩ ρ = true ∧ ∀ b, K (.val (.bool b)) M) := by
    cases op <;> first | exact Bool.noConfusion hop | rfl
  rw [e, hn]
  cases evalOp C h ⟨d, op, t, p, af, g⟩ ρ M with
  | none => simp
  | some x => rfl

/-- what the last stages yield -/
def extraAV (C : Ctx) (o : Oper) (ρ : Operand → AV) (M : Mem) : Option (AV × Mem) := match evalPure1 C o ρ with
  | some v => some (v, M)
  | none => evalX C o ρ M
theorem evalOp_mem {o : Oper} (hm2 : evalMore C h o ρ M = none) (hx2 : extraAV C o ρ M = none) : evalOp C h o ρ M = match evalPure C h o ρ with
    | some v => some (v, M)
    | none => evalMem C h o ρ M := by
  unfold evalOp
  rw [hm2]
  change (match evalPure C h o ρ with | some v => some (v, M) | none => match evalMem C h o ρ M with | some r => some r | none => extraAV C o ρ M) = _
  rw [hx2]
  cases evalPure C h o ρ with
  | some v => rfl
  | none => cases evalMem C h o ρ M <;> rfl
theorem vcOp_ext {op : Op} (hop : isCall op = false) (hn : nilTestO C ⟨d, op, t, p, af, g⟩ ρ = false) (hm : ∀ M, evalMem C h ⟨d, op, t, p, af, g⟩ ρ M = none) (hm2 : ∀ M, evalMore C h ⟨d, op, t, p, af, g⟩ ρ M = none) :
    vcOp C h ⟨d, op, t, p, af, g⟩ K ρ M = onSome (((evalPure C h ⟨d, op, t, p, af, g⟩ ρ).map fun v => (v, M)).or (extraAV C ⟨d, op, t, p, af, g⟩ ρ M)) (fun x => K x.1 x.2) := by
  rw [vcOp_other hop hn]
  simp only [evalOp, hm, hm2]
  cases evalPure C h ⟨d, op, t, p, af, g⟩ ρ <;> rfl
theorem vcOp_pure {op : Op} (hop : isCall op = false) (hn : nilTestO C ⟨d, op, t, p, af, g⟩ ρ = false) (hm : ∀ M, evalMem C h ⟨d, op, t, p, af, g⟩ ρ M = none) (hm2 : ∀ M, evalMore C h ⟨d, op, t, p, af, g⟩ ρ M = none) (hx2 : ∀ M, extraAV C ⟨d, op, t, p, af, g⟩ ρ M = none) : vcOp C h ⟨d, op, t, p, af, g⟩ K ρ M = onSome (evalPure C h ⟨d, op, t, p, af, g⟩ ρ) (fun v => K v M) := by
  rw [vcOp_ext hop hn hm hm2, hx2]
  cases evalPure C h ⟨d, op, t, p, af, g⟩ ρ <;> rfl
theorem vcOp_pure1 {op : Op} (hop : isCall op = false) (hn : nilTestO C ⟨d, op, t, p, af, g⟩ ρ = false) (hm : ∀ M, evalMem C h ⟨d, op, t, p, af, g⟩ ρ M = none) (hm2 : ∀ M, evalMore C h ⟨d, op, t, p, af, g⟩ ρ M = none) (hx2 : ∀ M, evalX C ⟨d, op, t, p, af, g⟩ ρ M = none) :
    vcOp C h ⟨d, op, t, p, af, g⟩ K ρ M = onSome ((evalPure C h ⟨d, op, t, p, af, g⟩ ρ).or (evalPure1 C ⟨d, op, t, p, af, g⟩ ρ)) (fun v => K v M) := by
  rw [vcOp_ext hop hn hm hm2]
  simp only [extraAV, hx2]
  cases evalPure C h ⟨d, op, t, p, af, g⟩ ρ with
  | some v => rfl
  | none => cases evalPure1 C ⟨d, op, t, p, af, g⟩ ρ <;> rfl

/-- two operands: the value; or, of a slice that may be nil held against nil, both answers -/
def binK (P : Program) (op : BinOp) (t : TypeId) (x y : AV) (f : AV → Prop) : Prop := match binAV P op t x y with
  | some v => f v
  | none => nilTest P op t x y = true ∧ ∀ b, f (.val (.bool b))
/-- the same, with what is known of pointers and interface values besides -/
def binKx (C : Ctx) (o : Oper) (ρ : Operand → AV) (op : BinOp) (t : TypeId) (x y : AV) (f : AV → Prop) : Prop := match (binAV C.P op t x y).or (evalPure1 C o ρ) with
  | some v => f v
  | none => nilTest C.P op t x y = true ∧ ∀ b, f (.val (.bool b))
theorem binK_congr {P : Program} {op : BinOp} {t : TypeId} {x x' y y' : AV} {f : AV → Prop} (hx : x = x') (hy : y = y') : binK P op t x y f = binK P op t x' y' f := by rw [hx, hy]
theorem binK_plain {P : Program} {op : BinOp} {t : TypeId} {x y : AV} {f : AV → Prop} (h : nilTest P op t x y = false) : binK P op t x y f = onSome (binAV P op t x y) f := by
  unfold binK onSome
  rw [h]
  cases binAV P op t x y <;> simp

def pickAV (c a b : AV) : Option AV := match c with
  | .val (.bool t) => some (if t then a else b)
  | _ => none
@[simp] theorem pickAV_bool {t : Bool} {a b : AV} : pickAV (.val (.bool t)) a b = some (if t = true then a else b) := rfl
def nilAV : AV → Option AV
  | .ptr b off => some (.ptr b off)
  | .cptr cs => some (.cptr cs)
  | .func (.func f) a c => some (.func (.func f) a c)
  | .vptr f g off => some (.vptr f g off)
  | _ => none
@[simp] theorem nilAV_vptr {f g o : Nat} : nilAV (.vptr f g o) = some (.vptr f g o) := rfl
@[simp] theorem nilAV_ptr {b o : Nat} : nilAV (.ptr b o) = some (.ptr b o) := rfl
@[simp] theorem nilAV_cptr {cs : List AV} : nilAV (.cptr cs) = some (.cptr cs) := rfl
@[simp] theorem nilAV_func {f : FuncId} {a c : List AV} : nilAV (.func (.func f) a c) = some (.func (.func f) a c) := rfl
def notAV : AV → Option AV
  | .val (.bool b) => some (.val (.bool !b))
  | _ => none
@[simp] theorem notAV_bool {b : Bool} : notAV (.val (.bool b)) = some (.val (.bool !b)) := rfl
def faddrAV (k : Option Nat) (x : AV) : Option AV := match k, x with
  | some k, .ptr b off => some (.ptr b (off + k))
  | some k, .cptr cs => some (.cptr (cs.drop k))
  | some k, .vptr f g off => some (.vptr f g (off + k))
  | _, _ => none
@[simp] theorem faddrAV_vptr {k f g o : Nat} : faddrAV (some k) (.vptr f g o) = some (.vptr f g (o + k)) := rfl
@[simp] theorem faddrAV_ptr {k b o : Nat} : faddrAV (some k) (.ptr b o) = some (.ptr b (o + k)) := rfl
@[simp] theorem faddrAV_cptr {k : Nat} {cs : List AV} : faddrAV (some k) (.cptr cs) = some (.cptr (cs.drop k)) := rfl
def extractAV (x : AV) (i : Nat) : Option AV := match x with
  | .tuple vs => vs[i]?
  | _ => none
@[simp] theorem extractAV_tuple {vs : List AV} {i : Nat} : extractAV (.tuple vs) i = vs[i]? := rfl
def idxAV (e : Option (Option Nat)) (x i : AV) : Option AV := match e, x, i with
  | some s, .list sz rows _, .val (.int _ i) => if s = some sz ∧ 0 ≤ i ∧ i < rows.length then some (.cptr (rows.getD i.toNat [])) else none
  | some s, .vref f g sz lo len, .val (.int _ i) => if s = some sz ∧ 0 ≤ i ∧ i < len then some (.vptr f g ((lo + i.toNat) * sz)) else none
  | _, _, _ => none
@[simp] theorem idxAV_vref {s sz f g lo len : Nat} {k : IntKind} {i : Int} : idxAV (some (some s)) (.vref f g sz lo len) (.val (.int k i)) = if s = sz ∧ 0 ≤ i ∧ i < len then some (.vptr f g ((lo + i.toNat) * sz)) else none := by simp [idxAV]
@[simp] theorem idxAV_list {s sz : Nat} {rows : List (List AV)} {own : Own} {k : IntKind} {i : Int} : idxAV (some (some s)) (.list sz rows own) (.val (.int k i)) = if s = sz ∧ 0 ≤ i ∧ i < rows.length then some (.cptr (rows.getD i.toNat [])) else none := by simp [idxAV]
def loadAV (P : Program) (t : TypeId) (M : Mem) (x : AV) : Option AV := (memOf M x).bind (loadCells? P t)
@[simp] theorem loadAV_cptr {P : Program} {t : TypeId} {M : Mem} {cs : List AV} : loadAV P t M (.cptr cs) = loadCells? P t cs := rfl
theorem loadAV_ptr {P : Program} {t : TypeId} {M : Mem} {b o : Nat} {bt : TypeId} {cs : List AV} (hb : M[b]? = some (.cells bt cs)) : loadAV P t M (.ptr b o) = if o ≤ cs.length then loadCells? P t (cs.drop o) else none := by
  simp only [loadAV, memOf, hb]
  split <;> rfl
def loadRow (agg : Option Bool) (n : Option Nat) (cs : List AV) : Option AV := match agg, n with
  | some true, some n => if n ≤ cs.length then some (.agg (cs.take n)) else none
  | some false, some _ => cs.head?
  | _, _ => none
theorem loadCells_row {P : Program} {t : TypeId} {cs : List AV} : loadCells? P t cs = loadRow (aggOf P t) (szOf P t) cs := by
  unfold loadCells? loadRow
  cases aggOf P t with
  | none => rfl
  | some b => cases b <;> cases szOf P t <;> first | rfl | (cases cs <;> rfl)
@[simp] theorem loadRow_one {n : Nat} {c : AV} {cs : List AV} : loadRow (some false) (some n) (c :: cs) = some c := rfl
@[simp] theorem loadRow_agg {n : Nat} {cs : List AV} : loadRow (some true) (some n) cs = if n ≤ cs.length then some (.agg (cs.take n)) else none := rfl
def storeAV (s : Option Nat) (M : Mem) (a v : AV) : Option Mem := match a with
  | .ptr b off => match M[b]? with
    | some (.cells bt cs) => if v.storable && decide (off + v.cells.length ≤ cs.length) && decide (s = some v.cells.length) then some (M.set b (.cells bt (overwrite cs off v.cells))) else none
    | _ => none
  | .vptr f g off => match M[f]? with
    | some (.vec vt sz cs g' hist) => match hist.lookup g with
      | some n => if v.storable && decide (off + v.cells.length ≤ n * sz) && decide (s = some v.cells.length) then some (M.set f (.vec vt sz (overwrite cs off v.cells) g' (keepHist sz g off hist))) else none
      | none => none
    | _ => none
  | _ => none
theorem storeAV_ptr {n : Nat} {M : Mem} {b off : Nat} {v : AV} {bt : TypeId} {cs : List AV} (hb : M[b]? = some (.cells bt cs)) : storeAV (some n) M (.ptr b off) v = if v.storable = true ∧ off + v.cells.length ≤ cs.length ∧ n = v.cells.length then some (M.set b (.cells bt (overwrite cs off v.cells))) else none := by
  simp only [storeAV, hb, Bool.and_eq_true, decide_eq_true_eq, Option.some.injEq, and_assoc]

theorem vcOp_pick {c a b : Operand} : vcOp C h ⟨d, .pick c a b, t, p, af, g⟩ K ρ M = onSome (pickAV (ρ c) (ρ a) (ρ b)) (fun v => K v M) := by
  rw [vcOp_pure rfl rfl (fun _ => rfl) (fun _ => rfl) (fun _ => rfl)]; rfl
theorem vcOp_nilCheck {x : Operand} : vcOp C h ⟨d, .nilCheck x, t, p, af, g⟩ K ρ M = onSome (nilAV (ρ x)) (fun v => K v M) := by
  rw [vcOp_pure rfl rfl (fun _ => rfl) (fun _ => rfl) (fun _ => rfl)]; rfl
theorem vcOp_binOp {op : BinOp} {xt yt : TypeId} {x y : Operand} : vcOp C h ⟨d, .binOp op xt x y yt, t, p, af, g⟩ K ρ M = binKx C ⟨d, .binOp op xt x y yt, t, p, af, g⟩ ρ op xt (ρ x) (ρ y) (fun v => K v M) := by
  have e : vcOp C h ⟨d, .binOp op xt x y yt, t, p, af, g⟩ K ρ M = (match evalOp C h ⟨d, .binOp op xt x y yt, t, p, af, g⟩ ρ M with | some (v, M') => K v M' | none => nilTest C.P op xt (ρ x) (ρ y) = true ∧ ∀ b, K (.val (.bool b)) M) := rfl
  rw [e]
  have e2 : evalOp C h ⟨d, .binOp op xt x y yt, t, p, af, g⟩ ρ M = ((binAV C.P op xt (ρ x) (ρ y)).or (evalPure1 C ⟨d, .binOp op xt x y yt, t, p, af, g⟩ ρ)).map fun v => (v, M) := by
    unfold evalOp
    change (match binAV C.P op xt (ρ x) (ρ y) with | some v => some (v, M) | none => match evalPure1 C ⟨d, .binOp op xt x y yt, t, p, af, g⟩ ρ with | some v => some (v, M) | none => none) = _
    cases binAV C.P op xt (ρ x) (ρ y) with
    | some v => rfl
    | none => cases evalPure1 C ⟨d, .binOp op xt x y yt, t, p, af, g⟩ ρ <;> rfl
  rw [e2]
  unfold binKx
  cases (binAV C.P op xt (ρ x) (ρ y)).or (evalPure1 C ⟨d, .binOp op xt x y yt, t, p, af, g⟩ ρ) <;> rfl
theorem vcOp_not {xt : TypeId} {x : Operand} : vcOp C h ⟨d, .unOp .not xt x, t, p, af, g⟩ K ρ M = onSome (notAV (ρ x)) (fun v => K v M) := by
  rw [vcOp_pure rfl rfl (fun _ => rfl) (fun _ => rfl) (fun _ => rfl)]; rfl
theorem vcOp_fieldAddr {xt : TypeId} {x : Operand} {f : Nat} : vcOp C h ⟨d, .fieldAddr xt x f, t, p, af, g⟩ K ρ M = onSome (faddrAV (offOf C.P xt f) (ρ x)) (fun v => K v M) := by
  rw [vcOp_pure rfl rfl (fun _ => rfl) (fun _ => rfl) (fun _ => rfl)]; rfl
theorem vcOp_extract {x : Operand} {i : Nat} : vcOp C h ⟨d, .extract x i, t, p, af, g⟩ K ρ M = onSome (extractAV (ρ x) i) (fun v => K v M) := by
  rw [vcOp_pure rfl rfl (fun _ => rfl) (fun _ => rfl) (fun _ => rfl)]; rfl
theorem vcOp_indexAddr {xt : TypeId} {x i : Operand} : vcOp C h ⟨d, .indexAddr xt x i, t, p, af, g⟩ K ρ M = onSome ((idxAV ((elemOf? C.P xt).map (szOf C.P)) (ρ x) (ρ i)).or (evalPure1 C ⟨d, .indexAddr xt x i, t, p, af, g⟩ ρ)) (fun v => K v M) := by
  rw [vcOp_pure1 rfl rfl (fun _ => rfl) (fun _ => rfl) (fun _ => rfl)]
  congr 2
  simp only [evalPure, idxAV]
  cases elemOf? C.P xt with
  | none => rfl
  | some e => cases ρ x <;> first | rfl | (cases ρ i <;> first | rfl | (rename_i v; cases v <;> rfl))
theorem vcOp_load {lt : TypeId} {x : Operand} : vcOp C h ⟨d, .load lt x, t, p, af, g⟩ K ρ M = onSome (loadAV C.P lt M (ρ x)) (fun v => K v M) := by
  rw [vcOp_other rfl rfl, evalOp_mem rfl rfl]
  simp only [evalPure, evalMem, loadAV]
  cases hx : ρ x with
  | cptr cs => simp only [memOf, Option.bind_some]; cases loadCells? C.P lt cs <;> rfl
  | ptr b o => simp only []; cases (memOf M (AV.ptr b o)).bind (loadCells? C.P lt) <;> rfl
  | vptr f g o => simp only []; cases (memOf M (AV.vptr f g o)).bind (loadCells? C.P lt) <;> rfl
  | _ => rfl
theorem vcOp_store {lt : TypeId} {x y : Operand} : vcOp C h ⟨d, .store lt x y, t, p, af, g⟩ K ρ M = onSome (storeAV (szOf C.P lt) M (ρ x) (ρ y)) (fun M' => K (.val undef) M') := by
  rw [vcOp_other rfl rfl, evalOp_mem rfl rfl]
  simp only [evalPure, evalMem, storeAV]
  cases hx : ρ x with
  | ptr b o =>
    simp only []
    cases hb : M[b]? with
    | none => rfl
    | some ob =>
      cases ob with
      | cells bt cs => simp only []; split <;> rfl
      | _ => rfl
  | vptr f g o =>
    simp only []
    cases hb : M[f]? with
    | none => rfl
    | some ob =>
      cases ob with
      | vec vt sz cs g' hist =>
        simp only []
        cases hist.lookup g with
        | none => rfl
        | some n => simp only []; split <;> rfl
      | _ => rfl
  | _ => rfl
def allocAV (P : Program) (e : TypeId) (M : Mem) : Option (AV × Mem) := match zeroCells? P e with
  | some z => if z.all (·.oneCell') then some (.ptr M.length 0, M ++ [.cells e (z.map .val)]) else none
  | none => none
theorem vcOp_alloc {e : TypeId} : vcOp C h ⟨d, .alloc e, t, p, af, g⟩ K ρ M = onSome (allocAV C.P e M) (fun x => K x.1 x.2) := by
  rw [vcOp_other rfl rfl, evalOp_mem rfl rfl]; rfl
def boxAV (imm : Bool) (e : TypeId) (M : Mem) (x : AV) : Option (AV × Mem) := if x.storable = true then (if imm = true then some (.cptr x.cells, M) else some (.ptr M.length 0, M ++ [.cells e x.cells])) else none
theorem vcOp_box {e : TypeId} {x : Operand} : vcOp C h ⟨d, .box e x, t, p, af, g⟩ K ρ M = onSome (boxAV (hintAt h.imm d) e M (ρ x)) (fun x => K x.1 x.2) := by
  rw [vcOp_other rfl rfl, evalOp_mem rfl rfl]
  simp only [evalPure, evalMem, boxAV]
  cases (ρ x).storable <;> cases hintAt h.imm d <;> rfl
theorem vcOp_makeFunc {fn : Fn} {f c : Array Operand} : vcOp C h ⟨d, .makeFunc fn f c, t, p, af, g⟩ K ρ M = K (.func fn (f.toList.map ρ) (c.toList.map ρ)) M := by
  rw [vcOp_pure rfl rfl (fun _ => rfl) (fun _ => rfl) (fun _ => rfl)]; rfl
theorem vcOp_slice {st : TypeId} {x : Operand} {lo hi mx : Option Operand} : vcOp C h ⟨d, .slice st x lo hi mx, t, p, af, g⟩ K ρ M = onSome (((slice2 C.P st (ρ x) (lo.map ρ) (hi.map ρ) (mx.map ρ)).map fun v => (v, M)).or (extraAV C ⟨d, .slice st x lo hi mx, t, p, af, g⟩ ρ M)) (fun x => K x.1 x.2) := by
  rw [vcOp_ext rfl rfl (fun _ => rfl) (fun _ => rfl)]; rfl
def buildAV (P : Program) (t : TypeId) (parts : List (Nat × AV)) : Option AV := match zeroCells? P t, P.underlying t with
  | some z, some (.struct _) => if !fieldsOk P t || !z.all (·.oneCell') then none else (buildGo P t parts (z.map .val)).map .agg
  | _, _ => none
theorem vcOp_build {bt : TypeId} {ps : List (Nat × Operand)} : vcOp C h ⟨d, .build bt ps.toArray, t, p, af, g⟩ K ρ M = onSome ((buildAV C.P bt (ps.map fun x => (x.1, ρ x.2))).or (arrBuild C.P bt (ps.map fun x => (x.1, ρ x.2)))) (fun v => K v M) := by
  rw [vcOp_pure1 rfl rfl (fun _ => rfl) (fun _ => rfl) (fun _ => rfl)]; rfl
def buildSliceAV (P : Program) (t : TypeId) (n : Nat) (parts : List (Nat × AV)) : Option AV := match elemOf? P t with
  | some e => match szOf P e, zeroCells? P e with
    | some sz, some z => if n * sz ≤ 2 ^ 24 ∧ z.length = sz ∧ z.all (·.oneCell') ∧ 0 < sz then
        (rowsGo sz parts (List.replicate n (z.map .val))).map fun rows => .list sz rows .full
      else none
    | _, _ => none
  | none => none
theorem vcOp_buildSlice {bt : TypeId} {n : Nat} {ps : List (Nat × Operand)} : vcOp C h ⟨d, .buildSlice bt n ps.toArray, t, p, af, g⟩ K ρ M = if hvAt C h bt d = true then onSome (vbuildAV C.P bt n (ps.map fun x => (x.1, ρ x.2)) M) (fun r => K r.1 r.2) else onSome (buildSliceAV C.P bt n (ps.map fun x => (x.1, ρ x.2))) (fun v => K v M) := by
  rw [vcOp_other rfl rfl]
  simp only [evalOp, evalPure, evalMem, evalMore]
  cases hvAt C h bt d with
  | true =>
    simp only [if_true]
    change onSome (match vbuildAV C.P bt n (ps.map fun x => (x.1, ρ x.2)) M with | some r => some r | none => none) _ = _
    cases vbuildAV C.P bt n (ps.map fun x => (x.1, ρ x.2)) M <;> rfl
  | false =>
    simp only [Bool.false_eq_true, if_false, buildSliceAV]
    show onSome (match buildSliceAV C.P bt n (ps.map fun x => (x.1, ρ x.2)) with | some v => some (v, M) | none => none) _ = onSome (buildSliceAV C.P bt n (ps.map fun x => (x.1, ρ x.2))) _
    cases buildSliceAV C.P bt n (ps.map fun x => (x.1, ρ x.2)) <;> rfl
theorem vcOp_index {xt : TypeId} {x i : Operand} : vcOp C h ⟨d, .index xt x i, t, p, af, g⟩ K ρ M = onSome ((evalPure C h ⟨d, .index xt x i, t, p, af, g⟩ ρ).or (evalPure1 C ⟨d, .index xt x i, t, p, af, g⟩ ρ)) (fun v => K v M) := vcOp_pure1 rfl rfl (fun _ => rfl) (fun _ => rfl) (fun _ => rfl)
theorem vcOp_convert {a b : TypeId} {x : Operand} : vcOp C h ⟨d, .convert a b x, t, p, af, g⟩ K ρ M = onSome (((convAV C.P a b (ρ x)).map fun v => (v, M)).or (extraAV C ⟨d, .convert a b x, t, p, af, g⟩ ρ M)) (fun x => K x.1 x.2) := vcOp_ext rfl rfl (fun _ => rfl) (fun _ => rfl)
theorem vcOp_makeMap {mt : TypeId} : vcOp C h ⟨d, .makeMap mt none, t, p, af, g⟩ K ρ M = K (.mapr M.length) (M ++ [.map [] 0]) := by
  rw [vcOp_other rfl rfl]; rfl
theorem vcOp_lookup {mt : TypeId} {m k : Operand} {ok : Bool} : vcOp C h ⟨d, .lookup mt m k ok, t, p, af, g⟩ K ρ M = onSome (lookupAV C.P mt M (ρ m) (ρ k) ok) (fun v => K v M) := by
  rw [vcOp_other rfl rfl]
  simp only [evalOp, evalPure, evalMem, evalMore]
  cases lookupAV C.P mt M (ρ m) (ρ k) ok <;> rfl
theorem vcOp_mapUpdate {mt : TypeId} {m k x : Operand} : vcOp C h ⟨d, .mapUpdate mt m k x, t, p, af, g⟩ K ρ M = onSome (mapPutAV C.P mt M (ρ m) (ρ k) (ρ x)) (fun M' => K (.val undef) M') := by
  rw [vcOp_other rfl rfl]
  simp only [evalOp, evalPure, evalMem, evalMore]
  cases mapPutAV C.P mt M (ρ m) (ρ k) (ρ x) <;> rfl
theorem vcOp_insert {mt : TypeId} {m k x : Operand} : vcOp C h ⟨d, .insert mt m k x, t, p, af, g⟩ K ρ M = onSome (mapPutAV C.P mt M (ρ m) (ρ k) (ρ x)) (fun M' => K (.val undef) M') := by
  rw [vcOp_other rfl rfl]
  simp only [evalOp, evalPure, evalMem, evalMore]
  cases mapPutAV C.P mt M (ρ m) (ρ k) (ρ x) <;> rfl
theorem vcOp_makeSlice {st : TypeId} {l c : Operand} : vcOp C h ⟨d, .makeSlice st l c, t, p, af, g⟩ K ρ M = onSome (vmakeAV C.P st (ρ l) (ρ c) M) (fun r => K r.1 r.2) := by
  rw [vcOp_other rfl rfl]
  change onSome (match vmakeAV C.P st (ρ l) (ρ c) M with | some r => some r | none => none) _ = _
  cases vmakeAV C.P st (ρ l) (ρ c) M <;> rfl
theorem vcOp_len {x : Operand} {xt : TypeId} : vcOp C h ⟨d, .call { callee := .builtin .len, args := #[x], argTypes := #[xt] }, t, p, af, g⟩ K ρ M = onSome ((lenAV C.P xt (ρ x)).or (lenMore C.P xt M (ρ x))) (fun n => K (.val (.int .i64 n)) M) := by
  simp only [vcOp, evalOp, evalPure, callPure, List.map_cons, List.map_nil]
  cases hl : lenAV C.P xt (ρ x) with
  | none => cases hm : lenMore C.P xt M (ρ x) <;> simp [hl, hm, evalMem, evalMore, builtinMore, nilTestO, goInt, evalPure1, evalX, builtinX]
  | some n => simp [hl, goInt]
theorem vcOp_max {x y : Operand} {ts : Array TypeId} : vcOp C h ⟨d, .call { callee := .builtin .max, args := #[x, y], argTypes := ts }, t, p, af, g⟩ K ρ M = onSome (min2V true (ρ x) (ρ y)) (fun v => K v M) := by
  simp only [vcOp, evalOp, evalPure, callPure, List.map_cons, List.map_nil]
  cases hl : min2V true (ρ x) (ρ y) with
  | none => simp [evalMem, evalMore, builtinMore, nilTestO, evalPure1, evalX, builtinX]
  | some n => simp
theorem vcOp_min {x y : Operand} {ts : Array TypeId} : vcOp C h ⟨d, .call { callee := .builtin .min, args := #[x, y], argTypes := ts }, t, p, af, g⟩ K ρ M = onSome (min2V false (ρ x) (ρ y)) (fun v => K v M) := by
  simp only [vcOp, evalOp, evalPure, callPure, List.map_cons, List.map_nil]
  cases hl : min2V false (ρ x) (ρ y) with
  | none => simp [evalMem, evalMore, builtinMore, nilTestO, evalPure1, evalX, builtinX]
  | some n => simp
def callK (C : Ctx) (f : AV) (args : List AV) (M : Mem) (K : AV → Mem → Prop) : Prop := match f with
  | .func (.func g) first captured => Invk C g (first ++ args ++ captured) M K
  | _ => False
theorem vcOp_call {f : Operand} {args : List Operand} {ts : Array TypeId} : vcOp C h ⟨d, .call { callee := .value f, args := args.toArray, argTypes := ts }, t, p, af, g⟩ K ρ M = callK C (ρ f) (args.map ρ) M K := rfl
theorem callK_congr {f f' : AV} {args args' : List AV} {M M' : Mem} {K : AV → Mem → Prop} (hf : f = f') (ha : args = args') (hM : M = M') : callK C f args M K = callK C f' args' M' K := by rw [hf, ha, hM]
theorem callK_func {f : FuncId} {first captured args : List AV} : callK C (.func (.func f) first captured) args M K = Invk C f (first ++ args ++ captured) M K := rfl
def appendK (C : Ctx) (own vec : Bool) (t u : TypeId) (s x : AV) (M : Mem) (K : AV → Mem → Prop) : Prop :=
  ∃ e sz bytes, appendOk C.P t u sz bytes e ∧ onSome (appMem own vec e sz bytes s x M) (fun r => K r.1 r.2)
theorem vcOp_append {s x : Operand} {st xt : TypeId} : vcOp C h ⟨d, .call { callee := .builtin .append, args := #[s, x], argTypes := #[st, xt] }, t, p, af, g⟩ K ρ M = appendK C (hintAt h.own d) (hintAt h.vec d) st xt (ρ s) (ρ x) M K := by
  simp only [vcOp, appendK]
  congr; funext e; congr; funext sz; congr; funext bytes
  cases appMem (hintAt h.own d) (hintAt h.vec d) e sz bytes (ρ s) (ρ x) M with
  | none => rfl
  | some r => rfl
theorem appendK_congr {own vec : Bool} {st xt : TypeId} {s s' x x' : AV} {M M' : Mem} {K : AV → Mem → Prop} (hs : s = s') (hx : x = x') (hM : M = M') : appendK C own vec st xt s x M K = appendK C own vec st xt s' x' M' K := by rw [hs, hx, hM]
end
end Go.Abs
end
section
/- The walk's rules, more. -/
set_option linter.unusedVariables false
namespace Go.Abs

@[simp] theorem onSome_ite {α : Type} {c : Prop} [Decidable c] (v : α) (f : α → Prop) : onSome (if c then some v else none) f = (c ∧ f v) := by
  by_cases h : c <;> simp [h, onSome]
@[simp] theorem onSome_map {α β : Type} (o : Option α) (g : α → β) (f : β → Prop) : onSome (o.map g) f = onSome o (fun x => f (g x)) := by
  cases o <;> rfl
@[simp] theorem min2V_int {mx : Bool} {k : IntKind} {a b : Int} : min2V mx (.val (.int k a)) (.val (.int k b)) = some (.val (.int k (if mx = true then (if b > a then b else a) else (if b < a then b else a)))) := by
  simp [min2V]
attribute [simp] Value.oneCell' AV.storable AV.one AV.cells overwrite loadCells_row resultAV resList resAV hintAt asList rowsLen sizeOk goInt boxAV
@[simp] theorem binAV_int {P : Program} {op : BinOp} {t : TypeId} {k : IntKind} {a b : Int} : binAV P op t (.val (.int k a)) (.val (.int k b)) = (intB op k a b).map .val := by cases h : intB op k a b <;> simp [binAV, binAV0, binMore, h]
@[simp] theorem binAV_str {P : Program} {op : BinOp} {t : TypeId} {a b : ByteArray} : binAV P op t (.val (.string a)) (.val (.string b)) = (strB op a b).map .val := by cases h : strB op a b <;> simp [binAV, binAV0, binMore, h]
@[simp] theorem binAV_bool_eql {P : Program} {t : TypeId} {a b : Bool} (h : P.underlying t = some .bool) : binAV P .eql t (.val (.bool a)) (.val (.bool b)) = some (.val (.bool (a == b))) := by simp [binAV, binAV0, h]
@[simp] theorem binAV_bool_neq {P : Program} {t : TypeId} {a b : Bool} (h : P.underlying t = some .bool) : binAV P .neq t (.val (.bool a)) (.val (.bool b)) = some (.val (.bool !(a == b))) := by simp [binAV, binAV0, h]
@[simp] theorem binAV_ptr_eql {P : Program} {t e : TypeId} {b o : Nat} (h : P.underlying t = some (.pointer e)) : binAV P .eql t (.ptr b o) (.val (.pointer none)) = some (.val (.bool false)) := by simp [binAV, binAV0, nilKind, h, sameKind, isNil]
@[simp] theorem binAV_ptr_neq {P : Program} {t e : TypeId} {b o : Nat} (h : P.underlying t = some (.pointer e)) : binAV P .neq t (.ptr b o) (.val (.pointer none)) = some (.val (.bool true)) := by simp [binAV, binAV0, nilKind, h, sameKind, isNil]
attribute [simp] intB
theorem ba_loop (a : ByteArray) : ∀ (k i : Nat) (r : List UInt8), a.size - i = k → ByteArray.toList.loop a i r = r.reverse ++ a.data.toList.drop i := by
  intro k
  induction k with
  | zero =>
    intro i r h
    rw [ByteArray.toList.loop]
    have : ¬ i < a.size := by omega
    rw [if_neg this]
    rw [List.drop_of_length_le (by simp; show a.size ≤ i; omega)]
    simp
  | succ k ih =>
    intro i r h
    rw [ByteArray.toList.loop]
    have hi : i < a.size := by omega
    rw [if_pos hi, ih (i + 1) _ (by omega)]
    have hi' : i < a.data.toList.length := by simpa using hi
    rw [List.drop_eq_getElem_cons hi']
    have : a.get! i = a.data.toList[i] := by
      show a.data[i]! = _
      rw [getElem!_pos a.data i hi]
      simp
    rw [this]
    simp
theorem ba_toList (a : ByteArray) : a.toList = a.data.toList := by
  unfold ByteArray.toList
  rw [ba_loop a (a.size - 0) 0 [] rfl]
  simp
theorem ba_inj {a b : ByteArray} (h : a.data.toList = b.data.toList) : a = b := by
  obtain ⟨⟨a⟩⟩ := a
  obtain ⟨⟨b⟩⟩ := b
  simp at h
  rw [h]
theorem ba_beq (a b : ByteArray) : (a.toList == b.toList) = decide (a = b) := by
  rw [ba_toList, ba_toList, Bool.eq_iff_iff]
  simp only [beq_iff_eq, decide_eq_true_eq]
  exact ⟨ba_inj, fun h => by rw [h]⟩
@[simp] theorem strB_eql (a b : ByteArray) : strB .eql a b = some (.bool (decide (a = b))) := by show some _ = some _; rw [ba_beq]
@[simp] theorem strB_neq (a b : ByteArray) : strB .neq a b = some (.bool (!decide (a = b))) := by show some _ = some _; rw [ba_beq]
@[simp] theorem strB_add (a b : ByteArray) : strB .add a b = if ((a.size + b.size : Nat) : Int) > IntKind.i64.max then none else some (.string (a ++ b)) := rfl

theorem binK_int {P : Program} {op : BinOp} {t : TypeId} {k : IntKind} {a b : Int} {f : AV → Prop} : binK P op t (.val (.int k a)) (.val (.int k b)) f = onSome ((intB op k a b).map .val) f := by rw [binK_plain rfl]; simp
theorem binK_str {P : Program} {op : BinOp} {t : TypeId} {a b : ByteArray} {f : AV → Prop} : binK P op t (.val (.string a)) (.val (.string b)) f = onSome ((strB op a b).map .val) f := by rw [binK_plain rfl]; simp
theorem binK_bool {P : Program} {op : BinOp} {t : TypeId} {a b : Bool} {f : AV → Prop} : binK P op t (.val (.bool a)) (.val (.bool b)) f = onSome (binAV P op t (.val (.bool a)) (.val (.bool b))) f := by rw [binK_plain rfl]
theorem binK_ptr {P : Program} {op : BinOp} {t : TypeId} {b o : Nat} {y : AV} {f : AV → Prop} : binK P op t (.ptr b o) y f = onSome (binAV P op t (.ptr b o) y) f := by rw [binK_plain rfl]
theorem binK_nil {P : Program} {op : BinOp} {t : TypeId} {v : Value} {y : AV} {f : AV → Prop} : binK P op t (.val v) y f = onSome (binAV P op t (.val v) y) f := by rw [binK_plain rfl]
theorem binK_cons {P : Program} {op : BinOp} {t : TypeId} {sz : Nat} {r : List AV} {rows : List (List AV)} {own : Own} {y : AV} {f : AV → Prop} : binK P op t (.list sz (r :: rows) own) y f = onSome (binAV P op t (.list sz (r :: rows) own) y) f := by rw [binK_plain rfl]
theorem binK_list_nil {P : Program} {op : BinOp} {t e : TypeId} {sz : Nat} {own : Own} {f : AV → Prop} (hop : op = .eql ∨ op = .neq) (ht : P.underlying t = some (.slice e)) : binK P op t (.list sz [] own) (.val (.slice none 0 0)) f = ∀ b, f (.val (.bool b)) := by
  have h1 : binAV P op t (.list sz [] own) (.val (.slice none 0 0)) = none := by
    rcases hop with rfl | rfl <;> simp [binAV, binAV0, binMore, nilKind, ht, sameKind, isNil]
  have h2 : nilTest P op t (.list sz [] own) (.val (.slice none 0 0)) = true := by
    rcases hop with rfl | rfl <;> simp [nilTest, ht]
  unfold binK
  rw [h1, h2]
  simp
@[simp] theorem binAV_nil_eql {P : Program} {t e : TypeId} (h : P.underlying t = some (.slice e)) : binAV P .eql t (.val (.slice none 0 0)) (.val (.slice none 0 0)) = some (.val (.bool true)) := by simp [binAV, binAV0, nilKind, h, sameKind, isNil]
@[simp] theorem binAV_cons_eql {P : Program} {t e : TypeId} {sz : Nat} {r : List AV} {rows : List (List AV)} {own : Own} (h : P.underlying t = some (.slice e)) : binAV P .eql t (.list sz (r :: rows) own) (.val (.slice none 0 0)) = some (.val (.bool false)) := by simp [binAV, binAV0, nilKind, h, sameKind, isNil]
@[simp] theorem binAV_nil_neq {P : Program} {t e : TypeId} (h : P.underlying t = some (.slice e)) : binAV P .neq t (.val (.slice none 0 0)) (.val (.slice none 0 0)) = some (.val (.bool false)) := by simp [binAV, binAV0, nilKind, h, sameKind, isNil]
@[simp] theorem binAV_cons_neq {P : Program} {t e : TypeId} {sz : Nat} {r : List AV} {rows : List (List AV)} {own : Own} (h : P.underlying t = some (.slice e)) : binAV P .neq t (.list sz (r :: rows) own) (.val (.slice none 0 0)) = some (.val (.bool true)) := by simp [binAV, binAV0, nilKind, h, sameKind, isNil]

/-- slices of a list, bounds by number -/
@[simp] theorem sliceIdx_none {n : Nat} : sliceIdx n none = some n := rfl
@[simp] theorem sliceIdx_int {n : Nat} {k : IntKind} {i : Int} : sliceIdx n (some (.val (.int k i))) = if 0 ≤ i ∧ i ≤ n then some i.toNat else none := rfl

attribute [congr] ite_congr

def guardV (v : AV) (want : Bool) (run skip : Prop) : Prop := match v with
  | .val (.bool b) => if b = want then run else skip
  | .val (.tuple _) => skip
  | _ => False
theorem guardV_bool {b want : Bool} {run skip : Prop} : guardV (.val (.bool b)) want run skip = if b = want then run else skip := rfl
theorem guardV_undef {want : Bool} {run skip : Prop} : guardV (.val undef) want run skip = skip := rfl
theorem guardV_congr {v v' : AV} {want : Bool} {run skip : Prop} (h : v = v') : guardV v want run skip = guardV v' want run skip := by rw [h]
def guardK (d : Option Tmp) (want : Bool) (T : Env) (run skip : Prop) : Prop := match d with
  | some d => guardV (T d) want run skip
  | none => False
theorem guardK_some {d : Tmp} {want : Bool} {T : Env} {run skip : Prop} : guardK (some d) want T run skip = guardV (T d) want run skip := rfl
theorem guardK_congr {d d' : Option Tmp} {want : Bool} {T T' : Env} {run skip : Prop} (h : d = d') (hT : T = T') : guardK d want T run skip = guardK d' want T' run skip := by rw [h, hT]
theorem vcGuard_K {ops : Array Oper} {d : Option Tmp} {op : Op} {t : TypeId} {p : String} {af : Array Edge} {run skip : Prop} {j : Nat} {want : Bool} {T : Env} :
    vcGuard ops ⟨d, op, t, p, af, some (j, want)⟩ T run skip = guardK ((ops[j]?).bind (·.dst)) want T run skip := by
  unfold vcGuard guardK guardV
  rfl

def condV (v : AV) (x y : Prop) : Prop := match v with
  | .val (.bool b) => if b = true then x else y
  | _ => False
theorem condV_bool {b : Bool} {x y : Prop} : condV (.val (.bool b)) x y = if b = true then x else y := rfl
theorem condV_congr {v v' : AV} {x y : Prop} (h : v = v') : condV v x y = condV v' x y := by rw [h]
theorem vc_condV {C : Ctx} {h : Hint} {N : Nat} {c : Operand} {x y : Code} {Q : Exit → Env → Mem → Prop} {T : Env} {M : Mem} : vcCode C h N (.cond c x y) Q T M = condV (T.ev C c) (vcCode C h N x Q T M) (vcCode C h N y Q T M) := rfl
end Go.Abs
end
