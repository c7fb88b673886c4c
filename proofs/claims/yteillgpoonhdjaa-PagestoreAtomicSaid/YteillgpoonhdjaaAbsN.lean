/- The walk: a function on code whose value is what is left to prove. -/
import Derived.Test.YteillgpoonhdjaaAbsM
set_option linter.unusedVariables false
namespace Go.Abs

def vcCode (C : Ctx) (h : Hint) (N : Nat) : Code → (Exit → Env → Mem → Prop) → Env → Mem → Prop
  | .skip, Q, T, M => Q .normal T M
  | .label _, Q, T, M => Q .normal T M
  | .region id ops draw, Q, T, M => if draw = true then AWp C N (.region id ops true) Q T M else vcOps C h ops ops.toList (fun T M => Q .normal T M) T M
  | .seq x y, Q, T, M => vcCode C h N x (thenK (vcCode C h N y Q) Q) T M
  | .cond c x y, Q, T, M => match T.ev C c with
    | .val (.bool b) => if b = true then vcCode C h N x Q T M else vcCode C h N y Q T M
    | _ => False
  | .block id c, Q, T, M => vcCode C h N c (inBlockK id Q) T M
  | .exit id, Q, T, M => Q (.exit id) T M
  | .ret, Q, T, M => Q .ret T M
  | c, Q, T, M => AWp C N c Q T M

def codeInside (N : Nat) : Code → Bool
  | .region _ ops draw => draw || opsInside N ops ops.toList
  | .seq x y => codeInside N x && codeInside N y
  | .cond c x y => Operand.inside N c && codeInside N x && codeInside N y
  | .block _ c => codeInside N c
  | _ => true

theorem vcCode_sound {C : Ctx} {h : Hint} {N : Nat} : ∀ (c : Code) (Q : Exit → Env → Mem → Prop) (T : Env) (M : Mem), codeInside N c = true → vcCode C h N c Q T M → AWp C N c Q T M
  | .skip, Q, T, M, _, hv => awp_skip hv
  | .label _, Q, T, M, _, hv => awp_label hv
  | .region id ops draw, Q, T, M, hin, hv => by
    simp only [vcCode] at hv
    cases draw with
    | true => simpa using hv
    | false => exact awp_region (by simpa [codeInside] using hin) (by simpa using hv)
  | .seq x y, Q, T, M, hin, hv => by
    simp only [codeInside, Bool.and_eq_true] at hin
    simp only [vcCode] at hv
    refine awp_seq ((vcCode_sound x _ T M hin.1 hv).mono ?_)
    intro e T' M' hq
    cases e with
    | normal => exact vcCode_sound y Q T' M' hin.2 hq
    | _ => exact hq
  | .cond c x y, Q, T, M, hin, hv => by
    simp only [codeInside, Bool.and_eq_true] at hin
    simp only [vcCode] at hv
    split at hv
    · rename_i b hb
      refine awp_cond hin.1.1 hb (fun e => ?_) (fun e => ?_)
      · rw [if_pos e] at hv; exact vcCode_sound x Q T M hin.1.2 hv
      · rw [if_neg (by simp [e])] at hv; exact vcCode_sound y Q T M hin.2 hv
    · exact hv.elim
  | .block id c, Q, T, M, hin, hv => awp_block (vcCode_sound c _ T M (by simpa [codeInside] using hin) hv)
  | .exit id, Q, T, M, _, hv => awp_exit hv
  | .ret, Q, T, M, _, hv => awp_ret hv
  | .loop c, Q, T, M, _, hv => hv
  | .rangeFunc _ _ _ _, Q, T, M, _, hv => hv
  | .scope _, Q, T, M, _, hv => hv
  | .goto _, Q, T, M, _, hv => hv
  | .refuse _, Q, T, M, _, hv => hv

def isCall : Op → Bool
  | .call _ => true
  | _ => false

/-! ### the walk's rules -/
def onSome {α : Type} (o : Option α) (f : α → Prop) : Prop := match o with
  | some v => f v
  | none => False
@[simp] theorem onSome_some {α : Type} (v : α) (f : α → Prop) : onSome (some v) f = f v := rfl
@[simp] theorem onSome_none {α : Type} (f : α → Prop) : onSome none f = False := rfl
theorem onSome_congr {α : Type} {o o' : Option α} (f : α → Prop) (h : o = o') : onSome o f = onSome o' f := by rw [h]

theorem vcCode_congr {C : Ctx} {h : Hint} {N : Nat} {c : Code} {Q : Exit → Env → Mem → Prop} {T T' : Env} {M M' : Mem} (hT : T = T') (hM : M = M') : vcCode C h N c Q T M = vcCode C h N c Q T' M' := by rw [hT, hM]
theorem vcOps_congr {C : Ctx} {h : Hint} {ops : Array Oper} {l : List Oper} {K : Env → Mem → Prop} {T T' : Env} {M M' : Mem} (hT : T = T') (hM : M = M') : vcOps C h ops l K T M = vcOps C h ops l K T' M' := by rw [hT, hM]
theorem vcOp_congr {C : Ctx} {h : Hint} {o : Oper} {K : AV → Mem → Prop} {ρ : Operand → AV} {M M' : Mem} (hM : M = M') : vcOp C h o K ρ M = vcOp C h o K ρ M' := by rw [hM]
theorem vcGuard_congr {ops : Array Oper} {o : Oper} {T T' : Env} {run skip : Prop} (hT : T = T') : vcGuard ops o T run skip = vcGuard ops o T' run skip := by rw [hT]
theorem AWp_congr {C : Ctx} {N : Nat} {c : Code} {Q : Exit → Env → Mem → Prop} {T T' : Env} {M M' : Mem} (hT : T = T') (hM : M = M') : AWp C N c Q T M = AWp C N c Q T' M' := by rw [hT, hM]
theorem ACalls_congr {C : Ctx} {f : FuncId} {args args' : List AV} {M M' : Mem} {Q : AV → Mem → Prop} (ha : args = args') (hM : M = M') : ACalls C f args M Q = ACalls C f args' M' Q := by rw [ha, hM]
theorem thenK_congr {K : Env → Mem → Prop} {Q : Exit → Env → Mem → Prop} {e : Exit} {T T' : Env} {M M' : Mem} (hT : T = T') (hM : M = M') : thenK K Q e T M = thenK K Q e T' M' := by rw [hT, hM]
theorem inBlockK_congr {id : Nat} {Q : Exit → Env → Mem → Prop} {e : Exit} {T T' : Env} {M M' : Mem} (hT : T = T') (hM : M = M') : inBlockK id Q e T M = inBlockK id Q e T' M' := by rw [hT, hM]
theorem bodyQ_congr {C : Ctx} {rs : List ResultVar} {Q : AV → Mem → Prop} {e : Exit} {T T' : Env} {M M' : Mem} (hT : T = T') (hM : M = M') : bodyQ C rs Q e T M = bodyQ C rs Q e T' M' := by rw [hT, hM]

section
variable {C : Ctx} {h : Hint} {N : Nat} {Q : Exit → Env → Mem → Prop} {T : Env} {M : Mem} {K : AV → Mem → Prop} {ρ : Operand → AV}
theorem vc_skip : vcCode C h N .skip Q T M = Q .normal T M := rfl
theorem vc_label {l : Nat} : vcCode C h N (.label l) Q T M = Q .normal T M := rfl
theorem vc_region {id : Nat} {l : List Oper} : vcCode C h N (.region id l.toArray false) Q T M = vcOps C h l.toArray l (fun T M => Q .normal T M) T M := rfl
theorem vc_draw {id : Nat} {ops : Array Oper} : vcCode C h N (.region id ops true) Q T M = AWp C N (.region id ops true) Q T M := rfl
theorem vc_seq {x y : Code} : vcCode C h N (.seq x y) Q T M = vcCode C h N x (thenK (vcCode C h N y Q) Q) T M := rfl
theorem vc_cond {c : Operand} {x y : Code} {b : Bool} (hc : T.ev C c = .val (.bool b)) : vcCode C h N (.cond c x y) Q T M = if b = true then vcCode C h N x Q T M else vcCode C h N y Q T M := by
  simp only [vcCode, hc]
theorem vc_block {id : Nat} {c : Code} : vcCode C h N (.block id c) Q T M = vcCode C h N c (inBlockK id Q) T M := rfl
theorem vc_exit {id : Nat} : vcCode C h N (.exit id) Q T M = Q (.exit id) T M := rfl
theorem vc_ret : vcCode C h N .ret Q T M = Q .ret T M := rfl
theorem vc_loop {c : Code} : vcCode C h N (.loop c) Q T M = AWp C N (.loop c) Q T M := rfl

theorem thenK_normal {K : Env → Mem → Prop} : thenK K Q .normal T M = K T M := rfl
theorem thenK_exit {K : Env → Mem → Prop} {id : Nat} : thenK K Q (.exit id) T M = Q (.exit id) T M := rfl
theorem thenK_ret {K : Env → Mem → Prop} : thenK K Q .ret T M = Q .ret T M := rfl
theorem inBlockK_normal {id : Nat} : inBlockK id Q .normal T M = Q .normal T M := rfl
theorem inBlockK_ret {id : Nat} : inBlockK id Q .ret T M = Q .ret T M := rfl
theorem inBlockK_exit {id id' : Nat} : inBlockK id Q (.exit id') T M = if id' = id then Q .normal T M else Q (.exit id') T M := rfl
theorem bodyQ_ret {rs : List ResultVar} {Q : AV → Mem → Prop} : bodyQ C rs Q .ret T M = onSome (resultAV C rs T M) (fun r => Q r M) := by simp only [bodyQ, onSome]; cases resultAV C rs T M <;> rfl
theorem bodyQ_normal {rs : List ResultVar} {Q : AV → Mem → Prop} : bodyQ C rs Q .normal T M = onSome (resultAV C rs T M) (fun r => Q r M) := by simp only [bodyQ, onSome]; cases resultAV C rs T M <;> rfl

@[simp] theorem ev_tmp {t : Nat} : T.ev C (.tmp t) = T t := rfl
@[simp] theorem ev_const {v : Value} : T.ev C (.const v) = .val v := rfl
@[simp] theorem ev_global {g : Nat} : T.ev C (.global g) = C.gl g := rfl
@[simp] theorem ev_func {f : Nat} : T.ev C (.func f) = .func (.func f) [] [] := rfl
@[simp] theorem put_at {d j : Nat} {v : AV} : T.put (some d) v j = if j = d then v else T j := rfl

theorem vcOps_nil {ops : Array Oper} {K : Env → Mem → Prop} : vcOps C h ops [] K T M = K T M := rfl
theorem vcOps_cons {ops : Array Oper} {o : Oper} {rest : List Oper} {K : Env → Mem → Prop} : vcOps C h ops (o :: rest) K T M =
    vcGuard ops o T (vcOp C h o (fun v M' => vcOps C h ops rest K (T.put o.dst v) M') (T.ev C) M) (vcOps C h ops rest K (T.put o.dst (.val undef)) M) := rfl
theorem vcGuard_none {ops : Array Oper} {d : Option Tmp} {op : Op} {t : TypeId} {p : String} {af : Array Edge} {run skip : Prop} : vcGuard ops ⟨d, op, t, p, af, none⟩ T run skip = run := rfl
theorem vcGuard_some {ops : Array Oper} {d : Option Tmp} {op : Op} {t : TypeId} {p : String} {af : Array Edge} {run skip : Prop} {j : Nat} {want b : Bool} {d' : Tmp} (hd : (ops[j]?).bind (·.dst) = some d') (hb : T d' = .val (.bool b)) :
    vcGuard ops ⟨d, op, t, p, af, some (j, want)⟩ T run skip = if b = want then run else skip := by simp only [vcGuard, hd, hb]
theorem vcGuard_undef {ops : Array Oper} {d : Option Tmp} {op : Op} {t : TypeId} {p : String} {af : Array Edge} {run skip : Prop} {j : Nat} {want : Bool} {d' : Tmp} (hd : (ops[j]?).bind (·.dst) = some d') (hb : T d' = .val undef) :
    vcGuard ops ⟨d, op, t, p, af, some (j, want)⟩ T run skip = skip := by simp only [vcGuard, hd, hb, undef]

variable {d : Option Tmp} {t : TypeId} {p : String} {af : Array Edge} {g : Option (Nat × Bool)}
theorem vcOp_move {x : Operand} : vcOp C h ⟨d, .move x, t, p, af, g⟩ K ρ M = K (ρ x) M := rfl
theorem vcOp_assign {x : Operand} : vcOp C h ⟨d, .assign x, t, p, af, g⟩ K ρ M = K (ρ x) M := rfl
theorem vcOp_other {op : Op} (hop : isCall op = false) (hn : nilTestO C ⟨d, op, t, p, af, g⟩ ρ = false) : vcOp C h ⟨d, op, t, p, af, g⟩ K ρ M = onSome (evalOp C h ⟨d, op, t, p, af, g⟩ ρ M) (fun x => K x.1 x.2) := by
  have e : vcOp C h ⟨d, op, t, p, af, g⟩ K ρ M = (match evalOp C h ⟨d, op, t, p, af, g⟩ ρ M with | some (v, M') => K v M' | none => nilTestO C ⟨d, op, t, p, af, g⟩ ρ = true ∧ ∀ b, K (.val (.bool b)) M) := by
    cases op <;> first | exact Bool.noConfusion hop | rfl
  rw [e, hn]
  cases evalOp C h ⟨d, op, t, p, af, g⟩ ρ M with
  | none => simp
  | some x => rfl

theorem vcOp_pure {op : Op} (hop : isCall op = false) (hn : nilTestO C ⟨d, op, t, p, af, g⟩ ρ = false) (hm : ∀ M, evalMem C h ⟨d, op, t, p, af, g⟩ ρ M = none) : vcOp C h ⟨d, op, t, p, af, g⟩ K ρ M = onSome (evalPure C h ⟨d, op, t, p, af, g⟩ ρ) (fun v => K v M) := by
  rw [vcOp_other hop hn]
  simp only [evalOp, hm]
  cases evalPure C h ⟨d, op, t, p, af, g⟩ ρ <;> rfl

/-- two operands: the value; or, of a slice that may be nil held against nil, both answers -/
def binK (P : Program) (op : BinOp) (t : TypeId) (x y : AV) (f : AV → Prop) : Prop := match binAV P op t x y with
  | some v => f v
  | none => nilTest P op t x y = true ∧ ∀ b, f (.val (.bool b))
theorem binK_congr {P : Program} {op : BinOp} {t : TypeId} {x x' y y' : AV} {f : AV → Prop} (hx : x = x') (hy : y = y') : binK P op t x y f = binK P op t x' y' f := by rw [hx, hy]
theorem binK_plain {P : Program} {op : BinOp} {t : TypeId} {x y : AV} {f : AV → Prop} (h : nilTest P op t x y = false) : binK P op t x y f = onSome (binAV P op t x y) f := by
  unfold binK onSome
  rw [h]
  cases binAV P op t x y <;> simp

def pickAV (c a b : AV) : Option AV := match c with
  | .val (.bool t) => some (if t then a else b)
  | _ => none
@[simp] theorem pickAV_bool {t : Bool} {a b : AV} : pickAV (.val (.bool t)) a b = some (if t = true then a else b) := rfl
def nilAV : AV → Option AV
  | .ptr b off => some (.ptr b off)
  | .cptr cs => some (.cptr cs)
  | .func (.func f) a c => some (.func (.func f) a c)
  | _ => none
@[simp] theorem nilAV_ptr {b o : Nat} : nilAV (.ptr b o) = some (.ptr b o) := rfl
@[simp] theorem nilAV_cptr {cs : List AV} : nilAV (.cptr cs) = some (.cptr cs) := rfl
@[simp] theorem nilAV_func {f : FuncId} {a c : List AV} : nilAV (.func (.func f) a c) = some (.func (.func f) a c) := rfl
def notAV : AV → Option AV
  | .val (.bool b) => some (.val (.bool !b))
  | _ => none
@[simp] theorem notAV_bool {b : Bool} : notAV (.val (.bool b)) = some (.val (.bool !b)) := rfl
def faddrAV (k : Option Nat) (x : AV) : Option AV := match k, x with
  | some k, .ptr b off => some (.ptr b (off + k))
  | some k, .cptr cs => some (.cptr (cs.drop k))
  | _, _ => none
@[simp] theorem faddrAV_ptr {k b o : Nat} : faddrAV (some k) (.ptr b o) = some (.ptr b (o + k)) := rfl
@[simp] theorem faddrAV_cptr {k : Nat} {cs : List AV} : faddrAV (some k) (.cptr cs) = some (.cptr (cs.drop k)) := rfl
def extractAV (x : AV) (i : Nat) : Option AV := match x with
  | .tuple vs => vs[i]?
  | _ => none
@[simp] theorem extractAV_tuple {vs : List AV} {i : Nat} : extractAV (.tuple vs) i = vs[i]? := rfl
def idxAV (e : Option (Option Nat)) (x i : AV) : Option AV := match e, x, i with
  | some s, .list sz rows _, .val (.int _ i) => if s = some sz ∧ 0 ≤ i ∧ i < rows.length then some (.cptr (rows.getD i.toNat [])) else none
  | _, _, _ => none
@[simp] theorem idxAV_list {s sz : Nat} {rows : List (List AV)} {own : Own} {k : IntKind} {i : Int} : idxAV (some (some s)) (.list sz rows own) (.val (.int k i)) = if s = sz ∧ 0 ≤ i ∧ i < rows.length then some (.cptr (rows.getD i.toNat [])) else none := by simp [idxAV]
def loadAV (P : Program) (t : TypeId) (M : Mem) (x : AV) : Option AV := (memOf M x).bind (loadCells? P t)
@[simp] theorem loadAV_cptr {P : Program} {t : TypeId} {M : Mem} {cs : List AV} : loadAV P t M (.cptr cs) = loadCells? P t cs := rfl
theorem loadAV_ptr {P : Program} {t : TypeId} {M : Mem} {b o : Nat} {cs : List AV} (hb : M[b]? = some (.cells cs)) : loadAV P t M (.ptr b o) = if o ≤ cs.length then loadCells? P t (cs.drop o) else none := by
  simp only [loadAV, memOf, hb]
  split <;> rfl
def loadRow (agg : Option Bool) (n : Option Nat) (cs : List AV) : Option AV := match agg, n with
  | some true, some n => if n ≤ cs.length then some (.agg (cs.take n)) else none
  | some false, some _ => cs.head?
  | _, _ => none
theorem loadCells_row {P : Program} {t : TypeId} {cs : List AV} : loadCells? P t cs = loadRow (aggOf P t) (szOf P t) cs := by
  unfold loadCells? loadRow
  cases aggOf P t with
  | none => rfl
  | some b => cases b <;> cases szOf P t <;> first | rfl | (cases cs <;> rfl)
@[simp] theorem loadRow_one {n : Nat} {c : AV} {cs : List AV} : loadRow (some false) (some n) (c :: cs) = some c := rfl
@[simp] theorem loadRow_agg {n : Nat} {cs : List AV} : loadRow (some true) (some n) cs = if n ≤ cs.length then some (.agg (cs.take n)) else none := rfl
def storeAV (s : Option Nat) (M : Mem) (a v : AV) : Option Mem := match a with
  | .ptr b off => match M[b]? with
    | some (.cells cs) => if v.storable && decide (off + v.cells.length ≤ cs.length) && decide (s = some v.cells.length) then some (M.set b (.cells (overwrite cs off v.cells))) else none
    | _ => none
  | _ => none
theorem storeAV_ptr {n : Nat} {M : Mem} {b off : Nat} {v : AV} {cs : List AV} (hb : M[b]? = some (.cells cs)) : storeAV (some n) M (.ptr b off) v = if v.storable = true ∧ off + v.cells.length ≤ cs.length ∧ n = v.cells.length then some (M.set b (.cells (overwrite cs off v.cells))) else none := by
  simp only [storeAV, hb, Bool.and_eq_true, decide_eq_true_eq, Option.some.injEq, and_assoc]

theorem vcOp_pick {c a b : Operand} : vcOp C h ⟨d, .pick c a b, t, p, af, g⟩ K ρ M = onSome (pickAV (ρ c) (ρ a) (ρ b)) (fun v => K v M) := by
  rw [vcOp_pure rfl rfl (fun _ => rfl)]; rfl
theorem vcOp_nilCheck {x : Operand} : vcOp C h ⟨d, .nilCheck x, t, p, af, g⟩ K ρ M = onSome (nilAV (ρ x)) (fun v => K v M) := by
  rw [vcOp_pure rfl rfl (fun _ => rfl)]; rfl
theorem vcOp_binOp {op : BinOp} {xt yt : TypeId} {x y : Operand} : vcOp C h ⟨d, .binOp op xt x y yt, t, p, af, g⟩ K ρ M = binK C.P op xt (ρ x) (ρ y) (fun v => K v M) := by
  have e : vcOp C h ⟨d, .binOp op xt x y yt, t, p, af, g⟩ K ρ M = (match evalOp C h ⟨d, .binOp op xt x y yt, t, p, af, g⟩ ρ M with | some (v, M') => K v M' | none => nilTest C.P op xt (ρ x) (ρ y) = true ∧ ∀ b, K (.val (.bool b)) M) := rfl
  rw [e]
  simp only [evalOp, evalPure, evalMem, binK]
  cases binAV C.P op xt (ρ x) (ρ y) <;> rfl
theorem vcOp_not {xt : TypeId} {x : Operand} : vcOp C h ⟨d, .unOp .not xt x, t, p, af, g⟩ K ρ M = onSome (notAV (ρ x)) (fun v => K v M) := by
  rw [vcOp_pure rfl rfl (fun _ => rfl)]; rfl
theorem vcOp_fieldAddr {xt : TypeId} {x : Operand} {f : Nat} : vcOp C h ⟨d, .fieldAddr xt x f, t, p, af, g⟩ K ρ M = onSome (faddrAV (offOf C.P xt f) (ρ x)) (fun v => K v M) := by
  rw [vcOp_pure rfl rfl (fun _ => rfl)]; rfl
theorem vcOp_extract {x : Operand} {i : Nat} : vcOp C h ⟨d, .extract x i, t, p, af, g⟩ K ρ M = onSome (extractAV (ρ x) i) (fun v => K v M) := by
  rw [vcOp_pure rfl rfl (fun _ => rfl)]; rfl
theorem vcOp_indexAddr {xt : TypeId} {x i : Operand} : vcOp C h ⟨d, .indexAddr xt x i, t, p, af, g⟩ K ρ M = onSome (idxAV ((elemOf? C.P xt).map (szOf C.P)) (ρ x) (ρ i)) (fun v => K v M) := by
  rw [vcOp_pure rfl rfl (fun _ => rfl)]
  congr 1
  simp only [evalPure, idxAV]
  cases elemOf? C.P xt with
  | none => rfl
  | some e => cases ρ x <;> first | rfl | (cases ρ i <;> first | rfl | (rename_i v; cases v <;> rfl))
theorem vcOp_load {lt : TypeId} {x : Operand} : vcOp C h ⟨d, .load lt x, t, p, af, g⟩ K ρ M = onSome (loadAV C.P lt M (ρ x)) (fun v => K v M) := by
  rw [vcOp_other rfl rfl]
  simp only [evalOp, evalPure, evalMem, loadAV]
  cases hx : ρ x with
  | cptr cs => simp only [memOf, Option.bind_some]; cases loadCells? C.P lt cs <;> rfl
  | ptr b o => simp only []; cases (memOf M (AV.ptr b o)).bind (loadCells? C.P lt) <;> rfl
  | _ => rfl
theorem vcOp_store {lt : TypeId} {x y : Operand} : vcOp C h ⟨d, .store lt x y, t, p, af, g⟩ K ρ M = onSome (storeAV (szOf C.P lt) M (ρ x) (ρ y)) (fun M' => K (.val undef) M') := by
  rw [vcOp_other rfl rfl]
  simp only [evalOp, evalPure, evalMem, storeAV]
  cases hx : ρ x with
  | ptr b o =>
    simp only []
    cases hb : M[b]? with
    | none => rfl
    | some ob =>
      cases ob with
      | cells cs => simp only []; split <;> rfl
      | _ => rfl
  | _ => rfl
def allocAV (P : Program) (e : TypeId) (M : Mem) : Option (AV × Mem) := match zeroCells? P e with
  | some z => if z.all (·.oneCell') then some (.ptr M.length 0, M ++ [.cells (z.map .val)]) else none
  | none => none
theorem vcOp_alloc {e : TypeId} : vcOp C h ⟨d, .alloc e, t, p, af, g⟩ K ρ M = onSome (allocAV C.P e M) (fun x => K x.1 x.2) := by
  rw [vcOp_other rfl rfl]; rfl
def boxAV (imm : Bool) (M : Mem) (x : AV) : Option (AV × Mem) := if x.storable = true then (if imm = true then some (.cptr x.cells, M) else some (.ptr M.length 0, M ++ [.cells x.cells])) else none
theorem vcOp_box {e : TypeId} {x : Operand} : vcOp C h ⟨d, .box e x, t, p, af, g⟩ K ρ M = onSome (boxAV (hintAt h.imm d) M (ρ x)) (fun x => K x.1 x.2) := by
  rw [vcOp_other rfl rfl]
  simp only [evalOp, evalPure, evalMem, boxAV]
  cases (ρ x).storable <;> cases hintAt h.imm d <;> rfl
theorem vcOp_makeFunc {fn : Fn} {f c : Array Operand} : vcOp C h ⟨d, .makeFunc fn f c, t, p, af, g⟩ K ρ M = K (.func fn (f.toList.map ρ) (c.toList.map ρ)) M := by
  rw [vcOp_pure rfl rfl (fun _ => rfl)]; rfl
theorem vcOp_slice {st : TypeId} {x : Operand} {lo hi mx : Option Operand} : vcOp C h ⟨d, .slice st x lo hi mx, t, p, af, g⟩ K ρ M = onSome (sliceAV C.P st (ρ x) (lo.map ρ) (hi.map ρ) (mx.map ρ)) (fun v => K v M) := by
  rw [vcOp_pure rfl rfl (fun _ => rfl)]; rfl
def buildAV (P : Program) (t : TypeId) (parts : List (Nat × AV)) : Option AV := match zeroCells? P t, P.underlying t with
  | some z, some (.struct _) => if !fieldsOk P t || !z.all (·.oneCell') then none else (buildGo P t parts (z.map .val)).map .agg
  | _, _ => none
theorem vcOp_build {bt : TypeId} {ps : List (Nat × Operand)} : vcOp C h ⟨d, .build bt ps.toArray, t, p, af, g⟩ K ρ M = onSome (buildAV C.P bt (ps.map fun x => (x.1, ρ x.2))) (fun v => K v M) := by
  rw [vcOp_pure rfl rfl (fun _ => rfl)]; rfl
def buildSliceAV (P : Program) (t : TypeId) (n : Nat) (parts : List (Nat × AV)) : Option AV := match elemOf? P t with
  | some e => match szOf P e, zeroCells? P e with
    | some sz, some z => if n * sz ≤ 2 ^ 24 ∧ z.length = sz ∧ z.all (·.oneCell') ∧ 0 < sz then
        (rowsGo sz parts (List.replicate n (z.map .val))).map fun rows => .list sz rows .full
      else none
    | _, _ => none
  | none => none
theorem vcOp_buildSlice {bt : TypeId} {n : Nat} {ps : List (Nat × Operand)} : vcOp C h ⟨d, .buildSlice bt n ps.toArray, t, p, af, g⟩ K ρ M = onSome (buildSliceAV C.P bt n (ps.map fun x => (x.1, ρ x.2))) (fun v => K v M) := by
  rw [vcOp_pure rfl rfl (fun _ => rfl)]; rfl
theorem vcOp_len {x : Operand} {xt : TypeId} : vcOp C h ⟨d, .call { callee := .builtin .len, args := #[x], argTypes := #[xt] }, t, p, af, g⟩ K ρ M = onSome (lenAV C.P xt (ρ x)) (fun n => K (.val (.int .i64 n)) M) := by
  simp only [vcOp, evalOp, evalPure, callPure, List.map_cons, List.map_nil]
  cases hl : lenAV C.P xt (ρ x) with
  | none => simp [hl, evalMem, nilTestO]
  | some n => simp [hl, goInt]
theorem vcOp_max {x y : Operand} {ts : Array TypeId} : vcOp C h ⟨d, .call { callee := .builtin .max, args := #[x, y], argTypes := ts }, t, p, af, g⟩ K ρ M = onSome (min2V true (ρ x) (ρ y)) (fun v => K v M) := by
  simp only [vcOp, evalOp, evalPure, callPure, List.map_cons, List.map_nil]
  cases hl : min2V true (ρ x) (ρ y) with
  | none => simp [evalMem, nilTestO]
  | some n => simp
theorem vcOp_min {x y : Operand} {ts : Array TypeId} : vcOp C h ⟨d, .call { callee := .builtin .min, args := #[x, y], argTypes := ts }, t, p, af, g⟩ K ρ M = onSome (min2V false (ρ x) (ρ y)) (fun v => K v M) := by
  simp only [vcOp, evalOp, evalPure, callPure, List.map_cons, List.map_nil]
  cases hl : min2V false (ρ x) (ρ y) with
  | none => simp [evalMem, nilTestO]
  | some n => simp
def callK (C : Ctx) (f : AV) (args : List AV) (M : Mem) (K : AV → Mem → Prop) : Prop := match f with
  | .func (.func g) first captured => enters C.P g ∧ ACalls C g (first ++ args ++ captured) M K
  | _ => False
theorem vcOp_call {f : Operand} {args : List Operand} {ts : Array TypeId} : vcOp C h ⟨d, .call { callee := .value f, args := args.toArray, argTypes := ts }, t, p, af, g⟩ K ρ M = callK C (ρ f) (args.map ρ) M K := rfl
theorem callK_congr {f f' : AV} {args args' : List AV} {M M' : Mem} {K : AV → Mem → Prop} (hf : f = f') (ha : args = args') (hM : M = M') : callK C f args M K = callK C f' args' M' K := by rw [hf, ha, hM]
theorem callK_func {f : FuncId} {first captured args : List AV} : callK C (.func (.func f) first captured) args M K = (enters C.P f ∧ ACalls C f (first ++ args ++ captured) M K) := rfl
def appendK (C : Ctx) (own : Bool) (t u : TypeId) (s x : AV) (M : Mem) (K : AV → Mem → Prop) : Prop :=
  ∃ e sz bytes, appendOk C.P t u sz bytes e ∧ sizeOk sz s ∧ sizeOk sz x ∧ (rowsLen s + rowsLen x) * bytes ≤ 140737488355328 ∧ onSome (appendAV own sz s x M) (fun r => K r.1 r.2)
theorem vcOp_append {s x : Operand} {st xt : TypeId} : vcOp C h ⟨d, .call { callee := .builtin .append, args := #[s, x], argTypes := #[st, xt] }, t, p, af, g⟩ K ρ M = appendK C (hintAt h.own d) st xt (ρ s) (ρ x) M K := by
  simp only [vcOp, appendK]
  congr; funext e; congr; funext sz; congr; funext bytes
  cases appendAV (hintAt h.own d) sz (ρ s) (ρ x) M with
  | none => rfl
  | some r => rfl
theorem appendK_congr {own : Bool} {st xt : TypeId} {s s' x x' : AV} {M M' : Mem} {K : AV → Mem → Prop} (hs : s = s') (hx : x = x') (hM : M = M') : appendK C own st xt s x M K = appendK C own st xt s' x' M' K := by rw [hs, hx, hM]
end
end Go.Abs
