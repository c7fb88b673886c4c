/- The walk: the same rules, with what comes later held fast (a tag keeps simp out of it). Walk with 'simp (dsimp := false)'. -/
import Derived.Test.YtiipcnbedgamdaaGreatDoorVG15
set_option linter.unusedVariables false
namespace Go.Abs

universe u
structure Tag {α : Sort u} (a : α) : Type where

def wSome {α : Type} (o : Option α) (f : α → Prop) (_ : Tag f) : Prop := onSome o f
@[simp] theorem wSome_some {α : Type} {v : α} {f : α → Prop} {t : Tag f} : wSome (some v) f t = f v := rfl
@[simp] theorem wSome_none {α : Type} {f : α → Prop} {t : Tag f} : wSome none f t = False := rfl
@[simp] theorem wSome_ite {α : Type} {c : Prop} [Decidable c] {v : α} {f : α → Prop} {t : Tag f} : wSome (if c then some v else none) f t = (c ∧ f v) := onSome_ite v f
@[simp] theorem wSome_map {α β : Type} {o : Option α} {g : α → β} {f : β → Prop} {t : Tag f} : wSome (o.map g) f t = wSome o (fun x => f (g x)) ⟨⟩ := onSome_map o g f

abbrev Post := Exit → Env → Mem → Prop
def wCode (C : Ctx) (h : Hint) (N : Nat) (c : Code) (Q : Post) (T : Env) (M : Mem) (_ : Tag (c, Q)) : Prop := wsCode C h N c Q T M
def wOps (C : Ctx) (h : Hint) (ops : Array Oper) (l : List Oper) (K : Env → Mem → Prop) (T : Env) (M : Mem) (_ : Tag (ops, l, K)) : Prop := wsOps C h ops l K T M
def wOp (C : Ctx) (h : Hint) (o : Oper) (K : AV → Mem → Prop) (ρ : Operand → AV) (M : Mem) (_ : Tag (o, K)) : Prop := wsOp C h o K ρ M
def wGuard (ops : Array Oper) (o : Oper) (T : Env) (run skip : Prop) (_ : Tag (ops, o, run, skip)) : Prop := vcGuard ops o T run skip
def wSlot (d : Option Tmp) (want : Bool) (T : Env) (run skip : Prop) (_ : Tag (run, skip)) : Prop := guardK d want T run skip
def wGv (v : AV) (want : Bool) (run skip : Prop) (_ : Tag (run, skip)) : Prop := guardV v want run skip
def wCond (v : AV) (x y : Prop) (_ : Tag (x, y)) : Prop := condV v x y
def wThen (K : Env → Mem → Prop) (Q : Post) (e : Exit) (T : Env) (M : Mem) (_ : Tag (K, Q)) : Prop := thenK K Q e T M
def wBlock (id : Nat) (Q : Post) (e : Exit) (T : Env) (M : Mem) (_ : Tag Q) : Prop := inBlockK id Q e T M
def wBody (C : Ctx) (rs : List ResultVar) (Q : AV → Mem → Prop) (e : Exit) (T : Env) (M : Mem) (_ : Tag Q) : Prop := bodyQ C rs Q e T M
def wWp (C : Ctx) (N : Nat) (c : Code) (Q : Post) (T : Env) (M : Mem) (_ : Tag (c, Q)) : Prop := AWp C N c Q T M
def wCalls (C : Ctx) (f : FuncId) (args : List AV) (M : Mem) (Q : AV → Mem → Prop) (_ : Tag Q) : Prop := Invk C f args M Q
def wBin (P : Program) (op : BinOp) (t : TypeId) (x y : AV) (f : AV → Prop) (_ : Tag f) : Prop := binK2 P op t x y f
def wCall (C : Ctx) (f : AV) (args : List AV) (M : Mem) (K : AV → Mem → Prop) (_ : Tag K) : Prop := callK C f args M K
def wAppend (C : Ctx) (own vec : Bool) (t u : TypeId) (s x : AV) (M : Mem) (K : AV → Mem → Prop) (_ : Tag K) : Prop := appendK C own vec t u s x M K
def wD (C : Ctx) (h : Hint) (c r : Nat) (o : Oper) (ρ : Operand → AV) (M : Mem) (K : AV → Mem → Prop) (_ : Tag (o, K)) : Prop := wsD C h c r o ρ M K
def wDraw (C : Ctx) (h : Hint) (ops : Array Oper) (cls rob : Nat → Nat) (k : Nat) (l : List Oper) (T : Env) (M : Mem) (K : Env → Mem → Prop) (_ : Tag (ops, l, K)) : Prop := wsDraw C h ops cls rob k l T M K
def wCallD0 (C : Ctx) (f : AV) (args : List AV) (M : Mem) (K : AV → Mem → Prop) (_ : Tag K) : Prop := call0 C f args M K
def wCallD2 (C : Ctx) (f : AV) (args : List AV) (M : Mem) (K : AV → Mem → Prop) (_ : Tag K) : Prop := call2 C f args M K
def wCall0 (C : Ctx) (g : FuncId) (args : List AV) (M : Mem) (K : AV → Mem → Prop) (_ : Tag K) : Prop := ∃ r, (∀ M, Invk C g args M (fun v M' => v = r ∧ M' = M)) ∧ K r M
def wCall2 (C : Ctx) (g : FuncId) (args : List AV) (M : Mem) (K : AV → Mem → Prop) (_ : Tag K) : Prop := ∃ r M1, Invk C g args M (fun v M' => v = r ∧ M' = M1) ∧ K r M1
/-- a look at the object rob -/
def wAt (o : Option Nat) (rob : Nat) (X : Prop) (_ : Tag X) : Prop := o = some rob ∧ X
@[simp] theorem wAt_some {b r : Nat} {X : Prop} {t : Tag X} : wAt (some b) r X t = (b = r ∧ X) := by simp [wAt]
def obOf : AV → Option Nat
  | .ptr b _ => some b
  | .vptr f _ _ => some f
  | .mapr b => some b
  | _ => none
@[simp] theorem obOf_ptr {b o : Nat} : obOf (.ptr b o) = some b := rfl
@[simp] theorem obOf_vptr {f g o : Nat} : obOf (.vptr f g o) = some f := rfl
@[simp] theorem obOf_mapr {b : Nat} : obOf (.mapr b) = some b := rfl

section
variable {C : Ctx} {h : Hint} {N : Nat} {Q : Post} {T : Env} {M : Mem} {K : AV → Mem → Prop} {ρ : Operand → AV}
@[simp] theorem w_skip {t : Tag (Code.skip, Q)} : wCode C h N .skip Q T M t = Q .normal T M := rfl
@[simp] theorem w_label {l : Nat} {t : Tag (Code.label l, Q)} : wCode C h N (.label l) Q T M t = Q .normal T M := rfl
@[simp] theorem w_region {id : Nat} {l : List Oper} {t : Tag (Code.region id l.toArray false, Q)} : wCode C h N (.region id l.toArray false) Q T M t = wOps C h l.toArray l (fun T M => Q .normal T M) T M ⟨⟩ := rfl
@[simp] theorem w_draw {id : Nat} {ops : Array Oper} {t : Tag (Code.region id ops true, Q)} : wCode C h N (.region id ops true) Q T M t = wWp C N (.region id ops true) Q T M ⟨⟩ := rfl
@[simp] theorem w_seq {x y : Code} {t : Tag (Code.seq x y, Q)} : wCode C h N (.seq x y) Q T M t = wCode C h N x (fun e T M => wThen (fun T M => wCode C h N y Q T M ⟨⟩) Q e T M ⟨⟩) T M ⟨⟩ := rfl
@[simp] theorem w_cond {c : Operand} {x y : Code} {t : Tag (Code.cond c x y, Q)} : wCode C h N (.cond c x y) Q T M t = wCond (T.ev C c) (wCode C h N x Q T M ⟨⟩) (wCode C h N y Q T M ⟨⟩) ⟨⟩ := rfl
@[simp] theorem w_block {id : Nat} {c : Code} {t : Tag (Code.block id c, Q)} : wCode C h N (.block id c) Q T M t = wCode C h N c (fun e T M => wBlock id Q e T M ⟨⟩) T M ⟨⟩ := rfl
@[simp] theorem w_exit {id : Nat} {t : Tag (Code.exit id, Q)} : wCode C h N (.exit id) Q T M t = Q (.exit id) T M := rfl
@[simp] theorem w_ret {t : Tag (Code.ret, Q)} : wCode C h N .ret Q T M t = Q .ret T M := rfl
@[simp] theorem w_loop {c : Code} {t : Tag (Code.loop c, Q)} : wCode C h N (.loop c) Q T M t = wWp C N (.loop c) Q T M ⟨⟩ := rfl
@[simp] theorem wThen_normal {K : Env → Mem → Prop} {t : Tag (K, Q)} : wThen K Q .normal T M t = K T M := rfl
@[simp] theorem wThen_exit {K : Env → Mem → Prop} {id : Nat} {t : Tag (K, Q)} : wThen K Q (.exit id) T M t = Q (.exit id) T M := rfl
@[simp] theorem wThen_ret {K : Env → Mem → Prop} {t : Tag (K, Q)} : wThen K Q .ret T M t = Q .ret T M := rfl
@[simp] theorem wBlock_normal {id : Nat} {t : Tag Q} : wBlock id Q .normal T M t = Q .normal T M := rfl
@[simp] theorem wBlock_ret {id : Nat} {t : Tag Q} : wBlock id Q .ret T M t = Q .ret T M := rfl
@[simp] theorem wBlock_exit {id id' : Nat} {t : Tag Q} : wBlock id Q (.exit id') T M t = if id' = id then Q .normal T M else Q (.exit id') T M := rfl
@[simp] theorem wBody_ret {rs : List ResultVar} {Q : AV → Mem → Prop} {t : Tag Q} : wBody C rs Q .ret T M t = wSome (resultAV C rs T M) (fun r => Q r M) ⟨⟩ := bodyQ_ret
@[simp] theorem wBody_normal {rs : List ResultVar} {Q : AV → Mem → Prop} {t : Tag Q} : wBody C rs Q .normal T M t = wSome (resultAV C rs T M) (fun r => Q r M) ⟨⟩ := bodyQ_normal
@[simp] theorem wCond_bool {b : Bool} {x y : Prop} {t : Tag (x, y)} : wCond (.val (.bool b)) x y t = if b = true then x else y := rfl
@[simp] theorem wGv_bool {b want : Bool} {run skip : Prop} {t : Tag (run, skip)} : wGv (.val (.bool b)) want run skip t = if b = want then run else skip := rfl
@[simp] theorem wGv_undef {want : Bool} {run skip : Prop} {t : Tag (run, skip)} : wGv (.val undef) want run skip t = skip := rfl
@[simp] theorem wSlot_some {d : Tmp} {want : Bool} {run skip : Prop} {t : Tag (run, skip)} : wSlot (some d) want T run skip t = wGv (T d) want run skip ⟨⟩ := rfl
variable {d : Option Tmp} {t : TypeId} {p : String} {af : Array Edge} {g : Option (Nat × Bool)}
@[simp] theorem wGuard_none {ops : Array Oper} {op : Op} {run skip : Prop} {tg : Tag (ops, (⟨d, op, t, p, af, none⟩ : Oper), run, skip)} : wGuard ops ⟨d, op, t, p, af, none⟩ T run skip tg = run := rfl
@[simp] theorem wGuard_some {ops : Array Oper} {op : Op} {run skip : Prop} {j : Nat} {want : Bool} {tg : Tag (ops, (⟨d, op, t, p, af, some (j, want)⟩ : Oper), run, skip)} : wGuard ops ⟨d, op, t, p, af, some (j, want)⟩ T run skip tg = wSlot ((ops[j]?).bind (·.dst)) want T run skip ⟨⟩ := vcGuard_K
@[simp] theorem wOps_nil {ops : Array Oper} {K : Env → Mem → Prop} {tg : Tag (ops, ([] : List Oper), K)} : wOps C h ops [] K T M tg = K T M := rfl
@[simp] theorem wOps_cons {ops : Array Oper} {o : Oper} {rest : List Oper} {K : Env → Mem → Prop} {tg : Tag (ops, o :: rest, K)} : wOps C h ops (o :: rest) K T M tg =
    wGuard ops o T (wOp C h o (fun v M' => wOps C h ops rest K (T.put o.dst v) M' ⟨⟩) (T.ev C) M ⟨⟩) (wOps C h ops rest K (T.put o.dst (.val undef)) M ⟨⟩) ⟨⟩ := rfl
@[simp] theorem wOp_move {x : Operand} {tg : Tag ((⟨d, .move x, t, p, af, g⟩ : Oper), K)} : wOp C h ⟨d, .move x, t, p, af, g⟩ K ρ M tg = K (ρ x) M := rfl
@[simp] theorem wD_move {x : Operand} {r : Nat} {tg : Tag ((⟨d, .move x, t, p, af, g⟩ : Oper), K)} : wD C h 0 r ⟨d, .move x, t, p, af, g⟩ ρ M K tg = K (ρ x) M := rfl
@[simp] theorem wOp_assign {x : Operand} {tg : Tag ((⟨d, .assign x, t, p, af, g⟩ : Oper), K)} : wOp C h ⟨d, .assign x, t, p, af, g⟩ K ρ M tg = K (ρ x) M := rfl
@[simp] theorem wD_assign {x : Operand} {r : Nat} {tg : Tag ((⟨d, .assign x, t, p, af, g⟩ : Oper), K)} : wD C h 0 r ⟨d, .assign x, t, p, af, g⟩ ρ M K tg = K (ρ x) M := rfl
@[simp] theorem wOp_pick {c a b : Operand} {tg : Tag ((⟨d, .pick c a b, t, p, af, g⟩ : Oper), K)} : wOp C h ⟨d, .pick c a b, t, p, af, g⟩ K ρ M tg = wSome (pickAV (ρ c) (ρ a) (ρ b)) (fun v => K v M) ⟨⟩ := by show onSome ((pickAV (ρ c) (ρ a) (ρ b)).map fun v => (v, M)) (fun r => K r.1 r.2) = _; rw [onSome_map]; rfl
@[simp] theorem wD_pick {c a b : Operand} {r : Nat} {tg : Tag ((⟨d, .pick c a b, t, p, af, g⟩ : Oper), K)} : wD C h 0 r ⟨d, .pick c a b, t, p, af, g⟩ ρ M K tg = wSome (pickAV (ρ c) (ρ a) (ρ b)) (fun v => K v M) ⟨⟩ := rfl
@[simp] theorem wOp_nilCheck {x : Operand} {tg : Tag ((⟨d, .nilCheck x, t, p, af, g⟩ : Oper), K)} : wOp C h ⟨d, .nilCheck x, t, p, af, g⟩ K ρ M tg = wSome (nilAV (ρ x)) (fun v => K v M) ⟨⟩ := by show onSome ((nilAV (ρ x)).map fun v => (v, M)) (fun r => K r.1 r.2) = _; rw [onSome_map]; rfl
@[simp] theorem wD_nilCheck {x : Operand} {r : Nat} {tg : Tag ((⟨d, .nilCheck x, t, p, af, g⟩ : Oper), K)} : wD C h 0 r ⟨d, .nilCheck x, t, p, af, g⟩ ρ M K tg = wSome (nilAV (ρ x)) (fun v => K v M) ⟨⟩ := rfl
@[simp] theorem wOp_not {xt : TypeId} {x : Operand} {tg : Tag ((⟨d, .unOp .not xt x, t, p, af, g⟩ : Oper), K)} : wOp C h ⟨d, .unOp .not xt x, t, p, af, g⟩ K ρ M tg = wSome (notAV (ρ x)) (fun v => K v M) ⟨⟩ := by show onSome ((notAV (ρ x)).map fun v => (v, M)) (fun r => K r.1 r.2) = _; rw [onSome_map]; rfl
@[simp] theorem wD_not {xt : TypeId} {x : Operand} {r : Nat} {tg : Tag ((⟨d, .unOp .not xt x, t, p, af, g⟩ : Oper), K)} : wD C h 0 r ⟨d, .unOp .not xt x, t, p, af, g⟩ ρ M K tg = wSome (notAV (ρ x)) (fun v => K v M) ⟨⟩ := rfl
@[simp] theorem wOp_neg {xt : TypeId} {x : Operand} {tg : Tag ((⟨d, .unOp .neg xt x, t, p, af, g⟩ : Oper), K)} : wOp C h ⟨d, .unOp .neg xt x, t, p, af, g⟩ K ρ M tg = wSome (negAV (ρ x)) (fun v => K v M) ⟨⟩ := by show onSome ((negAV (ρ x)).map fun v => (v, M)) (fun r => K r.1 r.2) = _; rw [onSome_map]; rfl
@[simp] theorem wD_neg {xt : TypeId} {x : Operand} {r : Nat} {tg : Tag ((⟨d, .unOp .neg xt x, t, p, af, g⟩ : Oper), K)} : wD C h 0 r ⟨d, .unOp .neg xt x, t, p, af, g⟩ ρ M K tg = wSome (negAV (ρ x)) (fun v => K v M) ⟨⟩ := rfl
@[simp] theorem wOp_fieldAddr {xt : TypeId} {x : Operand} {f : Nat} {tg : Tag ((⟨d, .fieldAddr xt x f, t, p, af, g⟩ : Oper), K)} : wOp C h ⟨d, .fieldAddr xt x f, t, p, af, g⟩ K ρ M tg = wSome (faddrAV (offOf C.P xt f) (ρ x)) (fun v => K v M) ⟨⟩ := by show onSome ((faddrAV (offOf C.P xt f) (ρ x)).map fun v => (v, M)) (fun r => K r.1 r.2) = _; rw [onSome_map]; rfl
@[simp] theorem wD_fieldAddr {xt : TypeId} {x : Operand} {f : Nat} {r : Nat} {tg : Tag ((⟨d, .fieldAddr xt x f, t, p, af, g⟩ : Oper), K)} : wD C h 0 r ⟨d, .fieldAddr xt x f, t, p, af, g⟩ ρ M K tg = wSome (faddrAV (offOf C.P xt f) (ρ x)) (fun v => K v M) ⟨⟩ := rfl
@[simp] theorem wOp_field {xt : TypeId} {x : Operand} {f : Nat} {tg : Tag ((⟨d, .field xt x f, t, p, af, g⟩ : Oper), K)} : wOp C h ⟨d, .field xt x f, t, p, af, g⟩ K ρ M tg = wSome (fieldAV C.P (fieldOf? C.P xt f) (ρ x)) (fun v => K v M) ⟨⟩ := by show onSome ((fieldAV C.P (fieldOf? C.P xt f) (ρ x)).map fun v => (v, M)) (fun r => K r.1 r.2) = _; rw [onSome_map]; rfl
@[simp] theorem wD_field {xt : TypeId} {x : Operand} {f : Nat} {r : Nat} {tg : Tag ((⟨d, .field xt x f, t, p, af, g⟩ : Oper), K)} : wD C h 0 r ⟨d, .field xt x f, t, p, af, g⟩ ρ M K tg = wSome (fieldAV C.P (fieldOf? C.P xt f) (ρ x)) (fun v => K v M) ⟨⟩ := rfl
@[simp] theorem wOp_extract {x : Operand} {i : Nat} {tg : Tag ((⟨d, .extract x i, t, p, af, g⟩ : Oper), K)} : wOp C h ⟨d, .extract x i, t, p, af, g⟩ K ρ M tg = wSome (extractAV (ρ x) i) (fun v => K v M) ⟨⟩ := by show onSome ((extractAV (ρ x) i).map fun v => (v, M)) (fun r => K r.1 r.2) = _; rw [onSome_map]; rfl
@[simp] theorem wD_extract {x : Operand} {i : Nat} {r : Nat} {tg : Tag ((⟨d, .extract x i, t, p, af, g⟩ : Oper), K)} : wD C h 0 r ⟨d, .extract x i, t, p, af, g⟩ ρ M K tg = wSome (extractAV (ρ x) i) (fun v => K v M) ⟨⟩ := rfl
@[simp] theorem wOp_indexAddr {xt : TypeId} {x i : Operand} {tg : Tag ((⟨d, .indexAddr xt x i, t, p, af, g⟩ : Oper), K)} : wOp C h ⟨d, .indexAddr xt x i, t, p, af, g⟩ K ρ M tg = wSome (match idxAV ((elemOf? C.P xt).map (szOf C.P)) (ρ x) (ρ i) with | some v => some (v, M) | none => evalOp C h ⟨d, .indexAddr xt x i, t, p, af, g⟩ ρ M) (fun r => K r.1 r.2) ⟨⟩ := rfl
@[simp] theorem wD_indexAddr {xt : TypeId} {x i : Operand} {r : Nat} {tg : Tag ((⟨d, .indexAddr xt x i, t, p, af, g⟩ : Oper), K)} : wD C h 0 r ⟨d, .indexAddr xt x i, t, p, af, g⟩ ρ M K tg = wSome (idxAV ((elemOf? C.P xt).map (szOf C.P)) (ρ x) (ρ i)) (fun v => K v M) ⟨⟩ := rfl
@[simp] theorem wOp_index {xt : TypeId} {x i : Operand} {tg : Tag ((⟨d, .index xt x i, t, p, af, g⟩ : Oper), K)} : wOp C h ⟨d, .index xt x i, t, p, af, g⟩ K ρ M tg = wSome (strIdx (C.P.underlying xt) (ρ x) (ρ i)) (fun v => K v M) ⟨⟩ := by show onSome ((strIdx (C.P.underlying xt) (ρ x) (ρ i)).map fun v => (v, M)) (fun r => K r.1 r.2) = _; rw [onSome_map]; rfl
@[simp] theorem wD_index {xt : TypeId} {x i : Operand} {r : Nat} {tg : Tag ((⟨d, .index xt x i, t, p, af, g⟩ : Oper), K)} : wD C h 0 r ⟨d, .index xt x i, t, p, af, g⟩ ρ M K tg = wSome (strIdx (C.P.underlying xt) (ρ x) (ρ i)) (fun v => K v M) ⟨⟩ := rfl
@[simp] theorem wOp_makeFunc {fn : Fn} {f c : Array Operand} {tg : Tag ((⟨d, .makeFunc fn f c, t, p, af, g⟩ : Oper), K)} : wOp C h ⟨d, .makeFunc fn f c, t, p, af, g⟩ K ρ M tg = K (.func fn (f.toList.map ρ) (c.toList.map ρ)) M := rfl
@[simp] theorem wD_makeFunc {fn : Fn} {f c : Array Operand} {r : Nat} {tg : Tag ((⟨d, .makeFunc fn f c, t, p, af, g⟩ : Oper), K)} : wD C h 0 r ⟨d, .makeFunc fn f c, t, p, af, g⟩ ρ M K tg = K (.func fn (f.toList.map ρ) (c.toList.map ρ)) M := rfl
@[simp] theorem wOp_slice {st : TypeId} {x : Operand} {lo hi mx : Option Operand} {tg : Tag ((⟨d, .slice st x lo hi mx, t, p, af, g⟩ : Oper), K)} : wOp C h ⟨d, .slice st x lo hi mx, t, p, af, g⟩ K ρ M tg = wSome (slice2 C.P st (ρ x) (lo.map ρ) (hi.map ρ) (mx.map ρ)) (fun v => K v M) ⟨⟩ := by show onSome ((slice2 C.P st (ρ x) (lo.map ρ) (hi.map ρ) (mx.map ρ)).map fun v => (v, M)) (fun r => K r.1 r.2) = _; rw [onSome_map]; rfl
@[simp] theorem wD_slice {st : TypeId} {x : Operand} {lo hi mx : Option Operand} {r : Nat} {tg : Tag ((⟨d, .slice st x lo hi mx, t, p, af, g⟩ : Oper), K)} : wD C h 0 r ⟨d, .slice st x lo hi mx, t, p, af, g⟩ ρ M K tg = wSome (slice2 C.P st (ρ x) (lo.map ρ) (hi.map ρ) (mx.map ρ)) (fun v => K v M) ⟨⟩ := rfl
@[simp] theorem wOp_build {bt : TypeId} {ps : List (Nat × Operand)} {tg : Tag ((⟨d, .build bt ps.toArray, t, p, af, g⟩ : Oper), K)} : wOp C h ⟨d, .build bt ps.toArray, t, p, af, g⟩ K ρ M tg = wSome (match buildAV C.P bt (ps.map fun x => (x.1, ρ x.2)) with | some v => some (v, M) | none => evalOp C h ⟨d, .build bt ps.toArray, t, p, af, g⟩ ρ M) (fun r => K r.1 r.2) ⟨⟩ := rfl
@[simp] theorem wD_build {bt : TypeId} {ps : List (Nat × Operand)} {r : Nat} {tg : Tag ((⟨d, .build bt ps.toArray, t, p, af, g⟩ : Oper), K)} : wD C h 0 r ⟨d, .build bt ps.toArray, t, p, af, g⟩ ρ M K tg = wSome (buildAV C.P bt (ps.map fun x => (x.1, ρ x.2))) (fun v => K v M) ⟨⟩ := rfl
@[simp] theorem wOp_convert {a b : TypeId} {x : Operand} {tg : Tag ((⟨d, .convert a b x, t, p, af, g⟩ : Oper), K)} : wOp C h ⟨d, .convert a b x, t, p, af, g⟩ K ρ M tg = wSome (match convAV C.P a b (ρ x) with | some v => some (v, M) | none => evalOp C h ⟨d, .convert a b x, t, p, af, g⟩ ρ M) (fun r => K r.1 r.2) ⟨⟩ := rfl
@[simp] theorem wD_convert {a b : TypeId} {x : Operand} {r : Nat} {tg : Tag ((⟨d, .convert a b x, t, p, af, g⟩ : Oper), K)} : wD C h 0 r ⟨d, .convert a b x, t, p, af, g⟩ ρ M K tg = wSome (convAV C.P a b (ρ x)) (fun v => K v M) ⟨⟩ := rfl
@[simp] theorem wOp_binOp {op : BinOp} {xt yt : TypeId} {x y : Operand} {tg : Tag ((⟨d, .binOp op xt x y yt, t, p, af, g⟩ : Oper), K)} : wOp C h ⟨d, .binOp op xt x y yt, t, p, af, g⟩ K ρ M tg = wBin C.P op xt (ρ x) (ρ y) (fun v => K v M) ⟨⟩ := rfl
@[simp] theorem wD_binOp {op : BinOp} {xt yt : TypeId} {x y : Operand} {r : Nat} {tg : Tag ((⟨d, .binOp op xt x y yt, t, p, af, g⟩ : Oper), K)} : wD C h 0 r ⟨d, .binOp op xt x y yt, t, p, af, g⟩ ρ M K tg = wSome (binAV C.P op xt (ρ x) (ρ y)) (fun v => K v M) ⟨⟩ := rfl
@[simp] theorem wOp_load {lt : TypeId} {x : Operand} {tg : Tag ((⟨d, .load lt x, t, p, af, g⟩ : Oper), K)} : wOp C h ⟨d, .load lt x, t, p, af, g⟩ K ρ M tg = wSome (loadAV C.P lt M (ρ x)) (fun v => K v M) ⟨⟩ := onSome_map _ _ _
@[simp] theorem wD2_load {lt : TypeId} {x : Operand} {r : Nat} {tg : Tag ((⟨d, .load lt x, t, p, af, g⟩ : Oper), K)} : wD C h 2 r ⟨d, .load lt x, t, p, af, g⟩ ρ M K tg = wSome (loadAV C.P lt M (ρ x)) (fun v => K v M) ⟨⟩ := onSome_map _ _ _
@[simp] theorem wOp_store {lt : TypeId} {x y : Operand} {tg : Tag ((⟨d, .store lt x y, t, p, af, g⟩ : Oper), K)} : wOp C h ⟨d, .store lt x y, t, p, af, g⟩ K ρ M tg = wSome (storeAV (szOf C.P lt) M (ρ x) (ρ y)) (fun M' => K (.val undef) M') ⟨⟩ := onSome_map _ _ _
@[simp] theorem wD2_store {lt : TypeId} {x y : Operand} {r : Nat} {tg : Tag ((⟨d, .store lt x y, t, p, af, g⟩ : Oper), K)} : wD C h 2 r ⟨d, .store lt x y, t, p, af, g⟩ ρ M K tg = wSome (storeAV (szOf C.P lt) M (ρ x) (ρ y)) (fun M' => K (.val undef) M') ⟨⟩ := onSome_map _ _ _
@[simp] theorem wOp_alloc {e : TypeId} {tg : Tag ((⟨d, .alloc e, t, p, af, g⟩ : Oper), K)} : wOp C h ⟨d, .alloc e, t, p, af, g⟩ K ρ M tg = wSome (allocAV C.P e M) (fun x => K x.1 x.2) ⟨⟩ := rfl
@[simp] theorem wD2_alloc {e : TypeId} {r : Nat} {tg : Tag ((⟨d, .alloc e, t, p, af, g⟩ : Oper), K)} : wD C h 2 r ⟨d, .alloc e, t, p, af, g⟩ ρ M K tg = wSome (allocAV C.P e M) (fun x => K x.1 x.2) ⟨⟩ := rfl
@[simp] theorem wOp_box {e : TypeId} {x : Operand} {tg : Tag ((⟨d, .box e x, t, p, af, g⟩ : Oper), K)} : wOp C h ⟨d, .box e x, t, p, af, g⟩ K ρ M tg = wSome (boxAV (hintAt h.imm d) e M (ρ x)) (fun x => K x.1 x.2) ⟨⟩ := rfl
@[simp] theorem wD2_box {e : TypeId} {x : Operand} {r : Nat} {tg : Tag ((⟨d, .box e x, t, p, af, g⟩ : Oper), K)} : wD C h 2 r ⟨d, .box e x, t, p, af, g⟩ ρ M K tg = wSome (boxAV (hintAt h.imm d) e M (ρ x)) (fun x => K x.1 x.2) ⟨⟩ := rfl
@[simp] theorem wOp_makeMap {mt : TypeId} {tg : Tag ((⟨d, .makeMap mt none, t, p, af, g⟩ : Oper), K)} : wOp C h ⟨d, .makeMap mt none, t, p, af, g⟩ K ρ M tg = K (.mapr M.length) (M ++ [.map [] 0]) := rfl
@[simp] theorem wD2_makeMap {mt : TypeId} {r : Nat} {tg : Tag ((⟨d, .makeMap mt none, t, p, af, g⟩ : Oper), K)} : wD C h 2 r ⟨d, .makeMap mt none, t, p, af, g⟩ ρ M K tg = K (.mapr M.length) (M ++ [.map [] 0]) := rfl
@[simp] theorem wOp_lookup {mt : TypeId} {m k : Operand} {ok : Bool} {tg : Tag ((⟨d, .lookup mt m k ok, t, p, af, g⟩ : Oper), K)} : wOp C h ⟨d, .lookup mt m k ok, t, p, af, g⟩ K ρ M tg = wSome (lookupAV C.P mt M (ρ m) (ρ k) ok) (fun v => K v M) ⟨⟩ := onSome_map _ _ _
@[simp] theorem wD2_lookup {mt : TypeId} {m k : Operand} {ok : Bool} {r : Nat} {tg : Tag ((⟨d, .lookup mt m k ok, t, p, af, g⟩ : Oper), K)} : wD C h 2 r ⟨d, .lookup mt m k ok, t, p, af, g⟩ ρ M K tg = wSome (lookupAV C.P mt M (ρ m) (ρ k) ok) (fun v => K v M) ⟨⟩ := onSome_map _ _ _
@[simp] theorem wOp_mapUpdate {mt : TypeId} {m k x : Operand} {tg : Tag ((⟨d, .mapUpdate mt m k x, t, p, af, g⟩ : Oper), K)} : wOp C h ⟨d, .mapUpdate mt m k x, t, p, af, g⟩ K ρ M tg = wSome (mapPutAV C.P mt M (ρ m) (ρ k) (ρ x)) (fun M' => K (.val undef) M') ⟨⟩ := onSome_map _ _ _
@[simp] theorem wD2_mapUpdate {mt : TypeId} {m k x : Operand} {r : Nat} {tg : Tag ((⟨d, .mapUpdate mt m k x, t, p, af, g⟩ : Oper), K)} : wD C h 2 r ⟨d, .mapUpdate mt m k x, t, p, af, g⟩ ρ M K tg = wSome (mapPutAV C.P mt M (ρ m) (ρ k) (ρ x)) (fun M' => K (.val undef) M') ⟨⟩ := onSome_map _ _ _
@[simp] theorem wOp_insert {mt : TypeId} {m k x : Operand} {tg : Tag ((⟨d, .insert mt m k x, t, p, af, g⟩ : Oper), K)} : wOp C h ⟨d, .insert mt m k x, t, p, af, g⟩ K ρ M tg = wSome (mapPutAV C.P mt M (ρ m) (ρ k) (ρ x)) (fun M' => K (.val undef) M') ⟨⟩ := onSome_map _ _ _
@[simp] theorem wD2_insert {mt : TypeId} {m k x : Operand} {r : Nat} {tg : Tag ((⟨d, .insert mt m k x, t, p, af, g⟩ : Oper), K)} : wD C h 2 r ⟨d, .insert mt m k x, t, p, af, g⟩ ρ M K tg = wSome (mapPutAV C.P mt M (ρ m) (ρ k) (ρ x)) (fun M' => K (.val undef) M') ⟨⟩ := onSome_map _ _ _
@[simp] theorem wOp_makeSlice {st : TypeId} {l c : Operand} {tg : Tag ((⟨d, .makeSlice st l c, t, p, af, g⟩ : Oper), K)} : wOp C h ⟨d, .makeSlice st l c, t, p, af, g⟩ K ρ M tg = wSome (vmakeAV C.P st (ρ l) (ρ c) M) (fun r => K r.1 r.2) ⟨⟩ := rfl
@[simp] theorem wD2_makeSlice {st : TypeId} {l c : Operand} {r : Nat} {tg : Tag ((⟨d, .makeSlice st l c, t, p, af, g⟩ : Oper), K)} : wD C h 2 r ⟨d, .makeSlice st l c, t, p, af, g⟩ ρ M K tg = wSome (vmakeAV C.P st (ρ l) (ρ c) M) (fun r => K r.1 r.2) ⟨⟩ := rfl
@[simp] theorem wOp_range {st : TypeId} {x : Operand} {tg : Tag ((⟨d, .range st x, t, p, af, g⟩ : Oper), K)} : wOp C h ⟨d, .range st x, t, p, af, g⟩ K ρ M tg = wSome (rangeAV C.P st (ρ x) M) (fun r => K r.1 r.2) ⟨⟩ := rfl
@[simp] theorem wD2_range {st : TypeId} {x : Operand} {r : Nat} {tg : Tag ((⟨d, .range st x, t, p, af, g⟩ : Oper), K)} : wD C h 2 r ⟨d, .range st x, t, p, af, g⟩ ρ M K tg = wSome (rangeAV C.P st (ρ x) M) (fun r => K r.1 r.2) ⟨⟩ := rfl
@[simp] theorem wOp_next {x : Operand} {tg : Tag ((⟨d, .next x true, t, p, af, g⟩ : Oper), K)} : wOp C h ⟨d, .next x true, t, p, af, g⟩ K ρ M tg = wSome (nextAV (ρ x) M) (fun r => K r.1 r.2) ⟨⟩ := rfl
@[simp] theorem wD2_next {x : Operand} {r : Nat} {tg : Tag ((⟨d, .next x true, t, p, af, g⟩ : Oper), K)} : wD C h 2 r ⟨d, .next x true, t, p, af, g⟩ ρ M K tg = wSome (nextAV (ρ x) M) (fun r => K r.1 r.2) ⟨⟩ := rfl
@[simp] theorem wOp_len {x : Operand} {xt : TypeId} {tg : Tag ((⟨d, .call { callee := .builtin .len, args := #[x], argTypes := #[xt] }, t, p, af, g⟩ : Oper), K)} : wOp C h ⟨d, .call { callee := .builtin .len, args := #[x], argTypes := #[xt] }, t, p, af, g⟩ K ρ M tg = wSome ((lenAV C.P xt (ρ x)).or (lenMore C.P xt M (ρ x))) (fun n => K (.val (.int .i64 n)) M) ⟨⟩ := onSome_map _ _ _
@[simp] theorem wD2_len {x : Operand} {xt : TypeId} {r : Nat} {tg : Tag ((⟨d, .call { callee := .builtin .len, args := #[x], argTypes := #[xt] }, t, p, af, g⟩ : Oper), K)} : wD C h 2 r ⟨d, .call { callee := .builtin .len, args := #[x], argTypes := #[xt] }, t, p, af, g⟩ ρ M K tg = wSome ((lenAV C.P xt (ρ x)).or (lenMore C.P xt M (ρ x))) (fun n => K (.val (.int .i64 n)) M) ⟨⟩ := onSome_map _ _ _
@[simp] theorem wOp_copy {x y : Operand} {xt yt : TypeId} {tg : Tag ((⟨d, .call { callee := .builtin .copy, args := #[x, y], argTypes := #[xt, yt] }, t, p, af, g⟩ : Oper), K)} : wOp C h ⟨d, .call { callee := .builtin .copy, args := #[x, y], argTypes := #[xt, yt] }, t, p, af, g⟩ K ρ M tg = wSome (copyAV C.P xt yt M (ρ x) (ρ y)) (fun r => K r.1 r.2) ⟨⟩ := rfl
@[simp] theorem wD2_copy {x y : Operand} {xt yt : TypeId} {r : Nat} {tg : Tag ((⟨d, .call { callee := .builtin .copy, args := #[x, y], argTypes := #[xt, yt] }, t, p, af, g⟩ : Oper), K)} : wD C h 2 r ⟨d, .call { callee := .builtin .copy, args := #[x, y], argTypes := #[xt, yt] }, t, p, af, g⟩ ρ M K tg = wSome (copyAV C.P xt yt M (ρ x) (ρ y)) (fun r => K r.1 r.2) ⟨⟩ := rfl
@[simp] theorem hvAt_eq {C : Ctx} {h : Hint} {t : TypeId} {d : Option Nat} : hvAt C h t d = (hintAt h.vec d && !C.data t) := rfl
@[simp] theorem wOp_buildSlice {bt : TypeId} {n : Nat} {ps : List (Nat × Operand)} {tg : Tag ((⟨d, .buildSlice bt n ps.toArray, t, p, af, g⟩ : Oper), K)} : wOp C h ⟨d, .buildSlice bt n ps.toArray, t, p, af, g⟩ K ρ M tg = if hvAt C h bt d = true then wSome (vbuildAV C.P bt n (ps.map fun x => (x.1, ρ x.2)) M) (fun r => K r.1 r.2) ⟨⟩ else wSome (buildSliceAV C.P bt n (ps.map fun x => (x.1, ρ x.2))) (fun v => K v M) ⟨⟩ := by
  show onSome (if hvAt C h bt d = true then vbuildAV C.P bt n (ps.map fun p => (p.1, ρ p.2)) M else (buildSliceAV C.P bt n (ps.map fun p => (p.1, ρ p.2))).map fun v => (v, M)) (fun r => K r.1 r.2) = _
  split
  · rfl
  · exact onSome_map _ _ _
@[simp] theorem wD2_buildSlice {bt : TypeId} {n : Nat} {ps : List (Nat × Operand)} {r : Nat} {tg : Tag ((⟨d, .buildSlice bt n ps.toArray, t, p, af, g⟩ : Oper), K)} : wD C h 2 r ⟨d, .buildSlice bt n ps.toArray, t, p, af, g⟩ ρ M K tg = if hvAt C h bt d = true then wSome (vbuildAV C.P bt n (ps.map fun x => (x.1, ρ x.2)) M) (fun r => K r.1 r.2) ⟨⟩ else wSome (buildSliceAV C.P bt n (ps.map fun x => (x.1, ρ x.2))) (fun v => K v M) ⟨⟩ := by
  show onSome (if hvAt C h bt d = true then vbuildAV C.P bt n (ps.map fun p => (p.1, ρ p.2)) M else (buildSliceAV C.P bt n (ps.map fun p => (p.1, ρ p.2))).map fun v => (v, M)) (fun r => K r.1 r.2) = _
  split
  · rfl
  · exact onSome_map _ _ _
@[simp] theorem wD_buildSlice {bt : TypeId} {n : Nat} {ps : List (Nat × Operand)} {r : Nat} {tg : Tag ((⟨d, .buildSlice bt n ps.toArray, t, p, af, g⟩ : Oper), K)} : wD C h 0 r ⟨d, .buildSlice bt n ps.toArray, t, p, af, g⟩ ρ M K tg = wSome (if hvAt C h bt d = true then none else buildSliceAV C.P bt n (ps.map fun x => (x.1, ρ x.2))) (fun v => K v M) ⟨⟩ := rfl
@[simp] theorem wOp_max {x y : Operand} {ts : Array TypeId} {tg : Tag ((⟨d, .call { callee := .builtin .max, args := #[x, y], argTypes := ts }, t, p, af, g⟩ : Oper), K)} : wOp C h ⟨d, .call { callee := .builtin .max, args := #[x, y], argTypes := ts }, t, p, af, g⟩ K ρ M tg = wSome (min2V true (ρ x) (ρ y)) (fun v => K v M) ⟨⟩ := by show onSome ((min2V true (ρ x) (ρ y)).map fun v => (v, M)) (fun r => K r.1 r.2) = _; rw [onSome_map]; rfl
@[simp] theorem wD_max {x y : Operand} {ts : Array TypeId} {r : Nat} {tg : Tag ((⟨d, .call { callee := .builtin .max, args := #[x, y], argTypes := ts }, t, p, af, g⟩ : Oper), K)} : wD C h 0 r ⟨d, .call { callee := .builtin .max, args := #[x, y], argTypes := ts }, t, p, af, g⟩ ρ M K tg = wSome (min2V true (ρ x) (ρ y)) (fun v => K v M) ⟨⟩ := rfl
@[simp] theorem wOp_min {x y : Operand} {ts : Array TypeId} {tg : Tag ((⟨d, .call { callee := .builtin .min, args := #[x, y], argTypes := ts }, t, p, af, g⟩ : Oper), K)} : wOp C h ⟨d, .call { callee := .builtin .min, args := #[x, y], argTypes := ts }, t, p, af, g⟩ K ρ M tg = wSome (min2V false (ρ x) (ρ y)) (fun v => K v M) ⟨⟩ := by show onSome ((min2V false (ρ x) (ρ y)).map fun v => (v, M)) (fun r => K r.1 r.2) = _; rw [onSome_map]; rfl
@[simp] theorem wD_min {x y : Operand} {ts : Array TypeId} {r : Nat} {tg : Tag ((⟨d, .call { callee := .builtin .min, args := #[x, y], argTypes := ts }, t, p, af, g⟩ : Oper), K)} : wD C h 0 r ⟨d, .call { callee := .builtin .min, args := #[x, y], argTypes := ts }, t, p, af, g⟩ ρ M K tg = wSome (min2V false (ρ x) (ρ y)) (fun v => K v M) ⟨⟩ := rfl
@[simp] theorem wD_len {x : Operand} {xt : TypeId} {r : Nat} {tg : Tag ((⟨d, .call { callee := .builtin .len, args := #[x], argTypes := #[xt] }, t, p, af, g⟩ : Oper), K)} : wD C h 0 r ⟨d, .call { callee := .builtin .len, args := #[x], argTypes := #[xt] }, t, p, af, g⟩ ρ M K tg = wSome (lenAV C.P xt (ρ x)) (fun (n : Nat) => K (.val (.int .i64 n)) M) ⟨⟩ := onSome_map _ _ _
@[simp] theorem wD_load0 {lt : TypeId} {x : Operand} {r : Nat} {tg : Tag ((⟨d, .load lt x, t, p, af, g⟩ : Oper), K)} : wD C h 0 r ⟨d, .load lt x, t, p, af, g⟩ ρ M K tg = wSome (load0 C.P lt (ρ x)) (fun v => K v M) ⟨⟩ := rfl
@[simp] theorem wD_box0 {e : TypeId} {x : Operand} {r : Nat} {tg : Tag ((⟨d, .box e x, t, p, af, g⟩ : Oper), K)} : wD C h 0 r ⟨d, .box e x, t, p, af, g⟩ ρ M K tg = wSome (box0 (hintAt h.imm d) (ρ x)) (fun v => K v M) ⟨⟩ := rfl
@[simp] theorem wD_load1 {lt : TypeId} {x : Operand} {r : Nat} {tg : Tag ((⟨d, .load lt x, t, p, af, g⟩ : Oper), K)} : wD C h 1 r ⟨d, .load lt x, t, p, af, g⟩ ρ M K tg = wAt (obOf (ρ x)) r (wSome (loadAV C.P lt M (ρ x)) (fun v => K v M) ⟨⟩) ⟨⟩ := by
  show (readObj _ ρ = some r ∧ onSome (loadAV C.P lt M (ρ x)) (fun v => K v M)) = (obOf (ρ x) = some r ∧ onSome (loadAV C.P lt M (ρ x)) (fun v => K v M))
  have e : readObj ⟨d, .load lt x, t, p, af, g⟩ ρ = some r ∧ onSome (loadAV C.P lt M (ρ x)) (fun v => K v M) ↔ obOf (ρ x) = some r ∧ onSome (loadAV C.P lt M (ρ x)) (fun v => K v M) := by
    simp only [readObj, obOf]
    cases ρ x <;> simp [loadAV, memOf]
  exact propext e
@[simp] theorem wD_lookup1 {mt : TypeId} {m k : Operand} {ok : Bool} {r : Nat} {tg : Tag ((⟨d, .lookup mt m k ok, t, p, af, g⟩ : Oper), K)} : wD C h 1 r ⟨d, .lookup mt m k ok, t, p, af, g⟩ ρ M K tg = (readObj ⟨d, .lookup mt m k ok, t, p, af, g⟩ ρ = some r ∧ wSome (lookupAV C.P mt M (ρ m) (ρ k) ok) (fun v => K v M) ⟨⟩) := rfl
@[simp] theorem wOp_call {f : Operand} {args : List Operand} {ts : Array TypeId} {tg : Tag ((⟨d, .call { callee := .value f, args := args.toArray, argTypes := ts }, t, p, af, g⟩ : Oper), K)} : wOp C h ⟨d, .call { callee := .value f, args := args.toArray, argTypes := ts }, t, p, af, g⟩ K ρ M tg = wCall C (ρ f) (args.map ρ) M K ⟨⟩ := rfl
@[simp] theorem wCall_func {f : FuncId} {first captured args : List AV} {tg : Tag K} : wCall C (.func (.func f) first captured) args M K tg = wCalls C f (first ++ args ++ captured) M K ⟨⟩ := rfl
@[simp] theorem wD_call0 {f : Operand} {args : List Operand} {ts : Array TypeId} {r : Nat} {tg : Tag ((⟨d, .call { callee := .value f, args := args.toArray, argTypes := ts }, t, p, af, g⟩ : Oper), K)} : wD C h 0 r ⟨d, .call { callee := .value f, args := args.toArray, argTypes := ts }, t, p, af, g⟩ ρ M K tg = wCallD0 C (ρ f) (args.map ρ) M K ⟨⟩ := rfl
@[simp] theorem wD_call2 {f : Operand} {args : List Operand} {ts : Array TypeId} {r : Nat} {tg : Tag ((⟨d, .call { callee := .value f, args := args.toArray, argTypes := ts }, t, p, af, g⟩ : Oper), K)} : wD C h 2 r ⟨d, .call { callee := .value f, args := args.toArray, argTypes := ts }, t, p, af, g⟩ ρ M K tg = wCallD2 C (ρ f) (args.map ρ) M K ⟨⟩ := rfl
@[simp] theorem wCallD0_func {f : FuncId} {first captured args : List AV} {tg : Tag K} : wCallD0 C (.func (.func f) first captured) args M K tg = wCall0 C f (first ++ args ++ captured) M K ⟨⟩ := rfl
@[simp] theorem wCallD2_func {f : FuncId} {first captured args : List AV} {tg : Tag K} : wCallD2 C (.func (.func f) first captured) args M K tg = wCall2 C f (first ++ args ++ captured) M K ⟨⟩ := rfl
@[simp] theorem wOp_append {s x : Operand} {st xt : TypeId} {tg : Tag ((⟨d, .call { callee := .builtin .append, args := #[s, x], argTypes := #[st, xt] }, t, p, af, g⟩ : Oper), K)} : wOp C h ⟨d, .call { callee := .builtin .append, args := #[s, x], argTypes := #[st, xt] }, t, p, af, g⟩ K ρ M tg = wAppend C (hintAt h.own d) (hintAt h.vec d) st xt (ρ s) (ρ x) M K ⟨⟩ := rfl
@[simp] theorem wD_append {s x : Operand} {st xt : TypeId} {r : Nat} {tg : Tag ((⟨d, .call { callee := .builtin .append, args := #[s, x], argTypes := #[st, xt] }, t, p, af, g⟩ : Oper), K)} : wD C h 2 r ⟨d, .call { callee := .builtin .append, args := #[s, x], argTypes := #[st, xt] }, t, p, af, g⟩ ρ M K tg = wAppend C (hintAt h.own d) (hintAt h.vec d) st xt (ρ s) (ρ x) M K ⟨⟩ := rfl

@[simp] theorem wBin_int {P : Program} {op : BinOp} {k : IntKind} {a b : Int} {f : AV → Prop} {tg : Tag f} : wBin P op t (.val (.int k a)) (.val (.int k b)) f tg = wSome ((intB op k a b).map .val) f ⟨⟩ := binK_int
@[simp] theorem wBin_str {P : Program} {op : BinOp} {a b : ByteArray} {f : AV → Prop} {tg : Tag f} : wBin P op t (.val (.string a)) (.val (.string b)) f tg = wSome ((strB op a b).map .val) f ⟨⟩ := binK_str
@[simp] theorem wBin_bool {P : Program} {op : BinOp} {a b : Bool} {f : AV → Prop} {tg : Tag f} : wBin P op t (.val (.bool a)) (.val (.bool b)) f tg = wSome (binAV P op t (.val (.bool a)) (.val (.bool b))) f ⟨⟩ := binK_bool
@[simp] theorem wBin_ptr {P : Program} {op : BinOp} {b o : Nat} {y : Value} {f : AV → Prop} {tg : Tag f} : wBin P op t (.ptr b o) (.val y) f tg = wSome (binAV P op t (.ptr b o) (.val y)) f ⟨⟩ := binK_ptr
@[simp] theorem wBin_pp {P : Program} {op : BinOp} {b o b2 o2 : Nat} {f : AV → Prop} {tg : Tag f} : wBin P op t (.ptr b o) (.ptr b2 o2) f tg = wSome ((ptrEq P op t b o b2 o2).map fun b => .val (.bool b)) f ⟨⟩ := rfl
@[simp] theorem wBin_nil {P : Program} {op : BinOp} {y : AV} {f : AV → Prop} {tg : Tag f} : wBin P op t (.val (.slice none 0 0)) y f tg = wSome (binAV P op t (.val (.slice none 0 0)) y) f ⟨⟩ := binK_nil
@[simp] theorem wBin_cons {P : Program} {op : BinOp} {sz : Nat} {r : List AV} {rows : List (List AV)} {own : Own} {y : AV} {f : AV → Prop} {tg : Tag f} : wBin P op t (.list sz (r :: rows) own) y f tg = wSome (binAV P op t (.list sz (r :: rows) own) y) f ⟨⟩ := binK_cons
@[simp] theorem wBin_vref {P : Program} {op : BinOp} {a b c e l : Nat} {y : AV} {f : AV → Prop} {tg : Tag f} : wBin P op t (.vref a b c e l) y f tg = wSome (binAV P op t (.vref a b c e l) y) f ⟨⟩ := binK_plain rfl
@[simp] theorem wBin_agg {P : Program} {op : BinOp} {cs : List AV} {y : AV} {f : AV → Prop} {tg : Tag f} : wBin P op t (.agg cs) y f tg = wSome (binAV P op t (.agg cs) y) f ⟨⟩ := binK_plain rfl
theorem wBin_list_nil {P : Program} {op : BinOp} {e : TypeId} {sz : Nat} {own : Own} {f : AV → Prop} {tg : Tag f} (hop : op = .eql ∨ op = .neq) (ht : P.underlying t = some (.slice e)) : wBin P op t (.list sz [] own) (.val (.slice none 0 0)) f tg = ∀ b, f (.val (.bool b)) := binK_list_nil hop ht

variable {cls rob : Nat → Nat}
@[simp] theorem wDraw_nil {ops : Array Oper} {k : Nat} {K : Env → Mem → Prop} {tg : Tag (ops, ([] : List Oper), K)} : wDraw C h ops cls rob k [] T M K tg = K T M := rfl
@[simp] theorem wDraw_cons {ops : Array Oper} {k : Nat} {o : Oper} {rest : List Oper} {K : Env → Mem → Prop} {tg : Tag (ops, o :: rest, K)} : wDraw C h ops cls rob k (o :: rest) T M K tg =
    wGuard ops o T (wD C h (cls k) (rob k) o (T.ev C) M (fun v M' => wDraw C h ops cls rob (k + 1) rest (T.put o.dst v) M' K ⟨⟩) ⟨⟩) (wDraw C h ops cls rob (k + 1) rest (T.put o.dst (.val undef)) M K ⟨⟩) ⟨⟩ := rfl

@[simp] theorem wOp_sliceData {x : Operand} {xt : TypeId} {d : Option Tmp} {t : TypeId} {p : String} {af : Array Edge} {g : Option (Nat × Bool)} {tg : Tag ((⟨d, .call { callee := .builtin .unsafeSliceData, args := #[x], argTypes := #[xt] }, t, p, af, g⟩ : Oper), K)} : wOp C h ⟨d, .call { callee := .builtin .unsafeSliceData, args := #[x], argTypes := #[xt] }, t, p, af, g⟩ K ρ M tg = wSome ((sliceDataAV M (ρ x)).map fun v => (v, M)) (fun r => K r.1 r.2) ⟨⟩ := rfl
@[simp] theorem wOp_unsafeStr {x y : Operand} {xt yt : TypeId} {d : Option Tmp} {t : TypeId} {p : String} {af : Array Edge} {g : Option (Nat × Bool)} {tg : Tag ((⟨d, .call { callee := .builtin .unsafeString, args := #[x, y], argTypes := #[xt, yt] }, t, p, af, g⟩ : Oper), K)} : wOp C h ⟨d, .call { callee := .builtin .unsafeString, args := #[x, y], argTypes := #[xt, yt] }, t, p, af, g⟩ K ρ M tg = wSome (unsafeStrAV C.P xt M (ρ x) (ρ y)) (fun r => K r.1 r.2) ⟨⟩ := rfl
@[simp] theorem wD2_sliceData {x : Operand} {xt : TypeId} {r : Nat} {d : Option Tmp} {t : TypeId} {p : String} {af : Array Edge} {g : Option (Nat × Bool)} {tg : Tag ((⟨d, .call { callee := .builtin .unsafeSliceData, args := #[x], argTypes := #[xt] }, t, p, af, g⟩ : Oper), K)} : wD C h 2 r ⟨d, .call { callee := .builtin .unsafeSliceData, args := #[x], argTypes := #[xt] }, t, p, af, g⟩ ρ M K tg = wSome ((sliceDataAV M (ρ x)).map fun v => (v, M)) (fun r => K r.1 r.2) ⟨⟩ := rfl
@[simp] theorem wD2_unsafeStr {x y : Operand} {xt yt : TypeId} {r : Nat} {d : Option Tmp} {t : TypeId} {p : String} {af : Array Edge} {g : Option (Nat × Bool)} {tg : Tag ((⟨d, .call { callee := .builtin .unsafeString, args := #[x, y], argTypes := #[xt, yt] }, t, p, af, g⟩ : Oper), K)} : wD C h 2 r ⟨d, .call { callee := .builtin .unsafeString, args := #[x, y], argTypes := #[xt, yt] }, t, p, af, g⟩ ρ M K tg = wSome (unsafeStrAV C.P xt M (ρ x) (ρ y)) (fun r => K r.1 r.2) ⟨⟩ := rfl

/-! ### the steps a prover types -/
theorem w_calls {f : FuncId} {args : List AV} {Q' : AV → Mem → Prop} {tg : Tag K} (hc : Invk C f args M Q') (hk : ∀ r M', Q' r M' → K r M') : wCalls C f args M K tg := hc.mono hk
theorem w_call0 {f : FuncId} {args : List AV} {r : AV} {tg : Tag K} (hc : ∀ M, Invk C f args M (fun v M' => v = r ∧ M' = M)) (hk : K r M) : wCall0 C f args M K tg := ⟨r, hc, hk⟩
theorem w_call2 {f : FuncId} {args : List AV} {r : AV} {M1 : Mem} {tg : Tag K} (hc : Invk C f args M (fun v M' => v = r ∧ M' = M1)) (hk : K r M1) : wCall2 C f args M K tg := ⟨r, M1, hc, hk⟩
theorem w_append {own vec : Bool} {st xt e : TypeId} {sz bytes : Nat} {s x : AV} {tg : Tag K} (h1 : elemOf? C.P st = some e) (h2 : srcOk C.P xt) (h3 : elemOk C.P e sz bytes) (h4 : sizeOk sz s) (h5 : sizeOk sz x) (h6 : (rowsLen s + rowsLen x) * bytes ≤ 140737488355328)
    (hk : wSome (appendAV own sz s x M) (fun r => K r.1 r.2) ⟨⟩) (hv : vecLike vec s = false := by rfl) : wAppend C own vec st xt s x M K tg := by
  refine ⟨e, sz, bytes, ⟨h1, h2, h3⟩, ?_⟩
  have e1 : appMem own vec e sz bytes s x M = appendAV own sz s x M := by
    unfold appMem
    rw [if_neg (by simp only [hv]; simp), if_pos (by rw [sizeOkB_iff.2 h4, sizeOkB_iff.2 h5, decide_eq_true h6]; rfl)]
  rw [e1]; exact hk
theorem w_vappend {own vec : Bool} {st xt e : TypeId} {sz bytes k m : Nat} {s x : AV} {cs news : List AV} {tg : Tag K} (h1 : elemOf? C.P st = some e) (h2 : srcOk C.P xt) (h3 : elemOk C.P e sz bytes) (h4 : srcCells M sz s = some (cs, k)) (h5 : srcCells M sz x = some (news, m)) (h6 : (k + m) * bytes ≤ 140737488355328)
    (hi : vappIn e sz s x M = none) (hk : wSome (vappAV e sz s x M) (fun r => K r.1 r.2) ⟨⟩) (hv : vecLike vec s = true := by rfl) : wAppend C own vec st xt s x M K tg := by
  refine ⟨e, sz, bytes, ⟨h1, h2, h3⟩, ?_⟩
  have e1 : appMem own vec e sz bytes s x M = vappAV e sz s x M := by
    simp [appMem, hv, h4, h5, h6, hi]
  rw [e1]; exact hk
theorem w_drawn {id : Nat} {l : List Oper} {tg : Tag (Code.region id l.toArray true, Q)} (h : Hint) (hmix : C.P.follows .mixedOrders = true) (cls rob : Nat → Nat) (hin : opsInside N l.toArray l = true) (hok : okDraw l.toArray (planW cls fun _ => 0) = true)
    (hr : wDraw C h l.toArray cls rob 0 l T M (fun T M => Q .normal T M) ⟨⟩) : wWp C N (.region id l.toArray true) Q T M tg := awp_wsDraw hmix cls rob hin hok hr
theorem w_body {f : FuncId} {fn : Func} {c : Code} {args : List AV} {Q : AV → Mem → Prop} {rs : List ResultVar} (h : Hint) (hf : C.P.funcs[f]? = some fn) (hb : fn.body = some c) (hN : fn.ntmps = N) (hrs : fn.results = rs.toArray)
    (hn : decide (args.length ≤ N) = true) (hin : resInside N rs = true) (hci : codeInside N c = true) (hw : wCode C h N c (fun e T M => wBody C rs Q e T M ⟨⟩) (Env.of args) M ⟨⟩) : ACalls C f args M Q :=
  acalls_of_body hf hb hN hrs hn hin (wsCode_sound (h := h) c _ _ _ hci hw)
theorem w_looped {c : Code} {tg : Tag (Code.loop c, Q)} (h : Hint) (I : Env → Mem → Prop) (μ : Env → Mem → Nat) (hin : codeInside N c = true) (h0 : I T M)
    (round : ∀ T M, I T M → wCode C h N c (fun e T' M' => wThen (fun T' M' => I T' M' ∧ μ T' M' < μ T M) Q e T' M' ⟨⟩) T M ⟨⟩) : wWp C N (.loop c) Q T M tg :=
  awp_loop I μ h0 fun T M hI => wsCode_sound (h := h) c _ T M hin (round T M hI)
end
@[simp] theorem lenAV_str {P : Program} {t : TypeId} {s : ByteArray} (h : P.underlying t = some .string) : lenAV P t (.val (.string s)) = some s.size := by simp [lenAV, h]
@[simp] theorem lenAV_list {P : Program} {t e : TypeId} {sz : Nat} {rows : List (List AV)} {own : Own} (h : P.underlying t = some (.slice e)) : lenAV P t (.list sz rows own) = some rows.length := by simp [lenAV, h]
@[simp] theorem lenAV_vref {P : Program} {t e : TypeId} {a b c f l : Nat} (h : P.underlying t = some (.slice e)) : lenAV P t (.vref a b c f l) = some l := by simp [lenAV, h]
@[simp] theorem lenAV_nil {P : Program} {t e : TypeId} (h : P.underlying t = some (.slice e)) : lenAV P t (.val (.slice none 0 0)) = some 0 := by simp [lenAV, h]
end Go.Abs
