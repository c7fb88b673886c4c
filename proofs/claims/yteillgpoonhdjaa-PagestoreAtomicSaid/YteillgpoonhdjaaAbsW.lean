/- The walk: the same rules, with what comes later held fast (a tag keeps simp out of it). Walk with 'simp (dsimp := false)'. -/
import Derived.Test.YteillgpoonhdjaaAbsR
set_option linter.unusedVariables false
namespace Go.Abs

universe u
structure Tag {α : Sort u} (a : α) : Type where

def wSome {α : Type} (o : Option α) (f : α → Prop) (_ : Tag f) : Prop := onSome o f
@[simp] theorem wSome_some {α : Type} {v : α} {f : α → Prop} {t : Tag f} : wSome (some v) f t = f v := rfl
@[simp] theorem wSome_none {α : Type} {f : α → Prop} {t : Tag f} : wSome none f t = False := rfl
@[simp] theorem wSome_ite {α : Type} {c : Prop} [Decidable c] {v : α} {f : α → Prop} {t : Tag f} : wSome (if c then some v else none) f t = (c ∧ f v) := onSome_ite v f
@[simp] theorem wSome_map {α β : Type} {o : Option α} {g : α → β} {f : β → Prop} {t : Tag f} : wSome (o.map g) f t = wSome o (fun x => f (g x)) ⟨⟩ := onSome_map o g f

abbrev Post := Exit → Env → Mem → Prop
def wCode (C : Ctx) (h : Hint) (N : Nat) (c : Code) (Q : Post) (T : Env) (M : Mem) (_ : Tag (c, Q)) : Prop := vcCode C h N c Q T M
def wOps (C : Ctx) (h : Hint) (ops : Array Oper) (l : List Oper) (K : Env → Mem → Prop) (T : Env) (M : Mem) (_ : Tag (ops, l, K)) : Prop := vcOps C h ops l K T M
def wOp (C : Ctx) (h : Hint) (o : Oper) (K : AV → Mem → Prop) (ρ : Operand → AV) (M : Mem) (_ : Tag (o, K)) : Prop := vcOp C h o K ρ M
def wGuard (ops : Array Oper) (o : Oper) (T : Env) (run skip : Prop) (_ : Tag (ops, o, run, skip)) : Prop := vcGuard ops o T run skip
def wSlot (d : Option Tmp) (want : Bool) (T : Env) (run skip : Prop) (_ : Tag (run, skip)) : Prop := guardK d want T run skip
def wGv (v : AV) (want : Bool) (run skip : Prop) (_ : Tag (run, skip)) : Prop := guardV v want run skip
def wCond (v : AV) (x y : Prop) (_ : Tag (x, y)) : Prop := condV v x y
def wThen (K : Env → Mem → Prop) (Q : Post) (e : Exit) (T : Env) (M : Mem) (_ : Tag (K, Q)) : Prop := thenK K Q e T M
def wBlock (id : Nat) (Q : Post) (e : Exit) (T : Env) (M : Mem) (_ : Tag Q) : Prop := inBlockK id Q e T M
def wBody (C : Ctx) (rs : List ResultVar) (Q : AV → Mem → Prop) (e : Exit) (T : Env) (M : Mem) (_ : Tag Q) : Prop := bodyQ C rs Q e T M
def wWp (C : Ctx) (N : Nat) (c : Code) (Q : Post) (T : Env) (M : Mem) (_ : Tag (c, Q)) : Prop := AWp C N c Q T M
def wCalls (C : Ctx) (f : FuncId) (args : List AV) (M : Mem) (Q : AV → Mem → Prop) (_ : Tag Q) : Prop := enters C.P f ∧ ACalls C f args M Q
def wBin (P : Program) (op : BinOp) (t : TypeId) (x y : AV) (f : AV → Prop) (_ : Tag f) : Prop := binK P op t x y f
def wCall (C : Ctx) (f : AV) (args : List AV) (M : Mem) (K : AV → Mem → Prop) (_ : Tag K) : Prop := callK C f args M K
def wAppend (C : Ctx) (own : Bool) (t u : TypeId) (s x : AV) (M : Mem) (K : AV → Mem → Prop) (_ : Tag K) : Prop := appendK C own t u s x M K
def wD (C : Ctx) (h : Hint) (c : Nat) (o : Oper) (ρ : Operand → AV) (M : Mem) (K : AV → Mem → Prop) (_ : Tag (o, K)) : Prop := dOp C h c o ρ M K
def wDraw (C : Ctx) (h : Hint) (ops : Array Oper) (cls : Nat → Nat) (k : Nat) (l : List Oper) (T : Env) (M : Mem) (K : Env → Mem → Prop) (_ : Tag (ops, l, K)) : Prop := drawRun C h ops cls k l T M K
def wCallD (C : Ctx) (c : Nat) (f : AV) (args : List AV) (M : Mem) (K : AV → Mem → Prop) (_ : Tag K) : Prop := callD C c f args M K
def wCall0 (C : Ctx) (g : FuncId) (args : List AV) (M : Mem) (K : AV → Mem → Prop) (_ : Tag K) : Prop := call0 C g args M K
def wCallM (C : Ctx) (c : Nat) (g : FuncId) (args : List AV) (M : Mem) (K : AV → Mem → Prop) (_ : Tag K) : Prop := callM C c g args M K

section
variable {C : Ctx} {h : Hint} {N : Nat} {Q : Post} {T : Env} {M : Mem} {K : AV → Mem → Prop} {ρ : Operand → AV}
@[simp] theorem w_skip {t : Tag (Code.skip, Q)} : wCode C h N .skip Q T M t = Q .normal T M := rfl
@[simp] theorem w_label {l : Nat} {t : Tag (Code.label l, Q)} : wCode C h N (.label l) Q T M t = Q .normal T M := rfl
@[simp] theorem w_region {id : Nat} {l : List Oper} {t : Tag (Code.region id l.toArray false, Q)} : wCode C h N (.region id l.toArray false) Q T M t = wOps C h l.toArray l (fun T M => Q .normal T M) T M ⟨⟩ := rfl
@[simp] theorem w_draw {id : Nat} {ops : Array Oper} {t : Tag (Code.region id ops true, Q)} : wCode C h N (.region id ops true) Q T M t = wWp C N (.region id ops true) Q T M ⟨⟩ := rfl
@[simp] theorem w_seq {x y : Code} {t : Tag (Code.seq x y, Q)} : wCode C h N (.seq x y) Q T M t = wCode C h N x (fun e T M => wThen (fun T M => wCode C h N y Q T M ⟨⟩) Q e T M ⟨⟩) T M ⟨⟩ := rfl
@[simp] theorem w_cond {c : Operand} {x y : Code} {t : Tag (Code.cond c x y, Q)} : wCode C h N (.cond c x y) Q T M t = wCond (T.ev C c) (wCode C h N x Q T M ⟨⟩) (wCode C h N y Q T M ⟨⟩) ⟨⟩ := rfl
@[simp] theorem w_block {id : Nat} {c : Code} {t : Tag (Code.block id c, Q)} : wCode C h N (.block id c) Q T M t = wCode C h N c (fun e T M => wBlock id Q e T M ⟨⟩) T M ⟨⟩ := rfl
@[simp] theorem w_exit {id : Nat} {t : Tag (Code.exit id, Q)} : wCode C h N (.exit id) Q T M t = Q (.exit id) T M := rfl
@[simp] theorem w_ret {t : Tag (Code.ret, Q)} : wCode C h N .ret Q T M t = Q .ret T M := rfl
@[simp] theorem w_loop {c : Code} {t : Tag (Code.loop c, Q)} : wCode C h N (.loop c) Q T M t = wWp C N (.loop c) Q T M ⟨⟩ := rfl
@[simp] theorem wThen_normal {K : Env → Mem → Prop} {t : Tag (K, Q)} : wThen K Q .normal T M t = K T M := rfl
@[simp] theorem wThen_exit {K : Env → Mem → Prop} {id : Nat} {t : Tag (K, Q)} : wThen K Q (.exit id) T M t = Q (.exit id) T M := rfl
@[simp] theorem wThen_ret {K : Env → Mem → Prop} {t : Tag (K, Q)} : wThen K Q .ret T M t = Q .ret T M := rfl
@[simp] theorem wBlock_normal {id : Nat} {t : Tag Q} : wBlock id Q .normal T M t = Q .normal T M := rfl
@[simp] theorem wBlock_ret {id : Nat} {t : Tag Q} : wBlock id Q .ret T M t = Q .ret T M := rfl
@[simp] theorem wBlock_exit {id id' : Nat} {t : Tag Q} : wBlock id Q (.exit id') T M t = if id' = id then Q .normal T M else Q (.exit id') T M := rfl
@[simp] theorem wBody_ret {rs : List ResultVar} {Q : AV → Mem → Prop} {t : Tag Q} : wBody C rs Q .ret T M t = wSome (resultAV C rs T M) (fun r => Q r M) ⟨⟩ := bodyQ_ret
@[simp] theorem wBody_normal {rs : List ResultVar} {Q : AV → Mem → Prop} {t : Tag Q} : wBody C rs Q .normal T M t = wSome (resultAV C rs T M) (fun r => Q r M) ⟨⟩ := bodyQ_normal
@[simp] theorem wCond_bool {b : Bool} {x y : Prop} {t : Tag (x, y)} : wCond (.val (.bool b)) x y t = if b = true then x else y := rfl
@[simp] theorem wGv_bool {b want : Bool} {run skip : Prop} {t : Tag (run, skip)} : wGv (.val (.bool b)) want run skip t = if b = want then run else skip := rfl
@[simp] theorem wGv_undef {want : Bool} {run skip : Prop} {t : Tag (run, skip)} : wGv (.val undef) want run skip t = skip := rfl
@[simp] theorem wSlot_some {d : Tmp} {want : Bool} {run skip : Prop} {t : Tag (run, skip)} : wSlot (some d) want T run skip t = wGv (T d) want run skip ⟨⟩ := rfl
variable {d : Option Tmp} {t : TypeId} {p : String} {af : Array Edge} {g : Option (Nat × Bool)}
@[simp] theorem wGuard_none {ops : Array Oper} {op : Op} {run skip : Prop} {tg : Tag (ops, (⟨d, op, t, p, af, none⟩ : Oper), run, skip)} : wGuard ops ⟨d, op, t, p, af, none⟩ T run skip tg = run := rfl
@[simp] theorem wGuard_some {ops : Array Oper} {op : Op} {run skip : Prop} {j : Nat} {want : Bool} {tg : Tag (ops, (⟨d, op, t, p, af, some (j, want)⟩ : Oper), run, skip)} : wGuard ops ⟨d, op, t, p, af, some (j, want)⟩ T run skip tg = wSlot ((ops[j]?).bind (·.dst)) want T run skip ⟨⟩ := vcGuard_K
@[simp] theorem wOps_nil {ops : Array Oper} {K : Env → Mem → Prop} {tg : Tag (ops, ([] : List Oper), K)} : wOps C h ops [] K T M tg = K T M := rfl
@[simp] theorem wOps_cons {ops : Array Oper} {o : Oper} {rest : List Oper} {K : Env → Mem → Prop} {tg : Tag (ops, o :: rest, K)} : wOps C h ops (o :: rest) K T M tg =
    wGuard ops o T (wOp C h o (fun v M' => wOps C h ops rest K (T.put o.dst v) M' ⟨⟩) (T.ev C) M ⟨⟩) (wOps C h ops rest K (T.put o.dst (.val undef)) M ⟨⟩) ⟨⟩ := rfl

@[simp] theorem wOp_move {x : Operand} {tg : Tag ((⟨d, .move x, t, p, af, g⟩ : Oper), K)} : wOp C h ⟨d, .move x, t, p, af, g⟩ K ρ M tg = K (ρ x) M := rfl
@[simp] theorem wOp_assign {x : Operand} {tg : Tag ((⟨d, .assign x, t, p, af, g⟩ : Oper), K)} : wOp C h ⟨d, .assign x, t, p, af, g⟩ K ρ M tg = K (ρ x) M := rfl
@[simp] theorem wOp_pick {c a b : Operand} {tg : Tag ((⟨d, .pick c a b, t, p, af, g⟩ : Oper), K)} : wOp C h ⟨d, .pick c a b, t, p, af, g⟩ K ρ M tg = wSome (pickAV (ρ c) (ρ a) (ρ b)) (fun v => K v M) ⟨⟩ := vcOp_pick
@[simp] theorem wOp_nilCheck {x : Operand} {tg : Tag ((⟨d, .nilCheck x, t, p, af, g⟩ : Oper), K)} : wOp C h ⟨d, .nilCheck x, t, p, af, g⟩ K ρ M tg = wSome (nilAV (ρ x)) (fun v => K v M) ⟨⟩ := vcOp_nilCheck
@[simp] theorem wOp_binOp {op : BinOp} {xt yt : TypeId} {x y : Operand} {tg : Tag ((⟨d, .binOp op xt x y yt, t, p, af, g⟩ : Oper), K)} : wOp C h ⟨d, .binOp op xt x y yt, t, p, af, g⟩ K ρ M tg = wBin C.P op xt (ρ x) (ρ y) (fun v => K v M) ⟨⟩ := vcOp_binOp
@[simp] theorem wOp_not {xt : TypeId} {x : Operand} {tg : Tag ((⟨d, .unOp .not xt x, t, p, af, g⟩ : Oper), K)} : wOp C h ⟨d, .unOp .not xt x, t, p, af, g⟩ K ρ M tg = wSome (notAV (ρ x)) (fun v => K v M) ⟨⟩ := vcOp_not
@[simp] theorem wOp_fieldAddr {xt : TypeId} {x : Operand} {f : Nat} {tg : Tag ((⟨d, .fieldAddr xt x f, t, p, af, g⟩ : Oper), K)} : wOp C h ⟨d, .fieldAddr xt x f, t, p, af, g⟩ K ρ M tg = wSome (faddrAV (offOf C.P xt f) (ρ x)) (fun v => K v M) ⟨⟩ := vcOp_fieldAddr
@[simp] theorem wOp_extract {x : Operand} {i : Nat} {tg : Tag ((⟨d, .extract x i, t, p, af, g⟩ : Oper), K)} : wOp C h ⟨d, .extract x i, t, p, af, g⟩ K ρ M tg = wSome (extractAV (ρ x) i) (fun v => K v M) ⟨⟩ := vcOp_extract
@[simp] theorem wOp_indexAddr {xt : TypeId} {x i : Operand} {tg : Tag ((⟨d, .indexAddr xt x i, t, p, af, g⟩ : Oper), K)} : wOp C h ⟨d, .indexAddr xt x i, t, p, af, g⟩ K ρ M tg = wSome (idxAV ((elemOf? C.P xt).map (szOf C.P)) (ρ x) (ρ i)) (fun v => K v M) ⟨⟩ := vcOp_indexAddr
@[simp] theorem wOp_load {lt : TypeId} {x : Operand} {tg : Tag ((⟨d, .load lt x, t, p, af, g⟩ : Oper), K)} : wOp C h ⟨d, .load lt x, t, p, af, g⟩ K ρ M tg = wSome (loadAV C.P lt M (ρ x)) (fun v => K v M) ⟨⟩ := vcOp_load
@[simp] theorem wOp_store {lt : TypeId} {x y : Operand} {tg : Tag ((⟨d, .store lt x y, t, p, af, g⟩ : Oper), K)} : wOp C h ⟨d, .store lt x y, t, p, af, g⟩ K ρ M tg = wSome (storeAV (szOf C.P lt) M (ρ x) (ρ y)) (fun M' => K (.val undef) M') ⟨⟩ := vcOp_store
@[simp] theorem wOp_alloc {e : TypeId} {tg : Tag ((⟨d, .alloc e, t, p, af, g⟩ : Oper), K)} : wOp C h ⟨d, .alloc e, t, p, af, g⟩ K ρ M tg = wSome (allocAV C.P e M) (fun x => K x.1 x.2) ⟨⟩ := vcOp_alloc
@[simp] theorem wOp_box {e : TypeId} {x : Operand} {tg : Tag ((⟨d, .box e x, t, p, af, g⟩ : Oper), K)} : wOp C h ⟨d, .box e x, t, p, af, g⟩ K ρ M tg = wSome (boxAV (hintAt h.imm d) M (ρ x)) (fun x => K x.1 x.2) ⟨⟩ := vcOp_box
@[simp] theorem wOp_makeFunc {fn : Fn} {f c : Array Operand} {tg : Tag ((⟨d, .makeFunc fn f c, t, p, af, g⟩ : Oper), K)} : wOp C h ⟨d, .makeFunc fn f c, t, p, af, g⟩ K ρ M tg = K (.func fn (f.toList.map ρ) (c.toList.map ρ)) M := vcOp_makeFunc
@[simp] theorem wOp_slice {st : TypeId} {x : Operand} {lo hi mx : Option Operand} {tg : Tag ((⟨d, .slice st x lo hi mx, t, p, af, g⟩ : Oper), K)} : wOp C h ⟨d, .slice st x lo hi mx, t, p, af, g⟩ K ρ M tg = wSome (sliceAV C.P st (ρ x) (lo.map ρ) (hi.map ρ) (mx.map ρ)) (fun v => K v M) ⟨⟩ := vcOp_slice
@[simp] theorem wOp_build {bt : TypeId} {ps : List (Nat × Operand)} {tg : Tag ((⟨d, .build bt ps.toArray, t, p, af, g⟩ : Oper), K)} : wOp C h ⟨d, .build bt ps.toArray, t, p, af, g⟩ K ρ M tg = wSome (buildAV C.P bt (ps.map fun x => (x.1, ρ x.2))) (fun v => K v M) ⟨⟩ := vcOp_build
@[simp] theorem wOp_buildSlice {bt : TypeId} {n : Nat} {ps : List (Nat × Operand)} {tg : Tag ((⟨d, .buildSlice bt n ps.toArray, t, p, af, g⟩ : Oper), K)} : wOp C h ⟨d, .buildSlice bt n ps.toArray, t, p, af, g⟩ K ρ M tg = wSome (buildSliceAV C.P bt n (ps.map fun x => (x.1, ρ x.2))) (fun v => K v M) ⟨⟩ := vcOp_buildSlice
@[simp] theorem wOp_len {x : Operand} {xt : TypeId} {tg : Tag ((⟨d, .call { callee := .builtin .len, args := #[x], argTypes := #[xt] }, t, p, af, g⟩ : Oper), K)} : wOp C h ⟨d, .call { callee := .builtin .len, args := #[x], argTypes := #[xt] }, t, p, af, g⟩ K ρ M tg = wSome (lenAV C.P xt (ρ x)) (fun n => K (.val (.int .i64 n)) M) ⟨⟩ := vcOp_len
@[simp] theorem wOp_max {x y : Operand} {ts : Array TypeId} {tg : Tag ((⟨d, .call { callee := .builtin .max, args := #[x, y], argTypes := ts }, t, p, af, g⟩ : Oper), K)} : wOp C h ⟨d, .call { callee := .builtin .max, args := #[x, y], argTypes := ts }, t, p, af, g⟩ K ρ M tg = wSome (min2V true (ρ x) (ρ y)) (fun v => K v M) ⟨⟩ := vcOp_max
@[simp] theorem wOp_min {x y : Operand} {ts : Array TypeId} {tg : Tag ((⟨d, .call { callee := .builtin .min, args := #[x, y], argTypes := ts }, t, p, af, g⟩ : Oper), K)} : wOp C h ⟨d, .call { callee := .builtin .min, args := #[x, y], argTypes := ts }, t, p, af, g⟩ K ρ M tg = wSome (min2V false (ρ x) (ρ y)) (fun v => K v M) ⟨⟩ := vcOp_min
@[simp] theorem wOp_call {f : Operand} {args : List Operand} {ts : Array TypeId} {tg : Tag ((⟨d, .call { callee := .value f, args := args.toArray, argTypes := ts }, t, p, af, g⟩ : Oper), K)} : wOp C h ⟨d, .call { callee := .value f, args := args.toArray, argTypes := ts }, t, p, af, g⟩ K ρ M tg = wCall C (ρ f) (args.map ρ) M K ⟨⟩ := rfl
@[simp] theorem wCall_func {f : FuncId} {first captured args : List AV} {tg : Tag K} : wCall C (.func (.func f) first captured) args M K tg = wCalls C f (first ++ args ++ captured) M K ⟨⟩ := rfl
@[simp] theorem wOp_append {s x : Operand} {st xt : TypeId} {tg : Tag ((⟨d, .call { callee := .builtin .append, args := #[s, x], argTypes := #[st, xt] }, t, p, af, g⟩ : Oper), K)} : wOp C h ⟨d, .call { callee := .builtin .append, args := #[s, x], argTypes := #[st, xt] }, t, p, af, g⟩ K ρ M tg = wAppend C (hintAt h.own d) st xt (ρ s) (ρ x) M K ⟨⟩ := vcOp_append

@[simp] theorem wBin_int {P : Program} {op : BinOp} {k : IntKind} {a b : Int} {f : AV → Prop} {tg : Tag f} : wBin P op t (.val (.int k a)) (.val (.int k b)) f tg = wSome ((intB op k a b).map .val) f ⟨⟩ := binK_int
@[simp] theorem wBin_str {P : Program} {op : BinOp} {a b : ByteArray} {f : AV → Prop} {tg : Tag f} : wBin P op t (.val (.string a)) (.val (.string b)) f tg = wSome ((strB op a b).map .val) f ⟨⟩ := binK_str
@[simp] theorem wBin_bool {P : Program} {op : BinOp} {a b : Bool} {f : AV → Prop} {tg : Tag f} : wBin P op t (.val (.bool a)) (.val (.bool b)) f tg = wSome (binAV P op t (.val (.bool a)) (.val (.bool b))) f ⟨⟩ := binK_bool
@[simp] theorem wBin_ptr {P : Program} {op : BinOp} {b o : Nat} {y : AV} {f : AV → Prop} {tg : Tag f} : wBin P op t (.ptr b o) y f tg = wSome (binAV P op t (.ptr b o) y) f ⟨⟩ := binK_ptr
@[simp] theorem wBin_nil {P : Program} {op : BinOp} {y : AV} {f : AV → Prop} {tg : Tag f} : wBin P op t (.val (.slice none 0 0)) y f tg = wSome (binAV P op t (.val (.slice none 0 0)) y) f ⟨⟩ := binK_nil
@[simp] theorem wBin_cons {P : Program} {op : BinOp} {sz : Nat} {r : List AV} {rows : List (List AV)} {own : Own} {y : AV} {f : AV → Prop} {tg : Tag f} : wBin P op t (.list sz (r :: rows) own) y f tg = wSome (binAV P op t (.list sz (r :: rows) own) y) f ⟨⟩ := binK_cons
theorem wBin_list_nil {P : Program} {op : BinOp} {e : TypeId} {sz : Nat} {own : Own} {f : AV → Prop} {tg : Tag f} (hop : op = .eql ∨ op = .neq) (ht : P.underlying t = some (.slice e)) : wBin P op t (.list sz [] own) (.val (.slice none 0 0)) f tg = ∀ b, f (.val (.bool b)) := binK_list_nil hop ht

variable {c : Nat}
@[simp] theorem wDraw_nil {ops : Array Oper} {cls : Nat → Nat} {k : Nat} {K : Env → Mem → Prop} {tg : Tag (ops, ([] : List Oper), K)} : wDraw C h ops cls k [] T M K tg = K T M := rfl
@[simp] theorem wDraw_cons {ops : Array Oper} {cls : Nat → Nat} {k : Nat} {o : Oper} {rest : List Oper} {K : Env → Mem → Prop} {tg : Tag (ops, o :: rest, K)} : wDraw C h ops cls k (o :: rest) T M K tg =
    wGuard ops o T (wD C h (cls k) o (T.ev C) M (fun v M' => wDraw C h ops cls (k + 1) rest (T.put o.dst v) M' K ⟨⟩) ⟨⟩) (wDraw C h ops cls (k + 1) rest (T.put o.dst (.val undef)) M K ⟨⟩) ⟨⟩ := rfl
@[simp] theorem wD_move {x : Operand} {tg : Tag ((⟨d, .move x, t, p, af, g⟩ : Oper), K)} : wD C h c ⟨d, .move x, t, p, af, g⟩ ρ M K tg = K (ρ x) M := dOp_move
@[simp] theorem wD_assign {x : Operand} {tg : Tag ((⟨d, .assign x, t, p, af, g⟩ : Oper), K)} : wD C h c ⟨d, .assign x, t, p, af, g⟩ ρ M K tg = K (ρ x) M := dOp_assign
@[simp] theorem wD_pick {x a b : Operand} {tg : Tag ((⟨d, .pick x a b, t, p, af, g⟩ : Oper), K)} : wD C h c ⟨d, .pick x a b, t, p, af, g⟩ ρ M K tg = wSome (pickAV (ρ x) (ρ a) (ρ b)) (fun v => K v M) ⟨⟩ := dOp_pick
@[simp] theorem wD_nilCheck {x : Operand} {tg : Tag ((⟨d, .nilCheck x, t, p, af, g⟩ : Oper), K)} : wD C h c ⟨d, .nilCheck x, t, p, af, g⟩ ρ M K tg = wSome (nilAV (ρ x)) (fun v => K v M) ⟨⟩ := dOp_nilCheck
@[simp] theorem wD_binOp {op : BinOp} {xt yt : TypeId} {x y : Operand} {tg : Tag ((⟨d, .binOp op xt x y yt, t, p, af, g⟩ : Oper), K)} : wD C h c ⟨d, .binOp op xt x y yt, t, p, af, g⟩ ρ M K tg = wSome (binAV C.P op xt (ρ x) (ρ y)) (fun v => K v M) ⟨⟩ := dOp_binOp
@[simp] theorem wD_not {xt : TypeId} {x : Operand} {tg : Tag ((⟨d, .unOp .not xt x, t, p, af, g⟩ : Oper), K)} : wD C h c ⟨d, .unOp .not xt x, t, p, af, g⟩ ρ M K tg = wSome (notAV (ρ x)) (fun v => K v M) ⟨⟩ := dOp_not
@[simp] theorem wD_fieldAddr {xt : TypeId} {x : Operand} {f : Nat} {tg : Tag ((⟨d, .fieldAddr xt x f, t, p, af, g⟩ : Oper), K)} : wD C h c ⟨d, .fieldAddr xt x f, t, p, af, g⟩ ρ M K tg = wSome (faddrAV (offOf C.P xt f) (ρ x)) (fun v => K v M) ⟨⟩ := dOp_fieldAddr
@[simp] theorem wD_extract {x : Operand} {i : Nat} {tg : Tag ((⟨d, .extract x i, t, p, af, g⟩ : Oper), K)} : wD C h c ⟨d, .extract x i, t, p, af, g⟩ ρ M K tg = wSome (extractAV (ρ x) i) (fun v => K v M) ⟨⟩ := dOp_extract
@[simp] theorem wD_indexAddr {xt : TypeId} {x i : Operand} {tg : Tag ((⟨d, .indexAddr xt x i, t, p, af, g⟩ : Oper), K)} : wD C h c ⟨d, .indexAddr xt x i, t, p, af, g⟩ ρ M K tg = wSome (idxAV ((elemOf? C.P xt).map (szOf C.P)) (ρ x) (ρ i)) (fun v => K v M) ⟨⟩ := dOp_indexAddr
@[simp] theorem wD_load0 {lt : TypeId} {x : Operand} {tg : Tag ((⟨d, .load lt x, t, p, af, g⟩ : Oper), K)} : wD C h 0 ⟨d, .load lt x, t, p, af, g⟩ ρ M K tg = wSome (load0 C.P lt (ρ x)) (fun v => K v M) ⟨⟩ := by unfold wD; rw [dOp_load]; rfl
@[simp] theorem wD_load1 {lt : TypeId} {x : Operand} {tg : Tag ((⟨d, .load lt x, t, p, af, g⟩ : Oper), K)} : wD C h 1 ⟨d, .load lt x, t, p, af, g⟩ ρ M K tg = wSome (loadAV C.P lt M (ρ x)) (fun v => K v M) ⟨⟩ := by unfold wD; rw [dOp_load]; rfl
@[simp] theorem wD_store {lt : TypeId} {x y : Operand} {tg : Tag ((⟨d, .store lt x y, t, p, af, g⟩ : Oper), K)} : wD C h 2 ⟨d, .store lt x y, t, p, af, g⟩ ρ M K tg = wSome (storeAV (szOf C.P lt) M (ρ x) (ρ y)) (fun M' => K (.val undef) M') ⟨⟩ := dOp_store
@[simp] theorem wD_box0 {e : TypeId} {x : Operand} {tg : Tag ((⟨d, .box e x, t, p, af, g⟩ : Oper), K)} : wD C h 0 ⟨d, .box e x, t, p, af, g⟩ ρ M K tg = wSome (box0 (hintAt h.imm d) (ρ x)) (fun v => K v M) ⟨⟩ := by unfold wD; rw [dOp_box]; rfl
@[simp] theorem wD_makeFunc {fn : Fn} {f k : Array Operand} {tg : Tag ((⟨d, .makeFunc fn f k, t, p, af, g⟩ : Oper), K)} : wD C h c ⟨d, .makeFunc fn f k, t, p, af, g⟩ ρ M K tg = K (.func fn (f.toList.map ρ) (k.toList.map ρ)) M := dOp_makeFunc
@[simp] theorem wD_slice {st : TypeId} {x : Operand} {lo hi mx : Option Operand} {tg : Tag ((⟨d, .slice st x lo hi mx, t, p, af, g⟩ : Oper), K)} : wD C h c ⟨d, .slice st x lo hi mx, t, p, af, g⟩ ρ M K tg = wSome (sliceAV C.P st (ρ x) (lo.map ρ) (hi.map ρ) (mx.map ρ)) (fun v => K v M) ⟨⟩ := dOp_slice
@[simp] theorem wD_build {bt : TypeId} {ps : List (Nat × Operand)} {tg : Tag ((⟨d, .build bt ps.toArray, t, p, af, g⟩ : Oper), K)} : wD C h c ⟨d, .build bt ps.toArray, t, p, af, g⟩ ρ M K tg = wSome (buildAV C.P bt (ps.map fun x => (x.1, ρ x.2))) (fun v => K v M) ⟨⟩ := dOp_build
@[simp] theorem wD_buildSlice {bt : TypeId} {n : Nat} {ps : List (Nat × Operand)} {tg : Tag ((⟨d, .buildSlice bt n ps.toArray, t, p, af, g⟩ : Oper), K)} : wD C h c ⟨d, .buildSlice bt n ps.toArray, t, p, af, g⟩ ρ M K tg = wSome (buildSliceAV C.P bt n (ps.map fun x => (x.1, ρ x.2))) (fun v => K v M) ⟨⟩ := dOp_buildSlice
@[simp] theorem wD_len {x : Operand} {xt : TypeId} {tg : Tag ((⟨d, .call { callee := .builtin .len, args := #[x], argTypes := #[xt] }, t, p, af, g⟩ : Oper), K)} : wD C h c ⟨d, .call { callee := .builtin .len, args := #[x], argTypes := #[xt] }, t, p, af, g⟩ ρ M K tg = wSome (lenAV C.P xt (ρ x)) (fun n => K (.val (.int .i64 n)) M) ⟨⟩ := dOp_len
@[simp] theorem wD_max {x y : Operand} {ts : Array TypeId} {tg : Tag ((⟨d, .call { callee := .builtin .max, args := #[x, y], argTypes := ts }, t, p, af, g⟩ : Oper), K)} : wD C h c ⟨d, .call { callee := .builtin .max, args := #[x, y], argTypes := ts }, t, p, af, g⟩ ρ M K tg = wSome (min2V true (ρ x) (ρ y)) (fun v => K v M) ⟨⟩ := dOp_max
@[simp] theorem wD_min {x y : Operand} {ts : Array TypeId} {tg : Tag ((⟨d, .call { callee := .builtin .min, args := #[x, y], argTypes := ts }, t, p, af, g⟩ : Oper), K)} : wD C h c ⟨d, .call { callee := .builtin .min, args := #[x, y], argTypes := ts }, t, p, af, g⟩ ρ M K tg = wSome (min2V false (ρ x) (ρ y)) (fun v => K v M) ⟨⟩ := dOp_min
@[simp] theorem wD_call {f : Operand} {args : List Operand} {ts : Array TypeId} {tg : Tag ((⟨d, .call { callee := .value f, args := args.toArray, argTypes := ts }, t, p, af, g⟩ : Oper), K)} : wD C h c ⟨d, .call { callee := .value f, args := args.toArray, argTypes := ts }, t, p, af, g⟩ ρ M K tg = wCallD C c (ρ f) (args.map ρ) M K ⟨⟩ := rfl
@[simp] theorem wCallD_zero {f : FuncId} {first captured args : List AV} {tg : Tag K} : wCallD C 0 (.func (.func f) first captured) args M K tg = wCall0 C f (first ++ args ++ captured) M K ⟨⟩ := callD_zero
@[simp] theorem wCallD_one {f : FuncId} {first captured args : List AV} {tg : Tag K} : wCallD C 1 (.func (.func f) first captured) args M K tg = wCallM C 1 f (first ++ args ++ captured) M K ⟨⟩ := callD_one
@[simp] theorem wCallD_two {f : FuncId} {first captured args : List AV} {tg : Tag K} : wCallD C 2 (.func (.func f) first captured) args M K tg = wCallM C 2 f (first ++ args ++ captured) M K ⟨⟩ := callD_two
@[simp] theorem wD_append {s x : Operand} {st xt : TypeId} {tg : Tag ((⟨d, .call { callee := .builtin .append, args := #[s, x], argTypes := #[st, xt] }, t, p, af, g⟩ : Oper), K)} : wD C h 2 ⟨d, .call { callee := .builtin .append, args := #[s, x], argTypes := #[st, xt] }, t, p, af, g⟩ ρ M K tg = wAppend C (hintAt h.own d) st xt (ρ s) (ρ x) M K ⟨⟩ := dOp_append

/-! ### the steps a prover types -/
theorem w_calls {f : FuncId} {args : List AV} {Q' : AV → Mem → Prop} {tg : Tag K} (he : enters C.P f) (hc : ACalls C f args M Q') (hk : ∀ r M', Q' r M' → K r M') : wCalls C f args M K tg := ⟨he, hc.mono hk⟩
theorem w_call0 {f : FuncId} {args : List AV} {r : AV} {tg : Tag K} (he : enters C.P f) (hc : ∀ M, ACalls C f args M (fun v M' => v = r ∧ M' = M)) (hk : K r M) : wCall0 C f args M K tg := ⟨he, r, hc, hk⟩
theorem w_call1 {f : FuncId} {args : List AV} {r : AV} {tg : Tag K} (he : enters C.P f) (hc : ACalls C f args M (fun v M' => v = r ∧ M' = M)) (hk : K r M) : wCallM C 1 f args M K tg := ⟨he, r, M, hc, fun _ => rfl, hk⟩
theorem w_call2 {f : FuncId} {args : List AV} {r : AV} {M1 : Mem} {tg : Tag K} (he : enters C.P f) (hc : ACalls C f args M (fun v M' => v = r ∧ M' = M1)) (hk : K r M1) : wCallM C 2 f args M K tg := ⟨he, r, M1, hc, fun h => absurd rfl h, hk⟩
theorem w_append {own : Bool} {st xt e : TypeId} {sz bytes : Nat} {s x : AV} {tg : Tag K} (h1 : elemOf? C.P st = some e) (h2 : srcOk C.P xt) (h3 : elemOk C.P e sz bytes) (h4 : sizeOk sz s) (h5 : sizeOk sz x) (h6 : (rowsLen s + rowsLen x) * bytes ≤ 140737488355328)
    (hk : onSome (appendAV own sz s x M) (fun r => K r.1 r.2)) : wAppend C own st xt s x M K tg := ⟨e, sz, bytes, ⟨h1, h2, h3⟩, h4, h5, h6, hk⟩
theorem w_drawn {id : Nat} {l : List Oper} {tg : Tag (Code.region id l.toArray true, Q)} (h : Hint) (hmix : C.P.follows .mixedOrders = true) (cls : Nat → Nat) (hin : opsInside N l.toArray l = true) (hok : okDraw l.toArray cls = true)
    (hr : wDraw C h l.toArray cls 0 l T M (fun T M => Q .normal T M) ⟨⟩) : wWp C N (.region id l.toArray true) Q T M tg := awp_draw hmix cls hin hok hr
theorem w_body {f : FuncId} {fn : Func} {c : Code} {args : List AV} {Q : AV → Mem → Prop} {rs : List ResultVar} (h : Hint) (hf : C.P.funcs[f]? = some fn) (hb : fn.body = some c) (hN : fn.ntmps = N) (hrs : fn.results = rs.toArray)
    (hn : decide (args.length ≤ N) = true) (hin : resInside N rs = true) (hci : codeInside N c = true) (hw : wCode C h N c (fun e T M => wBody C rs Q e T M ⟨⟩) (Env.of args) M ⟨⟩) : ACalls C f args M Q :=
  acalls_of_body hf hb hN hrs hn hin (vcCode_sound (h := h) c _ _ _ hci hw)
theorem w_looped {c : Code} {tg : Tag (Code.loop c, Q)} (h : Hint) (I : Env → Mem → Prop) (μ : Env → Mem → Nat) (hin : codeInside N c = true) (h0 : I T M)
    (round : ∀ T M, I T M → wCode C h N c (fun e T' M' => wThen (fun T' M' => I T' M' ∧ μ T' M' < μ T M) Q e T' M' ⟨⟩) T M ⟨⟩) : wWp C N (.loop c) Q T M tg :=
  awp_loop I μ h0 fun T M hI => vcCode_sound (h := h) c _ T M hin (round T M hI)
end
@[simp] theorem lenAV_str {P : Program} {t : TypeId} {s : ByteArray} (h : P.underlying t = some .string) : lenAV P t (.val (.string s)) = some s.size := by simp [lenAV, h]
@[simp] theorem lenAV_list {P : Program} {t e : TypeId} {sz : Nat} {rows : List (List AV)} {own : Own} (h : P.underlying t = some (.slice e)) : lenAV P t (.list sz rows own) = some rows.length := by simp [lenAV, h]
@[simp] theorem lenAV_nil {P : Program} {t e : TypeId} (h : P.underlying t = some (.slice e)) : lenAV P t (.val (.slice none 0 0)) = some 0 := by simp [lenAV, h]
end Go.Abs
