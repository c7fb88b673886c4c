/- The walk's rules, more. -/
import Derived.Test.YteillgpoonhdjaaAbsN
set_option linter.unusedVariables false
namespace Go.Abs

@[simp] theorem onSome_ite {α : Type} {c : Prop} [Decidable c] (v : α) (f : α → Prop) : onSome (if c then some v else none) f = (c ∧ f v) := by
  by_cases h : c <;> simp [h, onSome]
@[simp] theorem onSome_map {α β : Type} (o : Option α) (g : α → β) (f : β → Prop) : onSome (o.map g) f = onSome o (fun x => f (g x)) := by
  cases o <;> rfl
@[simp] theorem min2V_int {mx : Bool} {k : IntKind} {a b : Int} : min2V mx (.val (.int k a)) (.val (.int k b)) = some (.val (.int k (if mx = true then (if b > a then b else a) else (if b < a then b else a)))) := by
  simp [min2V]
attribute [simp] Value.oneCell' AV.storable AV.one AV.cells overwrite loadCells_row resultAV resList resAV hintAt asList rowsLen sizeOk goInt boxAV
@[simp] theorem binAV_int {P : Program} {op : BinOp} {t : TypeId} {k : IntKind} {a b : Int} : binAV P op t (.val (.int k a)) (.val (.int k b)) = (intB op k a b).map .val := by simp [binAV]
@[simp] theorem binAV_str {P : Program} {op : BinOp} {t : TypeId} {a b : ByteArray} : binAV P op t (.val (.string a)) (.val (.string b)) = (strB op a b).map .val := by simp [binAV]
@[simp] theorem binAV_bool_eql {P : Program} {t : TypeId} {a b : Bool} (h : P.underlying t = some .bool) : binAV P .eql t (.val (.bool a)) (.val (.bool b)) = some (.val (.bool (a == b))) := by simp [binAV, h]
@[simp] theorem binAV_bool_neq {P : Program} {t : TypeId} {a b : Bool} (h : P.underlying t = some .bool) : binAV P .neq t (.val (.bool a)) (.val (.bool b)) = some (.val (.bool !(a == b))) := by simp [binAV, h]
theorem binAV_nil {P : Program} {op : BinOp} {t : TypeId} {x y : AV} (hx : ∀ v, x = .val v → (∀ k a, v ≠ .int k a) ∧ (∀ s, v ≠ .string s) ∧ (∀ b, v ≠ .bool b)) : binAV P op t x y = if nilKind P t y && sameKind x y then match isNil x, op with
      | some b, .eql => some (.val (.bool b))
      | some b, .neq => some (.val (.bool !b))
      | _, _ => none
    else none := by
  unfold binAV
  split
  · exact absurd rfl ((hx _ rfl).1 _ _)
  · exact absurd rfl ((hx _ rfl).2.1 _)
  · exact absurd rfl ((hx _ rfl).2.2 _)
  · rfl
@[simp] theorem binAV_ptr_eql {P : Program} {t e : TypeId} {b o : Nat} (h : P.underlying t = some (.pointer e)) : binAV P .eql t (.ptr b o) (.val (.pointer none)) = some (.val (.bool false)) := by simp [binAV, nilKind, h, sameKind, isNil]
@[simp] theorem binAV_ptr_neq {P : Program} {t e : TypeId} {b o : Nat} (h : P.underlying t = some (.pointer e)) : binAV P .neq t (.ptr b o) (.val (.pointer none)) = some (.val (.bool true)) := by simp [binAV, nilKind, h, sameKind, isNil]
attribute [simp] intB strB
theorem binK_int {P : Program} {op : BinOp} {t : TypeId} {k : IntKind} {a b : Int} {f : AV → Prop} : binK P op t (.val (.int k a)) (.val (.int k b)) f = onSome ((intB op k a b).map .val) f := by rw [binK_plain rfl]; simp
theorem binK_str {P : Program} {op : BinOp} {t : TypeId} {a b : ByteArray} {f : AV → Prop} : binK P op t (.val (.string a)) (.val (.string b)) f = onSome ((strB op a b).map .val) f := by rw [binK_plain rfl]; simp
theorem binK_bool {P : Program} {op : BinOp} {t : TypeId} {a b : Bool} {f : AV → Prop} : binK P op t (.val (.bool a)) (.val (.bool b)) f = onSome (binAV P op t (.val (.bool a)) (.val (.bool b))) f := by rw [binK_plain rfl]
theorem binK_ptr {P : Program} {op : BinOp} {t : TypeId} {b o : Nat} {y : AV} {f : AV → Prop} : binK P op t (.ptr b o) y f = onSome (binAV P op t (.ptr b o) y) f := by rw [binK_plain rfl]
theorem binK_nil {P : Program} {op : BinOp} {t : TypeId} {v : Value} {y : AV} {f : AV → Prop} : binK P op t (.val v) y f = onSome (binAV P op t (.val v) y) f := by rw [binK_plain rfl]
theorem binK_cons {P : Program} {op : BinOp} {t : TypeId} {sz : Nat} {r : List AV} {rows : List (List AV)} {own : Own} {y : AV} {f : AV → Prop} : binK P op t (.list sz (r :: rows) own) y f = onSome (binAV P op t (.list sz (r :: rows) own) y) f := by rw [binK_plain rfl]
theorem binK_list_nil {P : Program} {op : BinOp} {t e : TypeId} {sz : Nat} {own : Own} {f : AV → Prop} (hop : op = .eql ∨ op = .neq) (ht : P.underlying t = some (.slice e)) : binK P op t (.list sz [] own) (.val (.slice none 0 0)) f = ∀ b, f (.val (.bool b)) := by
  have h1 : binAV P op t (.list sz [] own) (.val (.slice none 0 0)) = none := by
    rcases hop with rfl | rfl <;> simp [binAV, nilKind, ht, sameKind, isNil]
  have h2 : nilTest P op t (.list sz [] own) (.val (.slice none 0 0)) = true := by
    rcases hop with rfl | rfl <;> simp [nilTest, ht]
  unfold binK
  rw [h1, h2]
  simp
@[simp] theorem binAV_nil_eql {P : Program} {t e : TypeId} (h : P.underlying t = some (.slice e)) : binAV P .eql t (.val (.slice none 0 0)) (.val (.slice none 0 0)) = some (.val (.bool true)) := by simp [binAV, nilKind, h, sameKind, isNil]
@[simp] theorem binAV_cons_eql {P : Program} {t e : TypeId} {sz : Nat} {r : List AV} {rows : List (List AV)} {own : Own} (h : P.underlying t = some (.slice e)) : binAV P .eql t (.list sz (r :: rows) own) (.val (.slice none 0 0)) = some (.val (.bool false)) := by simp [binAV, nilKind, h, sameKind, isNil]
@[simp] theorem binAV_nil_neq {P : Program} {t e : TypeId} (h : P.underlying t = some (.slice e)) : binAV P .neq t (.val (.slice none 0 0)) (.val (.slice none 0 0)) = some (.val (.bool false)) := by simp [binAV, nilKind, h, sameKind, isNil]
@[simp] theorem binAV_cons_neq {P : Program} {t e : TypeId} {sz : Nat} {r : List AV} {rows : List (List AV)} {own : Own} (h : P.underlying t = some (.slice e)) : binAV P .neq t (.list sz (r :: rows) own) (.val (.slice none 0 0)) = some (.val (.bool true)) := by simp [binAV, nilKind, h, sameKind, isNil]

/-- slices of a list, bounds by number -/
@[simp] theorem sliceIdx_none {n : Nat} : sliceIdx n none = some n := rfl
@[simp] theorem sliceIdx_int {n : Nat} {k : IntKind} {i : Int} : sliceIdx n (some (.val (.int k i))) = if 0 ≤ i ∧ i ≤ n then some i.toNat else none := rfl

attribute [congr] ite_congr

def guardV (v : AV) (want : Bool) (run skip : Prop) : Prop := match v with
  | .val (.bool b) => if b = want then run else skip
  | .val (.tuple _) => skip
  | _ => False
theorem guardV_bool {b want : Bool} {run skip : Prop} : guardV (.val (.bool b)) want run skip = if b = want then run else skip := rfl
theorem guardV_undef {want : Bool} {run skip : Prop} : guardV (.val undef) want run skip = skip := rfl
theorem guardV_congr {v v' : AV} {want : Bool} {run skip : Prop} (h : v = v') : guardV v want run skip = guardV v' want run skip := by rw [h]
def guardK (d : Option Tmp) (want : Bool) (T : Env) (run skip : Prop) : Prop := match d with
  | some d => guardV (T d) want run skip
  | none => False
theorem guardK_some {d : Tmp} {want : Bool} {T : Env} {run skip : Prop} : guardK (some d) want T run skip = guardV (T d) want run skip := rfl
theorem guardK_congr {d d' : Option Tmp} {want : Bool} {T T' : Env} {run skip : Prop} (h : d = d') (hT : T = T') : guardK d want T run skip = guardK d' want T' run skip := by rw [h, hT]
theorem vcGuard_K {ops : Array Oper} {d : Option Tmp} {op : Op} {t : TypeId} {p : String} {af : Array Edge} {run skip : Prop} {j : Nat} {want : Bool} {T : Env} :
    vcGuard ops ⟨d, op, t, p, af, some (j, want)⟩ T run skip = guardK ((ops[j]?).bind (·.dst)) want T run skip := by
  unfold vcGuard guardK guardV
  rfl

def condV (v : AV) (x y : Prop) : Prop := match v with
  | .val (.bool b) => if b = true then x else y
  | _ => False
theorem condV_bool {b : Bool} {x y : Prop} : condV (.val (.bool b)) x y = if b = true then x else y := rfl
theorem condV_congr {v v' : AV} {x y : Prop} (h : v = v') : condV v x y = condV v' x y := by rw [h]
theorem vc_condV {C : Ctx} {h : Hint} {N : Nat} {c : Operand} {x y : Code} {Q : Exit → Env → Mem → Prop} {T : Env} {M : Mem} : vcCode C h N (.cond c x y) Q T M = condV (T.ev C c) (vcCode C h N x Q T M) (vcCode C h N y Q T M) := rfl
end Go.Abs
