/- Operations that turn no mutable object: what they yield, and that they do. -/
import Derived.Test.YteillgpoonhdjaaAbsF
set_option linter.unusedVariables false
namespace Go.Abs

structure Hint where
  imm : Nat → Bool
  own : Nat → Bool

def hintAt (f : Nat → Bool) : Option Nat → Bool
  | some d => f d
  | none => false

def NextRep (G : Ghost) (nx : Next) (v : AV) : Prop := (∃ x, nx = .value x ∧ Rep G v x) ∨ (nx = .skip ∧ v = .val undef)

def OpOk (C : Ctx) (G : Ghost) (w : World) (s : Sem Next) (v : AV) (M' : Mem) : Prop :=
  ∃ nx w' G', s.run C.P w = .ok nx w' ∧ NextRep G' nx v ∧ G.le G' ∧ Inv C G' M' w' ∧ Ext w w'

theorem OpOk.same {C : Ctx} {G : Ghost} {M : Mem} {w : World} {s : Sem Next} {v : AV} {x : Value} (hi : Inv C G M w) (hr : s.run C.P w = .ok (.value x) w) (hx : Rep G v x) : OpOk C G w s v M :=
  ⟨_, w, G, hr, .inl ⟨x, rfl, hx⟩, .refl _, hi, .refl _⟩

/-! ### two operands -/
def intB (op : BinOp) (k : IntKind) (a b : Int) : Option Value :=
  match op with
  | .add => some (.int k (k.wrap (a + b)))
  | .sub => some (.int k (k.wrap (a - b)))
  | .mul => some (.int k (k.wrap (a * b)))
  | .eql => some (.bool (a == b))
  | .neq => some (.bool (a != b))
  | .lss => some (.bool (decide (a < b)))
  | .leq => some (.bool (decide (a ≤ b)))
  | .gtr => some (.bool (decide (a > b)))
  | .geq => some (.bool (decide (a ≥ b)))
  | _ => none
def strB (op : BinOp) (a b : ByteArray) : Option Value :=
  match op with
  | .eql => some (.bool (a.toList == b.toList))
  | .neq => some (.bool !(a.toList == b.toList))
  | .lss => some (.bool (Op.bytesLess a.toList b.toList))
  | .leq => some (.bool (Op.bytesLess a.toList b.toList || a.toList == b.toList))
  | .gtr => some (.bool !(Op.bytesLess a.toList b.toList || a.toList == b.toList))
  | .geq => some (.bool !(Op.bytesLess a.toList b.toList))
  | .add => if ((a.size + b.size : Nat) : Int) > IntKind.i64.max then none else some (.string (a ++ b))
  | _ => none
/-- is it the nil of its kind: yes, no, not known -/
def isNil : AV → Option Bool
  | .val (.pointer none) | .val (.slice none 0 0) | .val (.map none) | .val .nilFunc => some true
  | .ptr _ _ | .cptr _ | .mapr _ | .func _ _ _ => some false
  | .list _ (_ :: _) _ => some false
  | _ => none
def nilKind (P : Program) (t : TypeId) : AV → Bool
  | .val (.pointer none) => match P.underlying t with | some (.pointer _) => true | _ => false
  | .val (.slice none 0 0) => match P.underlying t with | some (.slice _) => true | _ => false
  | .val (.map none) => match P.underlying t with | some (.map _ _) => true | _ => false
  | .val .nilFunc => match P.underlying t with | some (.func _ _ _) => true | _ => false
  | _ => false
def sameKind : AV → AV → Bool
  | .val (.pointer none), .val (.pointer none) | .val (.slice none 0 0), .val (.slice none 0 0) | .val (.map none), .val (.map none) | .val .nilFunc, .val .nilFunc => true
  | .ptr _ _, .val (.pointer none) | .cptr _, .val (.pointer none) | .mapr _, .val (.map none) | .func _ _ _, .val .nilFunc | .list _ _ _, .val (.slice none 0 0) => true
  | _, _ => false
def binAV (P : Program) (op : BinOp) (t : TypeId) (x y : AV) : Option AV :=
  match x, y with
  | .val (.int k a), .val (.int k' b) => if k = k' then (intB op k a b).map .val else none
  | .val (.string a), .val (.string b) => (strB op a b).map .val
  | .val (.bool a), .val (.bool b) => match P.underlying t, op with
    | some .bool, .eql => some (.val (.bool (a == b)))
    | some .bool, .neq => some (.val (.bool !(a == b)))
    | _, _ => none
  | x, y => if nilKind P t y && sameKind x y then match isNil x, op with
      | some b, .eql => some (.val (.bool b))
      | some b, .neq => some (.val (.bool !b))
      | _, _ => none
    else none

theorem intB_sound {P : Program} {op : BinOp} {k : IntKind} {a b : Int} {v : Value} (h : intB op k a b = some v) (t : TypeId) (w : World) : (binOp op t (.int k a) (.int k b)).run P w = .ok v w := by
  cases op <;> simp [intB] at h <;> subst h <;> simp [binOp, Op.intArith, Op.intCmp]
theorem strB_sound {P : Program} {op : BinOp} {a b : ByteArray} {v : Value} (h : strB op a b = some v) (t : TypeId) (w : World) : (binOp op t (.string a) (.string b)).run P w = .ok v w := by
  cases op <;> simp [strB] at h
  case add => obtain ⟨h1, h2⟩ := h; subst h2; simp [binOp, Op.stringOp]; omega
  all_goals (subst h; simp [binOp, Op.stringOp])
theorem equalIn_bool {P : Program} {t : TypeId} (h : P.underlying t = some .bool) (d : Nat) (a b : Bool) (w : World) : (Op.equalIn (d + 1) t (.bool a) (.bool b)).run P w = .ok (a == b) w := by
  simp [Op.equalIn, run_underlying h]
theorem equalIn_ptr {P : Program} {t e : TypeId} (h : P.underlying t = some (.pointer e)) (d : Nat) (a : Option Addr) (w : World) : (Op.equalIn (d + 1) t (.pointer a) (.pointer none)).run P w = .ok a.isNone w := by
  cases a <;> simp [Op.equalIn, run_underlying h]
theorem equalIn_slice {P : Program} {t e : TypeId} (h : P.underlying t = some (.slice e)) (d : Nat) (a : Option Addr) (n c : Nat) (w : World) : (Op.equalIn (d + 1) t (.slice a n c) (.slice none 0 0)).run P w = .ok a.isNone w := by
  cases a <;> simp [Op.equalIn, run_underlying h]
theorem equalIn_map {P : Program} {t k e : TypeId} (h : P.underlying t = some (.map k e)) (d : Nat) (a : Option Nat) (w : World) : (Op.equalIn (d + 1) t (.map a) (.map none)).run P w = .ok a.isNone w := by
  cases a <;> simp [Op.equalIn, run_underlying h]
theorem equalIn_func {P : Program} {t : TypeId} {p r : Array TypeId} {v : Bool} (h : P.underlying t = some (.func p r v)) (d : Nat) (fn : Fn) (f c : Array Value) (w : World) : (Op.equalIn (d + 1) t (.func fn f c) .nilFunc).run P w = .ok false w := by
  simp [Op.equalIn, run_underlying h]
theorem equalIn_func_nil {P : Program} {t : TypeId} {p r : Array TypeId} {v : Bool} (h : P.underlying t = some (.func p r v)) (d : Nat) (w : World) : (Op.equalIn (d + 1) t .nilFunc .nilFunc).run P w = .ok true w := by
  simp [Op.equalIn, run_underlying h]

theorem nil_sound {C : Ctx} {G : Ghost} {x y : AV} {xv yv : Value} (hx : Rep G x xv) (hy : Rep G y yv) {t : TypeId} (hk : nilKind C.P t y = true) (hs : sameKind x y = true) {b : Bool} (hb : isNil x = some b) (d : Nat) (w : World) :
    (Op.equalIn (d + 1) t xv yv).run C.P w = .ok b w := by
  unfold sameKind at hs
  split at hs
  all_goals first | (exact Bool.noConfusion hs) | skip
  all_goals simp only [Rep] at hx hy
  all_goals simp only [nilKind] at hk
  all_goals split at hk
  all_goals first | (exact Bool.noConfusion hk) | skip
  all_goals simp only [isNil] at hb
  · rename_i h; subst hx; subst hy; simp at hb; subst hb; rw [equalIn_ptr h]; rfl
  · rename_i h; subst hx; subst hy; simp at hb; subst hb; rw [equalIn_slice h]; rfl
  · rename_i h; subst hx; subst hy; simp at hb; subst hb; rw [equalIn_map h]; rfl
  · rename_i h; subst hx; subst hy; simp at hb; subst hb; rw [equalIn_func_nil h]
  · rename_i h; obtain ⟨_, rfl⟩ := hx; subst hy; simp at hb; subst hb; rw [equalIn_ptr h]; rfl
  · rename_i h; obtain ⟨_, _, rfl, _⟩ := hx; subst hy; simp at hb; subst hb; rw [equalIn_ptr h]; rfl
  · rename_i h; obtain ⟨_, rfl⟩ := hx; subst hy; simp at hb; subst hb; rw [equalIn_map h]; rfl
  · rename_i h; obtain ⟨_, _, rfl, _⟩ := hx; subst hy; simp at hb; subst hb; rw [equalIn_func h]
  · rename_i h
    subst hy
    obtain ⟨base, cap, rfl, h1, h2, h3, h4⟩ := hx
    rw [equalIn_slice h]
    cases base with
    | none =>
      obtain ⟨rfl, rfl⟩ := h3
      simp at hb
    | some a =>
      split at hb
      all_goals first | (exact Option.noConfusion hb) | skip
      all_goals simp_all

theorem run_eq_other {P : Program} {t : TypeId} {xv yv : Value} {ox oy : Operand} {b : Bool} {w : World} (he : ∀ d, (Op.equalIn (d + 1) t xv yv).run P w = .ok b w)
    (hx : (∃ a, xv = .pointer a) ∨ (∃ a n c, xv = .slice a n c) ∨ (∃ a, xv = .map a) ∨ (∃ f a c, xv = .func f a c) ∨ xv = .nilFunc ∨ ∃ a, xv = .bool a)
    (hy : (∃ a, yv = .pointer a) ∨ (∃ a n c, yv = .slice a n c) ∨ (∃ a, yv = .map a) ∨ yv = .nilFunc ∨ ∃ a, yv = .bool a) :
    (do eqGuard .eql t ox oy xv yv; binOp .eql t xv yv : Sem Value).run P w = .ok (.bool b) w ∧ (do eqGuard .neq t ox oy xv yv; binOp .neq t xv yv : Sem Value).run P w = .ok (.bool !b) w := by
  have he' : (Op.equal t xv yv).run P w = .ok b w := he 9999
  have h1 : (eqGuard .eql t ox oy xv yv).run P w = .ok () w ∧ (eqGuard .neq t ox oy xv yv).run P w = .ok () w := by
    rcases hx with ⟨a, rfl⟩ | ⟨a, n, c, rfl⟩ | ⟨a, rfl⟩ | ⟨f, a, c, rfl⟩ | rfl | ⟨a, rfl⟩ <;> simp [eqGuard]
  have h2 : binOp .eql t xv yv = (do pure (.bool (← Op.equal t xv yv))) ∧ binOp .neq t xv yv = (do pure (.bool (!(← Op.equal t xv yv)))) := by
    rcases hx with ⟨a, rfl⟩ | ⟨a, n, c, rfl⟩ | ⟨a, rfl⟩ | ⟨f, a, c, rfl⟩ | rfl | ⟨a, rfl⟩ <;> rcases hy with ⟨a', rfl⟩ | ⟨a', n', c', rfl⟩ | ⟨a', rfl⟩ | rfl | ⟨a', rfl⟩ <;> exact ⟨rfl, rfl⟩
  constructor
  · simp only [Sem.run_bind, h1.1, Result.andThen_ok, h2.1, he', Sem.run_pure]
  · simp only [Sem.run_bind, h1.2, Result.andThen_ok, h2.2, he', Sem.run_pure]

theorem kinds_of {G : Ghost} {x y : AV} {xv yv : Value} (hx : Rep G x xv) (hy : Rep G y yv) (hs : sameKind x y = true) :
    ((∃ a, xv = .pointer a) ∨ (∃ a n c, xv = .slice a n c) ∨ (∃ a, xv = .map a) ∨ (∃ f a c, xv = .func f a c) ∨ xv = .nilFunc ∨ ∃ a, xv = .bool a) ∧
    ((∃ a, yv = .pointer a) ∨ (∃ a n c, yv = .slice a n c) ∨ (∃ a, yv = .map a) ∨ yv = .nilFunc ∨ ∃ a, yv = .bool a) := by
  unfold sameKind at hs
  split at hs
  all_goals first | (exact Bool.noConfusion hs) | skip
  all_goals simp only [Rep] at hx hy
  all_goals (subst hy)
  · subst hx; exact ⟨.inl ⟨_, rfl⟩, .inl ⟨_, rfl⟩⟩
  · subst hx; exact ⟨.inr (.inl ⟨_, _, _, rfl⟩), .inr (.inl ⟨_, _, _, rfl⟩)⟩
  · subst hx; exact ⟨.inr (.inr (.inl ⟨_, rfl⟩)), .inr (.inr (.inl ⟨_, rfl⟩))⟩
  · subst hx; exact ⟨.inr (.inr (.inr (.inr (.inl rfl)))), .inr (.inr (.inr (.inl rfl)))⟩
  · obtain ⟨_, rfl⟩ := hx; exact ⟨.inl ⟨_, rfl⟩, .inl ⟨_, rfl⟩⟩
  · obtain ⟨_, _, rfl, _⟩ := hx; exact ⟨.inl ⟨_, rfl⟩, .inl ⟨_, rfl⟩⟩
  · obtain ⟨_, rfl⟩ := hx; exact ⟨.inr (.inr (.inl ⟨_, rfl⟩)), .inr (.inr (.inl ⟨_, rfl⟩))⟩
  · obtain ⟨_, _, rfl, _⟩ := hx; exact ⟨.inr (.inr (.inr (.inl ⟨_, _, _, rfl⟩))), .inr (.inr (.inr (.inl rfl)))⟩
  · obtain ⟨_, _, rfl, _⟩ := hx; exact ⟨.inr (.inl ⟨_, _, _, rfl⟩), .inr (.inl ⟨_, _, _, rfl⟩)⟩

theorem binAV_sound {C : Ctx} {G : Ghost} {M : Mem} {w : World} (hi : Inv C G M w) {x y : AV} {xv yv : Value} (hx : Rep G x xv) (hy : Rep G y yv) {op : BinOp} {t : TypeId} {v : AV} (h : binAV C.P op t x y = some v) (ox oy : Operand) :
    ∃ u, (do eqGuard op t ox oy xv yv; binOp op t xv yv : Sem Value).run C.P w = .ok u w ∧ Rep G v u := by
  unfold binAV at h
  split at h
  · simp only [Rep] at hx hy
    subst hx; subst hy
    split at h
    · rename_i hk; subst hk
      simp only [Option.map_eq_some_iff] at h
      obtain ⟨u, hu, rfl⟩ := h
      refine ⟨u, ?_, by simp [Rep]⟩
      have := intB_sound (P := C.P) hu t w
      cases op <;> simp [intB] at hu <;> simp [eqGuard, this]
    · simp at h
  · simp only [Rep] at hx hy
    subst hx; subst hy
    simp only [Option.map_eq_some_iff] at h
    obtain ⟨u, hu, rfl⟩ := h
    refine ⟨u, ?_, by simp [Rep]⟩
    have := strB_sound (P := C.P) hu t w
    cases op <;> simp [strB] at hu <;> simp [eqGuard, this]
  · simp only [Rep] at hx hy
    subst hx; subst hy
    split at h
    · rename_i hu; simp at h; subst h
      exact ⟨_, (run_eq_other (fun d => equalIn_bool hu d _ _ w) (by simp) (by simp)).1, by simp [Rep]⟩
    · rename_i hu; simp at h; subst h
      exact ⟨_, (run_eq_other (fun d => equalIn_bool hu d _ _ w) (by simp) (by simp)).2, by simp [Rep]⟩
    · simp at h
  · split at h
    case isFalse => simp at h
    rename_i hc
    simp only [Bool.and_eq_true] at hc
    obtain ⟨k1, k2⟩ := kinds_of hx hy hc.2
    split at h
    · rename_i b hb; simp at h; subst h
      exact ⟨_, (run_eq_other (fun d => nil_sound hx hy hc.1 hc.2 hb d w) k1 k2).1, by simp [Rep]⟩
    · rename_i b hb; simp at h; subst h
      exact ⟨_, (run_eq_other (fun d => nil_sound hx hy hc.1 hc.2 hb d w) k1 k2).2, by simp [Rep]⟩
    · simp at h
end Go.Abs
