/- The texts AbsG, AbsH, AbsI: what each proves stands at its head. -/
import Derived.Test.YtlihfpfgogncbaaGreatDoorG04
section
/- Operations that turn no mutable object: what they yield, and that they do. -/
set_option linter.unusedVariables false
namespace Go.Abs

structure Hint where
  imm : Nat → Bool
  own : Nat → Bool
  vec : Nat → Bool := fun _ => false

def hintAt (f : Nat → Bool) : Option Nat → Bool
  | some d => f d
  | none => false

def NextRep (G : Ghost) (nx : Next) (v : AV) : Prop := (∃ x, nx = .value x ∧ Rep G v x) ∨ (nx = .skip ∧ v = .val undef)

def OpOk (C : Ctx) (G : Ghost) (w : World) (s : Sem Next) (v : AV) (M' : Mem) : Prop :=
  ∃ nx w' G', s.run C.P w = .ok nx w' ∧ NextRep G' nx v ∧ G.le G' ∧ Inv C G' M' w' ∧ Ext w w'

theorem OpOk.same {C : Ctx} {G : Ghost} {M : Mem} {w : World} {s : Sem Next} {v : AV} {x : Value} (hi : Inv C G M w) (hr : s.run C.P w = .ok (.value x) w) (hx : Rep G v x) : OpOk C G w s v M :=
  ⟨_, w, G, hr, .inl ⟨x, rfl, hx⟩, .refl _, hi, .refl _⟩

/-! ### two operands -/
def intB (op : BinOp) (k : IntKind) (a b : Int) : Option Value :=
  match op with
  | .add => some (.int k (k.wrap (a + b)))
  | .sub => some (.int k (k.wrap (a - b)))
  | .mul => some (.int k (k.wrap (a * b)))
  | .eql => some (.bool (a == b))
  | .neq => some (.bool (a != b))
  | .lss => some (.bool (decide (a < b)))
  | .leq => some (.bool (decide (a ≤ b)))
  | .gtr => some (.bool (decide (a > b)))
  | .geq => some (.bool (decide (a ≥ b)))
  | .quo => if b = 0 then none else some (.int k (k.wrap (a.tdiv b)))
  | .rem => if b = 0 then none else some (.int k (a.tmod b))
  | .and => some (.int k (k.wrap ((BitVec.ofInt k.bits a &&& BitVec.ofInt k.bits b).toNat)))
  | .or => some (.int k (k.wrap ((BitVec.ofInt k.bits a ||| BitVec.ofInt k.bits b).toNat)))
  | .xor => some (.int k (k.wrap ((BitVec.ofInt k.bits a ^^^ BitVec.ofInt k.bits b).toNat)))
  | .andNot => some (.int k (k.wrap ((BitVec.ofInt k.bits a &&& ~~~BitVec.ofInt k.bits b).toNat)))
  | .shl => if b < 0 then none else some (.int k (k.wrap (a * 2 ^ (min b.toNat k.bits))))
  | .shr => if b < 0 then none else some (.int k (a.fdiv (2 ^ (min b.toNat k.bits))))
def strB (op : BinOp) (a b : ByteArray) : Option Value :=
  match op with
  | .eql => some (.bool (a.toList == b.toList))
  | .neq => some (.bool !(a.toList == b.toList))
  | .lss => some (.bool (Op.bytesLess a.toList b.toList))
  | .leq => some (.bool (Op.bytesLess a.toList b.toList || a.toList == b.toList))
  | .gtr => some (.bool !(Op.bytesLess a.toList b.toList || a.toList == b.toList))
  | .geq => some (.bool !(Op.bytesLess a.toList b.toList))
  | .add => if ((a.size + b.size : Nat) : Int) > IntKind.i64.max then none else some (.string (a ++ b))
  | _ => none
/-- is it the nil of its kind: yes, no, not known -/
def isNil : AV → Option Bool
  | .val (.pointer none) | .val (.slice none 0 0) | .val (.map none) | .val .nilFunc => some true
  | .ptr _ _ | .cptr _ | .mapr _ | .func _ _ _ => some false
  | .list _ (_ :: _) _ => some false
  | _ => none
def nilKind (P : Program) (t : TypeId) : AV → Bool
  | .val (.pointer none) => match P.underlying t with | some (.pointer _) => true | _ => false
  | .val (.slice none 0 0) => match P.underlying t with | some (.slice _) => true | _ => false
  | .val (.map none) => match P.underlying t with | some (.map _ _) => true | _ => false
  | .val .nilFunc => match P.underlying t with | some (.func _ _ _) => true | _ => false
  | _ => false
def sameKind : AV → AV → Bool
  | .val (.pointer none), .val (.pointer none) | .val (.slice none 0 0), .val (.slice none 0 0) | .val (.map none), .val (.map none) | .val .nilFunc, .val .nilFunc => true
  | .ptr _ _, .val (.pointer none) | .cptr _, .val (.pointer none) | .mapr _, .val (.map none) | .func _ _ _, .val .nilFunc | .list _ _ _, .val (.slice none 0 0) => true
  | _, _ => false
def binAV0 (P : Program) (op : BinOp) (t : TypeId) (x y : AV) : Option AV :=
  match x, y with
  | .val (.int k a), .val (.int k' b) => if k = k' then (intB op k a b).map .val else none
  | .val (.string a), .val (.string b) => (strB op a b).map .val
  | .val (.bool a), .val (.bool b) => match P.underlying t, op with
    | some .bool, .eql => some (.val (.bool (a == b)))
    | some .bool, .neq => some (.val (.bool !(a == b)))
    | _, _ => none
  | x, y => if nilKind P t y && sameKind x y then match isNil x, op with
      | some b, .eql => some (.val (.bool b))
      | some b, .neq => some (.val (.bool !b))
      | _, _ => none
    else none

theorem intB_sound {P : Program} {op : BinOp} {k : IntKind} {a b : Int} {v : Value} (h : intB op k a b = some v) (t : TypeId) (w : World) : (binOp op t (.int k a) (.int k b)).run P w = .ok v w := by
  cases op
  case quo =>
    simp only [intB] at h
    split at h
    · simp at h
    · rename_i hb; simp only [Option.some.injEq] at h; subst h; simp [binOp, Op.intDiv, hb]
  case rem =>
    simp only [intB] at h
    split at h
    · simp at h
    · rename_i hb; simp only [Option.some.injEq] at h; subst h; simp [binOp, Op.intDiv, hb]
  case shl =>
    simp only [intB] at h
    split at h
    · simp at h
    · rename_i hb; simp only [Option.some.injEq] at h; subst h; simp [binOp, Op.shift, hb]
  case shr =>
    simp only [intB] at h
    split at h
    · simp at h
    · rename_i hb; simp only [Option.some.injEq] at h; subst h; simp [binOp, Op.shift, hb]
  case and => simp only [intB, Option.some.injEq] at h; subst h; simp [binOp, Op.intBits]
  case or => simp only [intB, Option.some.injEq] at h; subst h; simp [binOp, Op.intBits]
  case xor => simp only [intB, Option.some.injEq] at h; subst h; simp [binOp, Op.intBits]
  case andNot => simp only [intB, Option.some.injEq] at h; subst h; simp [binOp, Op.intBits]
  all_goals first
    | (simp only [intB] at h; done)
    | (simp only [intB, Option.some.injEq] at h; subst h; simp [binOp, Op.intArith, Op.intCmp])
theorem strB_sound {P : Program} {op : BinOp} {a b : ByteArray} {v : Value} (h : strB op a b = some v) (t : TypeId) (w : World) : (binOp op t (.string a) (.string b)).run P w = .ok v w := by
  cases op <;> simp [strB] at h
  case add => obtain ⟨h1, h2⟩ := h; subst h2; simp [binOp, Op.stringOp]; omega
  all_goals (subst h; simp [binOp, Op.stringOp])
theorem equalIn_bool {P : Program} {t : TypeId} (h : P.underlying t = some .bool) (d : Nat) (a b : Bool) (w : World) : (Op.equalIn (d + 1) t (.bool a) (.bool b)).run P w = .ok (a == b) w := by
  simp [Op.equalIn, run_underlying h]
theorem equalIn_ptr {P : Program} {t e : TypeId} (h : P.underlying t = some (.pointer e)) (d : Nat) (a : Option Addr) (w : World) : (Op.equalIn (d + 1) t (.pointer a) (.pointer none)).run P w = .ok a.isNone w := by
  cases a <;> simp [Op.equalIn, run_underlying h]
theorem equalIn_slice {P : Program} {t e : TypeId} (h : P.underlying t = some (.slice e)) (d : Nat) (a : Option Addr) (n c : Nat) (w : World) : (Op.equalIn (d + 1) t (.slice a n c) (.slice none 0 0)).run P w = .ok a.isNone w := by
  cases a <;> simp [Op.equalIn, run_underlying h]
theorem equalIn_map {P : Program} {t k e : TypeId} (h : P.underlying t = some (.map k e)) (d : Nat) (a : Option Nat) (w : World) : (Op.equalIn (d + 1) t (.map a) (.map none)).run P w = .ok a.isNone w := by
  cases a <;> simp [Op.equalIn, run_underlying h]
theorem equalIn_func {P : Program} {t : TypeId} {p r : Array TypeId} {v : Bool} (h : P.underlying t = some (.func p r v)) (d : Nat) (fn : Fn) (f c : Array Value) (w : World) : (Op.equalIn (d + 1) t (.func fn f c) .nilFunc).run P w = .ok false w := by
  simp [Op.equalIn, run_underlying h]
theorem equalIn_func_nil {P : Program} {t : TypeId} {p r : Array TypeId} {v : Bool} (h : P.underlying t = some (.func p r v)) (d : Nat) (w : World) : (Op.equalIn (d + 1) t .nilFunc .nilFunc).run P w = .ok true w := by
  simp [Op.equalIn, run_underlying h]

theorem nil_sound {C : Ctx} {G : Ghost} {x y : AV} {xv yv : Value} (hx : Rep G x xv) (hy : Rep G y yv) {t : TypeId} (hk : nilKind C.P t y = true) (hs : sameKind x y = true) {b : Bool} (hb : isNil x = some b) (d : Nat) (w : World) :
    (Op.equalIn (d + 1) t xv yv).run C.P w = .ok b w := by
  unfold sameKind at hs
  split at hs
  all_goals first | (exact Bool.noConfusion hs) | skip
  all_goals simp only [Rep] at hx hy
  all_goals simp only [nilKind] at hk
  all_goals split at hk
  all_goals first | (exact Bool.noConfusion hk) | skip
  all_goals simp only [isNil] at hb
  · rename_i h; subst hx; subst hy; simp at hb; subst hb; rw [equalIn_ptr h]; rfl
  · rename_i h; subst hx; subst hy; simp at hb; subst hb; rw [equalIn_slice h]; rfl
  · rename_i h; subst hx; subst hy; simp at hb; subst hb; rw [equalIn_map h]; rfl
  · rename_i h; subst hx; subst hy; simp at hb; subst hb; rw [equalIn_func_nil h]
  · rename_i h; obtain ⟨_, rfl⟩ := hx; subst hy; simp at hb; subst hb; rw [equalIn_ptr h]; rfl
  · rename_i h; obtain ⟨_, _, rfl, _⟩ := hx; subst hy; simp at hb; subst hb; rw [equalIn_ptr h]; rfl
  · rename_i h; obtain ⟨_, rfl⟩ := hx; subst hy; simp at hb; subst hb; rw [equalIn_map h]; rfl
  · rename_i h; obtain ⟨_, _, rfl, _⟩ := hx; subst hy; simp at hb; subst hb; rw [equalIn_func h]
  · rename_i h
    subst hy
    obtain ⟨base, cap, rfl, h1, h2, h3, h4⟩ := hx
    rw [equalIn_slice h]
    cases base with
    | none =>
      obtain ⟨rfl, rfl⟩ := h3
      simp at hb
    | some a =>
      split at hb
      all_goals first | (exact Option.noConfusion hb) | skip
      all_goals simp_all

theorem run_eq_other {P : Program} {t : TypeId} {xv yv : Value} {ox oy : Operand} {b : Bool} {w : World} (he : ∀ d, (Op.equalIn (d + 1) t xv yv).run P w = .ok b w)
    (hx : (∃ a, xv = .pointer a) ∨ (∃ a n c, xv = .slice a n c) ∨ (∃ a, xv = .map a) ∨ (∃ f a c, xv = .func f a c) ∨ xv = .nilFunc ∨ ∃ a, xv = .bool a)
    (hy : (∃ a, yv = .pointer a) ∨ (∃ a n c, yv = .slice a n c) ∨ (∃ a, yv = .map a) ∨ yv = .nilFunc ∨ ∃ a, yv = .bool a) :
    (do eqGuard .eql t ox oy xv yv; binOp .eql t xv yv : Sem Value).run P w = .ok (.bool b) w ∧ (do eqGuard .neq t ox oy xv yv; binOp .neq t xv yv : Sem Value).run P w = .ok (.bool !b) w := by
  have he' : (Op.equal t xv yv).run P w = .ok b w := he 9999
  have h1 : (eqGuard .eql t ox oy xv yv).run P w = .ok () w ∧ (eqGuard .neq t ox oy xv yv).run P w = .ok () w := by
    rcases hx with ⟨a, rfl⟩ | ⟨a, n, c, rfl⟩ | ⟨a, rfl⟩ | ⟨f, a, c, rfl⟩ | rfl | ⟨a, rfl⟩ <;> simp [eqGuard]
  have h2 : binOp .eql t xv yv = (do pure (.bool (← Op.equal t xv yv))) ∧ binOp .neq t xv yv = (do pure (.bool (!(← Op.equal t xv yv)))) := by
    rcases hx with ⟨a, rfl⟩ | ⟨a, n, c, rfl⟩ | ⟨a, rfl⟩ | ⟨f, a, c, rfl⟩ | rfl | ⟨a, rfl⟩ <;> rcases hy with ⟨a', rfl⟩ | ⟨a', n', c', rfl⟩ | ⟨a', rfl⟩ | rfl | ⟨a', rfl⟩ <;> exact ⟨rfl, rfl⟩
  constructor
  · simp only [Sem.run_bind, h1.1, Result.andThen_ok, h2.1, he', Sem.run_pure]
  · simp only [Sem.run_bind, h1.2, Result.andThen_ok, h2.2, he', Sem.run_pure]

theorem kinds_of {G : Ghost} {x y : AV} {xv yv : Value} (hx : Rep G x xv) (hy : Rep G y yv) (hs : sameKind x y = true) :
    ((∃ a, xv = .pointer a) ∨ (∃ a n c, xv = .slice a n c) ∨ (∃ a, xv = .map a) ∨ (∃ f a c, xv = .func f a c) ∨ xv = .nilFunc ∨ ∃ a, xv = .bool a) ∧
    ((∃ a, yv = .pointer a) ∨ (∃ a n c, yv = .slice a n c) ∨ (∃ a, yv = .map a) ∨ yv = .nilFunc ∨ ∃ a, yv = .bool a) := by
  unfold sameKind at hs
  split at hs
  all_goals first | (exact Bool.noConfusion hs) | skip
  all_goals simp only [Rep] at hx hy
  all_goals (subst hy)
  · subst hx; exact ⟨.inl ⟨_, rfl⟩, .inl ⟨_, rfl⟩⟩
  · subst hx; exact ⟨.inr (.inl ⟨_, _, _, rfl⟩), .inr (.inl ⟨_, _, _, rfl⟩)⟩
  · subst hx; exact ⟨.inr (.inr (.inl ⟨_, rfl⟩)), .inr (.inr (.inl ⟨_, rfl⟩))⟩
  · subst hx; exact ⟨.inr (.inr (.inr (.inr (.inl rfl)))), .inr (.inr (.inr (.inl rfl)))⟩
  · obtain ⟨_, rfl⟩ := hx; exact ⟨.inl ⟨_, rfl⟩, .inl ⟨_, rfl⟩⟩
  · obtain ⟨_, _, rfl, _⟩ := hx; exact ⟨.inl ⟨_, rfl⟩, .inl ⟨_, rfl⟩⟩
  · obtain ⟨_, rfl⟩ := hx; exact ⟨.inr (.inr (.inl ⟨_, rfl⟩)), .inr (.inr (.inl ⟨_, rfl⟩))⟩
  · obtain ⟨_, _, rfl, _⟩ := hx; exact ⟨.inr (.inr (.inr (.inl ⟨_, _, _, rfl⟩))), .inr (.inr (.inr (.inl rfl)))⟩
  · obtain ⟨_, _, rfl, _⟩ := hx; exact ⟨.inr (.inl ⟨_, _, _, rfl⟩), .inr (.inl ⟨_, _, _, rfl⟩)⟩

theorem binAV0_sound {C : Ctx} {G : Ghost} {M : Mem} {w : World} (hi : Inv C G M w) {x y : AV} {xv yv : Value} (hx : Rep G x xv) (hy : Rep G y yv) {op : BinOp} {t : TypeId} {v : AV} (h : binAV0 C.P op t x y = some v) (ox oy : Operand) :
    ∃ u, (do eqGuard op t ox oy xv yv; binOp op t xv yv : Sem Value).run C.P w = .ok u w ∧ Rep G v u := by
  unfold binAV0 at h
  split at h
  · simp only [Rep] at hx hy
    subst hx; subst hy
    split at h
    · rename_i hk; subst hk
      simp only [Option.map_eq_some_iff] at h
      obtain ⟨u, hu, rfl⟩ := h
      refine ⟨u, ?_, by simp [Rep]⟩
      have := intB_sound (P := C.P) hu t w
      cases op <;> simp [intB] at hu <;> simp [eqGuard, this]
    · simp at h
  · simp only [Rep] at hx hy
    subst hx; subst hy
    simp only [Option.map_eq_some_iff] at h
    obtain ⟨u, hu, rfl⟩ := h
    refine ⟨u, ?_, by simp [Rep]⟩
    have := strB_sound (P := C.P) hu t w
    cases op <;> simp [strB] at hu <;> simp [eqGuard, this]
  · simp only [Rep] at hx hy
    subst hx; subst hy
    split at h
    · rename_i hu; simp at h; subst h
      exact ⟨_, (run_eq_other (fun d => equalIn_bool hu d _ _ w) (by simp) (by simp)).1, by simp [Rep]⟩
    · rename_i hu; simp at h; subst h
      exact ⟨_, (run_eq_other (fun d => equalIn_bool hu d _ _ w) (by simp) (by simp)).2, by simp [Rep]⟩
    · simp at h
  · split at h
    case isFalse => simp at h
    rename_i hc
    simp only [Bool.and_eq_true] at hc
    obtain ⟨k1, k2⟩ := kinds_of hx hy hc.2
    split at h
    · rename_i b hb; simp at h; subst h
      exact ⟨_, (run_eq_other (fun d => nil_sound hx hy hc.1 hc.2 hb d w) k1 k2).1, by simp [Rep]⟩
    · rename_i b hb; simp at h; subst h
      exact ⟨_, (run_eq_other (fun d => nil_sound hx hy hc.1 hc.2 hb d w) k1 k2).2, by simp [Rep]⟩
    · simp at h
end Go.Abs
end
section
/- Operations, one by one: what they yield on abstract values. -/
set_option linter.unusedVariables false
namespace Go.Abs

def sliceIdx (len : Nat) : Option AV → Option Nat
  | none => some len
  | some (.val (.int _ i)) => if 0 ≤ i ∧ i ≤ len then some i.toNat else none
  | _ => none

/-- x[lo:hi:mx] of a slice: what is known of the spare places behind it -/
def sliceOwn (len l h : Nat) (mx : Option Nat) (own : Own) : Own :=
  match mx with
  | some m => if m = h then .full else .no
  | none => match own with
    | .full => if h = len then .full else .no
    | .fam f => if h = len ∧ l = 0 then .fam f else .no
    | .no => .no

def sliceListAV (P : Program) (t : TypeId) (sz : Nat) (rows : List (List AV)) (own : Own) (lo hi mx : Option AV) : Option AV :=
    match (match mx with | none => some none | some m => (sliceIdx rows.length (some m)).map some), elemOf? P t with
    | some m, some e => if szOf P e = some sz then
        match sliceIdx (m.getD rows.length) (match hi with | some h => some h | none => none), hi.isSome || mx.isNone with
        | some h, true => match (match lo with | none => some 0 | some l => sliceIdx h (some l)) with
          | some l => some (.list sz ((rows.take h).drop l) (sliceOwn rows.length l h m own))
          | none => none
        | _, _ => none
      else none
    | _, _ => none

def sliceAV (P : Program) (t : TypeId) (x : AV) (lo hi mx : Option AV) : Option AV :=
  match x with
  | .val (.string s) => match mx, P.underlying t, sliceIdx s.size hi with
    | none, some .string, some h => match (match lo with | none => some 0 | some l => sliceIdx h (some l)) with
      | some l => some (.val (.string (s.extract l h)))
      | none => none
    | _, _, _ => none
  | .list sz rows own => sliceListAV P t sz rows own lo hi mx
  | .val (.slice none 0 0) => match elemOf? P t with
    | some e => match szOf P e with
      | some sz => (sliceListAV P t sz [] .full lo hi mx).map fun _ => .val (.slice none 0 0)
      | none => none
    | none => none
  | _ => none

def fieldOf? (P : Program) (t : TypeId) (f : Nat) : Option (Nat × TypeId) := match P.underlying t with
  | some (.struct fs) => (fs[f]?).map fun x => (x.offset, x.type)
  | _ => none

def putCells (zero : List AV) (off : Nat) (v : AV) : Option (List AV) :=
  if v.storable && decide (off + v.cells.length ≤ zero.length) then some (zero.take off ++ v.cells ++ zero.drop (off + v.cells.length)) else none

def zeroCells? (P : Program) (t : TypeId) : Option (List Value) := match P.info? t with
  | some i => i.zero.map (·.cells.toList)
  | none => none

def fieldsOk (P : Program) (t : TypeId) : Bool := match P.underlying t with
  | some (.struct fs) => fs.toList.all fun f => (szOf P f.type).isSome
  | _ => false

def buildGo (P : Program) (t : TypeId) : List (Nat × AV) → List AV → Option (List AV)
  | [], cs => some cs
  | (i, v) :: rest, cs => match fieldOf? P t i with
    | some (off, ft) => if szOf P ft = some v.cells.length then (putCells cs off v).bind (buildGo P t rest) else none
    | none => none

def rowsGo (sz : Nat) : List (Nat × AV) → List (List AV) → Option (List (List AV))
  | [], rows => some rows
  | (i, v) :: rest, rows => if v.storable && decide (v.cells.length = sz) && decide (i < rows.length) then rowsGo sz rest (rows.set i v.cells) else none

def mxIdx (len : Nat) : Option AV → Option (Option Nat)
  | none => some none
  | some m => (sliceIdx len (some m)).map some
def loIdx (hh : Nat) : Option AV → Option Nat
  | none => some 0
  | some l => sliceIdx hh (some l)
def vsliceAV (P : Program) (t : TypeId) (f g sz lo0 len : Nat) (lo hi mx : Option AV) : Option AV :=
  match mxIdx len mx, elemOf? P t with
  | some m, some e => if szOf P e = some sz then
      match sliceIdx (m.getD len) hi, hi.isSome || mx.isNone with
      | some h, true => match loIdx h lo with
        | some l => match m with
          | none => some (.vref f g sz (lo0 + l) (h - l))
          | some q => if q = l then some (.list sz [] .full) else none
        | none => none
      | _, _ => none
    else none
  | _, _ => none

def shiftB (op : BinOp) (k : IntKind) (a b : Int) : Option Value :=
  if b < 0 then none else match op with
  | .shl => some (.int k (k.wrap (a * 2 ^ (min b.toNat k.bits))))
  | .shr => some (.int k (a.fdiv (2 ^ (min b.toNat k.bits))))
  | _ => none

def eqFieldsAV (P : Program) (eq : TypeId → AV → AV → Option Bool) (xs ys : List AV) : List Field → Option Bool
  | [] => some true
  | f :: fs => if f.name ≠ "_" then
      if (szOf P f.type).any (fun n => decide (f.offset + n ≤ xs.length)) && (szOf P f.type).any (fun n => decide (f.offset + n ≤ ys.length)) then
        match loadCells? P f.type (xs.drop f.offset), loadCells? P f.type (ys.drop f.offset) with
        | some a, some b => match eq f.type a b with
          | some true => eqFieldsAV P eq xs ys fs
          | some false => some false
          | none => none
        | _, _ => none
      else none
    else eqFieldsAV P eq xs ys fs
def eqAV (P : Program) : Nat → TypeId → AV → AV → Option Bool
  | 0, _, _, _ => none
  | d + 1, t, x, y => match P.underlying t, x, y with
    | some .bool, .val (.bool a), .val (.bool b) => some (a == b)
    | some (.int _), .val (.int k a), .val (.int k' b) => if k = k' then some (a == b) else none
    | some .string, .val (.string a), .val (.string b) => some (a.data.toList == b.data.toList)
    | some (.struct fs), .agg xs, .agg ys => if P.stoodInHeld t then none else eqFieldsAV P (eqAV P d) xs ys fs.toList
    | _, _, _ => none

def binMore (P : Program) (op : BinOp) (t : TypeId) (x y : AV) : Option AV :=
  match x, y with
  | .val (.int k a), .val (.int yk b) => if k = yk then none else (shiftB op k a b).map .val
  | .agg xs, .agg ys => if P.eqGuardType P.depth t then none else match op, eqAV P 30 t (.agg xs) (.agg ys) with
    | .eql, some b => some (.val (.bool b))
    | .neq, some b => some (.val (.bool !b))
    | _, _ => none
  | .vref _ _ _ _ _, .val (.slice none 0 0) => match P.underlying t, op with
    | some (.slice _), .eql => some (.val (.bool false))
    | some (.slice _), .neq => some (.val (.bool true))
    | _, _ => none
  | _, _ => none

def binAV (P : Program) (op : BinOp) (t : TypeId) (x y : AV) : Option AV := match binAV0 P op t x y with
  | some v => some v
  | none => binMore P op t x y
def convAV (P : Program) (src dst : TypeId) (x : AV) : Option AV := match P.underlying src, P.underlying dst, x with
  | some (.int _), some (.int k), .val (.int _ n) => some (.val (.int k (k.wrap n)))
  | some .string, some .string, .val (.string s) => some (.val (.string s))
  | _, _, _ => none
def lenAV (P : Program) (t : TypeId) : AV → Option Nat
  | .val (.string s) => match P.underlying t with | some .string => some s.size | _ => none
  | .val (.slice none 0 0) => match P.underlying t with | some (.slice _) => some 0 | _ => none
  | .val (.map none) => match P.underlying t with | some (.map _ _) => some 0 | _ => none
  | .list _ rows _ => match P.underlying t with | some (.slice _) => some rows.length | _ => none
  | .vref _ _ _ _ len => match P.underlying t with | some (.slice _) => some len | _ => none
  | _ => none

def min2V (mx : Bool) : AV → AV → Option AV
  | .val (.int k a), .val (.int k' b) => if k = k' then some (.val (.int k (if mx then (if b > a then b else a) else (if b < a then b else a)))) else none
  | _, _ => none

def callPure (P : Program) (hint : Bool) (b : Builtin) (ts : Array TypeId) (args : List AV) : Option AV :=
  match b, args with
  | .len, [x] => match ts[0]? with
    | some t => (lenAV P t x).map fun (n : Nat) => AV.val (goInt (n : Int))
    | none => none
  | .max, [x, y] => min2V true x y
  | .min, [x, y] => min2V false x y
  | _, _ => none

def slice2 (P : Program) (t : TypeId) (x : AV) (lo hi mx : Option AV) : Option AV := match x with
  | .vref f g sz lo0 len => vsliceAV P t f g sz lo0 len lo hi mx
  | x => sliceAV P t x lo hi mx
/-- is the slice that is made here an array that may be written -/
def hvAt (C : Ctx) (h : Hint) (t : TypeId) (d : Option Nat) : Bool := hintAt h.vec d && !C.data t
/-- what an operation yields that turns no mutable object -/
def evalPure (C : Ctx) (h : Hint) (o : Oper) (ρ : Operand → AV) : Option AV :=
  match o.op with
  | .move x => some (ρ x)
  | .assign x => some (ρ x)
  | .pick c a b => match ρ c with
    | .val (.bool t) => some (if t then ρ a else ρ b)
    | _ => none
  | .box e x => if hintAt h.imm o.dst && (ρ x).storable then some (.cptr (ρ x).cells) else none
  | .nilCheck x => match ρ x with
    | .ptr b off => some (.ptr b off)
    | .cptr cs => some (.cptr cs)
    | .func (.func f) a c => some (.func (.func f) a c)
    | .vptr f g off => some (.vptr f g off)
    | _ => none
  | .binOp op t x y _ => binAV C.P op t (ρ x) (ρ y)
  | .unOp .not _ x => match ρ x with
    | .val (.bool b) => some (.val (.bool !b))
    | _ => none
  | .unOp .neg _ x => match ρ x with
    | .val (.int k n) => some (.val (.int k (k.wrap (0 - n))))
    | _ => none
  | .fieldAddr t x f => match offOf C.P t f, ρ x with
    | some k, .ptr b off => some (.ptr b (off + k))
    | some k, .cptr cs => some (.cptr (cs.drop k))
    | some k, .vptr f g off => some (.vptr f g (off + k))
    | _, _ => none
  | .field t x f => match fieldOf? C.P t f, ρ x with
    | some (k, ft), .agg cs => if (szOf C.P ft).any (fun n => decide (k + n ≤ cs.length)) then loadCells? C.P ft (cs.drop k) else none
    | _, _ => none
  | .indexAddr t x ix => match elemOf? C.P t, ρ x, ρ ix with
    | some e, .list sz rows _, .val (.int _ i) => if szOf C.P e = some sz ∧ 0 ≤ i ∧ i < rows.length then some (.cptr (rows.getD i.toNat [])) else none
    | some e, .vref f g sz lo len, .val (.int _ i) => if szOf C.P e = some sz ∧ 0 ≤ i ∧ i < len then some (.vptr f g ((lo + i.toNat) * sz)) else none
    | _, _, _ => none
  | .index t x ix => match C.P.underlying t, ρ x, ρ ix with
    | some .string, .val (.string s), .val (.int _ i) => if 0 ≤ i ∧ i < s.size then some (.val (.int .u8 (s.data.getD i.toNat 0).toNat)) else none
    | _, _, _ => none
  | .load t x => match ρ x with
    | .cptr cs => loadCells? C.P t cs
    | _ => none
  | .extract x i => match ρ x with
    | .tuple vs => vs[i]?
    | _ => none
  | .makeFunc fn f c => some (.func fn (f.toList.map ρ) (c.toList.map ρ))
  | .slice t x lo hi mx => slice2 C.P t (ρ x) (lo.map ρ) (hi.map ρ) (mx.map ρ)
  | .convert src dst x => convAV C.P src dst (ρ x)
  | .build t parts => match zeroCells? C.P t, C.P.underlying t with
    | some z, some (.struct _) => if !fieldsOk C.P t || !z.all (·.oneCell') then none else (buildGo C.P t (parts.toList.map fun p => (p.1, ρ p.2)) (z.map .val)).map .agg
    | _, _ => none
  | .buildSlice t n parts => if hvAt C h t o.dst then none else match elemOf? C.P t with
    | some e => match szOf C.P e, zeroCells? C.P e with
      | some sz, some z => if n * sz ≤ 2 ^ 24 ∧ z.length = sz ∧ z.all (·.oneCell') ∧ 0 < sz then
          (rowsGo sz (parts.toList.map fun p => (p.1, ρ p.2)) (List.replicate n (z.map .val))).map fun rows => .list sz rows .full
        else none
      | _, _ => none
    | none => none
  | .call { callee := .builtin b, args, argTypes } => callPure C.P (hintAt h.own o.dst) b argTypes (args.toList.map ρ)
  | _ => none
end Go.Abs
end
section
/- Operations that turn no mutable object: soundness. -/
set_option linter.unusedVariables false
namespace Go.Abs

theorem run_v {P : Program} {s : Sem Value} {w w' : World} {v : Value} (h : s.run P w = .ok v w') : (do pure (.value (← s)) : Sem Next).run P w = .ok (.value v) w' := by
  simp only [Sem.run_bind, h, Result.andThen_ok, Sem.run_pure]

theorem szOf_some {P : Program} {t : TypeId} {n : Nat} (h : szOf P t = some n) : ∃ i, P.info? t = some i ∧ i.size = n := by
  unfold szOf at h
  cases hi : P.info? t with
  | none => simp [hi] at h
  | some i => simp [hi] at h; exact ⟨i, rfl, h⟩

theorem offOf_run {P : Program} {t : TypeId} {f k : Nat} (h : offOf P t f = some k) (a : Addr) (w : World) : (Instr.fieldAt t (.pointer (some a)) f).run P w = .ok (.pointer (some (a.add k))) w := by
  unfold offOf at h
  split at h
  case h_2 => simp at h
  rename_i fs hu
  split at h
  case h_2 => simp at h
  rename_i x hf
  cases hs : szOf P x.type with
  | none => simp [hs] at h
  | some n =>
    cases n with
    | zero => simp [hs] at h
    | succ n =>
      simp [hs] at h
      subst h
      simp [Instr.fieldAt, run_underlying hu, hf, Instr.sureAddr, fieldPlace, run_szOf hs]

theorem sliceIdx_run {P : Program} {G : Ghost} {len n : Nat} {v : AV} {x : Value} (hr : Rep G v x) (h : sliceIdx len (some v) = some n) (code : BoundsCode) (w : World) : (Instr.sliceBound x len code).run P w = .ok n w ∧ n ≤ len := by
  unfold sliceIdx at h
  split at h
  · rename_i h'; simp at h'
  · rename_i k i h'
    simp at h'
    subst h'
    simp only [Rep] at hr
    subst hr
    split at h
    · rename_i hc
      simp at h
      subst h
      exact ⟨by simp [Instr.sliceBound, asIntOf, hc], by omega⟩
    · simp at h
  · simp at h

theorem sliceIdx_run' {P : Program} {G : Ghost} {len n y : Nat} {v : AV} {x : Value} (hr : Rep G v x) (h : sliceIdx len (some v) = some n) (hy : len ≤ y) (code : BoundsCode) (w : World) : (Instr.sliceBound x y code).run P w = .ok n w ∧ n ≤ len := by
  unfold sliceIdx at h
  split at h
  · rename_i h'; simp at h'
  · rename_i k i h'
    simp at h'
    subst h'
    simp only [Rep] at hr
    subst hr
    split at h
    · rename_i hc
      simp at h
      subst h
      have hc' : 0 ≤ i ∧ i ≤ (y : Int) := ⟨hc.1, by omega⟩
      exact ⟨by simp [Instr.sliceBound, asIntOf, hc'], by omega⟩
    · simp at h
  · simp at h

section
variable {C : Ctx} {G : Ghost} {M : Mem} {w : World}

/-- the bounds of a slice expression -/
theorem bounds_run {len cap : Nat} (hlc : len ≤ cap) {lo hi mx : Option AV} {xlo xhi xmx : Option Value} {m : Option Nat} {hh l : Nat}
    (hlo : ∀ a, lo = some a → ∃ x, xlo = some x ∧ Rep G a x) (hlo' : lo = none → xlo = none)
    (hhi : ∀ a, hi = some a → ∃ x, xhi = some x ∧ Rep G a x) (hhi' : hi = none → xhi = none)
    (hmx : ∀ a, mx = some a → ∃ x, xmx = some x ∧ Rep G a x) (hmx' : mx = none → xmx = none)
    (hm : mxIdx len mx = some m)
    (hhe : sliceIdx (m.getD len) hi = some hh) (hb : (hi.isSome || mx.isNone) = true)
    (hl : loIdx hh lo = some l) :
    ∃ m', (Instr.sliceBounds true len cap xlo xhi xmx).run C.P w = .ok (l, hh, m') w ∧ l ≤ hh ∧ hh ≤ len ∧ hh ≤ m' ∧ m' ≤ cap ∧ (∀ q, m = some q → m' = q) ∧ (m = none → m' = cap) := by
  unfold Instr.sliceBounds
  have hlow : ∀ (code : BoundsCode), l ≤ hh ∧ (lo = none → l = 0) ∧ ∀ x, xlo = some x → (Instr.sliceBound x hh code).run C.P w = .ok l w := by
    intro code
    cases lo with
    | none => simp only [loIdx, Option.some.injEq] at hl; subst hl; exact ⟨Nat.zero_le _, fun _ => rfl, fun x hx => by rw [hlo' rfl] at hx; simp at hx⟩
    | some a =>
      obtain ⟨x, hx, hr⟩ := hlo a rfl
      have := sliceIdx_run (P := C.P) hr hl code w
      exact ⟨this.2, fun h => by simp at h, fun x' hx' => by rw [hx] at hx'; simp at hx'; subst hx'; exact this.1⟩
  cases mx with
  | none =>
    simp only [mxIdx, Option.some.injEq] at hm
    subst hm
    rw [hmx' rfl]
    simp only [Option.getD_none] at hhe
    cases hi with
    | none =>
      rw [hhi' rfl]
      simp [sliceIdx] at hhe
      subst hhe
      obtain ⟨h1, h2, h3⟩ := hlow .sliceB
      refine ⟨cap, ?_, h1, Nat.le_refl _, hlc, Nat.le_refl _, by simp, by simp⟩
      cases xlo with
      | none => have : lo = none := by
                  cases lo with
                  | none => rfl
                  | some a => obtain ⟨x, hx, _⟩ := hlo a rfl; simp at hx
                simp [h2 this]
      | some x => simp [h3 x rfl]
    | some b =>
      obtain ⟨y, rfl, hy⟩ := hhi b rfl
      have hy' := sliceIdx_run' (P := C.P) hy hhe hlc .sliceAcap w
      obtain ⟨h1, h2, h3⟩ := hlow .sliceB
      refine ⟨cap, ?_, h1, hy'.2, by omega, Nat.le_refl _, by simp, by simp⟩
      cases xlo with
      | none => have : lo = none := by
                  cases lo with
                  | none => rfl
                  | some a => obtain ⟨x, hx, _⟩ := hlo a rfl; simp at hx
                simp [h2 this, hy'.1]
      | some x => simp [h3 x rfl, hy'.1]
  | some q =>
    obtain ⟨z, rfl, hz⟩ := hmx q rfl
    simp only [mxIdx, Option.map_eq_some_iff] at hm
    obtain ⟨mm, hmm, rfl⟩ := hm
    have hz' := sliceIdx_run' (P := C.P) hz hmm hlc .slice3Acap w
    simp only [Option.getD_some] at hhe
    cases hi with
    | none => simp at hb
    | some b =>
      obtain ⟨y, rfl, hy⟩ := hhi b rfl
      have hy' := sliceIdx_run (P := C.P) hy hhe .slice3B w
      obtain ⟨h1, h2, h3⟩ := hlow .slice3C
      refine ⟨mm, ?_, h1, by omega, hy'.2, by omega, by simp, by simp⟩
      cases xlo with
      | none => have : lo = none := by
                  cases lo with
                  | none => rfl
                  | some a => obtain ⟨x, hx, _⟩ := hlo a rfl; simp at hx
                simp [h2 this, hy'.1, hz'.1]
      | some x => simp [h3 x rfl, hy'.1, hz'.1]

theorem slice_list_sound {sz : Nat} {rows : List (List AV)} {own : Own} {xv : Value} (hx : Rep G (.list sz rows own) xv) {t : TypeId} {lo hi mx : Option AV} {xlo xhi xmx : Option Value} {v : AV}
    (hlo : ∀ a, lo = some a → ∃ x, xlo = some x ∧ Rep G a x) (hlo' : lo = none → xlo = none)
    (hhi : ∀ a, hi = some a → ∃ x, xhi = some x ∧ Rep G a x) (hhi' : hi = none → xhi = none)
    (hmx : ∀ a, mx = some a → ∃ x, xmx = some x ∧ Rep G a x) (hmx' : mx = none → xmx = none) (h : sliceListAV C.P t sz rows own lo hi mx = some v) :
    ∃ u, (Instr.sliceAt t xv xlo xhi xmx).run C.P w = .ok u w ∧ Rep G v u ∧ (xv = .slice none 0 0 → u = .slice none 0 0) := by
  simp only [sliceListAV] at h
  split at h
  case h_2 => simp at h
  rename_i m e hm he
  split at h
  case isFalse => simp at h
  rename_i hsz
  split at h
  case h_2 => simp at h
  rename_i hh hhe hb
  split at h
  case h_2 => simp at h
  rename_i l hl
  simp at h
  subst h
  simp only [Rep] at hx
  obtain ⟨base, cap, rfl, hlc, hcm, hbase, hown⟩ := hx
  have hbounds := bounds_run (C := C) (w := w) (G := G) hlc hlo hlo' hhi hhi' hmx hmx' (by cases mx <;> exact hm) (by cases hi <;> exact hhe) hb (by cases lo <;> exact hl)
  obtain ⟨m', hrun, q1, q2, q3, q4, q5, q6⟩ := hbounds
  refine ⟨.slice (if m' = l then base else base.map (·.add (l * sz))) (hh - l) (m' - l), ?_, ?_, fun e => ?_⟩
  · simp [Instr.sliceAt, Instr.slice, run_underlying (elemOf_und he), hrun, run_szOf hsz]
  · refine rep_list (by simp; omega) (by simp; omega) (by omega) ?_ ?_
    · cases base with
      | none =>
        obtain ⟨rfl, rfl⟩ := hbase
        have e0 : (if m' = l then (none : Option Addr) else Option.map (fun x : Addr => x.add (l * sz)) none) = none := by split <;> rfl
        rw [e0]
        exact ⟨by simp, by omega⟩
      | some a =>
        obtain ⟨hsp, hrows⟩ := hbase
        by_cases e1 : m' = l
        · rw [if_pos e1]
          have : (rows.take hh).drop l = [] := by
            apply List.eq_nil_of_length_eq_zero
            simp; omega
          rw [this]; exact ⟨fun h => absurd rfl h, by simp [RepRows]⟩
        · rw [if_neg e1]
          by_cases e2 : rows = []
          · subst e2
            simp only [Option.map_some, List.take_nil, List.drop_nil]
            exact ⟨fun h => absurd rfl h, by simp [RepRows]⟩
          have hsp := hsp e2
          have ea : a.add (l * sz) = ⟨a.block, a.off + l * sz, none⟩ := by
            have ea : a = ⟨a.block, a.off, none⟩ := by cases a; simp_all
            rw [ea, Addr.add_lit]
          simp only [Option.map_some, ea]
          exact ⟨fun _ => rfl, (hrows.take hh).drop l⟩
    · have hlen : ((rows.take hh).drop l).length = hh - l := by simp; omega
      rw [hlen]
      unfold sliceOwn
      cases m with
      | some mm =>
        have := q5 mm rfl
        simp only
        split
        · simp only [RepOwn]; omega
        · trivial
      | none =>
        have := q6 rfl
        subst this
        simp only
        cases own with
        | no => trivial
        | full =>
          simp only [RepOwn] at hown
          simp only
          split
          · simp only [RepOwn]; omega
          · trivial
        | fam f =>
          simp only
          split
          · rename_i hc
            obtain ⟨rfl, rfl⟩ := hc
            simp only [RepOwn, Nat.sub_zero] at hown ⊢
            have e2 : (if m' = 0 then base else Option.map (fun x => x.add (0 * sz)) base) = base := by
              split
              · rfl
              · cases base with
                | none => rfl
                | some a => simp [Addr.add]
            rw [e2]; exact hown
          · trivial
  · simp only [Value.slice.injEq] at e
    obtain ⟨rfl, e1, rfl⟩ := e
    have e2 : (if m' = l then (none : Option Addr) else Option.map (fun x : Addr => x.add (l * sz)) none) = none := by split <;> rfl
    rw [e2]
    have : hh - l = 0 := by omega
    have : m' - l = 0 := by omega
    simp_all

theorem slice_string_sound {s : ByteArray} {t : TypeId} {lo hi : Option AV} {xlo xhi : Option Value} {v : AV} (hlo : ∀ a, lo = some a → ∃ x, xlo = some x ∧ Rep G a x) (hlo' : lo = none → xlo = none)
    (hhi : ∀ a, hi = some a → ∃ x, xhi = some x ∧ Rep G a x) (hhi' : hi = none → xhi = none) (h : sliceAV C.P t (.val (.string s)) lo hi none = some v) :
    ∃ u, (Instr.sliceAt t (.string s) xlo xhi none).run C.P w = .ok u w ∧ Rep G v u := by
  simp only [sliceAV] at h
  split at h
  case h_2 => simp at h
  rename_i h' _ hu hh
  split at h
  case h_2 => simp at h
  rename_i l hl
  simp at h
  subst h
  refine ⟨.string (s.extract l h'), ?_, by simp [Rep]⟩
  have e1 : (Instr.sliceBounds false s.size s.size xlo xhi none).run C.P w = .ok (l, h', s.size) w := by
    unfold Instr.sliceBounds
    cases hi with
    | none =>
      rw [hhi' rfl]
      simp [sliceIdx] at hh
      subst hh
      cases lo with
      | none => rw [hlo' rfl]; simp at hl; subst hl; simp
      | some a =>
        obtain ⟨x, rfl, hx⟩ := hlo a rfl
        have := (sliceIdx_run (P := C.P) hx hl .sliceB w).1
        simp [this]
    | some b =>
      obtain ⟨y, rfl, hy⟩ := hhi b rfl
      have hy' := (sliceIdx_run (P := C.P) hy hh .sliceAlen w).1
      cases lo with
      | none => rw [hlo' rfl]; simp at hl; subst hl; simp [hy']
      | some a =>
        obtain ⟨x, rfl, hx⟩ := hlo a rfl
        have := (sliceIdx_run (P := C.P) hx hl .sliceB w).1
        simp [hy', this]
  simp [Instr.sliceAt, Instr.slice, run_underlying hu, e1]
end
end Go.Abs
end
