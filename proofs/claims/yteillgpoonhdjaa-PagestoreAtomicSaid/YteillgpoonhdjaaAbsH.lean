/- Operations, one by one: what they yield on abstract values. -/
import Derived.Test.YteillgpoonhdjaaAbsG
set_option linter.unusedVariables false
namespace Go.Abs

def sliceIdx (len : Nat) : Option AV → Option Nat
  | none => some len
  | some (.val (.int _ i)) => if 0 ≤ i ∧ i ≤ len then some i.toNat else none
  | _ => none

/-- x[lo:hi:mx] of a slice: what is known of the spare places behind it -/
def sliceOwn (len l h : Nat) (mx : Option Nat) (own : Own) : Own :=
  match mx with
  | some m => if m = h then .full else .no
  | none => match own with
    | .full => if h = len then .full else .no
    | .fam f => if h = len ∧ l = 0 then .fam f else .no
    | .no => .no

def sliceListAV (P : Program) (t : TypeId) (sz : Nat) (rows : List (List AV)) (own : Own) (lo hi mx : Option AV) : Option AV :=
    match (match mx with | none => some none | some m => (sliceIdx rows.length (some m)).map some), elemOf? P t with
    | some m, some e => if szOf P e = some sz then
        match sliceIdx (m.getD rows.length) (match hi with | some h => some h | none => none), hi.isSome || mx.isNone with
        | some h, true => match (match lo with | none => some 0 | some l => sliceIdx h (some l)) with
          | some l => some (.list sz ((rows.take h).drop l) (sliceOwn rows.length l h m own))
          | none => none
        | _, _ => none
      else none
    | _, _ => none

def sliceAV (P : Program) (t : TypeId) (x : AV) (lo hi mx : Option AV) : Option AV :=
  match x with
  | .val (.string s) => match mx, P.underlying t, sliceIdx s.size hi with
    | none, some .string, some h => match (match lo with | none => some 0 | some l => sliceIdx h (some l)) with
      | some l => some (.val (.string (s.extract l h)))
      | none => none
    | _, _, _ => none
  | .list sz rows own => sliceListAV P t sz rows own lo hi mx
  | .val (.slice none 0 0) => match elemOf? P t with
    | some e => match szOf P e with
      | some sz => sliceListAV P t sz [] .full lo hi mx
      | none => none
    | none => none
  | _ => none

def fieldOf? (P : Program) (t : TypeId) (f : Nat) : Option (Nat × TypeId) := match P.underlying t with
  | some (.struct fs) => (fs[f]?).map fun x => (x.offset, x.type)
  | _ => none

def putCells (zero : List AV) (off : Nat) (v : AV) : Option (List AV) :=
  if v.storable && decide (off + v.cells.length ≤ zero.length) then some (zero.take off ++ v.cells ++ zero.drop (off + v.cells.length)) else none

def zeroCells? (P : Program) (t : TypeId) : Option (List Value) := match P.info? t with
  | some i => i.zero.map (·.cells.toList)
  | none => none

def fieldsOk (P : Program) (t : TypeId) : Bool := match P.underlying t with
  | some (.struct fs) => fs.toList.all fun f => (szOf P f.type).isSome
  | _ => false

def buildGo (P : Program) (t : TypeId) : List (Nat × AV) → List AV → Option (List AV)
  | [], cs => some cs
  | (i, v) :: rest, cs => match fieldOf? P t i with
    | some (off, ft) => if szOf P ft = some v.cells.length then (putCells cs off v).bind (buildGo P t rest) else none
    | none => none

def rowsGo (sz : Nat) : List (Nat × AV) → List (List AV) → Option (List (List AV))
  | [], rows => some rows
  | (i, v) :: rest, rows => if v.storable && decide (v.cells.length = sz) && decide (i < rows.length) then rowsGo sz rest (rows.set i v.cells) else none

def lenAV (P : Program) (t : TypeId) : AV → Option Nat
  | .val (.string s) => match P.underlying t with | some .string => some s.size | _ => none
  | .val (.slice none 0 0) => match P.underlying t with | some (.slice _) => some 0 | _ => none
  | .val (.map none) => match P.underlying t with | some (.map _ _) => some 0 | _ => none
  | .list _ rows _ => match P.underlying t with | some (.slice _) => some rows.length | _ => none
  | _ => none

def min2V (mx : Bool) : AV → AV → Option AV
  | .val (.int k a), .val (.int k' b) => if k = k' then some (.val (.int k (if mx then (if b > a then b else a) else (if b < a then b else a)))) else none
  | _, _ => none

def callPure (P : Program) (hint : Bool) (b : Builtin) (ts : Array TypeId) (args : List AV) : Option AV :=
  match b, args with
  | .len, [x] => match ts[0]? with
    | some t => (lenAV P t x).map fun (n : Nat) => AV.val (goInt (n : Int))
    | none => none
  | .max, [x, y] => min2V true x y
  | .min, [x, y] => min2V false x y
  | _, _ => none

/-- what an operation yields that turns no mutable object -/
def evalPure (C : Ctx) (h : Hint) (o : Oper) (ρ : Operand → AV) : Option AV :=
  match o.op with
  | .move x => some (ρ x)
  | .assign x => some (ρ x)
  | .pick c a b => match ρ c with
    | .val (.bool t) => some (if t then ρ a else ρ b)
    | _ => none
  | .box e x => if hintAt h.imm o.dst && (ρ x).storable then some (.cptr (ρ x).cells) else none
  | .nilCheck x => match ρ x with
    | .ptr b off => some (.ptr b off)
    | .cptr cs => some (.cptr cs)
    | .func (.func f) a c => some (.func (.func f) a c)
    | _ => none
  | .binOp op t x y _ => binAV C.P op t (ρ x) (ρ y)
  | .unOp .not _ x => match ρ x with
    | .val (.bool b) => some (.val (.bool !b))
    | _ => none
  | .unOp .neg _ x => match ρ x with
    | .val (.int k n) => some (.val (.int k (k.wrap (0 - n))))
    | _ => none
  | .fieldAddr t x f => match offOf C.P t f, ρ x with
    | some k, .ptr b off => some (.ptr b (off + k))
    | some k, .cptr cs => some (.cptr (cs.drop k))
    | _, _ => none
  | .field t x f => match fieldOf? C.P t f, ρ x with
    | some (k, ft), .agg cs => if (szOf C.P ft).any (fun n => decide (k + n ≤ cs.length)) then loadCells? C.P ft (cs.drop k) else none
    | _, _ => none
  | .indexAddr t x ix => match elemOf? C.P t, ρ x, ρ ix with
    | some e, .list sz rows _, .val (.int _ i) => if szOf C.P e = some sz ∧ 0 ≤ i ∧ i < rows.length then some (.cptr (rows.getD i.toNat [])) else none
    | _, _, _ => none
  | .index t x ix => match C.P.underlying t, ρ x, ρ ix with
    | some .string, .val (.string s), .val (.int _ i) => if 0 ≤ i ∧ i < s.size then some (.val (.int .u8 (s.data.getD i.toNat 0).toNat)) else none
    | _, _, _ => none
  | .load t x => match ρ x with
    | .cptr cs => loadCells? C.P t cs
    | _ => none
  | .extract x i => match ρ x with
    | .tuple vs => vs[i]?
    | _ => none
  | .makeFunc fn f c => some (.func fn (f.toList.map ρ) (c.toList.map ρ))
  | .slice t x lo hi mx => sliceAV C.P t (ρ x) (lo.map ρ) (hi.map ρ) (mx.map ρ)
  | .build t parts => match zeroCells? C.P t, C.P.underlying t with
    | some z, some (.struct _) => if !fieldsOk C.P t || !z.all (·.oneCell') then none else (buildGo C.P t (parts.toList.map fun p => (p.1, ρ p.2)) (z.map .val)).map .agg
    | _, _ => none
  | .buildSlice t n parts => match elemOf? C.P t with
    | some e => match szOf C.P e, zeroCells? C.P e with
      | some sz, some z => if n * sz ≤ 2 ^ 24 ∧ z.length = sz ∧ z.all (·.oneCell') ∧ 0 < sz then
          (rowsGo sz (parts.toList.map fun p => (p.1, ρ p.2)) (List.replicate n (z.map .val))).map fun rows => .list sz rows .full
        else none
      | _, _ => none
    | none => none
  | .call { callee := .builtin b, args, argTypes } => callPure C.P (hintAt h.own o.dst) b argTypes (args.toList.map ρ)
  | _ => none
end Go.Abs
