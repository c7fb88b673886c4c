/- The texts AbsZ3, AbsZ4: what each proves stands at its head. -/
import Derived.Test.YtlihfpfgogncbaaGreatDoorG33
section
/- One operation, run quickly. -/
set_option linter.unusedVariables false
set_option linter.unusedSimpArgs false
namespace Go.Abs

inductive FK where
  | pure
  | read (r : Nat)
  | write (ws : List Nat)
def FK.ws : FK → List Nat
  | .write ws => ws
  | _ => []
def FK.foot (n : Nat) : FK → Foot
  | .pure => ⟨0, 0, 0, [], 0⟩
  | .read r => ⟨1, r, 0, [], 0⟩
  | .write ws => ⟨2, 0, 0, ws, n⟩
abbrev FR := AV × Ef × FK

def storeG (s : Option Nat) (g : GT) (a v : AV) : Option Ef := match a with
  | .ptr b off => match g b with
    | some (.cells bt cs) => if v.storable && decide (off + v.cells.length ≤ cs.length) && decide (s = some v.cells.length) then some (.put b (.cells bt (overwrite cs off v.cells))) else none
    | _ => none
  | .vptr f h off => match g f with
    | some (.vec vt sz cs g' hist) => match hist.lookup h with
      | some n => if v.storable && decide (off + v.cells.length ≤ n * sz) && decide (s = some v.cells.length) then some (.put f (.vec vt sz (overwrite cs off v.cells) g' (keepHist sz h off hist))) else none
      | none => none
    | _ => none
  | _ => none
def unsafeStrG (P : Program) (pt : TypeId) (gt : GT) (p n : AV) : Option (AV × Ef) := match n with
  | .val (.int .i64 n) => if n = 0 then (match p with
      | .val (.pointer none) => some (.val (.string .empty), .non)
      | .vptr _ _ _ => some (.val (.string .empty), .non)
      | _ => none) else match p with
    | .vptr f g off => match P.underlying pt, gt f with
      | some (.pointer e), some (.vec ty 1 cs _ hist) => match hist.lookup g with
        | some m => if 0 < n ∧ off + n.toNat ≤ m ∧ ty = e ∧ P.cellsOf e = 1 ∧ n ≤ 9223372036854775807 then match bytes? ((cs.drop off).take n.toNat) with
            | some l => some (.val (.string ⟨l.toArray⟩), .put f .gone)
            | none => none
          else none
        | none => none
      | _, _ => none
    | _ => none
  | _ => none
def builtinG (P : Program) (b : Builtin) (ts : List TypeId) (args : List AV) (g : GT) : Option (AV × Ef) := match b, ts, args with
  | .copy, [t, u], [d, s] => copyG P t u g d s
  | .clear, [t], [x] => clearG P t g x
  | .unsafeSliceData, _, [x] => match sliceDataG g x with
    | some v => some (v, .non)
    | none => none
  | .unsafeString, [pt, it], [p, n] => unsafeStrG P pt g p n
  | _, _, _ => none
def evalG (C : Ctx) (o : Oper) (ρ : Operand → AV) (g : GT) (n : Nat) : Option (AV × Ef) := match o.op with
  | .store t a x => match storeG (szOf C.P t) g (ρ a) (ρ x) with
    | some e => some (.val undef, e)
    | none => none
  | .alloc e => match zeroCells? C.P e with
    | some z => if z.all (·.oneCell') then some (.ptr n 0, .push (.cells e (z.map .val))) else none
    | none => none
  | .box e x => if (ρ x).storable then some (.ptr n 0, .push (.cells e (ρ x).cells)) else none
  | .buildSlice t k parts => if C.data t then none else vbuildG C.P t k (parts.toList.map fun p => (p.1, ρ p.2)) n
  | .makeSlice t l c => vmakeG C.P t (ρ l) (ρ c) n
  | .makeMap t none => some (.mapr n, .push (.map [] 0))
  | .mapUpdate t m k x => match mapPutG C.P t g (ρ m) (ρ k) (ρ x) with
    | some e => some (.val undef, e)
    | none => none
  | .insert t m k x => match mapPutG C.P t g (ρ m) (ρ k) (ρ x) with
    | some e => some (.val undef, e)
    | none => none
  | .range t x => rangeG C.P t (ρ x) n
  | .next x true => nextG (ρ x) g
  | .slice t x lo hi mx => match sliceMoreG C.P t g (ρ x) (lo.map ρ) (hi.map ρ) (mx.map ρ) with
    | some v => some (v, .non)
    | none => none
  | .convert s d x => match bytesAV C.P s d (ρ x) with
    | some v => some (v, .non)
    | none => match convG C.P s d g (ρ x) with
      | some v => some (v, .non)
      | none => none
  | .call { callee := .builtin b, args, argTypes } => builtinG C.P b argTypes.toList (args.toList.map ρ) g
  | _ => none
def readG (C : Ctx) (o : Oper) (ρ : Operand → AV) (g : GT) : Option AV := match o.op with
  | .load t x => (memOfG g (ρ x)).bind (loadCells? C.P t)
  | .lookup t m k ok => lookupG C.P t g (ρ m) (ρ k) ok
  | .call { callee := .builtin .len, args, argTypes } => match args.toList, argTypes.toList with
    | [x], [t] => (lenMoreG C.P t g (ρ x)).map fun (n : Nat) => AV.val (.int .i64 n)
    | _, _ => none
  | _ => none
def genRun (C : Ctx) (o : Oper) (ρ : Operand → AV) (g : GT) (n : Nat) : Option FR := match (evalPure C HX o ρ).or (evalPure1 C o ρ) with
  | some v => some (v, .non, .pure)
  | none => match readObj o ρ with
    | some r => match readG C o ρ g with
      | some v => some (v, .non, .read r)
      | none => none
    | none => match evalG C o ρ g n with
      | some (v, e) => some (v, e, .write (writesOf o ρ))
      | none => none

structure RunOK (C : Ctx) (o : Oper) (ρ : Operand → AV) (M : Mem) (v : AV) (e : Ef) (k : FK) : Prop where
  ok : e.ok M.length
  eval : evalOp C HX o ρ M = some (v, e.mem M)
  kind : match k with
    | .pure => (evalPure C HX o ρ).or (evalPure1 C o ρ) = some v ∧ e = .non
    | .read r => (evalPure C HX o ρ).or (evalPure1 C o ρ) = none ∧ readObj o ρ = some r ∧ readAV C o ρ M = some v ∧ e = .non ∧ writesOf o ρ = []
    | .write ws => (evalPure C HX o ρ).or (evalPure1 C o ρ) = none ∧ readObj o ρ = none ∧ ws = writesOf o ρ

theorem pure_run {C : Ctx} {o : Oper} {ρ : Operand → AV} {M : Mem} {v : AV} (h : (evalPure C HX o ρ).or (evalPure1 C o ρ) = some v) : RunOK C o ρ M v .non .pure := by
  refine ⟨trivial, ?_, h, rfl⟩
  rcases Option.or_eq_some_iff.1 h with h1 | ⟨h1, h2⟩
  · simp only [evalOp, h1, Ef.mem]
  · have h3 := evalPure1_only (h := HX) h2
    simp only [evalOp, h1, (h3 _).1, (h3 _).2, h2, Ef.mem]

theorem storeG_eval {C : Ctx} {M : Mem} {ρ : Operand → AV} {d : Option Tmp} {lt : TypeId} {a x : Operand} {ty : TypeId} {p : String} {af : Array Edge} {gd : Option (Nat × Bool)} {e : Ef} (h : storeG (szOf C.P lt) (fun i => M[i]?) (ρ a) (ρ x) = some e) :
    evalOp C HX ⟨d, .store lt a x, ty, p, af, gd⟩ ρ M = some (.val undef, e.mem M) ∧ e.ok M.length := by
  have hm : evalMem C HX ⟨d, .store lt a x, ty, p, af, gd⟩ ρ M = some (.val undef, e.mem M) ∧ e.ok M.length := by
    unfold storeG at h
    split at h
    · rename_i b off hb
      split at h
      case h_2 => simp at h
      rename_i bt cs hM
      split at h
      case isFalse => simp at h
      rename_i hc
      simp only [Option.some.injEq] at h
      subst h
      exact ⟨by simp only [evalMem, hb, hM, hc, if_true, Ef.mem], getElem?_lt hM⟩
    · rename_i f g' off hb
      split at h
      case h_2 => simp at h
      rename_i vt sz cs g2 hist hM
      split at h
      case h_2 => simp at h
      rename_i n hn
      split at h
      case isFalse => simp at h
      rename_i hc
      simp only [Option.some.injEq] at h
      subst h
      exact ⟨by simp only [evalMem, hb, hM, hn, hc, if_true, Ef.mem], getElem?_lt hM⟩
    · simp at h
  refine ⟨?_, hm.2⟩
  have hp : evalPure C HX ⟨d, .store lt a x, ty, p, af, gd⟩ ρ = none := rfl
  simp only [evalOp, hp, hm.1]

theorem unsafeStr_G {P : Program} {M : Mem} {pt : TypeId} {p n v : AV} {e : Ef} (h : unsafeStrG P pt (fun i => M[i]?) p n = some (v, e)) : unsafeStrAV P pt M p n = some (v, e.mem M) ∧ e.ok M.length := by
  unfold unsafeStrG at h
  split at h
  case h_2 => simp at h
  rename_i n
  split at h
  · rename_i h0
    split at h
    · simp only [Option.some.injEq, Prod.mk.injEq] at h
      obtain ⟨rfl, rfl⟩ := h
      exact ⟨by simp only [unsafeStrAV, if_pos h0, Ef.mem], trivial⟩
    · simp only [Option.some.injEq, Prod.mk.injEq] at h
      obtain ⟨rfl, rfl⟩ := h
      exact ⟨by simp only [unsafeStrAV, if_pos h0, Ef.mem], trivial⟩
    · simp at h
  · rename_i h0
    split at h
    case h_2 => simp at h
    rename_i f g' off
    split at h
    case h_2 => simp at h
    rename_i e0 ety cs g2 hist hu hM
    split at h
    case h_2 => simp at h
    rename_i m hm
    split at h
    case isFalse => simp at h
    rename_i hc
    split at h
    case h_2 => simp at h
    rename_i l hl
    simp only [Option.some.injEq, Prod.mk.injEq] at h
    obtain ⟨rfl, rfl⟩ := h
    exact ⟨by simp only [unsafeStrAV, if_neg h0, hu, hM, hm, if_pos hc, hl, Ef.mem], getElem?_lt hM⟩

theorem evalG_ok {C : Ctx} {o : Oper} {ρ : Operand → AV} {M : Mem} {v : AV} {e : Ef} (hp : (evalPure C HX o ρ).or (evalPure1 C o ρ) = none) (h : evalG C o ρ (fun i => M[i]?) M.length = some (v, e)) : evalOp C HX o ρ M = some (v, e.mem M) ∧ e.ok M.length := by
  simp only [Option.or_eq_none_iff] at hp
  obtain ⟨hp1, hp2⟩ := hp
  have viaMem : ∀ r, evalMem C HX o ρ M = some r → evalOp C HX o ρ M = some r := fun r hr => by simp only [evalOp, hp1, hr]
  have viaMore : ∀ r, evalMem C HX o ρ M = none → evalMore C HX o ρ M = some r → evalOp C HX o ρ M = some r := fun r h1 hr => by simp only [evalOp, hp1, h1, hr]
  have viaX : ∀ r, evalMem C HX o ρ M = none → evalMore C HX o ρ M = none → evalX C o ρ M = some r → evalOp C HX o ρ M = some r := fun r h1 h2 hr => by simp only [evalOp, hp1, h1, h2, hp2, hr]
  obtain ⟨d, op, t, p, af, g⟩ := o
  cases op <;> first | (simp [evalG] at h; done) | skip
  case store lt a x =>
    simp only [evalG] at h
    split at h
    case h_2 => simp at h
    rename_i e0 hs
    simp only [Option.some.injEq, Prod.mk.injEq] at h
    obtain ⟨rfl, rfl⟩ := h
    exact storeG_eval hs
  case alloc et =>
    simp only [evalG] at h
    split at h
    case h_2 => simp at h
    rename_i z hz
    split at h
    case isFalse => simp at h
    rename_i hc
    simp only [Option.some.injEq, Prod.mk.injEq] at h
    obtain ⟨rfl, rfl⟩ := h
    exact ⟨viaMem _ (by simp only [evalMem, hz, hc, if_true, Ef.mem]), trivial⟩
  case box et x =>
    simp only [evalG] at h
    split at h
    case isFalse => simp at h
    rename_i hc
    simp only [Option.some.injEq, Prod.mk.injEq] at h
    obtain ⟨rfl, rfl⟩ := h
    exact ⟨viaMem _ (by simp only [evalMem, hc, if_true, Ef.mem]), trivial⟩
  case buildSlice bt n ps =>
    simp only [evalG] at h
    split at h
    · simp at h
    rename_i hdata
    have hdata : C.data bt = false := by simpa using hdata
    obtain ⟨k1, k2⟩ := vbuild_G h
    cases d with
    | none =>
      exfalso
      simp only [evalPure, hvAt, HX, hintAt, Bool.false_and] at hp1
      unfold vbuildG at h
      split at h
      case h_2 => simp at h
      rename_i e0 he
      split at h
      case h_2 => simp at h
      rename_i sz z hs hz
      split at h
      case isFalse => simp at h
      rename_i hc
      simp only [Option.map_eq_some_iff, Prod.mk.injEq] at h
      obtain ⟨rows, hr, -, -⟩ := h
      simp only [he, hs, hz, if_pos hc, hr] at hp1
      simp at hp1
    | some d =>
      exact ⟨viaMore _ rfl (by
        show (if hvAt C HX bt (some d) = true then vbuildAV C.P bt n _ M else none) = _
        rw [if_pos (show hvAt C HX bt (some d) = true by simp [hvAt, hintAt, HX, hdata])]; exact k1), k2⟩
  case makeSlice st l c =>
    simp only [evalG] at h
    obtain ⟨k1, k2⟩ := vmake_G h
    exact ⟨viaMore _ rfl k1, k2⟩
  case makeMap mt r =>
    cases r with
    | some r => simp [evalG] at h
    | none =>
      simp only [evalG, Option.some.injEq, Prod.mk.injEq] at h
      obtain ⟨rfl, rfl⟩ := h
      exact ⟨viaMore _ rfl rfl, trivial⟩
  case mapUpdate mt m k x =>
    simp only [evalG] at h
    split at h
    case h_2 => simp at h
    rename_i e0 hs
    simp only [Option.some.injEq, Prod.mk.injEq] at h
    obtain ⟨rfl, rfl⟩ := h
    obtain ⟨k1, k2⟩ := mapPut_G hs
    exact ⟨viaMore _ rfl (by simp only [evalMore, k1, Option.map_some]), k2⟩
  case insert mt m k x =>
    simp only [evalG] at h
    split at h
    case h_2 => simp at h
    rename_i e0 hs
    simp only [Option.some.injEq, Prod.mk.injEq] at h
    obtain ⟨rfl, rfl⟩ := h
    obtain ⟨k1, k2⟩ := mapPut_G hs
    exact ⟨viaMore _ rfl (by simp only [evalMore, k1, Option.map_some]), k2⟩
  case range rt x =>
    simp only [evalG] at h
    obtain ⟨k1, k2⟩ := range_G h
    exact ⟨viaX _ rfl rfl k1, k2⟩
  case next x b =>
    cases b with
    | false => simp [evalG] at h
    | true =>
      simp only [evalG] at h
      obtain ⟨k1, k2⟩ := next_G h
      exact ⟨viaX _ rfl rfl k1, k2⟩
  case slice st x lo hi mx =>
    simp only [evalG] at h
    split at h
    case h_2 => simp at h
    rename_i v0 hs
    simp only [Option.some.injEq, Prod.mk.injEq] at h
    obtain ⟨rfl, rfl⟩ := h
    rw [← sliceMore_G] at hs
    exact ⟨viaX _ rfl rfl (by simp only [evalX, hs, Option.map_some, Ef.mem]), trivial⟩
  case convert a b x =>
    simp only [evalG] at h
    split at h
    · rename_i v0 hs
      simp only [Option.some.injEq, Prod.mk.injEq] at h
      obtain ⟨rfl, rfl⟩ := h
      exact ⟨viaX _ rfl rfl (by simp only [evalX, hs, Ef.mem]), trivial⟩
    · rename_i hs
      split at h
      case h_2 => simp at h
      rename_i v0 hs2
      simp only [Option.some.injEq, Prod.mk.injEq] at h
      obtain ⟨rfl, rfl⟩ := h
      rw [← convU_G] at hs2
      exact ⟨viaX _ rfl rfl (by simp only [evalX, hs, hs2, Option.map_some, Ef.mem]), trivial⟩
  case call c =>
    obtain ⟨callee, args, ts⟩ := c
    cases callee with
    | builtin b =>
      simp only [evalG] at h
      unfold builtinG at h
      split at h
      · rename_i t' u x s0 hts hargs
        obtain ⟨k1, k2⟩ := copy_G h
        exact ⟨viaMore _ rfl (by simp only [evalMore, hts, hargs, builtinMore, k1]), k2⟩
      · rename_i ty x hts hargs
        obtain ⟨k1, k2⟩ := clear_G h
        exact ⟨viaX _ rfl (by simp only [evalMore, hts, hargs, builtinMore]) (by simp only [evalX, hts, hargs, builtinX, k1]), k2⟩
      · rename_i x hargs
        split at h
        case h_2 => simp at h
        rename_i v0 hs
        simp only [Option.some.injEq, Prod.mk.injEq] at h
        obtain ⟨rfl, rfl⟩ := h
        rw [← sliceData_G] at hs
        exact ⟨viaX _ rfl (by simp only [evalMore, hargs, builtinMore]) (by simp only [evalX, hargs, builtinX, hs, Option.map_some, Ef.mem]), trivial⟩
      · rename_i pt it pp nn hts hargs
        obtain ⟨k1, k2⟩ := unsafeStr_G h
        exact ⟨viaX _ rfl (by simp only [evalMore, hts, hargs, builtinMore]) (by simp only [evalX, hts, hargs, builtinX, k1]), k2⟩
      · simp at h
    | _ => simp [evalG] at h

theorem read_run {C : Ctx} {o : Oper} {ρ : Operand → AV} {M : Mem} {v : AV} {r : Nat} (hp : (evalPure C HX o ρ).or (evalPure1 C o ρ) = none) (hr : readObj o ρ = some r) (h : readG C o ρ (fun i => M[i]?) = some v) : RunOK C o ρ M v .non (.read r) := by
  have hp' := hp
  simp only [Option.or_eq_none_iff] at hp
  obtain ⟨hp1, hp2⟩ := hp
  obtain ⟨d, op, t, p, af, g⟩ := o
  cases op <;> first | (simp [readG] at h; done) | skip
  case load lt x =>
    simp only [readG, ← memOf_G] at h
    have hra : readAV C ⟨d, .load lt x, t, p, af, g⟩ ρ M = some v := h
    refine ⟨trivial, ?_, hp', hr, hra, rfl, rfl⟩
    have hm : evalMem C HX ⟨d, .load lt x, t, p, af, g⟩ ρ M = some (v, M) := by
      simp only [readObj] at hr
      simp only [evalMem]
      split at hr
      · rename_i b off hb; rw [hb] at h ⊢; simp only; rw [h]; rfl
      · rename_i f h' off hb; rw [hb] at h ⊢; simp only; rw [h]; rfl
      · simp at hr
    simp only [evalOp, hp1, hm, Ef.mem]
  case lookup mt m k ok =>
    simp only [readG, ← lookup_G] at h
    refine ⟨trivial, ?_, hp', hr, h, rfl, rfl⟩
    have hm : evalMem C HX ⟨d, .lookup mt m k ok, t, p, af, g⟩ ρ M = none := rfl
    have hm2 : evalMore C HX ⟨d, .lookup mt m k ok, t, p, af, g⟩ ρ M = some (v, M) := by simp only [evalMore, h, Option.map_some]
    simp only [evalOp, hp1, hm, hm2, Ef.mem]
  case call c =>
    obtain ⟨callee, args, ts⟩ := c
    cases callee with
    | builtin b =>
      cases b <;> first | (simp [readG] at h; done) | skip
      case len =>
        simp only [readG] at h
        split at h
        case h_2 => simp at h
        rename_i x t' ha ht
        simp only [Option.map_eq_some_iff, ← lenMore_G] at h
        obtain ⟨n, hn, rfl⟩ := h
        have hargs : args = #[x] := by apply Array.ext'; simpa using ha
        have hts : ts = #[t'] := by apply Array.ext'; simpa using ht
        subst hargs; subst hts
        have hl : lenAV C.P t' (ρ x) = none := by
          have e : evalPure C HX ⟨d, .call { callee := .builtin .len, args := #[x], argTypes := #[t'] }, t, p, af, g⟩ ρ = (lenAV C.P t' (ρ x)).map fun (n : Nat) => AV.val (goInt (n : Int)) := rfl
          rw [e] at hp1
          cases hl : lenAV C.P t' (ρ x) with
          | none => rfl
          | some n => rw [hl] at hp1; simp at hp1
        have hra : readAV C ⟨d, .call { callee := .builtin .len, args := #[x], argTypes := #[t'] }, t, p, af, g⟩ ρ M = some (.val (.int .i64 n)) := by
          simp only [readAV, hl, hn, Option.none_or, Option.map_some]
        refine ⟨trivial, ?_, hp', hr, hra, rfl, ?_⟩
        · have hm : evalMem C HX ⟨d, .call { callee := .builtin .len, args := #[x], argTypes := #[t'] }, t, p, af, g⟩ ρ M = none := rfl
          have hm2 : evalMore C HX ⟨d, .call { callee := .builtin .len, args := #[x], argTypes := #[t'] }, t, p, af, g⟩ ρ M = some (.val (.int .i64 n), M) := by
            simp only [evalMore, List.map_cons, List.map_nil, builtinMore, hn, Option.map_some]
            rfl
          simp only [evalOp, hp1, hm, hm2, Ef.mem]
        · simp only [readObj] at hr
          simp only [writesOf]
          split at hr
          · rename_i b hb; rw [hb]
          · simp at hr
    | _ => simp [readG] at h

theorem genRun_ok {C : Ctx} {o : Oper} {ρ : Operand → AV} {M : Mem} {v : AV} {e : Ef} {k : FK} (h : genRun C o ρ (fun i => M[i]?) M.length = some (v, e, k)) : RunOK C o ρ M v e k := by
  unfold genRun at h
  split at h
  · rename_i v0 hp
    simp only [Option.some.injEq, Prod.mk.injEq] at h
    obtain ⟨rfl, rfl, rfl⟩ := h
    exact pure_run hp
  · rename_i hp
    split at h
    · rename_i r hr
      split at h
      case h_2 => simp at h
      rename_i v0 hv
      simp only [Option.some.injEq, Prod.mk.injEq] at h
      obtain ⟨rfl, rfl, rfl⟩ := h
      exact read_run hp hr hv
    · rename_i hr
      split at h
      case h_2 => simp at h
      rename_i v0 e0 hv
      simp only [Option.some.injEq, Prod.mk.injEq] at h
      obtain ⟨rfl, rfl, rfl⟩ := h
      obtain ⟨k1, k2⟩ := evalG_ok hp hv
      exact ⟨k2, k1, hp, hr, rfl⟩
end Go.Abs
end
section
/- One operation, made ready once. -/
set_option linter.unusedVariables false
namespace Go.Abs

inductive Arg where
  | tmp (i : Nat)
  | cst (v : AV)
def argOf (C : Ctx) : Operand → Arg
  | .tmp t => .tmp t
  | .const v => .cst (.val v)
  | .global g => .cst (C.gl g)
  | .func f => .cst (.func (.func f) [] [])
noncomputable def rd (t : BT) : Arg → AV
  | .tmp i => t.getR i
  | .cst v => v
theorem rd_ev {C : Ctx} {t : BT} (x : Operand) : rd t (argOf C x) = t.fn.ev C x := by
  cases x <;> first | rfl | exact BT.getR_eq _ _

inductive FOp where
  | mv (a : Arg)
  | pick (c a b : Arg)
  | ld (ag : Option Bool) (n : Option Nat) (a : Arg)
  | st (s : Option Nat) (a x : Arg)
  | faddr (k : Option Nat) (a : Arg)
  | ext (a : Arg) (i : Nat)
  | bin (op : BinOp) (x y : Arg)
  | notb (a : Arg)
  | nilc (a : Arg)
  | idx (e : Option (Option Nat)) (x i : Arg)
  | lenS (a : Arg)
  | lenStr (a : Arg)
  | allc (e : TypeId) (z : List AV)
  | bx (e : TypeId) (a : Arg)
  | call (f : Arg) (as : List Arg)
  | app (t u : TypeId) (s x : Arg)
  | gen
def fopOf (C : Ctx) (o : Oper) : FOp := match o.op with
  | .move x => .mv (argOf C x)
  | .assign x => .mv (argOf C x)
  | .pick c a b => .pick (argOf C c) (argOf C a) (argOf C b)
  | .load t x => .ld (aggOf C.P t) (szOf C.P t) (argOf C x)
  | .store t a x => .st (szOf C.P t) (argOf C a) (argOf C x)
  | .fieldAddr t x f => .faddr (offOf C.P t f) (argOf C x)
  | .extract x i => .ext (argOf C x) i
  | .binOp op t x y _ => .bin op (argOf C x) (argOf C y)
  | .unOp .not _ x => .notb (argOf C x)
  | .nilCheck x => .nilc (argOf C x)
  | .indexAddr t x i => .idx ((elemOf? C.P t).map (szOf C.P)) (argOf C x) (argOf C i)
  | .alloc e => match zeroCells? C.P e with
    | some z => match z.all (·.oneCell') with
      | true => .allc e (z.map .val)
      | false => .gen
    | none => .gen
  | .box e x => .bx e (argOf C x)
  | .call { callee := .value f, args, .. } => .call (argOf C f) (args.toList.map (argOf C))
  | .call { callee := .builtin .append, args, argTypes } => match args.toList, argTypes.toList with
    | [s, x], [t, u] => match o.dst with
      | some _ => .app t u (argOf C s) (argOf C x)
      | none => .gen
    | _, _ => .gen
  | .call { callee := .builtin .len, args, argTypes } => match args.toList, argTypes.toList with
    | [x], [t] => match C.P.underlying t with
      | some (.slice _) => .lenS (argOf C x)
      | some .string => .lenStr (argOf C x)
      | _ => .gen
    | _, _ => .gen
  | _ => .gen

def rPick (c a b : AV) : Option FR := match c with
  | .val (.bool true) => some (a, .non, .pure)
  | .val (.bool false) => some (b, .non, .pure)
  | _ => none
def okv (v : Option AV) (k : FK) : Option FR := match v with
  | some v => some (v, .non, k)
  | none => none
def rLd (ag : Option Bool) (n : Option Nat) (g : GT) (a : AV) : Option FR := match a with
  | .cptr cs => okv (loadRow ag n cs) .pure
  | .ptr b off => match g b with
    | some (.cells _ cs) => match Nat.ble off cs.length with
      | true => okv (loadRow ag n (cs.drop off)) (.read b)
      | false => none
    | _ => none
  | .vptr f h off => match memOfG g (.vptr f h off) with
    | some cs => okv (loadRow ag n cs) (.read f)
    | none => none
  | _ => none
def rSt (s : Option Nat) (g : GT) (a x : AV) : Option FR := match storeG s g a x with
  | some e => some (.val undef, e, .write (match a with | .ptr b _ => [b] | .vptr f _ _ => [f] | _ => []))
  | none => none
def rBin (op : BinOp) (x y : AV) (gen : Option FR) : Option FR := match x, y with
  | .val (.int k a), .val (.int k' b) => match decide (k = k') with
    | true => match intB op k a b with
      | some v => some (.val v, .non, .pure)
      | none => gen
    | false => gen
  | _, _ => gen
def rLenS (a : AV) (gen : Option FR) : Option FR := match a with
  | .vref _ _ _ _ len => some (.val (.int .i64 len), .non, .pure)
  | .val (.slice none 0 0) => some (.val (.int .i64 0), .non, .pure)
  | .list _ rows _ => some (.val (.int .i64 rows.length), .non, .pure)
  | _ => gen
def rLenStr (a : AV) (gen : Option FR) : Option FR := match a with
  | .val (.string s) => some (.val (.int .i64 s.size), .non, .pure)
  | _ => gen
def rBx (e : TypeId) (n : Nat) (a : AV) : Option FR := match a.storable with
  | true => some (.ptr n 0, .push (.cells e a.cells), .write [])
  | false => none
noncomputable def runOp (C : Ctx) (o : Oper) (f : FOp) (t : BT) (g : GT) (n : Nat) : Option FR := match f with
  | .mv a => some (rd t a, .non, .pure)
  | .pick c a b => rPick (rd t c) (rd t a) (rd t b)
  | .ld ag s a => rLd ag s g (rd t a)
  | .st s a x => rSt s g (rd t a) (rd t x)
  | .faddr k a => okv (faddrAV k (rd t a)) .pure
  | .ext a i => okv (extractAV (rd t a) i) .pure
  | .bin op x y => rBin op (rd t x) (rd t y) (genRun C o (t.fn.ev C) g n)
  | .notb a => okv (notAV (rd t a)) .pure
  | .nilc a => okv (nilAV (rd t a)) .pure
  | .idx e x i => match idxAV e (rd t x) (rd t i) with
    | some v => some (v, .non, .pure)
    | none => genRun C o (t.fn.ev C) g n
  | .lenS a => rLenS (rd t a) (genRun C o (t.fn.ev C) g n)
  | .lenStr a => rLenStr (rd t a) (genRun C o (t.fn.ev C) g n)
  | .allc e z => some (.ptr n 0, .push (.cells e z), .write [])
  | .bx e a => rBx e n (rd t a)
  | .call _ _ => none
  | .app _ _ _ _ => none
  | .gen => genRun C o (t.fn.ev C) g n

theorem okv_some {v : Option AV} {k : FK} {r : FR} (h : okv v k = some r) : ∃ u, v = some u ∧ r = (u, .non, k) := by
  cases v with
  | none => simp [okv] at h
  | some u => simp only [okv, Option.some.injEq] at h; exact ⟨u, rfl, h.symm⟩

theorem runOp_ok {C : Ctx} {o : Oper} {t : BT} {M : Mem} {v : AV} {e : Ef} {k : FK} (h : runOp C o (fopOf C o) t (fun i => M[i]?) M.length = some (v, e, k)) : RunOK C o (t.fn.ev C) M v e k := by
  have pureR : ∀ {u : AV}, evalPure C HX o (t.fn.ev C) = some u → RunOK C o (t.fn.ev C) M u .non .pure := fun hu => pure_run (by rw [hu]; rfl)
  obtain ⟨d, op, ty, p, af, g⟩ := o
  have gen : runOp C ⟨d, op, ty, p, af, g⟩ .gen t (fun i => M[i]?) M.length = some (v, e, k) → RunOK C ⟨d, op, ty, p, af, g⟩ (t.fn.ev C) M v e k := fun h => genRun_ok h
  have okP : ∀ {w : Option AV}, okv w .pure = some (v, e, k) → evalPure C HX ⟨d, op, ty, p, af, g⟩ (t.fn.ev C) = w → RunOK C ⟨d, op, ty, p, af, g⟩ (t.fn.ev C) M v e k := by
    intro w hw he
    obtain ⟨u, hu, hr⟩ := okv_some hw
    simp only [Prod.mk.injEq] at hr
    obtain ⟨rfl, rfl, rfl⟩ := hr
    exact pureR (he.trans hu)
  cases op <;> first | exact gen h | skip
  case move x =>
    simp only [fopOf, runOp, rd_ev, Option.some.injEq, Prod.mk.injEq] at h
    obtain ⟨rfl, rfl, rfl⟩ := h
    exact pureR rfl
  case assign x =>
    simp only [fopOf, runOp, rd_ev, Option.some.injEq, Prod.mk.injEq] at h
    obtain ⟨rfl, rfl, rfl⟩ := h
    exact pureR rfl
  case pick c a b =>
    simp only [fopOf, runOp, rd_ev] at h
    unfold rPick at h
    split at h
    · rename_i hc
      simp only [Option.some.injEq, Prod.mk.injEq] at h
      obtain ⟨rfl, rfl, rfl⟩ := h
      exact pureR (by simp only [evalPure, hc, if_true])
    · rename_i hc
      simp only [Option.some.injEq, Prod.mk.injEq] at h
      obtain ⟨rfl, rfl, rfl⟩ := h
      exact pureR (by simp only [evalPure, hc]; rfl)
    · simp at h
  case unOp uop ut x =>
    cases uop <;> first | exact gen h | skip
    simp only [fopOf, runOp, rd_ev] at h
    exact okP h rfl
  case nilCheck x =>
    simp only [fopOf, runOp, rd_ev] at h
    exact okP h rfl
  case fieldAddr ft x f =>
    simp only [fopOf, runOp, rd_ev] at h
    exact okP h rfl
  case extract x i =>
    simp only [fopOf, runOp, rd_ev] at h
    exact okP h rfl
  case indexAddr it x i =>
    simp only [fopOf, runOp, rd_ev] at h
    split at h
    · rename_i u hu
      simp only [Option.some.injEq, Prod.mk.injEq] at h
      obtain ⟨rfl, rfl, rfl⟩ := h
      refine pureR ?_
      rw [← hu]
      simp only [evalPure, idxAV]
      cases elemOf? C.P it with
      | none => rfl
      | some e => cases t.fn.ev C x <;> first | rfl | (cases t.fn.ev C i <;> first | rfl | (rename_i v; cases v <;> rfl))
    · exact genRun_ok h
  case binOp bop bt x y yt =>
    simp only [fopOf, runOp, rd_ev] at h
    unfold rBin at h
    split at h
    · rename_i k1 a k2 b hx hy
      split at h
      · rename_i hk
        simp only [decide_eq_true_eq] at hk
        subst hk
        split at h
        · rename_i u hu
          simp only [Option.some.injEq, Prod.mk.injEq] at h
          obtain ⟨rfl, rfl, rfl⟩ := h
          refine pureR ?_
          simp only [evalPure, hx, hy, binAV_int, hu, Option.map_some]
        · exact genRun_ok h
      · exact genRun_ok h
    · exact genRun_ok h
  case load lt x =>
    simp only [fopOf, runOp, rd_ev] at h
    unfold rLd at h
    split at h
    · rename_i cs hx
      exact okP h (by simp only [evalPure, hx, loadCells_row])
    · rename_i b off hx
      split at h
      case h_2 => simp at h
      rename_i bt cs hM
      split at h
      case h_2 => simp at h
      rename_i hle
      have hle := Nat.le_of_ble_eq_true hle
      obtain ⟨u, hu, hr⟩ := okv_some h
      simp only [Prod.mk.injEq] at hr
      obtain ⟨rfl, rfl, rfl⟩ := hr
      refine read_run (by simp only [evalPure, hx, evalPure1]; rfl) (by simp only [readObj, hx]) ?_
      simp only [readG, hx, memOfG, hM, if_pos hle, Option.bind_some, loadCells_row]
      exact hu
    · rename_i f h' off hx
      split at h
      case h_2 => simp at h
      rename_i cs hM
      obtain ⟨u, hu, hr⟩ := okv_some h
      simp only [Prod.mk.injEq] at hr
      obtain ⟨rfl, rfl, rfl⟩ := hr
      refine read_run (by simp only [evalPure, hx, evalPure1]; rfl) (by simp only [readObj, hx]) ?_
      simp only [readG, hx, hM, Option.bind_some, loadCells_row]
      exact hu
    · simp at h
  case store lt a x =>
    simp only [fopOf, runOp, rd_ev] at h
    unfold rSt at h
    split at h
    case h_2 => simp at h
    rename_i e0 hs
    simp only [Option.some.injEq, Prod.mk.injEq] at h
    obtain ⟨rfl, rfl, rfl⟩ := h
    obtain ⟨k1, k2⟩ := storeG_eval hs
    exact ⟨k2, k1, rfl, rfl, rfl⟩
  case alloc et =>
    simp only [fopOf] at h
    split at h
    case h_2 => exact genRun_ok h
    rename_i z hz
    split at h
    case h_2 => exact genRun_ok h
    rename_i hall
    simp only [runOp, Option.some.injEq, Prod.mk.injEq] at h
    obtain ⟨rfl, rfl, rfl⟩ := h
    obtain ⟨k1, k2⟩ := evalG_ok (C := C) (o := ⟨d, .alloc et, ty, p, af, g⟩) (ρ := t.fn.ev C) (M := M) (v := .ptr M.length 0) (e := .push (.cells et (z.map .val))) rfl (by simp only [evalG, hz, hall, if_true])
    exact ⟨k2, k1, rfl, rfl, rfl⟩
  case box et x =>
    simp only [fopOf, runOp, rd_ev] at h
    unfold rBx at h
    split at h
    case h_2 => simp at h
    rename_i hs
    simp only [Option.some.injEq, Prod.mk.injEq] at h
    obtain ⟨rfl, rfl, rfl⟩ := h
    have hp : (evalPure C HX ⟨d, .box et x, ty, p, af, g⟩ (t.fn.ev C)).or (evalPure1 C ⟨d, .box et x, ty, p, af, g⟩ (t.fn.ev C)) = none := by
      have hh : hintAt HX.imm d = false := by cases d <;> rfl
      simp only [evalPure, hh, Bool.false_and]
      rfl
    obtain ⟨k1, k2⟩ := evalG_ok (C := C) (o := ⟨d, .box et x, ty, p, af, g⟩) (ρ := t.fn.ev C) (M := M) (v := .ptr M.length 0) (e := .push (.cells et (t.fn.ev C x).cells)) hp (by simp only [evalG, hs, if_true])
    exact ⟨k2, k1, hp, rfl, rfl⟩
  case call c =>
    obtain ⟨callee, args, ts⟩ := c
    cases callee with
    | value f => simp [fopOf, runOp] at h
    | builtin b =>
      cases b <;> first | exact gen h | skip
      case append =>
        simp only [fopOf] at h
        split at h
        · split at h
          · simp [runOp] at h
          · exact genRun_ok h
        · exact genRun_ok h
      case len =>
        simp only [fopOf] at h
        split at h
        case h_2 => exact genRun_ok h
        rename_i x t' ha ht
        have hts : ts = #[t'] := by apply Array.ext'; simpa using ht
        subst hts
        have hargs : args = #[x] := by apply Array.ext'; simpa using ha
        subst hargs
        have lenP : ∀ n : Nat, lenAV C.P t' (t.fn.ev C x) = some n → evalPure C HX ⟨d, .call { callee := .builtin .len, args := #[x], argTypes := #[t'] }, ty, p, af, g⟩ (t.fn.ev C) = some (.val (.int .i64 n)) := by
          intro n hn
          show (lenAV C.P t' (t.fn.ev C x)).map (fun (n : Nat) => AV.val (goInt (n : Int))) = _
          rw [hn]; rfl
        split at h
        · rename_i et hu
          simp only [runOp, rd_ev] at h
          unfold rLenS at h
          split at h
          · rename_i a1 a2 a3 a4 len hx
            simp only [Option.some.injEq, Prod.mk.injEq] at h
            obtain ⟨rfl, rfl, rfl⟩ := h
            exact pureR (lenP _ (by simp only [lenAV, hx, hu]))
          · rename_i hx
            simp only [Option.some.injEq, Prod.mk.injEq] at h
            obtain ⟨rfl, rfl, rfl⟩ := h
            exact pureR (lenP _ (by simp only [lenAV, hx, hu]))
          · rename_i sz rows own hx
            simp only [Option.some.injEq, Prod.mk.injEq] at h
            obtain ⟨rfl, rfl, rfl⟩ := h
            exact pureR (lenP _ (by simp only [lenAV, hx, hu]))
          · exact genRun_ok h
        · rename_i hu
          simp only [runOp, rd_ev] at h
          unfold rLenStr at h
          split at h
          · rename_i s hx
            simp only [Option.some.injEq, Prod.mk.injEq] at h
            obtain ⟨rfl, rfl, rfl⟩ := h
            exact pureR (lenP _ (by simp only [lenAV, hx, hu]))
          · exact genRun_ok h
        · exact genRun_ok h
    | _ => exact gen h
end Go.Abs
end
