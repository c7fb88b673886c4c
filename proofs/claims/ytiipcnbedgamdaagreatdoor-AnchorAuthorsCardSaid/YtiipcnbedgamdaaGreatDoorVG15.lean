/- The texts AbsV5, AbsR, AbsR2, AbsR3, AbsR4, AbsR5: what each proves stands at its head. -/
import Derived.Test.YtiipcnbedgamdaaGreatDoorVG14
import Derived.Laws.Externs
section
/- Functions without a body, for the evaluator. -/
set_option linter.unusedVariables false
namespace Go.Abs

/-- a function that only hands its argument back -/
def xSame : List AV → Mem → Option XR
  | [v], M => some (v, M, [])
  | _, _ => none
def xIndexByte : List AV → Mem → Option XR
  | [.val (.string s), .val (.int .u8 c)], M => some (.val (match (List.range s.size).find? fun i => s[i]! == c.toNat.toUInt8 with
    | some i => goInt i
    | none => goInt (-1)), M, [])
  | _, _ => none

section
variable {C : Ctx} {f : FuncId} {fn : Func}
theorem xSame_ok (hf : C.P.funcs[f]? = some fn) (hname : (fn.name == "runtime.NumGoroutine") = false) (hb : fn.body.isNone = true) (hn : Extern.findNext fn = none) (he : Extern.find fn = some Extern.AbiNoEscape.same) :
    ∀ args M v M1 ws, xSame args M = some (v, M1, ws) → Invk C f args M (fun r m => r = v ∧ m = M1) ∧ XActs (xSame args) M v M1 ws := by
  intro args M v M1 ws h
  unfold xSame at h
  split at h
  case h_2 => simp at h
  rename_i u M
  simp only [Option.some.injEq, Prod.mk.injEq] at h
  obtain ⟨rfl, rfl, rfl⟩ := h
  refine ⟨.inr fun G w vs hi hr => ?_, .same fun _ _ _ => rfl⟩
  simp only [RepL] at hr
  obtain ⟨y, _, rfl, hy, rfl⟩ := hr
  exact ⟨y, w, G, _, _, by rw [run_callFunc_extern hf hname hb hn he]; rfl, ⟨rfl, rfl⟩, .refl _, hi, hy, .refl _⟩
theorem xIndexByte_ok (hf : C.P.funcs[f]? = some fn) (hname : (fn.name == "runtime.NumGoroutine") = false) (hb : fn.body.isNone = true) (hn : Extern.findNext fn = none) (he : Extern.find fn = some Extern.BytealgIndexByte.indexByte) :
    ∀ args M v M1 ws, xIndexByte args M = some (v, M1, ws) → Invk C f args M (fun r m => r = v ∧ m = M1) ∧ XActs (xIndexByte args) M v M1 ws := by
  intro args M v M1 ws h
  unfold xIndexByte at h
  split at h
  case h_2 => simp at h
  rename_i M s c
  simp only [Option.some.injEq, Prod.mk.injEq] at h
  obtain ⟨rfl, rfl, rfl⟩ := h
  refine ⟨.inr fun G w vs hi hr => ?_, .same fun _ _ _ => rfl⟩
  simp only [RepL, Rep] at hr
  obtain ⟨y, _, rfl, rfl, y2, _, rfl, rfl, rfl⟩ := hr
  have key : ((Extern.BytealgIndexByte.indexByte #[.string s, .int .u8 c]).run C.P w) = .ok (match (List.range s.size).find? fun i => s[i]! == c.toNat.toUInt8 with
    | some i => goInt i
    | none => goInt (-1)) w := by
    show ((match (List.range s.size).find? fun i => s[i]! == c.toNat.toUInt8 with
      | some i => pure (goInt i)
      | none => pure (goInt (-1))) : Sem Value).run C.P w = _
    generalize (List.range s.size).find? _ = r
    cases r <;> rfl
  have run : (callFunc f #[.string s, .int .u8 c]).run C.P w = .ok (.value (match (List.range s.size).find? fun i => s[i]! == c.toNat.toUInt8 with
    | some i => goInt i
    | none => goInt (-1))) w := by
    rw [run_callFunc_extern hf hname hb hn he, key]; rfl
  exact ⟨_, w, G, _, _, run, ⟨rfl, rfl⟩, .refl _, hi, by simp only [Rep], .refl _⟩
end

def intrL : List (Nat × (List AV → Mem → Option XR)) → Intr
  | [], _ => none
  | p :: l, f => match Nat.beq f p.1 with
    | true => some p.2
    | false => intrL l f
def IntrAt (C : Ctx) (f : FuncId) (g : List AV → Mem → Option XR) : Prop := ∀ args M v M1 ws, g args M = some (v, M1, ws) → Invk C f args M (fun r m => r = v ∧ m = M1) ∧ XActs (g args) M v M1 ws
theorem intrL_ok {C : Ctx} : ∀ (l : List (Nat × (List AV → Mem → Option XR))), (∀ p ∈ l, IntrAt C p.1 p.2) → IntrOK C (intrL l)
  | [], _, f, g, h => by simp [intrL] at h
  | p :: l, hl, f, g, h => by
    simp only [intrL] at h
    split at h
    · rename_i he
      simp only [Option.some.injEq] at h
      subst h
      have := Nat.eq_of_beq_eq_true he
      subst this
      exact hl p (by simp)
    · exact intrL_ok l (fun q hq => hl q (by simp [hq])) f g h
end Go.Abs
end
section
/- What a walk leaves to prove: smaller than the evaluator, operation by operation. -/
set_option linter.unusedVariables false
namespace Go.Abs

def load0 (P : Program) (t : TypeId) : AV → Option AV
  | .cptr cs => loadCells? P t cs
  | _ => none
@[simp] theorem load0_cptr {P : Program} {t : TypeId} {cs : List AV} : load0 P t (.cptr cs) = loadCells? P t cs := rfl
def box0 (imm : Bool) (x : AV) : Option AV := if imm && x.storable then some (.cptr x.cells) else none
def strIdx (u : Option TypeDesc) (x i : AV) : Option AV := match u, x, i with
  | some .string, .val (.string s), .val (.int _ i) => if 0 ≤ i ∧ i < s.size then some (.val (.int .u8 (s.data.getD i.toNat 0).toNat)) else none
  | _, _, _ => none
/-- the byte at a place of a string, as a number -/
def byteAt (s : ByteArray) (i : Nat) : Int := (s.data.getD i 0).toNat
@[simp] theorem strIdx_str {s : ByteArray} {k : IntKind} {i : Int} : strIdx (some .string) (.val (.string s)) (.val (.int k i)) = if 0 ≤ i ∧ i < s.size then some (.val (.int .u8 (byteAt s i.toNat))) else none := rfl
def fieldAV (P : Program) (f : Option (Nat × TypeId)) (x : AV) : Option AV := match f, x with
  | some (k, ft), .agg cs => if (szOf P ft).any (fun n => decide (k + n ≤ cs.length)) then loadCells? P ft (cs.drop k) else none
  | _, _ => none
@[simp] theorem fieldAV_agg {P : Program} {k : Nat} {ft : TypeId} {cs : List AV} : fieldAV P (some (k, ft)) (.agg cs) = if (szOf P ft).any (fun n => decide (k + n ≤ cs.length)) = true then loadCells? P ft (cs.drop k) else none := rfl
def negAV : AV → Option AV
  | .val (.int k n) => some (.val (.int k (k.wrap (0 - n))))
  | _ => none
@[simp] theorem negAV_int {k : IntKind} {n : Int} : negAV (.val (.int k n)) = some (.val (.int k (k.wrap (0 - n)))) := rfl

/-- what turns no mutable object and looks at none -/
def pOp (C : Ctx) (h : Hint) (o : Oper) (ρ : Operand → AV) : Option AV := match o.op with
  | .move x => some (ρ x)
  | .assign x => some (ρ x)
  | .pick c a b => pickAV (ρ c) (ρ a) (ρ b)
  | .nilCheck x => nilAV (ρ x)
  | .binOp op t x y _ => binAV C.P op t (ρ x) (ρ y)
  | .unOp .not _ x => notAV (ρ x)
  | .unOp .neg _ x => negAV (ρ x)
  | .fieldAddr t x f => faddrAV (offOf C.P t f) (ρ x)
  | .field t x f => fieldAV C.P (fieldOf? C.P t f) (ρ x)
  | .extract x i => extractAV (ρ x) i
  | .indexAddr t x i => idxAV ((elemOf? C.P t).map (szOf C.P)) (ρ x) (ρ i)
  | .index t x i => strIdx (C.P.underlying t) (ρ x) (ρ i)
  | .makeFunc fn f c => some (.func fn (f.toList.map ρ) (c.toList.map ρ))
  | .slice t x lo hi mx => slice2 C.P t (ρ x) (lo.map ρ) (hi.map ρ) (mx.map ρ)
  | .build t ps => buildAV C.P t (ps.toList.map fun p => (p.1, ρ p.2))
  | .buildSlice t n ps => if hvAt C h t o.dst then none else buildSliceAV C.P t n (ps.toList.map fun p => (p.1, ρ p.2))
  | .load t x => load0 C.P t (ρ x)
  | .box _ x => box0 (hintAt h.imm o.dst) (ρ x)
  | .convert a b x => convAV C.P a b (ρ x)
  | .call { callee := .builtin .len, args, argTypes } => match args.toList, argTypes.toList with
    | [x], [t] => (lenAV C.P t (ρ x)).map fun (n : Nat) => AV.val (.int .i64 n)
    | _, _ => none
  | .call { callee := .builtin .max, args, argTypes } => match args.toList with
    | [x, y] => min2V true (ρ x) (ρ y)
    | _ => none
  | .call { callee := .builtin .min, args, argTypes } => match args.toList with
    | [x, y] => min2V false (ρ x) (ρ y)
    | _ => none
  | _ => none

theorem pOp_eval {C : Ctx} {h : Hint} {o : Oper} {ρ : Operand → AV} {v : AV} (hp : pOp C h o ρ = some v) : evalPure C h o ρ = some v := by
  obtain ⟨d, op, t, p, af, g⟩ := o
  cases op <;> first | exact hp | (simp [pOp] at hp; done) | skip
  case unOp op t x => cases op <;> first | exact hp | (simp [pOp] at hp; done)
  case indexAddr t x i =>
    have e : evalPure C h ⟨d, .indexAddr t x i, t, p, af, g⟩ ρ = idxAV ((elemOf? C.P t).map (szOf C.P)) (ρ x) (ρ i) := by
      simp only [evalPure, idxAV]
      cases elemOf? C.P t with
      | none => rfl
      | some e => cases ρ x <;> first | rfl | (cases ρ i <;> first | rfl | (rename_i v; cases v <;> rfl))
    exact e.trans hp
  case call c =>
    obtain ⟨callee, args, ts⟩ := c
    cases callee with
    | builtin b =>
      cases b <;> first | (simp [pOp] at hp; done) | skip
      case len =>
        simp only [pOp] at hp
        simp only [evalPure]
        split at hp
        case h_2 => simp at hp
        rename_i x t' ha ht
        have hts : ts = #[t'] := by apply Array.ext'; simpa using ht
        subst hts
        rw [ha]
        exact hp
      case max =>
        simp only [pOp] at hp
        simp only [evalPure]
        split at hp
        case h_2 => simp at hp
        rename_i x y ha
        rw [ha]
        exact hp
      case min =>
        simp only [pOp] at hp
        simp only [evalPure]
        split at hp
        case h_2 => simp at hp
        rename_i x y ha
        rw [ha]
        exact hp
    | _ => simp [pOp] at hp

end Go.Abs
end
section
/- What a walk leaves to prove: smaller than the evaluator, operation by operation. -/
set_option linter.unusedVariables false
set_option linter.unusedSimpArgs false
namespace Go.Abs

/-- what turns a mutable object or looks at one -/
def mOp (C : Ctx) (h : Hint) (o : Oper) (ρ : Operand → AV) (M : Mem) : Option (AV × Mem) := match o.op with
  | .load t x => (loadAV C.P t M (ρ x)).map fun v => (v, M)
  | .store t a x => (storeAV (szOf C.P t) M (ρ a) (ρ x)).map fun M' => (.val undef, M')
  | .alloc e => allocAV C.P e M
  | .box e x => boxAV (hintAt h.imm o.dst) e M (ρ x)
  | .makeMap _ none => some (.mapr M.length, M ++ [.map [] 0])
  | .lookup t m k ok => (lookupAV C.P t M (ρ m) (ρ k) ok).map fun v => (v, M)
  | .mapUpdate t m k x => (mapPutAV C.P t M (ρ m) (ρ k) (ρ x)).map fun M' => (.val undef, M')
  | .insert t m k x => (mapPutAV C.P t M (ρ m) (ρ k) (ρ x)).map fun M' => (.val undef, M')
  | .makeSlice t l c => vmakeAV C.P t (ρ l) (ρ c) M
  | .buildSlice t n ps => if hvAt C h t o.dst = true then vbuildAV C.P t n (ps.toList.map fun p => (p.1, ρ p.2)) M else (buildSliceAV C.P t n (ps.toList.map fun p => (p.1, ρ p.2))).map fun v => (v, M)
  | .range t x => rangeAV C.P t (ρ x) M
  | .next x true => nextAV (ρ x) M
  | .call { callee := .builtin .len, args, argTypes } => match args.toList, argTypes.toList with
    | [x], [t] => ((lenAV C.P t (ρ x)).or (lenMore C.P t M (ρ x))).map fun (n : Nat) => (AV.val (.int .i64 n), M)
    | _, _ => none
  | .call { callee := .builtin .copy, args, argTypes } => match args.toList, argTypes.toList with
    | [x, y], [t, u] => copyAV C.P t u M (ρ x) (ρ y)
    | _, _ => none
  | .convert a b x => match convAV C.P a b (ρ x) with
    | some v => some (v, M)
    | none => evalOp C h o ρ M
  | .build t ps => match buildAV C.P t (ps.toList.map fun p => (p.1, ρ p.2)) with
    | some v => some (v, M)
    | none => evalOp C h o ρ M
  | .indexAddr t x i => match idxAV ((elemOf? C.P t).map (szOf C.P)) (ρ x) (ρ i) with
    | some v => some (v, M)
    | none => evalOp C h o ρ M
  | .call { callee := .builtin .unsafeSliceData, .. } => evalOp C h o ρ M
  | .call { callee := .builtin .unsafeString, .. } => evalOp C h o ρ M
  | _ => (pOp C h o ρ).map fun v => (v, M)

theorem mOp_eval {C : Ctx} {h : Hint} {o : Oper} {ρ : Operand → AV} {M M' : Mem} {v : AV} (hm : mOp C h o ρ M = some (v, M')) : evalOp C h o ρ M = some (v, M') := by
  have pure : (pOp C h o ρ).map (fun v => (v, M)) = some (v, M') → evalOp C h o ρ M = some (v, M') := by
    intro hp
    simp only [Option.map_eq_some_iff, Prod.mk.injEq] at hp
    obtain ⟨u, hu, rfl, rfl⟩ := hp
    simp only [evalOp, pOp_eval hu]
  have vc : isCall o.op = false → nilTestO C o ρ = false → vcOp C h o (fun v2 m => v2 = v ∧ m = M') ρ M → evalOp C h o ρ M = some (v, M') := by
    intro h1 h2 h3
    obtain ⟨d, op, t, p, af, g⟩ := o
    rw [vcOp_other h1 h2] at h3
    cases he : evalOp C h ⟨d, op, t, p, af, g⟩ ρ M with
    | none => rw [he] at h3; exact h3.elim
    | some r => rw [he] at h3; obtain ⟨a, b⟩ := r; simp only [onSome_some] at h3; rw [h3.1, h3.2]
  obtain ⟨d, op, t, p, af, g⟩ := o
  cases op <;> first | exact pure hm | skip
  case load lt x =>
    refine vc rfl rfl ?_
    rw [vcOp_load]
    simp only [mOp, Option.map_eq_some_iff, Prod.mk.injEq] at hm
    obtain ⟨u, hu, rfl, rfl⟩ := hm
    rw [hu]; exact ⟨rfl, rfl⟩
  case store lt x y =>
    refine vc rfl rfl ?_
    rw [vcOp_store]
    simp only [mOp, Option.map_eq_some_iff, Prod.mk.injEq] at hm
    obtain ⟨u, hu, rfl, rfl⟩ := hm
    rw [hu]; exact ⟨rfl, rfl⟩
  case alloc e =>
    refine vc rfl rfl ?_
    rw [vcOp_alloc]
    simp only [mOp] at hm
    rw [hm]; exact ⟨rfl, rfl⟩
  case box e x =>
    refine vc rfl rfl ?_
    rw [vcOp_box]
    simp only [mOp] at hm
    rw [hm]; exact ⟨rfl, rfl⟩
  case makeMap mt r =>
    cases r with
    | some r => exact pure hm
    | none =>
      refine vc rfl rfl ?_
      rw [vcOp_makeMap]
      simp only [mOp, Option.some.injEq, Prod.mk.injEq] at hm
      exact hm
  case lookup mt m k ok =>
    refine vc rfl rfl ?_
    rw [vcOp_lookup]
    simp only [mOp, Option.map_eq_some_iff, Prod.mk.injEq] at hm
    obtain ⟨u, hu, rfl, rfl⟩ := hm
    rw [hu]; exact ⟨rfl, rfl⟩
  case mapUpdate mt m k x =>
    refine vc rfl rfl ?_
    rw [vcOp_mapUpdate]
    simp only [mOp, Option.map_eq_some_iff, Prod.mk.injEq] at hm
    obtain ⟨u, hu, rfl, rfl⟩ := hm
    rw [hu]; exact ⟨rfl, rfl⟩
  case insert mt m k x =>
    refine vc rfl rfl ?_
    rw [vcOp_insert]
    simp only [mOp, Option.map_eq_some_iff, Prod.mk.injEq] at hm
    obtain ⟨u, hu, rfl, rfl⟩ := hm
    rw [hu]; exact ⟨rfl, rfl⟩
  case makeSlice st l c =>
    refine vc rfl rfl ?_
    rw [vcOp_makeSlice]
    simp only [mOp] at hm
    rw [hm]; exact ⟨rfl, rfl⟩
  case buildSlice bt n ps =>
    obtain ⟨ps⟩ := ps
    refine vc rfl rfl ?_
    have e := @vcOp_buildSlice C h M (fun v2 m => v2 = v ∧ m = M') ρ d t p af g bt n ps
    rw [e]
    simp only [mOp] at hm
    split
    · rename_i hv
      rw [if_pos hv] at hm
      rw [hm]; exact ⟨rfl, rfl⟩
    · rename_i hv
      rw [if_neg hv] at hm
      simp only [Option.map_eq_some_iff, Prod.mk.injEq] at hm
      obtain ⟨u, hu, rfl, rfl⟩ := hm
      rw [hu]; exact ⟨rfl, rfl⟩
  case build bt ps =>
    simp only [mOp] at hm
    split at hm
    · rename_i u hu
      simp only [Option.some.injEq, Prod.mk.injEq] at hm
      obtain ⟨rfl, rfl⟩ := hm
      have : evalPure C h ⟨d, .build bt ps, t, p, af, g⟩ ρ = some u := pOp_eval (by simpa only [pOp] using hu)
      simp only [evalOp, this]
    · exact hm
  case indexAddr it x i =>
    simp only [mOp] at hm
    split at hm
    · rename_i u hu
      simp only [Option.some.injEq, Prod.mk.injEq] at hm
      obtain ⟨rfl, rfl⟩ := hm
      have : evalPure C h ⟨d, .indexAddr it x i, t, p, af, g⟩ ρ = some u := pOp_eval (by simpa only [pOp] using hu)
      simp only [evalOp, this]
    · exact hm
  case convert a b x =>
    simp only [mOp] at hm
    split at hm
    · rename_i u hu
      simp only [Option.some.injEq, Prod.mk.injEq] at hm
      obtain ⟨rfl, rfl⟩ := hm
      have : evalPure C h ⟨d, .convert a b x, t, p, af, g⟩ ρ = some u := hu
      simp only [evalOp, this]
    · exact hm
  case range rt x =>
    simp only [mOp] at hm
    exact hm
  case next x b =>
    cases b with
    | false => exact pure hm
    | true => simp only [mOp] at hm; exact hm
  case call c =>
    obtain ⟨callee, args, ts⟩ := c
    cases callee with
    | builtin b =>
      cases b <;> first | exact pure hm | exact hm | skip
      case len =>
        simp only [mOp] at hm
        split at hm
        case h_2 => simp at hm
        rename_i x t' ha ht
        have hargs : args = #[x] := by apply Array.ext'; simpa using ha
        have hts : ts = #[t'] := by apply Array.ext'; simpa using ht
        subst hargs; subst hts
        simp only [Option.map_eq_some_iff, Prod.mk.injEq] at hm
        obtain ⟨n, hn, rfl, rfl⟩ := hm
        simp only [evalOp, evalPure, callPure, List.map_cons, List.map_nil]
        cases hl : lenAV C.P t' (ρ x) with
        | none =>
          rw [hl] at hn
          simp only [Option.none_or] at hn
          simp [hl, hn, evalMem, evalMore, builtinMore, goInt]
        | some n' =>
          rw [hl] at hn
          simp only [Option.some_or, Option.some.injEq] at hn
          subst hn
          simp [hl, goInt]
      case copy =>
        simp only [mOp] at hm
        split at hm
        case h_2 => simp at hm
        rename_i x y t' u ha ht
        have hargs : args = #[x, y] := by apply Array.ext'; simpa using ha
        have hts : ts = #[t', u] := by apply Array.ext'; simpa using ht
        subst hargs; subst hts
        simp only [evalOp, evalPure, callPure, List.map_cons, List.map_nil]
        simp [evalMem, evalMore, builtinMore, hm]
    | _ => exact pure hm

end Go.Abs
end
section
/- What a walk leaves to prove: smaller than the evaluator, operation by operation. -/
set_option linter.unusedVariables false
namespace Go.Abs

/-- == of two pointers into one variable -/
def ptrEq (P : Program) (op : BinOp) (t : TypeId) (b o b2 o2 : Nat) : Option Bool := match P.underlying t with
  | some (.pointer e) => match szOf P e with
    | some n => if n = 0 then none else if b = b2 then match op with
      | .eql => some (o == o2)
      | .neq => some (!(o == o2))
      | _ => none
      else none
    | none => none
  | _ => none
def binK2 (P : Program) (op : BinOp) (t : TypeId) (x y : AV) (f : AV → Prop) : Prop := match x, y with
  | .ptr b o, .ptr b2 o2 => onSome ((ptrEq P op t b o b2 o2).map fun b => .val (.bool b)) f
  | _, _ => binK P op t x y f
theorem binAV_pp {P : Program} {op : BinOp} {t : TypeId} {b o b2 o2 : Nat} : binAV P op t (.ptr b o) (.ptr b2 o2) = none := by
  have h0 : binAV0 P op t (.ptr b o) (.ptr b2 o2) = none := by simp [binAV0, sameKind]
  simp only [binAV, h0, binMore]
theorem eqMore_pp {P : Program} {t : TypeId} {cx : Bool} {b o b2 o2 : Nat} : eqMore P t cx (.ptr b o) (.ptr b2 o2) = ptrEq P .eql t b o b2 o2 := by
  unfold eqMore ptrEq
  cases P.underlying t with
  | none => rfl
  | some u => cases u <;> rfl
theorem binK2_or {P : Program} {op : BinOp} {t : TypeId} {x y : AV} {f : AV → Prop} (h : binK2 P op t x y f) : (∃ b o b2 o2, x = .ptr b o ∧ y = .ptr b2 o2 ∧ onSome ((ptrEq P op t b o b2 o2).map fun b => .val (.bool b)) f) ∨ binK P op t x y f := by
  unfold binK2 at h
  split at h
  · exact .inl ⟨_, _, _, _, rfl, rfl, h⟩
  · exact .inr h

def wsOp (C : Ctx) (h : Hint) (o : Oper) (K : AV → Mem → Prop) (ρ : Operand → AV) (M : Mem) : Prop := match o.op with
  | .binOp op t x y _ => binK2 C.P op t (ρ x) (ρ y) (fun v => K v M)
  | .call { callee := .value f, args, .. } => callK C (ρ f) (args.toList.map ρ) M K
  | .call { callee := .builtin .append, args, argTypes } => match args.toList, argTypes.toList with
    | [s, x], [t, u] => appendK C (hintAt h.own o.dst) (hintAt h.vec o.dst) t u (ρ s) (ρ x) M K
    | _, _ => False
  | _ => onSome (mOp C h o ρ M) (fun r => K r.1 r.2)

theorem wsOp_sound {C : Ctx} {h : Hint} {o : Oper} {K : AV → Mem → Prop} {ρ : Operand → AV} {M : Mem} (hw : wsOp C h o K ρ M) : vcOp C h o K ρ M := by
  have gen : (∀ f args ts, o.op ≠ .call { callee := .value f, args := args, argTypes := ts }) → (∀ args ts, o.op ≠ .call { callee := .builtin .append, args := args, argTypes := ts }) → onSome (mOp C h o ρ M) (fun r => K r.1 r.2) → vcOp C h o K ρ M := by
    intro h1 h2 hs
    cases hm : mOp C h o ρ M with
    | none => rw [hm] at hs; exact hs.elim
    | some r =>
      obtain ⟨v, M'⟩ := r
      rw [hm] at hs
      have he := mOp_eval hm
      unfold vcOp
      split
      · rename_i heq; exact absurd heq (by intro e; exact h1 _ _ _ e)
      · rename_i heq; exact absurd heq (by intro e; exact h2 _ _ e)
      · rw [he]; exact hs
  obtain ⟨d, op, t, p, af, g⟩ := o
  unfold wsOp at hw
  simp only at hw
  split at hw
  · rename_i bop bt x y yt
    rw [vcOp_binOp]
    rcases binK2_or hw with ⟨b, o, b2, o2, hx, hy, hw⟩ | hw
    · unfold binKx
      have en : binAV C.P bop bt (.ptr b o) (.ptr b2 o2) = none := binAV_pp
      have e1 : evalPure1 C ⟨d, .binOp bop bt x y yt, t, p, af, g⟩ ρ = (ptrEq C.P bop bt b o b2 o2).map fun b => .val (.bool b) := by
        cases bop
        case eql => show (eqMore C.P bt (isConst y) (ρ x) (ρ y)).map _ = _; rw [hx, hy, eqMore_pp]
        case neq => show (eqMore C.P bt (isConst y) (ρ x) (ρ y)).map _ = _; rw [hx, hy, eqMore_pp]; unfold ptrEq; split <;> (try split) <;> (try split) <;> (try split) <;> rfl
        all_goals (unfold ptrEq; split <;> (try split) <;> (try split) <;> (try split) <;> rfl)
      rw [hx, hy, en, e1]
      simp only [Option.none_or]
      cases hp : ptrEq C.P bop bt b o b2 o2 with
      | none => rw [hp] at hw; exact hw.elim
      | some r => rw [hp] at hw; exact hw
    unfold binK at hw
    unfold binKx
    cases hb : binAV C.P bop bt (ρ x) (ρ y) with
    | some v => rw [hb] at hw; exact hw
    | none =>
      rw [hb] at hw
      simp only [Option.none_or]
      cases he : evalPure1 C ⟨d, .binOp bop bt x y yt, t, p, af, g⟩ ρ with
      | none => exact hw
      | some v =>
        have : ∃ b, v = .val (.bool b) := by
          cases bop <;> first | (simp [evalPure1] at he; done) | (simp only [evalPure1, Option.map_eq_some_iff] at he; obtain ⟨b, _, rfl⟩ := he; exact ⟨_, rfl⟩)
        obtain ⟨b, rfl⟩ := this
        exact hw.2 b
  · rename_i f args ts
    exact hw
  · rename_i args ts
    split at hw
    case h_2 => exact hw.elim
    rename_i s x t' u ha ht
    have hargs : args = #[s, x] := by apply Array.ext'; simpa using ha
    have hts : ts = #[t', u] := by apply Array.ext'; simpa using ht
    subst hargs; subst hts
    rw [vcOp_append]; exact hw
  · rename_i hne0 hne1 hne2
    exact gen hne1 hne2 hw

def wsOps (C : Ctx) (h : Hint) (ops : Array Oper) : List Oper → (Env → Mem → Prop) → Env → Mem → Prop
  | [], K, T, M => K T M
  | o :: rest, K, T, M => vcGuard ops o T (wsOp C h o (fun v M' => wsOps C h ops rest K (T.put o.dst v) M') (T.ev C) M) (wsOps C h ops rest K (T.put o.dst (.val undef)) M)

theorem wsOps_sound {C : Ctx} {h : Hint} {ops : Array Oper} {K : Env → Mem → Prop} : ∀ (l : List Oper) (T : Env) (M : Mem), wsOps C h ops l K T M → vcOps C h ops l K T M
  | [], T, M, hw => hw
  | o :: rest, T, M, hw => by
    simp only [wsOps] at hw
    simp only [vcOps]
    exact vcGuard_mono (fun h1 => vcOp_mono (fun v m h2 => wsOps_sound rest _ _ h2) (wsOp_sound h1)) (fun h1 => wsOps_sound rest _ _ h1) hw

def wsCode (C : Ctx) (h : Hint) (N : Nat) : Code → (Exit → Env → Mem → Prop) → Env → Mem → Prop
  | .skip, Q, T, M => Q .normal T M
  | .label _, Q, T, M => Q .normal T M
  | .region id ops draw, Q, T, M => if draw = true then AWp C N (.region id ops true) Q T M else wsOps C h ops ops.toList (fun T M => Q .normal T M) T M
  | .seq x y, Q, T, M => wsCode C h N x (thenK (wsCode C h N y Q) Q) T M
  | .cond c x y, Q, T, M => condV (T.ev C c) (wsCode C h N x Q T M) (wsCode C h N y Q T M)
  | .block id c, Q, T, M => wsCode C h N c (inBlockK id Q) T M
  | .exit id, Q, T, M => Q (.exit id) T M
  | .ret, Q, T, M => Q .ret T M
  | c, Q, T, M => AWp C N c Q T M

theorem wsCode_sound {C : Ctx} {h : Hint} {N : Nat} : ∀ (c : Code) (Q : Exit → Env → Mem → Prop) (T : Env) (M : Mem), codeInside N c = true → wsCode C h N c Q T M → AWp C N c Q T M
  | .skip, Q, T, M, _, hv => awp_skip hv
  | .label _, Q, T, M, _, hv => awp_label hv
  | .region id ops draw, Q, T, M, hin, hv => by
    simp only [wsCode] at hv
    cases draw with
    | true => simpa using hv
    | false => exact awp_region (by simpa [codeInside] using hin) (wsOps_sound _ _ _ (by simpa using hv))
  | .seq x y, Q, T, M, hin, hv => by
    simp only [codeInside, Bool.and_eq_true] at hin
    simp only [wsCode] at hv
    refine awp_seq ((wsCode_sound x _ T M hin.1 hv).mono ?_)
    intro e T' M' hq
    cases e with
    | normal => exact wsCode_sound y Q T' M' hin.2 hq
    | _ => exact hq
  | .cond c x y, Q, T, M, hin, hv => by
    simp only [codeInside, Bool.and_eq_true] at hin
    simp only [wsCode, condV] at hv
    split at hv
    · rename_i b hb
      refine awp_cond hin.1.1 hb (fun e => ?_) (fun e => ?_)
      · rw [if_pos e] at hv; exact wsCode_sound x Q T M hin.1.2 hv
      · rw [if_neg (by simp [e])] at hv; exact wsCode_sound y Q T M hin.2 hv
    · exact hv.elim
  | .block id c, Q, T, M, hin, hv => awp_block (wsCode_sound c _ T M (by simpa [codeInside] using hin) hv)
  | .exit id, Q, T, M, _, hv => awp_exit hv
  | .ret, Q, T, M, _, hv => awp_ret hv
  | .loop c, Q, T, M, _, hv => hv
  | .rangeFunc _ _ _ _, Q, T, M, _, hv => hv
  | .scope _, Q, T, M, _, hv => hv
  | .goto _, Q, T, M, _, hv => hv
  | .refuse _, Q, T, M, _, hv => hv

end Go.Abs
end
section
/- What a walk leaves to prove: smaller than the evaluator, operation by operation. -/
set_option linter.unusedVariables false
namespace Go.Abs

/-! ### regions whose order is open -/
def call0 (C : Ctx) (f : AV) (args : List AV) (M : Mem) (K : AV → Mem → Prop) : Prop := match f with
  | .func (.func g) first captured => ∃ r, (∀ M, Invk C g (first ++ args ++ captured) M (fun v M' => v = r ∧ M' = M)) ∧ K r M
  | _ => False
def call2 (C : Ctx) (f : AV) (args : List AV) (M : Mem) (K : AV → Mem → Prop) : Prop := match f with
  | .func (.func g) first captured => ∃ r M1, Invk C g (first ++ args ++ captured) M (fun v M' => v = r ∧ M' = M1) ∧ K r M1
  | _ => False
def wsD (C : Ctx) (h : Hint) (cls rob : Nat) (o : Oper) (ρ : Operand → AV) (M : Mem) (K : AV → Mem → Prop) : Prop := match cls with
  | 0 => match o.op with
    | .call { callee := .value f, args, .. } => call0 C (ρ f) (args.toList.map ρ) M K
    | .call { callee := .builtin .append, .. } => False
    | .alloc _ => False
    | _ => onSome (pOp C h o ρ) (fun v => K v M)
  | 1 => match o.op with
    | .load t x => readObj o ρ = some rob ∧ onSome (loadAV C.P t M (ρ x)) (fun v => K v M)
    | .lookup t m k ok => readObj o ρ = some rob ∧ onSome (lookupAV C.P t M (ρ m) (ρ k) ok) (fun v => K v M)
    | _ => False
  | 2 => match o.op with
    | .call { callee := .value f, args, .. } => call2 C (ρ f) (args.toList.map ρ) M K
    | .call { callee := .builtin .append, args, argTypes } => match args.toList, argTypes.toList with
      | [s, x], [t, u] => appendK C (hintAt h.own o.dst) (hintAt h.vec o.dst) t u (ρ s) (ρ x) M K
      | _, _ => False
    | _ => onSome (mOp C h o ρ M) (fun r => K r.1 r.2)
  | _ => False
theorem resOK_false {f : Mem → Option (AV × Mem)} {M : Mem} {K : AV → Mem → Prop} (h : onSome (f M) (fun r => K r.1 r.2)) : resOK false f M K := by
  unfold resOK
  cases hf : f M with
  | none => rw [hf] at h; exact h.elim
  | some r => rw [hf] at h; exact ⟨fun e => by simp at e, h⟩
theorem wsD_sound {C : Ctx} {h : Hint} {cls rob : Nat} {o : Oper} {ρ : Operand → AV} {M : Mem} {K : AV → Mem → Prop} (hw : wsD C h cls rob o ρ M K) : dOp C h false cls rob 0 o ρ M K := by
  have plain : ∀ c, (∀ f args ts, o.op ≠ .call { callee := .value f, args := args, argTypes := ts }) → (∀ args ts, o.op ≠ .call { callee := .builtin .append, args := args, argTypes := ts }) → (∀ e, o.op ≠ .alloc e) →
      (if c = 0 then onSome ((evalPure C h o ρ).or (evalPure1 C o ρ)) (fun v => K v M) else if c = 1 then readObj o ρ = some rob ∧ onSome (readAV C o ρ M) (fun v => K v M) else if c = 5 then storeObj o ρ = some 0 ∧ onSome (evalOp C h o ρ M) (fun r => K r.1 r.2) else c = 2 ∧ resOK false (evalOp C h o ρ) M K) → dOp C h false c rob 0 o ρ M K := by
    intro c h1 h2 h3 hp
    unfold dOp
    split
    · rename_i heq; exact absurd heq (by intro e; exact h1 _ _ _ e)
    · rename_i heq; exact absurd heq (by intro e; exact h2 _ _ e)
    · rename_i heq; exact absurd heq (by intro e; exact h3 _ e)
    · exact hp
  unfold wsD at hw
  split at hw
  · split at hw
    · rename_i f args ts hop
      obtain ⟨d, op, t, p, af, g⟩ := o
      simp only at hop
      subst hop
      simp only [dOp]
      unfold call0 at hw
      split at hw
      · rename_i g' first captured hf
        simp only [hf, if_true]
        exact hw
      · exact hw.elim
    · exact hw.elim
    · exact hw.elim
    · rename_i h1 h2 h3
      refine plain 0 (fun f args ts e => h1 _ _ _ e) (fun args ts e => h2 _ _ e) (fun e he => h3 _ he) ?_
      rw [if_pos rfl]
      cases hp : pOp C h o ρ with
      | none => rw [hp] at hw; exact hw.elim
      | some v => rw [hp] at hw; rw [pOp_eval hp]; exact hw
  · split at hw
    · rename_i lt x hop
      refine plain 1 (by simp [hop]) (by simp [hop]) (by simp [hop]) ?_
      rw [if_neg (by omega), if_pos rfl]
      refine ⟨hw.1, ?_⟩
      simp only [readAV, hop]
      exact hw.2
    · rename_i lt m k ok hop
      refine plain 1 (by simp [hop]) (by simp [hop]) (by simp [hop]) ?_
      rw [if_neg (by omega), if_pos rfl]
      refine ⟨hw.1, ?_⟩
      simp only [readAV, hop]
      exact hw.2
    · exact hw.elim
  · split at hw
    · rename_i f args ts hop
      obtain ⟨d, op, t, p, af, g⟩ := o
      simp only at hop
      subst hop
      simp only [dOp]
      unfold call2 at hw
      split at hw
      · rename_i g' first captured hf
        simp only [hf]
        rw [if_neg (by simp)]
        obtain ⟨r, M1, q1, q2⟩ := hw
        exact ⟨r, M1, by trivial, q1, fun e => by simp at e, q2⟩
      · exact hw.elim
    · rename_i args ts hop
      obtain ⟨d, op, t, p, af, g⟩ := o
      simp only at hop
      subst hop
      simp only [dOp]
      split at hw
      case h_2 => exact hw.elim
      rename_i s x t' u ha ht
      rw [ha, ht]
      obtain ⟨e, sz, bytes, q1, q2⟩ := hw
      exact ⟨e, sz, bytes, q1, by trivial, resOK_false q2⟩
    · rename_i h1 h2
      have hm : resOK false (evalOp C h o ρ) M K := by
        refine resOK_false ?_
        cases hm : mOp C h o ρ M with
        | none => rw [hm] at hw; exact hw.elim
        | some r => rw [hm] at hw; rw [mOp_eval (M' := r.2) (v := r.1) hm]; exact hw
      by_cases ha : ∃ e, o.op = .alloc e
      · obtain ⟨e, he⟩ := ha
        obtain ⟨d, op, t, p, af, g⟩ := o
        simp only at he
        subst he
        simp only [dOp]
        rw [if_neg (by simp)]
        exact ⟨by trivial, hm⟩
      · refine plain 2 (fun f args ts e => h1 _ _ _ e) (fun args ts e => h2 _ _ e) (fun e he => ha ⟨e, he⟩) ?_
        rw [if_neg (by omega), if_neg (by omega)]
        exact ⟨rfl, hm⟩
  · exact hw.elim

end Go.Abs
end
section
/- The walk of a region whose order is open. -/
set_option linter.unusedVariables false
namespace Go.Abs

def wsDraw (C : Ctx) (h : Hint) (ops : Array Oper) (cls rob : Nat → Nat) : Nat → List Oper → Env → Mem → (Env → Mem → Prop) → Prop
  | _, [], T, M, K => K T M
  | k, o :: rest, T, M, K => vcGuard ops o T (wsD C h (cls k) (rob k) o (T.ev C) M (fun v M' => wsDraw C h ops cls rob (k + 1) rest (T.put o.dst v) M' K)) (wsDraw C h ops cls rob (k + 1) rest (T.put o.dst (.val undef)) M K)
def planW (cls rob : Nat → Nat) : Plan := { cls := fun k => if cls k = 5 then 3 else cls k, rob := rob }
theorem dOp_mono0 {C : Ctx} {h : Hint} {c r : Nat} {o : Oper} {ρ : Operand → AV} {M : Mem} {K K' : AV → Mem → Prop} (hk : ∀ v m, K v m → K' v m) (hv : dOp C h false c r 0 o ρ M K) : dOp C h false c r 0 o ρ M K' := by
  have on : ∀ {α : Type} (o : Option α) (f g : α → Prop), (∀ a, f a → g a) → onSome o f → onSome o g := by
    intro α o f g hfg ho
    cases o with
    | none => exact ho
    | some a => exact hfg a ho
  have res : ∀ (fl : Bool) (f : Mem → Option (AV × Mem)) (M : Mem) (K K' : AV → Mem → Prop), (∀ v m, K v m → K' v m) → resOK fl f M K → resOK fl f M K' := by
    intro fl f M K K' hk h
    unfold resOK at h ⊢
    split at h
    · exact ⟨h.1, hk _ _ h.2⟩
    · exact h
  unfold dOp at hv ⊢
  split at hv
  · split at hv
    · split at hv
      · rename_i e; rw [if_pos e]; obtain ⟨r, q1, q2⟩ := hv; exact ⟨r, q1, hk _ _ q2⟩
      · rename_i e; rw [if_neg e]; obtain ⟨r, M1, q1, q2, q3, q4⟩ := hv; exact ⟨r, M1, q1, q2, q3, hk _ _ q4⟩
    · exact hv.elim
  · split at hv
    · obtain ⟨e, sz, bytes, h1, h1', h2⟩ := hv
      exact ⟨e, sz, bytes, h1, h1', res _ _ _ _ _ hk h2⟩
    · exact hv.elim
  · split at hv
    · rename_i e; rw [if_pos e]; exact ⟨hv.1, hv.2.1, on _ _ _ (fun a h => hk _ _ h) hv.2.2⟩
    · rename_i e; rw [if_neg e]; exact ⟨hv.1, res _ _ _ _ _ hk hv.2⟩
  · split at hv
    · rename_i e; rw [if_pos e]; exact on _ _ _ (fun a h => hk _ _ h) hv
    · rename_i e
      rw [if_neg e]
      split at hv
      · rename_i e1; rw [if_pos e1]; exact ⟨hv.1, on _ _ _ (fun a h => hk _ _ h) hv.2⟩
      · rename_i e1
        rw [if_neg e1]
        split at hv
        · rename_i e2; rw [if_pos e2]; exact ⟨hv.1, on _ _ _ (fun a h => hk _ _ h) hv.2⟩
        · rename_i e2; rw [if_neg e2]; exact ⟨hv.1, res _ _ _ _ _ hk hv.2⟩
theorem wsDraw_sound {C : Ctx} {h : Hint} {ops : Array Oper} {cls rob : Nat → Nat} {K : Env → Mem → Prop} : ∀ (l : List Oper) (k : Nat) (T : Env) (M : Mem), wsDraw C h ops cls rob k l T M K → drawRun C h ops (planW cls rob) k l T M K
  | [], k, T, M, hw => hw
  | o :: rest, k, T, M, hw => by
    simp only [wsDraw] at hw
    simp only [drawRun]
    exact vcGuard_mono (fun h1 => dOp_mono0 (fun v m h2 => ⟨fun i _ ha => by simp [planW] at ha, wsDraw_sound rest _ _ _ h2⟩) (by
      have hd := wsD_sound h1
      by_cases e : cls k = 5
      · rw [e] at h1; exact h1.elim
      · simpa only [planW, if_neg e] using hd)) (fun h1 => wsDraw_sound rest _ _ _ h1) hw
theorem awp_wsDraw {C : Ctx} {N : Nat} {h : Hint} {id : Nat} {ops : Array Oper} {Q : Exit → Env → Mem → Prop} {T : Env} {M : Mem} (hmix : C.P.follows .mixedOrders = true) (cls rob : Nat → Nat) (hin : opsInside N ops ops.toList = true) (hok : okDraw ops (planW cls fun _ => 0) = true)
    (hr : wsDraw C h ops cls rob 0 ops.toList T M (fun T M => Q .normal T M)) : AWp C N (.region id ops true) Q T M := by
  have h4 : ∀ i o, ops[i]? = some o → (planW cls rob).cls i ≠ 4 := by
    intro i o ho e
    have := (okDraw_at hok ho).2.1 e
    simp [planW] at this
  have h5 : ∀ k, (planW cls rob).cls k ≠ 5 := by
    intro k
    simp only [planW]
    split <;> omega
  have hok' : okDraw ops (planW cls rob) = true := by
    have hp : ∀ i, i < ops.size → isPut ((planW cls rob).cls i) = false := fun i hi => by
      cases e : isPut ((planW cls rob).cls i) with
      | false => rfl
      | true => rcases isPut_iff.1 e with h | h
                · exact absurd h (h4 i _ (Array.getElem?_eq_getElem hi))
                · exact absurd h (h5 i)
    have : ∀ i j, i < ops.size → j < ops.size → memConf (planW cls rob) j i = memConf (planW cls fun _ => 0) j i := by
      intro i j hi hj
      have b1 := hp i hi
      have b2 := hp j hj
      have c1 : (planW cls fun _ => 0).cls = (planW cls rob).cls := rfl
      have c2 : (planW cls fun _ => 0).aff = (planW cls rob).aff := rfl
      simp only [memConf, c1, c2, b1, b2, Bool.and_false, Bool.false_and, Bool.or_false]
    refine List.all_eq_true.2 fun i hi => ?_
    have h0 := List.all_eq_true.1 hok i hi
    have hi' := List.mem_range.1 hi
    cases ho : ops[i]? with
    | none => rfl
    | some o =>
      rw [ho] at h0
      simp only [Bool.and_eq_true] at h0 ⊢
      refine ⟨h0.1, List.all_eq_true.2 fun j hj => ?_⟩
      have h1 := List.all_eq_true.1 h0.2 j hj
      have hj' := List.mem_range.1 hj
      cases hx : ops[j]? with
      | none => rfl
      | some x =>
        rw [hx] at h1
        simp only at h1 ⊢
        rw [this i j hi' (by omega)]
        exact h1
  refine awp_draw (h := h) hmix (planW cls rob) hin hok' (fun k hk hc => ?_) (wsDraw_sound _ _ _ _ hr)
  exact absurd hc (h4 k _ (Array.getElem?_eq_getElem hk))
end Go.Abs
end
