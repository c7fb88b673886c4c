/- Operations on mutable objects; calls; regions in the order of the text. -/
import Derived.Test.YteillgpoonhdjaaAbsK
set_option linter.unusedVariables false
namespace Go.Abs

def evalMem (C : Ctx) (h : Hint) (o : Oper) (ρ : Operand → AV) (M : Mem) : Option (AV × Mem) :=
  match o.op with
  | .load t x => match ρ x with
    | .ptr b off => ((memOf M (.ptr b off)).bind (loadCells? C.P t)).map fun v => (v, M)
    | _ => none
  | .store t a x => match ρ a with
    | .ptr b off => match M[b]? with
      | some (.cells cs) => if (ρ x).storable && decide (off + (ρ x).cells.length ≤ cs.length) && decide (szOf C.P t = some (ρ x).cells.length) then
          some (.val undef, M.set b (.cells (overwrite cs off (ρ x).cells))) else none
      | _ => none
    | _ => none
  | .alloc e => match zeroCells? C.P e with
    | some z => if z.all (·.oneCell') then some (.ptr M.length 0, M ++ [.cells (z.map .val)]) else none
    | none => none
  | .box e x => if (ρ x).storable then some (.ptr M.length 0, M ++ [.cells (ρ x).cells]) else none
  | _ => none

def evalOp (C : Ctx) (h : Hint) (o : Oper) (ρ : Operand → AV) (M : Mem) : Option (AV × Mem) :=
  match evalPure C h o ρ with
  | some v => some (v, M)
  | none => evalMem C h o ρ M

section
variable {C : Ctx} {G : Ghost} {M : Mem} {w : World}

theorem run_u {P : Program} {s : Sem Unit} {w w' : World} (h : s.run P w = .ok () w') : (do s; pure .skip : Sem Next).run P w = .ok .skip w' := by
  simp only [Sem.run_bind, h, Result.andThen_ok, Sem.run_pure]

theorem mem_sound (hi : Inv C G M w) {o : Oper} {ρ : Operand → AV} {σ : Operand → Value} (hρ : ∀ x ∈ o.op.operands.toList, Rep G (ρ x) (σ x)) {hn : Hint} {v : AV} {M' : Mem} (h : evalMem C hn o ρ M = some (v, M')) : OpOk C G w (execOp σ o) v M' := by
  obtain ⟨dst, op, type, pos, after, guard⟩ := o
  simp only at hρ
  unfold evalMem at h
  simp only at h
  split at h
  · rename_i t x
    have hx := hρ x (by simp [Op.operands])
    split at h
    case h_2 => simp at h
    rename_i b off he
    rw [he] at hx
    simp only [Option.map_eq_some_iff, Option.bind_eq_some_iff, Prod.mk.injEq] at h
    obtain ⟨r, ⟨cs, hcs, hl⟩, rfl, rfl⟩ := h
    obtain ⟨u, hu, hru⟩ := load_sound hi hx hcs hl
    exact OpOk.same hi (x := u) (run_v hu) hru
  · rename_i t a x
    have ha := hρ a (by simp [Op.operands])
    have hx := hρ x (by simp [Op.operands])
    split at h
    case h_2 => simp at h
    rename_i b off he
    rw [he] at ha
    split at h
    case h_2 => simp at h
    rename_i cs hcs
    split at h
    case isFalse => simp at h
    rename_i hc
    simp only [Bool.and_eq_true, decide_eq_true_eq] at hc
    simp only [Option.some.injEq, Prod.mk.injEq] at h
    obtain ⟨rfl, rfl⟩ := h
    obtain ⟨w', h1, h2, h3⟩ := store_sound hi ha hx hcs hc.1.1 hc.2 hc.1.2
    exact ⟨_, w', G, run_u h1, .inr ⟨rfl, rfl⟩, .refl _, h2, h3⟩
  · rename_i e
    split at h
    case h_2 => simp at h
    rename_i z hz
    split at h
    case isFalse => simp at h
    rename_i hall
    simp only [Option.some.injEq, Prod.mk.injEq] at h
    obtain ⟨rfl, rfl⟩ := h
    obtain ⟨zv, hv, hvc, hvr⟩ := zero_rep (P := C.P) hz G w
    obtain ⟨G', h1, h2, h3, h4⟩ := hi.newBox e (vs := zv.cells) (by rw [hvc]; exact hvr) (fun y hy => by rw [hvc] at hy; exact List.all_eq_true.1 hall y hy)
    refine ⟨_, _, G', run_v (v := .pointer (some ⟨w.heap.size, 0, none⟩)) (w' := w.alloc (.cells zv.cells e)) ?_, .inl ⟨_, rfl, by simp only [Rep]; exact ⟨h4, by rw [h3]⟩⟩, h2, h1, Ext.alloc _ _⟩
    simp only [Instr.alloc, Sem.run_bind, hv, Result.andThen_ok, newVar, newRow, run_newObj, Sem.run_pure]
    rfl
  · rename_i e x
    have hx := hρ x (by simp [Op.operands])
    split at h
    case isFalse => simp at h
    rename_i hs
    simp only [Option.some.injEq, Prod.mk.injEq] at h
    obtain ⟨rfl, rfl⟩ := h
    obtain ⟨c1, c2⟩ := hx.cells hs
    obtain ⟨G', h1, h2, h3, h4⟩ := hi.newBox e (vs := (σ x).cells) c1 c2
    refine ⟨_, _, G', run_v (v := .pointer (some ⟨w.heap.size, 0, none⟩)) (w' := w.alloc (.cells (σ x).cells e)) ?_, .inl ⟨_, rfl, by simp only [Rep]; exact ⟨h4, by rw [h3]⟩⟩, h2, h1, Ext.alloc _ _⟩
    simp only [Instr.box, newVar, newRow, Sem.run_bind, run_newObj, Result.andThen_ok, Sem.run_pure]
    rfl
  · simp at h

theorem evalOp_sound (hi : Inv C G M w) {o : Oper} {ρ : Operand → AV} {σ : Operand → Value} (hρ : ∀ x ∈ o.op.operands.toList, Rep G (ρ x) (σ x)) {hn : Hint} {v : AV} {M' : Mem} (h : evalOp C hn o ρ M = some (v, M')) : OpOk C G w (execOp σ o) v M' := by
  unfold evalOp at h
  split at h
  · rename_i u hu
    simp only [Option.some.injEq, Prod.mk.injEq] at h
    obtain ⟨rfl, rfl⟩ := h
    exact pure_sound hi hρ hu
  · exact mem_sound hi hρ h
end

/-! ### one operation of a region, calls and append included -/
def appendOk (P : Program) (t u : TypeId) (sz bytes : Nat) (e : TypeId) : Prop := elemOf? P t = some e ∧ srcOk P u ∧ elemOk P e sz bytes

/-- a function that is entered when it is called -/
def enters (P : Program) (g : FuncId) : Prop := ∀ (args : Array Value) (w : World), (callFunc g args).run P w = .ok (.enter g args) w

/-- a slice that may be nil, held against nil -/
def nilTest (P : Program) (op : BinOp) (t : TypeId) (x y : AV) : Bool :=
  match x, y with
  | .list _ [] _, .val (.slice none 0 0) => (match op with | .eql | .neq => true | _ => false) && (match P.underlying t with | some (.slice _) => true | _ => false)
  | _, _ => false
def nilTestO (C : Ctx) (o : Oper) (ρ : Operand → AV) : Bool := match o.op with
  | .binOp op t x y _ => nilTest C.P op t (ρ x) (ρ y)
  | _ => false

def vcOp (C : Ctx) (h : Hint) (o : Oper) (K : AV → Mem → Prop) (ρ : Operand → AV) (M : Mem) : Prop :=
  match o.op with
  | .call { callee := .value f, args, .. } => match ρ f with
    | .func (.func g) first captured => enters C.P g ∧ ACalls C g (first ++ args.toList.map ρ ++ captured) M K
    | _ => False
  | .call { callee := .builtin .append, args, argTypes } => match args.toList, argTypes.toList with
    | [s, x], [t, u] => ∃ e sz bytes, appendOk C.P t u sz bytes e ∧ sizeOk sz (ρ s) ∧ sizeOk sz (ρ x) ∧ (rowsLen (ρ s) + rowsLen (ρ x)) * bytes ≤ 140737488355328 ∧
        match appendAV (hintAt h.own o.dst) sz (ρ s) (ρ x) M with
        | some (v, M') => K v M'
        | none => False
    | _, _ => False
  | _ => match evalOp C h o ρ M with
    | some (v, M') => K v M'
    | none => nilTestO C o ρ = true ∧ ∀ b, K (.val (.bool b)) M

/-- what an operation gives, on the real side -/
def OpGives (C : Ctx) (G : Ghost) (w : World) (o : Oper) (a : Act) (K : AV → Mem → Prop) : Prop :=
  ∀ (next : Act → World → Prop) (Q : Exit → Act → World → Prop),
    (∀ v M' G' w' x, K v M' → G.le G' → Inv C G' M' w' → Rep G' v x → Ext w w' → next (a.put o.dst x) w') → o.wp C.P a w next Q

theorem vcOp_sound {C : Ctx} {G : Ghost} {M : Mem} {w : World} (hi : Inv C G M w) {h : Hint} {o : Oper} {ρ : Operand → AV} {a : Act} (hρ : ∀ x ∈ o.op.operands.toList, Rep G (ρ x) (a.eval x)) {K : AV → Mem → Prop} (hv : vcOp C h o K ρ M) : OpGives C G w o a K := by
  intro next Q hK
  have simple : ∀ v M', evalOp C h o ρ M = some (v, M') → K v M' → o.wp C.P a w next Q := by
    intro v M' he hk
    obtain ⟨nx, w', G', h1, h2, h3, h4, h5⟩ := evalOp_sound hi hρ he
    unfold Oper.wp
    rw [h1]
    rcases h2 with ⟨x, rfl, hr⟩ | ⟨rfl, rfl⟩
    · exact hK v M' G' w' x hk h3 h4 hr h5
    · exact hK _ M' G' w' undef hk h3 h4 (by simp [Rep]) h5
  obtain ⟨dst, op, type, pos, after, guard⟩ := o
  unfold vcOp at hv
  simp only at hv
  split at hv
  · rename_i f args ts
    split at hv
    case h_2 => exact hv.elim
    rename_i g first captured hf
    obtain ⟨hen, hc⟩ := hv
    have hfr := hρ f (by simp [Op.operands, Call.operands])
    rw [hf] at hfr
    simp only [Rep] at hfr
    obtain ⟨fs, cs, hfv, hr1, hr2⟩ := hfr
    have hargs : RepL G (args.toList.map ρ) (args.toList.map a.eval) := repL_map args.toList (fun x hx => hρ x (by simp [Op.operands, Call.operands]; simp at hx; simp [hx]))
    have hall := (hr1.append hargs).append hr2
    have hcall := hc G w _ hi hall
    unfold Oper.wp
    have hrun : (execOp a.eval { dst := dst, op := .call { callee := .value f, args := args, argTypes := ts }, type := type, pos := pos, after := after, guard := guard }).run C.P w = .ok (.enter g (fs ++ args.map a.eval ++ cs)) w := by
      simp only [execOp, resolve, hfv, Deferred.ofValue, Sem.run_bind, Sem.run_pure, Result.andThen_ok, invoke]
      exact hen _ w
    rw [hrun]
    have e : (fs.toList ++ args.toList.map a.eval ++ cs.toList).toArray = fs ++ args.map a.eval ++ cs := by apply Array.ext'; simp
    rw [e] at hcall
    simp only [Oper.upon_enter]
    refine hcall.mono ?_
    rintro e' w' ⟨r, M', G', v, rfl, k1, k2, k3, k4, k5⟩
    exact hK r M' G' w' v k1 k2 k3 k4 k5
  · rename_i args ts
    split at hv
    case h_2 => exact hv.elim
    rename_i s x t u ha ht
    obtain ⟨e, sz, bytes, ⟨he, hu, hel⟩, hs1, hs2, hb, hm⟩ := hv
    split at hm
    case h_2 => exact hm.elim
    rename_i v M' hap
    have hargs : args = #[s, x] := by apply Array.ext'; simpa using ha
    have hts : ts = #[t, u] := by apply Array.ext'; simpa using ht
    subst hargs; subst hts
    have h1 := hρ s (by simp [Op.operands, Call.operands])
    have h2 := hρ x (by simp [Op.operands, Call.operands])
    obtain ⟨rv, w', G', k1, k2, k3, k4, k5⟩ := append_sound hi h1 h2 hs1 hs2 hap type he hu hel hb
    unfold Oper.wp
    have hrun : (execOp a.eval { dst := dst, op := .call { callee := .builtin .append, args := #[s, x], argTypes := #[t, u] }, type := type, pos := pos, after := after, guard := guard }).run C.P w = .ok (.value rv) w' := by
      simp only [execOp, resolve, Sem.run_bind, Sem.run_pure, Result.andThen_ok, invoke, builtin, List.map_toArray, List.map_cons, List.map_nil, k1]
    rw [hrun]
    exact hK v M' G' w' rv hm k2 k3 k4 k5
  · split at hv
    · rename_i v M' he
      exact simple v M' he hv
    · obtain ⟨hn, hall⟩ := hv
      unfold nilTestO at hn
      split at hn
      case h_2 => simp at hn
      rename_i bop t x y yt hop
      simp only at hop
      subst hop
      unfold nilTest at hn
      split at hn
      case h_2 => simp at hn
      rename_i sz own hx hy
      simp only [Bool.and_eq_true] at hn
      obtain ⟨hn1, hn2⟩ := hn
      have h1 := hρ x (by simp [Op.operands])
      have h2 := hρ y (by simp [Op.operands])
      rw [hx] at h1
      rw [hy] at h2
      simp only [Rep] at h1 h2
      obtain ⟨base, cap, hxv, _, _, _, _⟩ := h1
      split at hn2
      case h_2 => simp at hn2
      rename_i e hu
      have hr := run_eq_other (P := C.P) (t := t) (xv := a.eval x) (yv := a.eval y) (ox := x) (oy := y) (b := base.isNone) (w := w) (fun d => by rw [hxv, h2]; exact equalIn_slice hu d _ _ _ w) (.inr (.inl ⟨_, _, _, hxv⟩)) (.inr (.inl ⟨_, _, _, h2⟩))
      unfold Oper.wp
      split at hn1
      · have := run_v hr.1
        simp only [execOp]
        rw [this]
        exact hK _ M G w _ (hall base.isNone) (.refl _) hi (by simp [Rep]) (.refl _)
      · have := run_v hr.2
        simp only [execOp]
        rw [this]
        exact hK _ M G w _ (hall (!base.isNone)) (.refl _) hi (by simp [Rep]) (.refl _)
      · simp at hn1

/-- every slot that the operation reads lies in the frame -/
def Oper.inside (N : Nat) (o : Oper) : Bool := o.op.operands.toList.all (Operand.inside N)

def vcGuard (ops : Array Oper) (o : Oper) (T : Env) (run skip : Prop) : Prop :=
  match o.guard with
  | none => run
  | some (j, want) => match (ops[j]?).bind (·.dst) with
    | some d => match T d with
      | .val (.bool b) => if b = want then run else skip
      | .val (.tuple _) => skip
      | _ => False
    | none => False

def vcOps (C : Ctx) (h : Hint) (ops : Array Oper) : List Oper → (Env → Mem → Prop) → Env → Mem → Prop
  | [], K, T, M => K T M
  | o :: rest, K, T, M => vcGuard ops o T (vcOp C h o (fun v M' => vcOps C h ops rest K (T.put o.dst v) M') (T.ev C) M) (vcOps C h ops rest K (T.put o.dst (.val undef)) M)

def guardInside (N : Nat) (ops : Array Oper) (o : Oper) : Bool := match o.guard with
  | none => true
  | some (j, _) => match (ops[j]?).bind (·.dst) with
    | some d => decide (d < N)
    | none => true

def opsInside (N : Nat) (ops : Array Oper) (l : List Oper) : Bool := l.all fun o => Oper.inside N o && guardInside N ops o

theorem evs_rep {C : Ctx} {G : Ghost} {M : Mem} {w : World} {N : Nat} {T : Env} {a : Act} (hi : Inv C G M w) (he : RepEnv G N T a) {o : Oper} (h : Oper.inside N o = true) : ∀ x ∈ o.op.operands.toList, Rep G (T.ev C x) (a.eval x) :=
  fun x hx => ev_rep hi he x (List.all_eq_true.1 h x hx)

/-- the guard, on the real side -/
theorem guard_sound {C : Ctx} {G : Ghost} {M : Mem} {w : World} {N : Nat} {T : Env} {a : Act} (he : RepEnv G N T a) {ops : Array Oper} {o : Oper} (hg : guardInside N ops o = true) {run skip : Prop} (h : vcGuard ops o T run skip) :
    (Region.wanted o (yielded ops a.tmps) = true ∧ run) ∨ (Region.wanted o (yielded ops a.tmps) = false ∧ skip) := by
  unfold vcGuard at h
  unfold guardInside at hg
  unfold Region.wanted
  split at h
  · rename_i hn; rw [hn]; exact .inl ⟨rfl, h⟩
  · rename_i j want hs
    rw [hs] at hg ⊢
    simp only at hg
    split at h
    case h_2 => exact h.elim
    rename_i d hd
    rw [hd] at hg
    simp only [decide_eq_true_eq] at hg
    have hr := he.at_ d hg
    have hsz := he.size
    have hlt : d < a.tmps.size := hsz ▸ hg
    obtain ⟨x, hx, hrx⟩ : ∃ x, a.tmps[d]? = some x ∧ Rep G (T d) x := ⟨a.tmps[d], Array.getElem?_eq_getElem hlt, by simpa [Array.getD, hlt] using hr⟩
    have hy : yielded ops a.tmps j = match (generalizing := false) x with | .bool b => some b | _ => none := by
      unfold yielded
      simp only [hd, Option.bind_some, hx]
      cases x <;> rfl
    split at h
    · rename_i b hb
      rw [hb] at hrx
      simp only [Rep] at hrx
      subst hrx
      simp only [hy]
      by_cases e : b = want
      · rw [if_pos e] at h; exact .inl ⟨by simp [e], h⟩
      · rw [if_neg e] at h; exact .inr ⟨by simp [e], h⟩
    · rename_i vs hb
      rw [hb] at hrx
      simp only [Rep] at hrx
      subst hrx
      simp only [hy]
      exact .inr ⟨by simp, h⟩
    · exact h.elim

theorem vcOps_sound {C : Ctx} {N : Nat} {h : Hint} {ops : Array Oper} {Q : Exit → Env → Mem → Prop} : ∀ (l : List Oper) (G0 : Ghost) (w0 : World) (G : Ghost) (T : Env) (M : Mem) (w : World) (a : Act),
    opsInside N ops l = true → vcOps C h ops l (fun T M => Q .normal T M) T M → G0.le G → Ext w0 w → Inv C G M w → RepEnv G N T a → wpList C.P ops (Lift C N Q G0 w0) l a w
  | [], G0, w0, G, T, M, w, a, _, hv, hle, hext, hi, he => ⟨T, M, G, hv, hle, hi, he, hext⟩
  | o :: rest, G0, w0, G, T, M, w, a, hin, hv, hle, hext, hi, he => by
    simp only [opsInside, List.all_cons, Bool.and_eq_true] at hin
    obtain ⟨⟨ho, hg⟩, hrest⟩ := hin
    have hrest' : opsInside N ops rest = true := by simpa [opsInside] using hrest
    simp only [vcOps] at hv
    simp only [wpList]
    rcases guard_sound (C := C) (M := M) (w := w) he hg hv with ⟨hw, hr⟩ | ⟨hw, hs⟩
    · rw [if_pos hw]
      left
      refine vcOp_sound hi (evs_rep hi he ho) hr _ _ ?_
      intro v M' G' w' x hk h1 h2 h3 h4
      exact vcOps_sound rest G0 w0 G' _ M' w' _ hrest' hk (hle.trans h1) (hext.trans h4) h2 ((he.mono h1).put h3)
    · rw [if_neg (by simp [hw])]
      exact vcOps_sound rest G0 w0 G _ M w _ hrest' hs hle hext hi (he.put (by simp [Rep]))

theorem awp_region {C : Ctx} {N : Nat} {h : Hint} {id : Nat} {ops : Array Oper} {Q : Exit → Env → Mem → Prop} {T : Env} {M : Mem} (hin : opsInside N ops ops.toList = true) (hv : vcOps C h ops ops.toList (fun T M => Q .normal T M) T M) :
    AWp C N (.region id ops false) Q T M :=
  fun G w a hi he => wp_region_list (vcOps_sound ops.toList G w G T M w a hin hv (.refl _) (.refl _) hi he)
end Go.Abs
