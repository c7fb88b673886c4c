/- The texts AbsX2, AbsK: what each proves stands at its head. -/
import Derived.Test.YtiipcnbedgamdaaGreatDoorVG04
import Derived.Laws.StructEq
section
/- More operators: bits, shifts, quotients; equality of structs; conversions. -/
set_option linter.unusedVariables false
namespace Go.Abs
section
variable {C : Ctx} {G : Ghost} {M : Mem} {w : World}

theorem shiftB_sound {P : Program} {op : BinOp} {k yk : IntKind} {a b : Int} {v : Value} (h : shiftB op k a b = some v) (t : TypeId) (w : World) : (binOp op t (.int k a) (.int yk b)).run P w = .ok v w := by
  unfold shiftB at h
  split at h
  · simp at h
  rename_i hb
  split at h
  · simp only [Option.some.injEq] at h
    subst h
    simp [binOp, Op.shift, hb]
  · simp only [Option.some.injEq] at h
    subst h
    simp [binOp, Op.shift, hb]
  · simp at h

/-! ### equality -/
theorem beq_data (a b : ByteArray) : (a == b) = (a.data.toList == b.data.toList) := by
  obtain ⟨⟨x⟩⟩ := a
  obtain ⟨⟨y⟩⟩ := b
  show ((⟨x⟩ : Array UInt8) == ⟨y⟩) = (x == y)
  simp
theorem eqAV_sound {P : Program} (hP : C.P = P) : ∀ (d : Nat) (t : TypeId) (x y : AV) (b : Bool) (n : Nat) (xv yv : Value), eqAV P d t x y = some b → Rep G x xv → Rep G y yv → (Op.equalIn (d + n) t xv yv).run C.P w = .ok b w
  | 0, t, x, y, b, n, xv, yv, h, _, _ => by simp [eqAV] at h
  | d + 1, t, x, y, b, n, xv, yv, h, hx, hy => by
    subst hP
    rw [show d + 1 + n = (d + n) + 1 from by omega]
    unfold eqAV at h
    split at h
    · rename_i hu
      simp only [Option.some.injEq] at h
      subst h
      simp only [Rep] at hx hy
      subst hx; subst hy
      exact run_equalIn_bool w _ t _ _ hu
    · rename_i hu
      split at h
      · rename_i hk
        subst hk
        simp only [Option.some.injEq] at h
        subst h
        simp only [Rep] at hx hy
        subst hx; subst hy
        exact run_equalIn_int w _ t _ _ _ _ hu
      · simp at h
    · rename_i hu
      simp only [Option.some.injEq] at h
      subst h
      simp only [Rep] at hx hy
      subst hx; subst hy
      rw [run_equalIn_string w _ t _ _ hu, ← beq_toListBytes, beq_data]
    · rename_i fs xs ys hu
      split at h
      · simp at h
      rename_i hp
      simp only [Rep] at hx hy
      obtain ⟨ax, rfl, hrx, h1x⟩ := hx
      obtain ⟨ay, rfl, hry, h1y⟩ := hy
      have hf : C.P.fieldsOf t = fs := by simp [Program.fieldsOf, hu]
      rw [run_equalIn_struct w (d + n) t ax ay (by rw [hf]; exact hu) (by simpa using hp), hf]
      generalize fs.toList = l at h
      clear hu hf
      induction l with
      | nil =>
        simp only [eqFieldsAV, Option.some.injEq] at h
        subst h
        simp [Op.eqFields]
      | cons f l ih =>
        simp only [eqFieldsAV] at h
        simp only [Op.eqFields]
        by_cases hn : f.name ≠ "_"
        · rw [if_pos hn] at h ⊢
          split at h
          case isFalse => simp at h
          rename_i hfit
          simp only [Bool.and_eq_true] at hfit
          split at h
          case h_2 => simp at h
          rename_i a b' ha hb
          obtain ⟨u, hu1, hu2⟩ := part_sound (C := C) (w := w) hrx h1x hfit.1 ha
          obtain ⟨u', hv1, hv2⟩ := part_sound (C := C) (w := w) hry h1y hfit.2 hb
          simp only [Sem.run_bind, hu1, hv1, Result.andThen_ok]
          split at h
          · rename_i he
            have := eqAV_sound rfl d f.type a b' true n u u' he hu2 hv2
            simp only [this, Result.andThen_ok, Bool.not_true, Bool.false_eq_true, if_false]
            exact ih h
          · rename_i he
            have := eqAV_sound rfl d f.type a b' false n u u' he hu2 hv2
            simp only [Option.some.injEq] at h
            subst h
            simp [this]
          · simp at h
        · rw [if_neg hn] at h ⊢
          exact ih h
    · simp at h

/-! ### two operands -/
theorem binMore_sound {x y : AV} {xv yv : Value} (hx : Rep G x xv) (hy : Rep G y yv) {op : BinOp} {t : TypeId} {v : AV} (h : binMore C.P op t x y = some v) (ox oy : Operand) :
    ∃ u, (do eqGuard op t ox oy xv yv; binOp op t xv yv : Sem Value).run C.P w = .ok u w ∧ Rep G v u := by
  unfold binMore at h
  split at h
  · rename_i k a yk b
    simp only [Rep] at hx hy
    subst hx; subst hy
    have hg : (eqGuard op t ox oy (.int k a) (.int yk b)).run C.P w = .ok () w := by unfold eqGuard; split <;> rfl
    split at h
    · simp at h
    simp only [Option.map_eq_some_iff] at h
    obtain ⟨u, hu, rfl⟩ := h
    exact ⟨u, by simp only [Sem.run_bind, hg, Result.andThen_ok]; exact shiftB_sound hu t w, by simp [Rep]⟩
  · rename_i xs ys
    split at h
    · simp at h
    rename_i hgt
    have hgt' : C.P.eqGuardType C.P.depth t = false := by simpa using hgt
    have hx' := hx
    have hy' := hy
    simp only [Rep] at hx hy
    obtain ⟨ax, rfl, _, _⟩ := hx
    obtain ⟨ay, rfl, _, _⟩ := hy
    split at h
    · rename_i b he
      simp only [Option.some.injEq] at h
      subst h
      have := eqAV_sound (C := C) (w := w) rfl 30 t _ _ b 9970 _ _ he hx' hy'
      refine ⟨.bool b, ?_, by simp [Rep]⟩
      have hg : (eqGuard .eql t ox oy (.agg ax) (.agg ay)).run C.P w = .ok () w := by simp [eqGuard, hgt']
      simp only [Sem.run_bind, hg, Result.andThen_ok, run_eql_struct, this]
    · rename_i b he
      simp only [Option.some.injEq] at h
      subst h
      have := eqAV_sound (C := C) (w := w) rfl 30 t _ _ b 9970 _ _ he hx' hy'
      refine ⟨.bool (!b), ?_, by simp [Rep]⟩
      have hg : (eqGuard .neq t ox oy (.agg ax) (.agg ay)).run C.P w = .ok () w := by simp [eqGuard, hgt']
      simp only [Sem.run_bind, hg, Result.andThen_ok, run_neq_struct, this]
    · simp at h
  · rename_i f g sz lo len
    simp only [Rep] at hx hy
    obtain ⟨_, _, a, a', cap, _, _, _, rfl, _⟩ := hx
    subst hy
    split at h
    · rename_i e hu
      simp only [Option.some.injEq] at h
      subst h
      have hr := run_eq_other (P := C.P) (t := t) (xv := .slice (some a') len (cap - lo)) (yv := .slice none 0 0) (ox := ox) (oy := oy) (b := false) (w := w) (fun d => equalIn_slice hu d (some a') _ _ w) (.inr (.inl ⟨_, _, _, rfl⟩)) (.inr (.inl ⟨_, _, _, rfl⟩))
      exact ⟨_, hr.1, by simp [Rep]⟩
    · rename_i e hu
      simp only [Option.some.injEq] at h
      subst h
      have hr := run_eq_other (P := C.P) (t := t) (xv := .slice (some a') len (cap - lo)) (yv := .slice none 0 0) (ox := ox) (oy := oy) (b := false) (w := w) (fun d => equalIn_slice hu d (some a') _ _ w) (.inr (.inl ⟨_, _, _, rfl⟩)) (.inr (.inl ⟨_, _, _, rfl⟩))
      exact ⟨_, hr.2, by simp [Rep]⟩
    · simp at h
  · simp at h
theorem conv_sound {src dst : TypeId} {x v : AV} {xv : Value} (hx : Rep G x xv) (h : convAV C.P src dst x = some v) : ∃ u, (convert src dst xv).run C.P w = .ok u w ∧ Rep G v u := by
  unfold convAV at h
  split at h
  · rename_i k0 k j n h1 h2
    simp only [Option.some.injEq] at h; subst h
    simp only [Rep] at hx; subst hx
    exact ⟨.int k (k.wrap n), by simp [convert, run_underlying h1, run_underlying h2, Conv.intToInt], by simp [Rep]⟩
  · rename_i s h1 h2
    simp only [Option.some.injEq] at h; subst h
    simp only [Rep] at hx; subst hx
    exact ⟨.string s, by simp [convert, run_underlying h1, run_underlying h2], by simp [Rep]⟩
  · simp at h

theorem binAV_sound (hi : Inv C G M w) {x y : AV} {xv yv : Value} (hx : Rep G x xv) (hy : Rep G y yv) {op : BinOp} {t : TypeId} {v : AV} (h : binAV C.P op t x y = some v) (ox oy : Operand) :
    ∃ u, (do eqGuard op t ox oy xv yv; binOp op t xv yv : Sem Value).run C.P w = .ok u w ∧ Rep G v u := by
  unfold binAV at h
  split at h
  · rename_i v' hb
    simp only [Option.some.injEq] at h; subst h
    exact binAV0_sound hi hx hy hb ox oy
  · exact binMore_sound hx hy h ox oy
end
end Go.Abs
end
section
/- Operations that turn no mutable object: one theorem. -/
set_option linter.unusedVariables false
namespace Go.Abs

section
variable {C : Ctx} {G : Ghost} {M : Mem} {w : World}

theorem repL_map {σ : Operand → Value} {ρ : Operand → AV} : ∀ (l : List Operand), (∀ x ∈ l, Rep G (ρ x) (σ x)) → RepL G (l.map ρ) (l.map σ)
  | [], _ => by simp [RepL]
  | x :: l, h => by
    simp only [List.map_cons, RepL]
    exact ⟨_, _, rfl, h x (by simp), repL_map l (fun y hy => h y (by simp [hy]))⟩

theorem lenAV_sound {t : TypeId} {x : AV} {xv : Value} (hr : Rep G x xv) {n : Nat} (h : lenAV C.P t x = some n) (ts : Array TypeId) (hts : ts[0]? = some t) (ty : TypeId) : (Builtin.len_ ts ty #[xv]).run C.P w = .ok (goInt n) w := by
  unfold lenAV at h
  split at h
  · simp only [Rep] at hr; subst hr
    split at h
    · rename_i hu; simp at h; subst h; simp [Builtin.len_, hts, run_underlying hu]
    · simp at h
  · simp only [Rep] at hr; subst hr
    split at h
    · rename_i hu; simp at h; subst h; simp [Builtin.len_, hts, run_underlying hu]
    · simp at h
  · simp only [Rep] at hr; subst hr
    split at h
    · rename_i hu; simp at h; subst h; simp [Builtin.len_, hts, run_underlying hu]
    · simp at h
  · simp only [Rep] at hr
    obtain ⟨base, cap, rfl, _⟩ := hr
    split at h
    · rename_i hu; simp at h; subst h; simp [Builtin.len_, hts, run_underlying hu]
    · simp at h
  · simp only [Rep] at hr
    obtain ⟨_, _, _, a', cap, _, _, _, rfl, _⟩ := hr
    split at h
    · rename_i hu; simp at h; subst h; simp [Builtin.len_, hts, run_underlying hu]
    · simp at h
  · simp at h

theorem min2_sound {mx : Bool} {x y v : AV} {xv yv : Value} (hx : Rep G x xv) (hy : Rep G y yv) (h : min2V mx x y = some v) :
    ∃ u, (if mx then Builtin.max2 xv yv else Builtin.min2 xv yv).run C.P w = .ok u w ∧ Rep G v u := by
  unfold min2V at h
  split at h
  case h_2 => simp at h
  simp only [Rep] at hx hy
  subst hx; subst hy
  split at h
  case isFalse => simp at h
  simp at h; subst h
  cases mx
  · exact ⟨_, by simp [Builtin.min2]; rfl, by simp [Rep]⟩
  · exact ⟨_, by simp [Builtin.max2]; rfl, by simp [Rep]⟩

theorem callPure_sound {hint : Bool} {b : Builtin} {ts : Array TypeId} {args : List AV} {xs : Array Value} {v : AV} (hr : RepL G args xs.toList) (h : callPure C.P hint b ts args = some v) (ty : TypeId) (consts : Array Bool) :
    ∃ u, (builtin b ts ty consts xs).run C.P w = .ok (.value u) w ∧ Rep G v u := by
  obtain ⟨xs⟩ := xs
  simp only at hr
  unfold callPure at h
  split at h
  · rename_i x
    simp only [RepL] at hr
    obtain ⟨y, ys, rfl, hy, rfl⟩ := hr
    split at h
    · rename_i t ht
      simp only [Option.map_eq_some_iff] at h
      obtain ⟨n, hn, rfl⟩ := h
      exact ⟨goInt n, by simp [builtin, lenAV_sound (C := C) (w := w) hy hn ts ht ty], by simp [Rep]⟩
    · simp at h
  · simp only [RepL] at hr
    obtain ⟨y, _, rfl, hy, y2, _, rfl, hy2, rfl⟩ := hr
    obtain ⟨u, hu, hru⟩ := min2_sound (C := C) (w := w) hy hy2 h
    exact ⟨u, by simp at hu; simp [builtin, Builtin.max_, List.foldlM, hu], hru⟩
  · simp only [RepL] at hr
    obtain ⟨y, _, rfl, hy, y2, _, rfl, hy2, rfl⟩ := hr
    obtain ⟨u, hu, hru⟩ := min2_sound (C := C) (w := w) hy hy2 h
    exact ⟨u, by simp at hu; simp [builtin, Builtin.min_, List.foldlM, hu], hru⟩
  · simp at h

theorem box_sound (hi : Inv C G M w) {x : AV} {xv : Value} (hx : Rep G x xv) (hs : x.storable = true) (e : TypeId) :
    ∃ u w' G', (Instr.box e xv).run C.P w = .ok u w' ∧ G.le G' ∧ Inv C G' M w' ∧ Rep G' (.cptr x.cells) u ∧ Ext w w' := by
  obtain ⟨h1, h2⟩ := hx.cells hs
  have hle := Ghost.le_fix hi xv.cells.toList
  refine ⟨.pointer (some ⟨w.heap.size, 0, none⟩), w.alloc (.cells xv.cells e), G.fix w.heap.size xv.cells.toList, ?_, hle, hi.fix xv.cells e xv.cells.toList (fun i v hv => by simpa using hv), ?_, Ext.alloc _ _⟩
  · simp only [Instr.box, newVar, newRow, Sem.run_bind, run_newObj, Result.andThen_ok, Sem.run_pure]
    rfl
  · simp only [Rep]
    exact ⟨_, _, rfl, RepMem.fix hi h1 h2⟩

theorem pure_sound (hi : Inv C G M w) {o : Oper} {ρ : Operand → AV} {σ : Operand → Value} (hρ : ∀ x ∈ o.op.operands.toList, Rep G (ρ x) (σ x)) {hn : Hint} {v : AV} (h : evalPure C hn o ρ = some v) : OpOk C G w (execOp σ o) v M := by
  obtain ⟨dst, op, type, pos, after, guard⟩ := o
  simp only at hρ
  unfold evalPure at h
  simp only at h
  split at h
  · -- move
    simp only [Option.some.injEq] at h; subst h
    exact OpOk.same hi (by simp [execOp]) (hρ _ (by simp [Op.operands]))
  · simp only [Option.some.injEq] at h; subst h
    exact OpOk.same hi (by simp [execOp]) (hρ _ (by simp [Op.operands]))
  · -- pick
    rename_i c a b
    split at h
    case h_2 => simp at h
    rename_i t hc
    simp only [Option.some.injEq] at h; subst h
    have h1 := hρ c (by simp [Op.operands])
    rw [hc] at h1
    simp only [Rep] at h1
    have h2 := hρ a (by simp [Op.operands])
    have h3 := hρ b (by simp [Op.operands])
    cases t
    · exact OpOk.same hi (x := σ b) (by simp [execOp, h1, asBool]) (by simpa using h3)
    · exact OpOk.same hi (x := σ a) (by simp [execOp, h1, asBool]) (by simpa using h2)
  · -- box
    rename_i e x
    split at h
    case isFalse => simp at h
    rename_i hc
    simp only [Bool.and_eq_true] at hc
    simp only [Option.some.injEq] at h; subst h
    obtain ⟨u, w', G', h1, h2, h3, h4, h5⟩ := box_sound hi (hρ x (by simp [Op.operands])) hc.2 e
    exact ⟨_, w', G', run_v h1, .inl ⟨u, rfl, h4⟩, h2, h3, h5⟩
  · -- nilCheck
    rename_i x
    have hx := hρ x (by simp [Op.operands])
    split at h
    · rename_i b off he
      simp only [Option.some.injEq] at h; subst h
      rw [he] at hx
      have hx' := hx
      simp only [Rep] at hx
      exact OpOk.same hi (x := σ x) (by simp [execOp, hx.2]) hx'
    · rename_i cs he
      simp only [Option.some.injEq] at h; subst h
      rw [he] at hx
      have hx' := hx
      simp only [Rep] at hx
      obtain ⟨b, i, hp, _⟩ := hx
      exact OpOk.same hi (x := σ x) (by simp [execOp, hp]) hx'
    · rename_i f a c he
      simp only [Option.some.injEq] at h; subst h
      rw [he] at hx
      have hx' := hx
      simp only [Rep] at hx
      obtain ⟨fs, cs, hp, _⟩ := hx
      exact OpOk.same hi (x := σ x) (by simp [execOp, hp]) hx'
    · rename_i f g off he
      simp only [Option.some.injEq] at h; subst h
      rw [he] at hx
      have hx' := hx
      simp only [Rep] at hx
      obtain ⟨_, _, a, cap, _, hp⟩ := hx
      exact OpOk.same hi (x := σ x) (by simp [execOp, hp]) hx'
    · simp at h
  · -- binOp
    rename_i op t x y _
    obtain ⟨u, h1, h2⟩ := binAV_sound hi (hρ x (by simp [Op.operands])) (hρ y (by simp [Op.operands])) h x y
    exact OpOk.same hi (x := u) (run_v h1) h2
  · -- not
    rename_i t x
    have hx := hρ x (by simp [Op.operands])
    split at h
    case h_2 => simp at h
    rename_i b he
    simp only [Option.some.injEq] at h; subst h
    rw [he] at hx
    simp only [Rep] at hx
    exact OpOk.same hi (x := .bool !b) (by simp [execOp, hx, Op.unary]) (by simp [Rep])
  · rename_i t x
    have hx := hρ x (by simp [Op.operands])
    split at h
    case h_2 => simp at h
    rename_i k n he
    simp only [Option.some.injEq] at h; subst h
    rw [he] at hx
    simp only [Rep] at hx
    exact OpOk.same hi (x := .int k (k.wrap (0 - n))) (by simp [execOp, hx, Op.unary, Op.intArith]) (by simp [Rep])
  · -- fieldAddr
    rename_i t x f
    have hx := hρ x (by simp [Op.operands])
    split at h
    · rename_i k b off ho he
      simp only [Option.some.injEq] at h; subst h
      rw [he] at hx
      simp only [Rep] at hx
      refine OpOk.same hi (x := .pointer (some ⟨G.blk b, off + k, none⟩)) ?_ (by simp only [Rep]; exact ⟨hx.1, trivial⟩)
      have := offOf_run ho ⟨G.blk b, off, none⟩ w
      rw [Addr.add_lit] at this
      simp only [execOp, hx.2]
      exact run_v this
    · rename_i k cs ho he
      simp only [Option.some.injEq] at h; subst h
      rw [he] at hx
      simp only [Rep] at hx
      obtain ⟨b, i, hp, hm⟩ := hx
      refine OpOk.same hi (x := .pointer (some ⟨b, i + k, none⟩)) ?_ (by simp only [Rep]; exact ⟨b, i + k, rfl, hm.drop k⟩)
      have := offOf_run ho ⟨b, i, none⟩ w
      rw [Addr.add_lit] at this
      simp only [execOp, hp]
      exact run_v this
    · rename_i k f' g off ho he
      simp only [Option.some.injEq] at h; subst h
      rw [he] at hx
      simp only [Rep] at hx
      obtain ⟨q1, q2, a, cap, q3, hp⟩ := hx
      refine OpOk.same hi (x := .pointer (some ⟨a.block, a.off + (off + k), none⟩)) ?_ (by simp only [Rep]; exact ⟨q1, q2, a, cap, q3, rfl⟩)
      have := offOf_run ho ⟨a.block, a.off + off, none⟩ w
      rw [Addr.add_lit, Nat.add_assoc] at this
      simp only [execOp, hp]
      exact run_v this
    · simp at h
  · -- field
    rename_i t x f
    have hx := hρ x (by simp [Op.operands])
    split at h
    case h_2 => simp at h
    rename_i k ft cs hfo he
    split at h
    case isFalse => simp at h
    rename_i hfit
    rw [he] at hx
    simp only [Rep] at hx
    obtain ⟨ys, hp, hr, h1⟩ := hx
    obtain ⟨u, hu, hru⟩ := part_sound (C := C) (w := w) hr h1 hfit h
    refine OpOk.same hi (x := u) ?_ hru
    unfold fieldOf? at hfo
    split at hfo
    case h_2 => simp at hfo
    rename_i fs hund
    simp only [Option.map_eq_some_iff] at hfo
    obtain ⟨fx, hfx, he2⟩ := hfo
    simp at he2
    obtain ⟨rfl, rfl⟩ := he2
    simp [execOp, Instr.field, hp, run_underlying hund, hfx, asAgg, hu]
  · -- indexAddr
    rename_i t x ix
    have hx := hρ x (by simp [Op.operands])
    have hix := hρ ix (by simp [Op.operands])
    split at h
    case h_3 => simp at h
    · rename_i e sz rows own k i hel he hei
      split at h
      case isFalse => simp at h
      rename_i hc
      obtain ⟨hsz, h0, hlt⟩ := hc
      simp only [Option.some.injEq] at h; subst h
      rw [he] at hx
      rw [hei] at hix
      simp only [Rep] at hx hix
      obtain ⟨base, cap, hp, hlc, hcm, hbase, hown⟩ := hx
      cases base with
      | none => obtain ⟨rfl, _⟩ := hbase; simp at hlt; omega
      | some a =>
        obtain ⟨hsp, hrows⟩ := hbase
        have hidx : i.toNat < rows.length := by omega
        have hsp := hsp (fun e => by subst e; simp at hidx)
        have hrow := hrows.row (j := i.toNat) (r := rows[i.toNat]) (by simp [hidx])
        have ea : a.add (i.toNat * sz) = ⟨a.block, a.off + i.toNat * sz, none⟩ := by
          have ea : a = ⟨a.block, a.off, none⟩ := by cases a; simp_all
          rw [ea, Addr.add_lit]
        refine OpOk.same hi (x := .pointer (some ⟨a.block, a.off + i.toNat * sz, none⟩)) ?_ ?_
        · have hu := elemOf_und hel
          simp [execOp, Instr.indexAt, hp, hix, asIntOf, run_underlying hu, h0, hlt, run_szOf hsz, ea]
        · have : rows.getD i.toNat [] = rows[i.toNat] := by simp [List.getD, hidx]
          rw [this]
          simp only [Rep]
          exact ⟨_, _, rfl, hrow.2⟩
    · rename_i e f g sz lo len k i hel he hei
      split at h
      case isFalse => simp at h
      rename_i hc
      obtain ⟨hsz, h0, hlt⟩ := hc
      simp only [Option.some.injEq] at h; subst h
      rw [he] at hx
      rw [hei] at hix
      simp only [Rep] at hx hix
      obtain ⟨q1, q2, a, a', cap, q3, q4, q5, hp, q6, q7, q8⟩ := hx
      have ha := q8 (by omega)
      refine OpOk.same hi (x := .pointer (some ⟨a.block, a.off + (lo + i.toNat) * sz, none⟩)) ?_ (by simp only [Rep]; exact ⟨q1, q2, a, cap, q3, rfl⟩)
      have eadd : a'.add (i.toNat * sz) = ⟨a.block, a.off + (lo + i.toNat) * sz, none⟩ := by
        rw [ha, Addr.add_lit, Nat.add_mul, Nat.add_assoc]
      simp [execOp, Instr.indexAt, hp, hix, asIntOf, run_underlying (elemOf_und hel), h0, hlt, run_szOf hsz, eadd]
  · -- index of a string
    rename_i t x ix
    have hx := hρ x (by simp [Op.operands])
    have hix := hρ ix (by simp [Op.operands])
    split at h
    case h_2 => simp at h
    rename_i s k i hu he hei
    split at h
    case isFalse => simp at h
    rename_i hc
    simp only [Option.some.injEq] at h; subst h
    rw [he] at hx
    rw [hei] at hix
    simp only [Rep] at hx hix
    refine OpOk.same hi (x := .int .u8 (s.data.getD i.toNat 0).toNat) ?_ (by simp [Rep])
    have hlt : i.toNat < s.size := by omega
    have hlt' : i.toNat < s.data.size := hlt
    have e1 : s[i.toNat]? = some (s.data.getD i.toNat 0) := by
      rw [getElem?_pos s i.toNat hlt]
      simp only [Array.getD]
      rw [dif_pos hlt']
      rfl
    simp [execOp, Instr.index, hx, hix, asIntOf, run_underlying hu, hc.1, e1]
  · -- load
    rename_i t x
    have hx := hρ x (by simp [Op.operands])
    split at h
    case h_2 => simp at h
    rename_i cs he
    rw [he] at hx
    obtain ⟨u, hu, hru⟩ := load_sound hi hx (t := t) (cs := cs) (by simp [memOf]) h
    exact OpOk.same hi (x := u) (run_v hu) hru
  · -- extract
    rename_i x i
    have hx := hρ x (by simp [Op.operands])
    split at h
    case h_2 => simp at h
    rename_i vs he
    rw [he] at hx
    simp only [Rep] at hx
    obtain ⟨ys, hp, hr⟩ := hx
    obtain ⟨y, hy, hry⟩ := hr.get h
    have : ys[i]? = some y := by simpa using hy
    exact OpOk.same hi (x := y) (by simp [execOp, Instr.extract, hp, this]) hry
  · -- makeFunc
    rename_i fn f c
    simp only [Option.some.injEq] at h; subst h
    refine OpOk.same hi (x := .func fn (f.map σ) (c.map σ)) (by simp [execOp, Instr.makeFunc]) ?_
    simp only [Rep]
    refine ⟨_, _, rfl, ?_, ?_⟩
    · simpa using repL_map (G := G) (ρ := ρ) (σ := σ) f.toList (fun x hx => hρ x (by simp [Op.operands]; simp at hx; simp [hx]))
    · simpa using repL_map (G := G) (ρ := ρ) (σ := σ) c.toList (fun x hx => hρ x (by simp [Op.operands]; simp at hx; simp [hx]))
  · -- slice
    rename_i t x lo hi' mx
    have hx := hρ x (by simp [Op.operands])
    have hlo : ∀ a, lo.map ρ = some a → ∃ y, lo.map σ = some y ∧ Rep G a y := fun a ha => by
      cases lo with
      | none => simp at ha
      | some q => simp at ha; subst ha; exact ⟨_, rfl, hρ q (by simp [Op.operands])⟩
    have hhi : ∀ a, hi'.map ρ = some a → ∃ y, hi'.map σ = some y ∧ Rep G a y := fun a ha => by
      cases hi' with
      | none => simp at ha
      | some q => simp at ha; subst ha; exact ⟨_, rfl, hρ q (by simp [Op.operands])⟩
    have hmx : ∀ a, mx.map ρ = some a → ∃ y, mx.map σ = some y ∧ Rep G a y := fun a ha => by
      cases mx with
      | none => simp at ha
      | some q => simp at ha; subst ha; exact ⟨_, rfl, hρ q (by simp [Op.operands])⟩
    by_cases hvr : ∃ f g sz lo0 len, ρ x = .vref f g sz lo0 len
    · obtain ⟨f, g, sz, lo0, len, hvr⟩ := hvr
      rw [hvr] at h hx
      obtain ⟨u, hu, hru⟩ := vslice_sound (C := C) (G := G) (w := w) hx hlo (by cases lo <;> simp) hhi (by cases hi' <;> simp) hmx (by cases mx <;> simp) h
      exact OpOk.same hi (x := u) (run_v hu) hru
    have hsl : slice2 C.P t (ρ x) (lo.map ρ) (hi'.map ρ) (mx.map ρ) = sliceAV C.P t (ρ x) (lo.map ρ) (hi'.map ρ) (mx.map ρ) := by
      unfold slice2
      split
      · rename_i e; exact absurd ⟨_, _, _, _, _, e⟩ hvr
      · rfl
    rw [hsl] at h
    by_cases hs : ∃ s, ρ x = .val (.string s)
    · obtain ⟨s, hs⟩ := hs
      rw [hs] at h hx
      simp only [Rep] at hx
      cases mx with
      | some q => simp [sliceAV] at h
      | none =>
        obtain ⟨u, hu, hru⟩ := slice_string_sound (C := C) (G := G) (w := w) hlo (by cases lo <;> simp) hhi (by cases hi' <;> simp) h
        refine OpOk.same hi (x := u) ?_ hru
        simp only [execOp, hx]
        exact run_v hu
    · cases he : ρ x with
      | list sz rows own =>
        rw [he] at h hx
        obtain ⟨u, hu, hru, _⟩ := slice_list_sound (C := C) (G := G) (w := w) hx hlo (by cases lo <;> simp) hhi (by cases hi' <;> simp) hmx (by cases mx <;> simp) h
        exact OpOk.same hi (x := u) (run_v hu) hru
      | val v =>
        cases v with
        | string s => exact absurd ⟨s, he⟩ hs
        | slice a n c =>
          rw [he] at h hx
          simp only [Rep] at hx
          have hnil : a = none ∧ n = 0 ∧ c = 0 := by
            unfold sliceAV at h
            split at h
            · rename_i heq; simp at heq
            · rename_i heq; simp at heq
            · rename_i heq; simpa using heq
            · simp at h
          obtain ⟨rfl, rfl, rfl⟩ := hnil
          simp only [sliceAV] at h
          split at h
          case h_2 => simp at h
          split at h
          case h_2 => simp at h
          rename_i sz _
          have hx' : Rep G (.list sz [] .full) (σ x) := by
            rw [hx]
            exact rep_list (by simp) (Nat.le_refl _) (by simp [maxLen]) ⟨rfl, rfl⟩ rfl
          simp only [Option.map_eq_some_iff] at h
          obtain ⟨v', h, rfl⟩ := h
          obtain ⟨u, hu, hru, hnil⟩ := slice_list_sound (C := C) (G := G) (w := w) hx' hlo (by cases lo <;> simp) hhi (by cases hi' <;> simp) hmx (by cases mx <;> simp) h
          exact OpOk.same hi (x := u) (run_v hu) (by rw [hnil hx]; simp [Rep])
        | _ => rw [he] at h; simp [sliceAV] at h
      | _ => rw [he] at h; simp [sliceAV] at h
  · -- convert
    rename_i src dst x
    obtain ⟨u, h1, h2⟩ := conv_sound (C := C) (w := w) (hρ x (by simp [Op.operands])) h
    exact OpOk.same hi (x := u) (run_v h1) h2
  · -- build
    rename_i t parts
    split at h
    case h_2 => simp at h
    rename_i z fs hz hu
    split at h
    · simp at h
    rename_i hc
    simp only [Bool.or_eq_true, Bool.not_eq_true', not_or, Bool.not_eq_false] at hc
    simp only [Option.map_eq_some_iff] at h
    obtain ⟨cs, hcs, rfl⟩ := h
    obtain ⟨u, hu', hru⟩ := build_sound (C := C) (G := G) (w := w) hu hc.1 hz hc.2 (xs := parts.map fun (i, x) => (i, σ x)) (by simp) (fun j p x hp hx => by
      simp only [List.getElem?_map, Option.map_eq_some_iff] at hp
      obtain ⟨q, hq, rfl⟩ := hp
      simp only [Array.toList_map, List.getElem?_map, Option.map_eq_some_iff] at hx
      obtain ⟨q', hq', rfl⟩ := hx
      rw [hq] at hq'
      simp at hq'
      subst hq'
      exact ⟨rfl, hρ _ (by simp [Op.operands]; exact ⟨_, by simpa using List.mem_of_getElem? hq⟩)⟩) hcs
    exact OpOk.same hi (x := u) (run_v hu') hru
  · -- buildSlice
    rename_i t n parts
    split at h
    case isTrue => simp at h
    split at h
    case h_2 => simp at h
    rename_i e he
    split at h
    case h_2 => simp at h
    rename_i sz z hs hz
    split at h
    case isFalse => simp at h
    rename_i hc
    obtain ⟨c1, c2, c3, c4⟩ := hc
    simp only [Option.map_eq_some_iff] at h
    obtain ⟨rows, hrows, rfl⟩ := h
    obtain ⟨u, w', G', h1, h2, h3, h4, h5⟩ := buildSlice_sound (C := C) (G := G) (w := w) hi he hs hz c3 c2 c4 c1 (xs := parts.map fun (i, x) => (i, σ x)) (by simp) (fun j p x hp hx => by
      simp only [List.getElem?_map, Option.map_eq_some_iff] at hp
      obtain ⟨q, hq, rfl⟩ := hp
      simp only [Array.toList_map, List.getElem?_map, Option.map_eq_some_iff] at hx
      obtain ⟨q', hq', rfl⟩ := hx
      rw [hq] at hq'
      simp at hq'
      subst hq'
      exact ⟨rfl, hρ _ (by simp [Op.operands]; exact ⟨_, by simpa using List.mem_of_getElem? hq⟩)⟩) hrows
    exact ⟨_, w', G', run_v h1, .inl ⟨u, rfl, h4⟩, h2, h3, h5⟩
  · -- a builtin
    rename_i b args ts
    obtain ⟨u, hu, hru⟩ := callPure_sound (C := C) (w := w) (xs := args.map σ) (by simpa using repL_map (G := G) (ρ := ρ) (σ := σ) args.toList (fun x hx => hρ x (by simp [Op.operands, Call.operands]; simpa using hx))) h type (args.map fun | .const _ => true | _ => false)
    exact OpOk.same hi (x := u) (by simp only [execOp, resolve, invoke, Sem.run_bind, Sem.run_pure, Result.andThen_ok]; exact hu) hru
  · simp at h
end
end Go.Abs
end
