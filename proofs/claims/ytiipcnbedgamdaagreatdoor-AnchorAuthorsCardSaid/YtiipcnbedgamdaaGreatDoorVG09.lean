/- The texts AbsX10, AbsX11, AbsX12, AbsL, AbsM: what each proves stands at its head. -/
import Derived.Test.YtiipcnbedgamdaaGreatDoorVG08
import Derived.Lib.UnsafeStr
section
/- unsafe.SliceData and unsafe.String. -/
set_option linter.unusedVariables false
namespace Go.Abs
section
variable {C : Ctx} {G : Ghost} {M : Mem} {w : World}

def sliceDataAV (M : Mem) (x : AV) : Option AV := match x with
  | .val (.slice none 0 0) => some (.val (.pointer none))
  | .vref f g sz lo len => match M[f]? with
    | some (.vec _ _ _ _ hist) => match hist.lookup g with
      | some n => if lo < n then some (.vptr f g (lo * sz)) else none
      | none => none
    | _ => none
  | _ => none

theorem sliceData_sound (hi : Inv C G M w) {x : AV} {xv : Value} (hx : Rep G x xv) (ts : Array TypeId) (ty : TypeId) {v : AV} (h : sliceDataAV M x = some v) :
    ∃ u, (Builtin.unsafeSliceData_ ts ty #[xv]).run C.P w = .ok u w ∧ Rep G v u := by
  unfold sliceDataAV at h
  split at h
  · simp only [Option.some.injEq] at h
    subst h
    simp only [Rep] at hx
    subst hx
    exact ⟨_, rfl, by simp [Rep]⟩
  · rename_i f g sz lo len
    split at h
    case h_2 => simp at h
    rename_i ety sz2 cs g' hist hM
    split at h
    case h_2 => simp at h
    rename_i n hn
    split at h
    case isFalse => simp at h
    rename_i hlt
    simp only [Option.some.injEq] at h
    subst h
    simp only [Rep] at hx
    obtain ⟨hf, hg, a, a', cap, hdr, hsp, hsp', rfl, hle, hcm, ha'⟩ := hx
    obtain ⟨_, p2, _⟩ := hi.obj f _ hM
    obtain ⟨_, _, b, o, cap', vs, q1, q2, _⟩ := p2 g n (lookup_mem hn)
    have hdr' := hdr
    rw [q1] at hdr
    simp only [Prod.mk.injEq, Option.some.injEq] at hdr
    obtain ⟨rfl, rfl⟩ := hdr
    refine ⟨_, Lib.run_unsafeSliceData_row w ts ty a' len (cap' - lo) (by omega), ?_⟩
    simp only [Rep]
    exact ⟨hf, hg, _, cap', hdr', by rw [ha' (by omega)]⟩
  · simp at h

/-- the cells are bytes -/
def bytes? : List AV → Option (List UInt8)
  | [] => some []
  | .val (.int .u8 n) :: cs => if 0 ≤ n ∧ n < 256 then (bytes? cs).map (UInt8.ofNat n.toNat :: ·) else none
  | _ => none
theorem bytes?_rep : ∀ (cs : List AV) (l : List UInt8) (vs : List Value), bytes? cs = some l → RepL G cs vs → vs = Lib.byteCells l
  | [], l, vs, h, hr => by
    simp only [bytes?, Option.some.injEq] at h
    subst h
    simp only [RepL] at hr
    subst hr; rfl
  | c :: cs, l, vs, h, hr => by
    unfold bytes? at h
    split at h
    · rename_i h1; simp at h1
    · rename_i n cs' he
      simp only [List.cons.injEq] at he
      obtain ⟨rfl, rfl⟩ := he
      split at h
      case isFalse => simp at h
      rename_i hc
      simp only [Option.map_eq_some_iff] at h
      obtain ⟨l', hl', rfl⟩ := h
      simp only [RepL] at hr
      obtain ⟨y, ys, rfl, hy, hys⟩ := hr
      simp only [Rep] at hy
      subst hy
      have := bytes?_rep _ _ _ hl' hys
      subst this
      have hn : ((UInt8.ofNat n.toNat).toNat : Int) = n := by
        rw [UInt8.toNat_ofNat']
        omega
      simp only [Lib.byteCells, List.map_cons, hn]
    · simp at h

def unsafeStrAV (P : Program) (pt : TypeId) (M : Mem) (p n : AV) : Option (AV × Mem) := match n with
  | .val (.int .i64 n) => if n = 0 then (match p with
      | .val (.pointer none) => some (.val (.string .empty), M)
      | .vptr _ _ _ => some (.val (.string .empty), M)
      | _ => none) else match p with
    | .vptr f g off => match P.underlying pt, M[f]? with
      | some (.pointer e), some (.vec ty 1 cs _ hist) => match hist.lookup g with
        | some m => if 0 < n ∧ off + n.toNat ≤ m ∧ ty = e ∧ P.cellsOf e = 1 ∧ n ≤ 9223372036854775807 then match bytes? ((cs.drop off).take n.toNat) with
            | some l => some (.val (.string ⟨l.toArray⟩), M.set f .gone)
            | none => none
          else none
        | none => none
      | _, _ => none
    | _ => none
  | _ => none

theorem liesAt_at {P : Program} {e : TypeId} (hc : P.cellsOf e = 1) (count off n : Nat) (hn : off + n ≤ count) : liesAt P P.depth e count off e n = true := by
  have hd : P.depth = (2 * (P.types.size + Made.depth) + 1) + 1 := rfl
  rw [hd]
  simp only [liesAt, Bool.or_eq_true]
  left
  rw [hd]
  simp [rowAt, hc, hn, sameLayout, Nat.mod_one]

theorem run_unsafeString_at {P : Program} (w : World) (pt it ty e : TypeId) (hp : P.underlying pt = some (.pointer e)) (hc : P.cellsOf e = 1) (g o cells : Nat) (hsh : w.shape? g = some (e, cells)) (l : List UInt8) (h0 : l ≠ []) (hn : o + l.length ≤ cells) (h63 : l.length ≤ 9223372036854775807)
    (hcell : ∀ j x, l[j]? = some x → w.cell? ((⟨g, o, none⟩ : Addr).add j) = some (.int .u8 x.toNat)) :
    (Builtin.unsafeString_ #[pt, it] ty #[.pointer (some ⟨g, o, none⟩), .int .i64 l.length]).run P w = .ok (.string ⟨l.toArray⟩) (w.freeze ⟨g, o, none⟩ l.length) := by
  have hl : l.length ≠ 0 := by simpa using h0
  have hlb := Lib.run_loadBytes (P := P) w l ⟨g, o, none⟩ .empty hcell
  have hlies := liesAt_at (P := P) hc (cells / P.cellsOf e) o l.length (by rw [hc]; simpa using hn)
  have h63' : ¬ (9223372036854775807 : Int) < (l.length : Int) := by omega
  have hdef : Builtin.unsafeString_ #[pt, it] ty #[.pointer (some ⟨g, o, none⟩), .int .i64 l.length] =
      (do
        let n ← asInt (.int .i64 l.length)
        if n < 0 then runtimePanic (.error "unsafe.String: len out of range")
        if n > IntKind.i64.max then unsupported (.unsafePointer "String: a length above the largest int")
        if n = 0 then pure (.string .empty)
        else if ← variablesAt ⟨g, o, none⟩ (← elemOf pt) n.toNat then do
          let s ← loadBytes ⟨g, o, none⟩ .empty n.toNat
          freeze ⟨g, o, none⟩ n.toNat
          pure (.string s)
        else unsupported (.unsafePointer "String: not so many bytes at ptr")) := rfl
  rw [hdef]
  have hmax : IntKind.i64.max = 9223372036854775807 := rfl
  have hneg : ¬ (l.length : Int) < 0 := by omega
  simp [asInt, asIntOf, hmax, h63', hneg, hl, variablesAt, hsh, elemOf, run_underlying hp, hlies, hlb]

/-- the cells of a block are frozen: they read as before -/
theorem freeze_heap (w : World) (a : Addr) (n b : Nat) (h : b ≠ a.block) : (w.freeze a n).heap[b]? = w.heap[b]? := by
  unfold World.freeze
  split
  · rfl
  · simp only [Array.getElem?_modify]
    rw [if_neg (fun e => h e.symm)]
theorem freeze_size (w : World) (a : Addr) (n : Nat) : (w.freeze a n).heap.size = w.heap.size := by
  unfold World.freeze
  split
  · rfl
  · simp

theorem unsafeStr_sound (hi : Inv C G M w) {p n : AV} {pv nv : Value} (hp : Rep G p pv) (hn : Rep G n nv) {pt it ty : TypeId} {v : AV} {M' : Mem} (h : unsafeStrAV C.P pt M p n = some (v, M')) :
    ∃ u w', (Builtin.unsafeString_ #[pt, it] ty #[pv, nv]).run C.P w = .ok u w' ∧ Inv C G M' w' ∧ Rep G v u ∧ Ext w w' := by
  unfold unsafeStrAV at h
  split at h
  case h_2 => simp at h
  rename_i n
  simp only [Rep] at hn
  subst hn
  split at h
  · rename_i h0
    subst h0
    split at h
    · simp only [Option.some.injEq, Prod.mk.injEq] at h
      obtain ⟨rfl, rfl⟩ := h
      simp only [Rep] at hp
      subst hp
      exact ⟨_, w, Lib.run_unsafeString_none w _ _ _ _, hi, by simp [Rep], .refl _⟩
    · simp only [Option.some.injEq, Prod.mk.injEq] at h
      obtain ⟨rfl, rfl⟩ := h
      simp only [Rep] at hp
      obtain ⟨_, _, a, cap, _, rfl⟩ := hp
      exact ⟨_, w, Lib.run_unsafeString_none w _ _ _ _, hi, by simp [Rep], .refl _⟩
    · simp at h
  · rename_i h0
    split at h
    case h_2 => simp at h
    rename_i f g off
    split at h
    case h_2 => simp at h
    rename_i e ety cs g' hist hu hM
    split at h
    case h_2 => simp at h
    rename_i m hm
    split at h
    case isFalse => simp at h
    rename_i hc
    obtain ⟨hpos, hfit, rfl, hcell1, h63⟩ := hc
    split at h
    case h_2 => simp at h
    rename_i l hl
    simp only [Option.some.injEq, Prod.mk.injEq] at h
    obtain ⟨rfl, rfl⟩ := h
    simp only [Rep] at hp
    obtain ⟨hf, hg, a, cap, hdr, rfl⟩ := hp
    obtain ⟨_, p2, _⟩ := hi.obj f _ hM
    obtain ⟨_, q0, b, o, cap', vs, q1, q2, q3, q4, q5, q6, q7, q8, q9⟩ := p2 g m (lookup_mem hm)
    rw [q1] at hdr
    simp only [Prod.mk.injEq, Option.some.injEq] at hdr
    obtain ⟨rfl, rfl⟩ := hdr
    simp only [Nat.mul_one] at q0 q5 q6 q7
    -- the cells
    have hsub : RepL G ((cs.drop off).take n.toNat) ((vs.toList.drop (o + off)).take n.toNat) := by
      have h1 := (q6.drop off).take n.toNat
      rw [List.drop_take, List.take_take, List.drop_take, List.take_take, List.drop_drop] at h1
      rw [Nat.min_eq_left (by omega)] at h1
      exact h1
    have hvs := bytes?_rep _ _ _ hl hsub
    have hllen : l.length = n.toNat := by
      have := congrArg List.length hvs
      rw [Lib.byteCells_length, List.length_take, List.length_drop, Array.length_toList] at this
      omega
    have hnn : (n : Int) = (l.length : Int) := by omega
    have hrun := run_unsafeString_at (P := C.P) w pt it ty ety hu hcell1 b (o + off) vs.size (by simp [World.shape?, q4]) l (by intro e; subst e; simp at hllen; omega) (by omega) (by omega) (fun j x hx => by
      have h1 : (Lib.byteCells l)[j]? = some (.int .u8 x.toNat) := by simp [Lib.byteCells, hx]
      rw [← hvs, List.getElem?_take] at h1
      split at h1
      · rw [List.getElem?_drop] at h1
        rw [Addr.add_lit, cell_of_row _ _ _ _ _ _ q4]
        simpa using h1
      · simp at h1)
    rw [hnn]
    refine ⟨_, _, hrun, ?_, by simp [Rep], ?_⟩
    · refine hi.step f b hM (.inl ⟨g, m, _, lookup_mem hm, congrArg Prod.fst q1, rfl⟩) (.refl _) rfl (fun _ => rfl) (fun _ _ => ⟨rfl, rfl⟩) (fun b i v h => .inl h) (fun _ => rfl) (fun c _ hne => freeze_heap w _ _ _ hne)
        (fun i v hv => by rw [q8 i] at hv; simp at hv) (fun o ho => by rw [q9] at ho; simp at ho) trivial (fun b hb => hb.elim)
    · unfold World.freeze
      split
      · exact .refl _
      · exact ⟨rfl, rfl, rfl, by simp⟩
end
end Go.Abs
end
section
/- append where the array is known to have room. -/
set_option linter.unusedVariables false
namespace Go.Abs
section
variable {C : Ctx} {G : Ghost} {M : Mem} {w : World}

theorem run_app_room2 {P : Program} {t u e : TypeId} {ty : TypeId} {sz : Nat} {x : Value} {a : Addr} {n cap m : Nat} {w w' : World} (ht : P.underlying t = some (.slice e)) (hsz : szOf P e = some sz)
    (hu : srcOk P u) (hx : ∀ w, (Builtin.lenOf x).run P w = .ok m w)
    {news : List Value} (hfx : (Builtin.firstCells sz m x).run P w = .ok news.toArray w) (hle : n + m ≤ cap) (hst : (storeCells (a.add (n * sz)) news).run P w = .ok () w') :
    (Builtin.append_ #[t, u] ty #[.slice (some a) n cap, x]).run P w = .ok (.slice (some a) (n + m) cap) w' := by
  obtain ⟨e2, hu⟩ | hu := hu
  all_goals
   simp [Builtin.append_, run_underlying ht, run_underlying hu, run_szOf hsz, hx, hfx, hle, hst]

def vappIn (e : TypeId) (sz : Nat) (s x : AV) (M : Mem) : Option (AV × Mem) :=
  match srcCells M sz x, s with
  | some (news, m), .vref f h s' lo len => match M[f]? with
    | some (.vec e2 s2 cs g hist) => match hist.lookup h with
      | some n => if e2 = e ∧ s' = sz ∧ s2 = sz ∧ 0 < m ∧ lo + len + m ≤ n then
          some (.vref f h sz lo (len + m), M.set f (.vec e sz (overwrite cs ((lo + len) * sz) news) g (keepHist sz h ((lo + len) * sz) hist)))
        else none
      | none => none
    | _ => none
  | _, _ => none

theorem vappIn_sound (hi : Inv C G M w) {s x : AV} {sv xv : Value} (hs : Rep G s sv) (hx : Rep G x xv) {t u e ty : TypeId} {sz : Nat} (ht : C.P.underlying t = some (.slice e)) (hu : srcOk C.P u)
    (hszo : szOf C.P e = some sz) {v : AV} {M' : Mem} (h : vappIn e sz s x M = some (v, M')) :
    ∃ r w', (Builtin.append_ #[t, u] ty #[sv, xv]).run C.P w = .ok r w' ∧ Inv C G M' w' ∧ Rep G v r ∧ Ext w w' := by
  unfold vappIn at h
  split at h
  case h_2 => simp at h
  rename_i news m f h' s' lo len hsrc
  obtain ⟨vs2, hr2, hlen2, hone2, hlx, hfx⟩ := srcCells_rep hi hx hsrc
  split at h
  case h_2 => simp at h
  rename_i e2 s2 cs g hist hM
  split at h
  case h_2 => simp at h
  rename_i n hn
  split at h
  case isFalse => simp at h
  rename_i hc
  obtain ⟨rfl, rfl, rfl, hm0, hfit⟩ := hc
  simp only [Option.some.injEq, Prod.mk.injEq] at h
  obtain ⟨rfl, rfl⟩ := h
  simp only [Rep] at hs
  obtain ⟨hf, hg, a, a', cap, hdr, hsp, hsp', rfl, hle, hcm, ha'⟩ := hs
  obtain ⟨_, p2, _⟩ := hi.obj f _ hM
  obtain ⟨_, q0, b, o, cap', vs, q1, q2, _⟩ := p2 h' n (lookup_mem hn)
  have hdr' := hdr
  rw [q1] at hdr
  simp only [Prod.mk.injEq, Option.some.injEq] at hdr
  obtain ⟨rfl, rfl⟩ := hdr
  have ha := ha' (by omega)
  subst ha
  have hnl : news.length = m * s2 := by rw [← hr2.length]; exact hlen2
  have hb : (lo + len) * s2 + news.length ≤ n * s2 := by
    rw [hnl, ← Nat.add_mul]; exact Nat.mul_le_mul_right _ (by omega)
  obtain ⟨a2, w', e2', hst, h2, h3⟩ := vset_sound hi (f := f) (g := h') (off := (lo + len) * s2) (x := .pointer (some ⟨b, o + (lo + len) * s2, none⟩)) (by simp only [Rep]; exact ⟨hf, hg, _, cap', hdr', rfl⟩) hr2 hone2 hM hn hb
  simp only [Value.pointer.injEq, Option.some.injEq] at e2'
  subst e2'
  have hst' : (storeCells ((⟨b, o + lo * s2, none⟩ : Addr).add (len * s2)) vs2).run C.P w = .ok () w' := by
    rw [Addr.add_lit, Nat.add_assoc, ← Nat.add_mul]; exact hst
  refine ⟨_, w', run_app_room2 ht hszo hu hlx (hfx w rfl) (by omega) hst', h2, ?_, h3⟩
  simp only [Rep]
  exact ⟨hf, hg, _, _, cap', hdr', rfl, rfl, rfl, by omega, hcm, fun _ => rfl⟩
end
end Go.Abs
end
section
/- The further operations of a run that is reckoned. -/
set_option linter.unusedVariables false
namespace Go.Abs
section
variable {C : Ctx} {G : Ghost} {M : Mem} {w : World}

def builtinX (P : Program) (b : Builtin) (ts : List TypeId) (args : List AV) (M : Mem) : Option (AV × Mem) := match b, ts, args with
  | .clear, [t], [x] => clearAV P t M x
  | .unsafeSliceData, _, [x] => (sliceDataAV M x).map fun v => (v, M)
  | .unsafeString, [pt, it], [p, n] => unsafeStrAV P pt M p n
  | _, _, _ => none

theorem builtinX_sound (hi : Inv C G M w) {b : Builtin} {ts : Array TypeId} {args : List AV} {xs : Array Value} (hr : RepL G args xs.toList) {v : AV} {M' : Mem} (h : builtinX C.P b ts.toList args M = some (v, M')) (ty : TypeId) (consts : Array Bool) :
    ∃ u w', (builtin b ts ty consts xs).run C.P w = .ok (.value u) w' ∧ Inv C G M' w' ∧ Rep G v u ∧ Ext w w' := by
  obtain ⟨xs⟩ := xs
  obtain ⟨ts⟩ := ts
  simp only at hr h
  unfold builtinX at h
  split at h
  · simp only [RepL] at hr
    obtain ⟨y, _, rfl, hy, rfl⟩ := hr
    obtain ⟨r, w', h1, h2, h3, h4⟩ := clear_sound (ty := ty) hi hy h
    exact ⟨r, w', by simp only [builtin, Sem.run_bind, h1, Result.andThen_ok, Sem.run_pure], h2, h3, h4⟩
  · simp only [RepL] at hr
    obtain ⟨y, _, rfl, hy, rfl⟩ := hr
    simp only [Option.map_eq_some_iff, Prod.mk.injEq] at h
    obtain ⟨v', hv, rfl, rfl⟩ := h
    obtain ⟨u, h1, h2⟩ := sliceData_sound hi hy ts.toArray ty hv
    exact ⟨u, w, by simp only [builtin, Sem.run_bind, h1, Result.andThen_ok, Sem.run_pure], hi, h2, .refl _⟩
  · rename_i pt it p n
    simp only [RepL] at hr
    obtain ⟨y, _, rfl, hy, y2, _, rfl, hy2, rfl⟩ := hr
    obtain ⟨r, w', h1, h2, h3, h4⟩ := unsafeStr_sound (ty := ty) (it := it) hi hy hy2 h
    exact ⟨r, w', by simp only [builtin, Sem.run_bind, h1, Result.andThen_ok, Sem.run_pure], h2, h3, h4⟩
  · simp at h

def evalX (C : Ctx) (o : Oper) (ρ : Operand → AV) (M : Mem) : Option (AV × Mem) := match o.op with
  | .range t x => rangeAV C.P t (ρ x) M
  | .next x true => nextAV (ρ x) M
  | .slice t x lo hi mx => (sliceMore C.P t M (ρ x) (lo.map ρ) (hi.map ρ) (mx.map ρ)).map fun v => (v, M)
  | .convert s d x => match bytesAV C.P s d (ρ x) with
    | some v => some (v, M)
    | none => (convU C.P s d M (ρ x)).map fun v => (v, M)
  | .call { callee := .builtin b, args, argTypes } => builtinX C.P b argTypes.toList (args.toList.map ρ) M
  | _ => none

theorem x_sound (hi : Inv C G M w) {o : Oper} {ρ : Operand → AV} {σ : Operand → Value} (hρ : ∀ x ∈ o.op.operands.toList, Rep G (ρ x) (σ x)) {v : AV} {M' : Mem} (h : evalX C o ρ M = some (v, M')) : OpOk C G w (execOp σ o) v M' := by
  obtain ⟨dst, op, type, pos, after, guard⟩ := o
  simp only at hρ
  unfold evalX at h
  simp only at h
  split at h
  · rename_i t x
    obtain ⟨u, w', G', h1, h2, h3, h4, h5⟩ := range_sound hi (hρ x (by simp [Op.operands])) h
    exact ⟨_, w', G', run_v h1, .inl ⟨u, rfl, h4⟩, h2, h3, h5⟩
  · rename_i x
    obtain ⟨u, w', h1, h2, h3, h4⟩ := next_sound hi (hρ x (by simp [Op.operands])) type h
    exact ⟨_, w', G, run_v h1, .inl ⟨u, rfl, h3⟩, .refl _, h2, h4⟩
  · rename_i t x lo hi' mx
    simp only [Option.map_eq_some_iff, Prod.mk.injEq] at h
    obtain ⟨v', hv, rfl, rfl⟩ := h
    have opt : ∀ (y : Option Operand), (∀ q, y = some q → Rep G (ρ q) (σ q)) → ∀ a, y.map ρ = some a → ∃ z, y.map σ = some z ∧ Rep G a z := fun y hy a ha => by
      cases y with
      | none => simp at ha
      | some q => simp at ha; subst ha; exact ⟨_, rfl, hy q rfl⟩
    obtain ⟨u, h1, h2⟩ := sliceMore_sound (w := w) hi (hρ x (by simp [Op.operands])) (opt lo (fun q hq => hρ q (by simp [Op.operands, hq]))) (by cases lo <;> simp) (opt hi' (fun q hq => hρ q (by simp [Op.operands, hq]))) (by cases hi' <;> simp)
      (opt mx (fun q hq => hρ q (by simp [Op.operands, hq]))) (by cases mx <;> simp) hv
    exact OpOk.same hi (x := u) (run_v h1) h2
  · rename_i s d x
    split at h
    · rename_i v' hv
      simp only [Option.some.injEq, Prod.mk.injEq] at h
      obtain ⟨rfl, rfl⟩ := h
      obtain ⟨u, w', G', h1, h2, h3, h4, h5⟩ := bytes_sound hi (hρ x (by simp [Op.operands])) hv
      exact ⟨_, w', G', run_v h1, .inl ⟨u, rfl, h4⟩, h2, h3, h5⟩
    · simp only [Option.map_eq_some_iff, Prod.mk.injEq] at h
      obtain ⟨v', hv, rfl, rfl⟩ := h
      obtain ⟨u, h1, h2⟩ := convU_sound (w := w) hi (hρ x (by simp [Op.operands])) hv
      exact OpOk.same hi (x := u) (run_v h1) h2
  · rename_i b args ts
    have hargs : RepL G (args.toList.map ρ) (args.map σ).toList := by
      have := repL_map (G := G) args.toList (fun x hx => hρ x (by simp [Op.operands, Call.operands]; simpa using hx))
      simpa using this
    obtain ⟨u, w', h1, h2, h3, h4⟩ := builtinX_sound hi hargs h type (args.map fun x => x matches .const _)
    refine ⟨.value u, w', G, ?_, .inl ⟨u, rfl, h3⟩, .refl _, h2, h4⟩
    simp only [execOp, resolve, Sem.run_bind, Sem.run_pure, Result.andThen_ok, invoke]
    exact h1
  · simp at h
end
end Go.Abs
end
section
/- Operations on mutable objects; calls; regions in the order of the text. -/
set_option linter.unusedVariables false
namespace Go.Abs

def evalMem (C : Ctx) (h : Hint) (o : Oper) (ρ : Operand → AV) (M : Mem) : Option (AV × Mem) :=
  match o.op with
  | .load t x => match ρ x with
    | .ptr b off => ((memOf M (.ptr b off)).bind (loadCells? C.P t)).map fun v => (v, M)
    | .vptr f g off => ((memOf M (.vptr f g off)).bind (loadCells? C.P t)).map fun v => (v, M)
    | _ => none
  | .store t a x => match ρ a with
    | .ptr b off => match M[b]? with
      | some (.cells bt cs) => if (ρ x).storable && decide (off + (ρ x).cells.length ≤ cs.length) && decide (szOf C.P t = some (ρ x).cells.length) then
          some (.val undef, M.set b (.cells bt (overwrite cs off (ρ x).cells))) else none
      | _ => none
    | .vptr f g off => match M[f]? with
      | some (.vec vt sz cs g' hist) => match hist.lookup g with
        | some n => if (ρ x).storable && decide (off + (ρ x).cells.length ≤ n * sz) && decide (szOf C.P t = some (ρ x).cells.length) then
            some (.val undef, M.set f (.vec vt sz (overwrite cs off (ρ x).cells) g' (keepHist sz g off hist))) else none
        | none => none
      | _ => none
    | _ => none
  | .alloc e => match zeroCells? C.P e with
    | some z => if z.all (·.oneCell') then some (.ptr M.length 0, M ++ [.cells e (z.map .val)]) else none
    | none => none
  | .box e x => if (ρ x).storable then some (.ptr M.length 0, M ++ [.cells e (ρ x).cells]) else none
  | _ => none

def evalOp (C : Ctx) (h : Hint) (o : Oper) (ρ : Operand → AV) (M : Mem) : Option (AV × Mem) :=
  match evalPure C h o ρ with
  | some v => some (v, M)
  | none => match evalMem C h o ρ M with
    | some r => some r
    | none => match evalMore C h o ρ M with
      | some r => some r
      | none => match evalPure1 C o ρ with
        | some v => some (v, M)
        | none => evalX C o ρ M

section
variable {C : Ctx} {G : Ghost} {M : Mem} {w : World}

theorem run_u {P : Program} {s : Sem Unit} {w w' : World} (h : s.run P w = .ok () w') : (do s; pure .skip : Sem Next).run P w = .ok .skip w' := by
  simp only [Sem.run_bind, h, Result.andThen_ok, Sem.run_pure]

theorem mem_sound (hi : Inv C G M w) {o : Oper} {ρ : Operand → AV} {σ : Operand → Value} (hρ : ∀ x ∈ o.op.operands.toList, Rep G (ρ x) (σ x)) {hn : Hint} {v : AV} {M' : Mem} (h : evalMem C hn o ρ M = some (v, M')) : OpOk C G w (execOp σ o) v M' := by
  obtain ⟨dst, op, type, pos, after, guard⟩ := o
  simp only at hρ
  unfold evalMem at h
  simp only at h
  split at h
  · rename_i t x
    have hx := hρ x (by simp [Op.operands])
    split at h
    case h_3 => simp at h
    all_goals
      rename_i he
      rw [he] at hx
      simp only [Option.map_eq_some_iff, Option.bind_eq_some_iff, Prod.mk.injEq] at h
      obtain ⟨r, ⟨cs, hcs, hl⟩, rfl, rfl⟩ := h
      obtain ⟨u, hu, hru⟩ := load_sound hi hx hcs hl
      exact OpOk.same hi (x := u) (run_v hu) hru
  · rename_i t a x
    have ha := hρ a (by simp [Op.operands])
    have hx := hρ x (by simp [Op.operands])
    split at h
    case h_3 => simp at h
    · rename_i b off he
      rw [he] at ha
      split at h
      case h_2 => simp at h
      rename_i bt cs hcs
      split at h
      case isFalse => simp at h
      rename_i hc
      simp only [Bool.and_eq_true, decide_eq_true_eq] at hc
      simp only [Option.some.injEq, Prod.mk.injEq] at h
      obtain ⟨rfl, rfl⟩ := h
      obtain ⟨w', h1, h2, h3⟩ := store_sound hi ha hx hcs hc.1.1 hc.2 hc.1.2
      exact ⟨_, w', G, run_u h1, .inr ⟨rfl, rfl⟩, .refl _, h2, h3⟩
    · rename_i f g off he
      rw [he] at ha
      split at h
      case h_2 => simp at h
      rename_i vt sz cs g' hist hM
      split at h
      case h_2 => simp at h
      rename_i n hn
      split at h
      case isFalse => simp at h
      rename_i hc
      simp only [Bool.and_eq_true, decide_eq_true_eq] at hc
      simp only [Option.some.injEq, Prod.mk.injEq] at h
      obtain ⟨rfl, rfl⟩ := h
      obtain ⟨w', h1, h2, h3⟩ := vstore_sound hi ha hx hM hn hc.1.1 hc.2 hc.1.2
      exact ⟨_, w', G, run_u h1, .inr ⟨rfl, rfl⟩, .refl _, h2, h3⟩
  · rename_i e
    split at h
    case h_2 => simp at h
    rename_i z hz
    split at h
    case isFalse => simp at h
    rename_i hall
    simp only [Option.some.injEq, Prod.mk.injEq] at h
    obtain ⟨rfl, rfl⟩ := h
    obtain ⟨zv, hv, hvc, hvr⟩ := zero_rep (P := C.P) hz G w
    obtain ⟨G', h1, h2, h3, h4⟩ := hi.newBox e (vs := zv.cells) (by rw [hvc]; exact hvr) (fun y hy => by rw [hvc] at hy; exact List.all_eq_true.1 hall y hy)
    refine ⟨_, _, G', run_v (v := .pointer (some ⟨w.heap.size, 0, none⟩)) (w' := w.alloc (.cells zv.cells e)) ?_, .inl ⟨_, rfl, by simp only [Rep]; exact ⟨h4, by rw [h3]⟩⟩, h2, h1, Ext.alloc _ _⟩
    simp only [Instr.alloc, Sem.run_bind, hv, Result.andThen_ok, newVar, newRow, run_newObj, Sem.run_pure]
    rfl
  · rename_i e x
    have hx := hρ x (by simp [Op.operands])
    split at h
    case isFalse => simp at h
    rename_i hs
    simp only [Option.some.injEq, Prod.mk.injEq] at h
    obtain ⟨rfl, rfl⟩ := h
    obtain ⟨c1, c2⟩ := hx.cells hs
    obtain ⟨G', h1, h2, h3, h4⟩ := hi.newBox e (vs := (σ x).cells) c1 c2
    refine ⟨_, _, G', run_v (v := .pointer (some ⟨w.heap.size, 0, none⟩)) (w' := w.alloc (.cells (σ x).cells e)) ?_, .inl ⟨_, rfl, by simp only [Rep]; exact ⟨h4, by rw [h3]⟩⟩, h2, h1, Ext.alloc _ _⟩
    simp only [Instr.box, newVar, newRow, Sem.run_bind, run_newObj, Result.andThen_ok, Sem.run_pure]
    rfl
  · simp at h

theorem evalOp_sound (hi : Inv C G M w) {o : Oper} {ρ : Operand → AV} {σ : Operand → Value} (hρ : ∀ x ∈ o.op.operands.toList, Rep G (ρ x) (σ x)) {hn : Hint} {v : AV} {M' : Mem} (h : evalOp C hn o ρ M = some (v, M')) : OpOk C G w (execOp σ o) v M' := by
  unfold evalOp at h
  split at h
  · rename_i u hu
    simp only [Option.some.injEq, Prod.mk.injEq] at h
    obtain ⟨rfl, rfl⟩ := h
    exact pure_sound hi hρ hu
  · split at h
    · rename_i r hr
      simp only [Option.some.injEq] at h
      subst h
      exact mem_sound hi hρ hr
    · split at h
      · rename_i r hr
        simp only [Option.some.injEq] at h
        subst h
        exact more_sound hi hρ hr
      · split at h
        · rename_i u hu
          simp only [Option.some.injEq, Prod.mk.injEq] at h
          obtain ⟨rfl, rfl⟩ := h
          exact pure1_sound hi hρ hu
        · exact x_sound hi hρ h
end

/-! ### one operation of a region, calls and append included -/
/-- is it grown as an array that may be written later -/
def vecLike (vec : Bool) : AV → Bool
  | .vref _ _ _ _ _ => true
  | .val (.slice none 0 0) => vec
  | .list _ [] .full => vec
  | _ => false
def sizeOkB (sz : Nat) : AV → Bool
  | .list s _ _ => s == sz
  | _ => true
theorem sizeOkB_iff {sz : Nat} {v : AV} : sizeOkB sz v = true ↔ sizeOk sz v := by cases v <;> simp [sizeOkB, sizeOk]
def appMem (own vec : Bool) (e : TypeId) (sz bytes : Nat) (s x : AV) (M : Mem) : Option (AV × Mem) :=
  if vecLike vec s then match srcCells M sz s, srcCells M sz x with
    | some (_, k), some (_, m) => if (k + m) * bytes ≤ 140737488355328 then (match vappIn e sz s x M with | some r => some r | none => vappAV e sz s x M) else none
    | _, _ => none
  else if sizeOkB sz s && sizeOkB sz x && decide ((rowsLen s + rowsLen x) * bytes ≤ 140737488355328) then appendAV own sz s x M else none
theorem appMem_sound {C : Ctx} {G : Ghost} {M : Mem} {w : World} (hi : Inv C G M w) {s x : AV} {sv xv : Value} (hs : Rep G s sv) (hx : Rep G x xv) {t u e ty : TypeId} {sz bytes : Nat} (ht : elemOf? C.P t = some e) (hu : srcOk C.P u)
    (he : elemOk C.P e sz bytes) {own vec : Bool} {v : AV} {M' : Mem} (h : appMem own vec e sz bytes s x M = some (v, M')) :
    ∃ r w' G', (Builtin.append_ #[t, u] ty #[sv, xv]).run C.P w = .ok r w' ∧ G.le G' ∧ Inv C G' M' w' ∧ Rep G' v r ∧ Ext w w' := by
  unfold appMem at h
  split at h
  · split at h
    · rename_i cs k news m h1 h2
      split at h
      case isFalse => simp at h
      rename_i hb
      split at h
      · rename_i r hr
        simp only [Option.some.injEq] at h
        subst h
        obtain ⟨i, z, hinfo, hz, hisz, _⟩ := he
        obtain ⟨r, w', k1, k2, k3, k4⟩ := vappIn_sound (ty := ty) hi hs hx (elemOf_und ht) hu (by simp [szOf, hinfo, hisz]) hr
        exact ⟨r, w', G, k1, .refl _, k2, k3, k4⟩
      refine vapp_sound hi hs hx (elemOf_und ht) hu he (fun cs' k' e1 news' m' e2 => ?_) h
      rw [h1] at e1
      rw [h2] at e2
      simp only [Option.some.injEq, Prod.mk.injEq] at e1 e2
      rw [← e1.2, ← e2.2]; exact hb
    · simp at h
  · split at h
    · rename_i hc
      simp only [Bool.and_eq_true, decide_eq_true_eq, sizeOkB_iff] at hc
      exact append_sound hi hs hx hc.1.1 hc.1.2 h ty ht hu he hc.2
    · simp at h
def appendOk (P : Program) (t u : TypeId) (sz bytes : Nat) (e : TypeId) : Prop := elemOf? P t = some e ∧ srcOk P u ∧ elemOk P e sz bytes

/-- a function that is entered when it is called -/
def enters (P : Program) (g : FuncId) : Prop := ∀ (args : Array Value) (w : World), (callFunc g args).run P w = .ok (.enter g args) w

/-- a function that answers at once when it is called (it has no body) -/
def XCalls (C : Ctx) (g : FuncId) (args : List AV) (M : Mem) (Q : AV → Mem → Prop) : Prop := ∀ G w (vs : List Value), Inv C G M w → RepL G args vs →
  ∃ x w' G' r M', (callFunc g vs.toArray).run C.P w = .ok (.value x) w' ∧ Q r M' ∧ G.le G' ∧ Inv C G' M' w' ∧ Rep G' r x ∧ Ext w w'
theorem XCalls.mono {C : Ctx} {g : FuncId} {args : List AV} {M : Mem} {Q Q' : AV → Mem → Prop} (h : XCalls C g args M Q) (hq : ∀ r m, Q r m → Q' r m) : XCalls C g args M Q' := by
  intro G w vs hi hr
  obtain ⟨x, w', G', r, M', h1, h2, h3⟩ := h G w vs hi hr
  exact ⟨x, w', G', r, M', h1, hq _ _ h2, h3⟩
/-- a call -/
def Invk (C : Ctx) (g : FuncId) (args : List AV) (M : Mem) (Q : AV → Mem → Prop) : Prop := (enters C.P g ∧ ACalls C g args M Q) ∨ XCalls C g args M Q
theorem Invk.mono {C : Ctx} {g : FuncId} {args : List AV} {M : Mem} {Q Q' : AV → Mem → Prop} (h : Invk C g args M Q) (hq : ∀ r m, Q r m → Q' r m) : Invk C g args M Q' :=
  h.imp (fun h => ⟨h.1, h.2.mono hq⟩) (fun h => h.mono hq)

/-- a slice that may be nil, held against nil -/
def nilTest (P : Program) (op : BinOp) (t : TypeId) (x y : AV) : Bool :=
  match x, y with
  | .list _ [] _, .val (.slice none 0 0) => (match op with | .eql | .neq => true | _ => false) && (match P.underlying t with | some (.slice _) => true | _ => false)
  | _, _ => false
def nilTestO (C : Ctx) (o : Oper) (ρ : Operand → AV) : Bool := match o.op with
  | .binOp op t x y _ => nilTest C.P op t (ρ x) (ρ y)
  | _ => false

def vcOp (C : Ctx) (h : Hint) (o : Oper) (K : AV → Mem → Prop) (ρ : Operand → AV) (M : Mem) : Prop :=
  match o.op with
  | .call { callee := .value f, args, .. } => match ρ f with
    | .func (.func g) first captured => Invk C g (first ++ args.toList.map ρ ++ captured) M K
    | _ => False
  | .call { callee := .builtin .append, args, argTypes } => match args.toList, argTypes.toList with
    | [s, x], [t, u] => ∃ e sz bytes, appendOk C.P t u sz bytes e ∧
        match appMem (hintAt h.own o.dst) (hintAt h.vec o.dst) e sz bytes (ρ s) (ρ x) M with
        | some (v, M') => K v M'
        | none => False
    | _, _ => False
  | _ => match evalOp C h o ρ M with
    | some (v, M') => K v M'
    | none => nilTestO C o ρ = true ∧ ∀ b, K (.val (.bool b)) M

/-- what an operation gives, on the real side -/
def OpGives (C : Ctx) (G : Ghost) (w : World) (o : Oper) (a : Act) (K : AV → Mem → Prop) : Prop :=
  ∀ (next : Act → World → Prop) (Q : Exit → Act → World → Prop),
    (∀ v M' G' w' x, K v M' → G.le G' → Inv C G' M' w' → Rep G' v x → Ext w w' → next (a.put o.dst x) w') → o.wp C.P a w next Q

theorem vcOp_sound {C : Ctx} {G : Ghost} {M : Mem} {w : World} (hi : Inv C G M w) {h : Hint} {o : Oper} {ρ : Operand → AV} {a : Act} (hρ : ∀ x ∈ o.op.operands.toList, Rep G (ρ x) (a.eval x)) {K : AV → Mem → Prop} (hv : vcOp C h o K ρ M) : OpGives C G w o a K := by
  intro next Q hK
  have simple : ∀ v M', evalOp C h o ρ M = some (v, M') → K v M' → o.wp C.P a w next Q := by
    intro v M' he hk
    obtain ⟨nx, w', G', h1, h2, h3, h4, h5⟩ := evalOp_sound hi hρ he
    unfold Oper.wp
    rw [h1]
    rcases h2 with ⟨x, rfl, hr⟩ | ⟨rfl, rfl⟩
    · exact hK v M' G' w' x hk h3 h4 hr h5
    · exact hK _ M' G' w' undef hk h3 h4 (by simp [Rep]) h5
  obtain ⟨dst, op, type, pos, after, guard⟩ := o
  unfold vcOp at hv
  simp only at hv
  split at hv
  · rename_i f args ts
    split at hv
    case h_2 => exact hv.elim
    rename_i g first captured hf
    have hfr := hρ f (by simp [Op.operands, Call.operands])
    rw [hf] at hfr
    simp only [Rep] at hfr
    obtain ⟨fs, cs, hfv, hr1, hr2⟩ := hfr
    have hargs : RepL G (args.toList.map ρ) (args.toList.map a.eval) := repL_map args.toList (fun x hx => hρ x (by simp [Op.operands, Call.operands]; simp at hx; simp [hx]))
    have hall := (hr1.append hargs).append hr2
    have e : (fs.toList ++ args.toList.map a.eval ++ cs.toList).toArray = fs ++ args.map a.eval ++ cs := by apply Array.ext'; simp
    rcases hv with ⟨hen, hc⟩ | hc
    case inr =>
      obtain ⟨x, w', G', r, M', q1, q2, q3, q4, q5, q6⟩ := hc G w _ hi hall
      rw [e] at q1
      unfold Oper.wp
      have hrun : (execOp a.eval { dst := dst, op := .call { callee := .value f, args := args, argTypes := ts }, type := type, pos := pos, after := after, guard := guard }).run C.P w = .ok (.value x) w' := by
        simp only [execOp, resolve, hfv, Deferred.ofValue, Sem.run_bind, Sem.run_pure, Result.andThen_ok, invoke]
        exact q1
      rw [hrun]
      exact hK r M' G' w' x q2 q3 q4 q5 q6
    have hcall := hc G w _ hi hall
    unfold Oper.wp
    have hrun : (execOp a.eval { dst := dst, op := .call { callee := .value f, args := args, argTypes := ts }, type := type, pos := pos, after := after, guard := guard }).run C.P w = .ok (.enter g (fs ++ args.map a.eval ++ cs)) w := by
      simp only [execOp, resolve, hfv, Deferred.ofValue, Sem.run_bind, Sem.run_pure, Result.andThen_ok, invoke]
      exact hen _ w
    rw [hrun]
    rw [e] at hcall
    simp only [Oper.upon_enter]
    refine hcall.mono ?_
    rintro e' w' ⟨r, M', G', v, rfl, k1, k2, k3, k4, k5⟩
    exact hK r M' G' w' v k1 k2 k3 k4 k5
  · rename_i args ts
    split at hv
    case h_2 => exact hv.elim
    rename_i s x t u ha ht
    obtain ⟨e, sz, bytes, ⟨he, hu, hel⟩, hm⟩ := hv
    split at hm
    case h_2 => exact hm.elim
    rename_i v M' hap
    have hargs : args = #[s, x] := by apply Array.ext'; simpa using ha
    have hts : ts = #[t, u] := by apply Array.ext'; simpa using ht
    subst hargs; subst hts
    have h1 := hρ s (by simp [Op.operands, Call.operands])
    have h2 := hρ x (by simp [Op.operands, Call.operands])
    obtain ⟨rv, w', G', k1, k2, k3, k4, k5⟩ := appMem_sound (ty := type) hi h1 h2 he hu hel hap
    unfold Oper.wp
    have hrun : (execOp a.eval { dst := dst, op := .call { callee := .builtin .append, args := #[s, x], argTypes := #[t, u] }, type := type, pos := pos, after := after, guard := guard }).run C.P w = .ok (.value rv) w' := by
      simp only [execOp, resolve, Sem.run_bind, Sem.run_pure, Result.andThen_ok, invoke, builtin, List.map_toArray, List.map_cons, List.map_nil, k1]
    rw [hrun]
    exact hK v M' G' w' rv hm k2 k3 k4 k5
  · split at hv
    · rename_i v M' he
      exact simple v M' he hv
    · obtain ⟨hn, hall⟩ := hv
      unfold nilTestO at hn
      split at hn
      case h_2 => simp at hn
      rename_i bop t x y yt hop
      simp only at hop
      subst hop
      unfold nilTest at hn
      split at hn
      case h_2 => simp at hn
      rename_i sz own hx hy
      simp only [Bool.and_eq_true] at hn
      obtain ⟨hn1, hn2⟩ := hn
      have h1 := hρ x (by simp [Op.operands])
      have h2 := hρ y (by simp [Op.operands])
      rw [hx] at h1
      rw [hy] at h2
      simp only [Rep] at h1 h2
      obtain ⟨base, cap, hxv, _, _, _, _⟩ := h1
      split at hn2
      case h_2 => simp at hn2
      rename_i e hu
      have hr := run_eq_other (P := C.P) (t := t) (xv := a.eval x) (yv := a.eval y) (ox := x) (oy := y) (b := base.isNone) (w := w) (fun d => by rw [hxv, h2]; exact equalIn_slice hu d _ _ _ w) (.inr (.inl ⟨_, _, _, hxv⟩)) (.inr (.inl ⟨_, _, _, h2⟩))
      unfold Oper.wp
      split at hn1
      · have := run_v hr.1
        simp only [execOp]
        rw [this]
        exact hK _ M G w _ (hall base.isNone) (.refl _) hi (by simp [Rep]) (.refl _)
      · have := run_v hr.2
        simp only [execOp]
        rw [this]
        exact hK _ M G w _ (hall (!base.isNone)) (.refl _) hi (by simp [Rep]) (.refl _)
      · simp at hn1

/-- every slot that the operation reads lies in the frame -/
def Oper.inside (N : Nat) (o : Oper) : Bool := o.op.operands.toList.all (Operand.inside N)

def vcGuard (ops : Array Oper) (o : Oper) (T : Env) (run skip : Prop) : Prop :=
  match o.guard with
  | none => run
  | some (j, want) => match (ops[j]?).bind (·.dst) with
    | some d => match T d with
      | .val (.bool b) => if b = want then run else skip
      | .val (.tuple _) => skip
      | _ => False
    | none => False

def vcOps (C : Ctx) (h : Hint) (ops : Array Oper) : List Oper → (Env → Mem → Prop) → Env → Mem → Prop
  | [], K, T, M => K T M
  | o :: rest, K, T, M => vcGuard ops o T (vcOp C h o (fun v M' => vcOps C h ops rest K (T.put o.dst v) M') (T.ev C) M) (vcOps C h ops rest K (T.put o.dst (.val undef)) M)

def guardInside (N : Nat) (ops : Array Oper) (o : Oper) : Bool := match o.guard with
  | none => true
  | some (j, _) => match (ops[j]?).bind (·.dst) with
    | some d => decide (d < N)
    | none => true

def opsInside (N : Nat) (ops : Array Oper) (l : List Oper) : Bool := l.all fun o => Oper.inside N o && guardInside N ops o

theorem evs_rep {C : Ctx} {G : Ghost} {M : Mem} {w : World} {N : Nat} {T : Env} {a : Act} (hi : Inv C G M w) (he : RepEnv G N T a) {o : Oper} (h : Oper.inside N o = true) : ∀ x ∈ o.op.operands.toList, Rep G (T.ev C x) (a.eval x) :=
  fun x hx => ev_rep hi he x (List.all_eq_true.1 h x hx)

/-- the guard, on the real side -/
theorem guard_sound {C : Ctx} {G : Ghost} {M : Mem} {w : World} {N : Nat} {T : Env} {a : Act} (he : RepEnv G N T a) {ops : Array Oper} {o : Oper} (hg : guardInside N ops o = true) {run skip : Prop} (h : vcGuard ops o T run skip) :
    (Region.wanted o (yielded ops a.tmps) = true ∧ run) ∨ (Region.wanted o (yielded ops a.tmps) = false ∧ skip) := by
  unfold vcGuard at h
  unfold guardInside at hg
  unfold Region.wanted
  split at h
  · rename_i hn; rw [hn]; exact .inl ⟨rfl, h⟩
  · rename_i j want hs
    rw [hs] at hg ⊢
    simp only at hg
    split at h
    case h_2 => exact h.elim
    rename_i d hd
    rw [hd] at hg
    simp only [decide_eq_true_eq] at hg
    have hr := he.at_ d hg
    have hsz := he.size
    have hlt : d < a.tmps.size := hsz ▸ hg
    obtain ⟨x, hx, hrx⟩ : ∃ x, a.tmps[d]? = some x ∧ Rep G (T d) x := ⟨a.tmps[d], Array.getElem?_eq_getElem hlt, by simpa [Array.getD, hlt] using hr⟩
    have hy : yielded ops a.tmps j = match (generalizing := false) x with | .bool b => some b | _ => none := by
      unfold yielded
      simp only [hd, Option.bind_some, hx]
      cases x <;> rfl
    split at h
    · rename_i b hb
      rw [hb] at hrx
      simp only [Rep] at hrx
      subst hrx
      simp only [hy]
      by_cases e : b = want
      · rw [if_pos e] at h; exact .inl ⟨by simp [e], h⟩
      · rw [if_neg e] at h; exact .inr ⟨by simp [e], h⟩
    · rename_i vs hb
      rw [hb] at hrx
      simp only [Rep] at hrx
      subst hrx
      simp only [hy]
      exact .inr ⟨by simp, h⟩
    · exact h.elim

theorem vcOps_sound {C : Ctx} {N : Nat} {h : Hint} {ops : Array Oper} {Q : Exit → Env → Mem → Prop} : ∀ (l : List Oper) (G0 : Ghost) (w0 : World) (G : Ghost) (T : Env) (M : Mem) (w : World) (a : Act),
    opsInside N ops l = true → vcOps C h ops l (fun T M => Q .normal T M) T M → G0.le G → Ext w0 w → Inv C G M w → RepEnv G N T a → wpList C.P ops (Lift C N Q G0 w0) l a w
  | [], G0, w0, G, T, M, w, a, _, hv, hle, hext, hi, he => ⟨T, M, G, hv, hle, hi, he, hext⟩
  | o :: rest, G0, w0, G, T, M, w, a, hin, hv, hle, hext, hi, he => by
    simp only [opsInside, List.all_cons, Bool.and_eq_true] at hin
    obtain ⟨⟨ho, hg⟩, hrest⟩ := hin
    have hrest' : opsInside N ops rest = true := by simpa [opsInside] using hrest
    simp only [vcOps] at hv
    simp only [wpList]
    rcases guard_sound (C := C) (M := M) (w := w) he hg hv with ⟨hw, hr⟩ | ⟨hw, hs⟩
    · rw [if_pos hw]
      left
      refine vcOp_sound hi (evs_rep hi he ho) hr _ _ ?_
      intro v M' G' w' x hk h1 h2 h3 h4
      exact vcOps_sound rest G0 w0 G' _ M' w' _ hrest' hk (hle.trans h1) (hext.trans h4) h2 ((he.mono h1).put h3)
    · rw [if_neg (by simp [hw])]
      exact vcOps_sound rest G0 w0 G _ M w _ hrest' hs hle hext hi (he.put (by simp [Rep]))

theorem awp_region {C : Ctx} {N : Nat} {h : Hint} {id : Nat} {ops : Array Oper} {Q : Exit → Env → Mem → Prop} {T : Env} {M : Mem} (hin : opsInside N ops ops.toList = true) (hv : vcOps C h ops ops.toList (fun T M => Q .normal T M) T M) :
    AWp C N (.region id ops false) Q T M :=
  fun G w a hi he => wp_region_list (vcOps_sound ops.toList G w G T M w a hin hv (.refl _) (.refl _) hi he)
end Go.Abs
end
section
/- A function's body gives its contract. -/
set_option linter.unusedVariables false
namespace Go.Abs

def resAV (C : Ctx) (T : Env) (M : Mem) : ResultVar → Option AV
  | .tmp t => some (T t)
  | .cell a ty => (memOf M (T a)).bind (loadCells? C.P ty)

def resList (C : Ctx) (T : Env) (M : Mem) : List ResultVar → Option (List AV)
  | [] => some []
  | r :: rs => match resAV C T M r, resList C T M rs with
    | some v, some vs => some (v :: vs)
    | _, _ => none

def resultAV (C : Ctx) (rs : List ResultVar) (T : Env) (M : Mem) : Option AV :=
  match resList C T M rs with
  | some [v] => some v
  | some vs => some (.tuple vs)
  | none => none

def resInside (N : Nat) : List ResultVar → Bool
  | [] => true
  | .tmp t :: rs => decide (t < N) && resInside N rs
  | .cell a _ :: rs => decide (a < N) && resInside N rs

def bodyQ (C : Ctx) (rs : List ResultVar) (Q : AV → Mem → Prop) : Exit → Env → Mem → Prop
  | .normal, T, M | .ret, T, M => match resultAV C rs T M with
    | some r => Q r M
    | none => False
  | _, _, _ => False

def oneRes (tmps : Array Value) : ResultVar → Sem Value
  | .tmp t => pure (tmps.getD t undef)
  | .cell b t => do loadVar t (← asAddr (tmps.getD b undef))
theorem results_eq (fn : Func) (tmps : Array Value) : results fn tmps = (do
    let vs ← fn.results.mapM (oneRes tmps)
    pure (if h : vs.size = 1 then vs[0] else .tuple vs)) := by
  unfold results
  congr 1

theorem resList_sound {C : Ctx} {G : Ghost} {M : Mem} {w : World} {N : Nat} {T : Env} {a : Act} (hi : Inv C G M w) (he : RepEnv G N T a) : ∀ (rs : List ResultVar) (vs : List AV), resInside N rs = true → resList C T M rs = some vs →
    ∃ xs, (rs.mapM (oneRes a.tmps)).run C.P w = .ok xs w ∧ RepL G vs xs
  | [], vs, _, h => by
    simp [resList] at h
    subst h
    exact ⟨[], by simp, by simp [RepL]⟩
  | r :: rs, vs, hin, h => by
    simp only [resList] at h
    split at h
    case h_2 => simp at h
    rename_i v vs' h1 h2
    simp only [Option.some.injEq] at h
    subst h
    cases r with
    | tmp t =>
      simp only [resInside, Bool.and_eq_true, decide_eq_true_eq] at hin
      obtain ⟨xs, q1, q2⟩ := resList_sound hi he rs vs' hin.2 h2
      simp only [resAV, Option.some.injEq] at h1
      subst h1
      refine ⟨a.tmps.getD t undef :: xs, ?_, by simp only [RepL]; exact ⟨_, _, rfl, he.at_ t hin.1, q2⟩⟩
      simp only [List.mapM_cons, oneRes, Sem.run_bind, Sem.run_pure, Result.andThen_ok, q1]
    | cell b ty =>
      simp only [resInside, Bool.and_eq_true, decide_eq_true_eq] at hin
      obtain ⟨xs, q1, q2⟩ := resList_sound hi he rs vs' hin.2 h2
      simp only [resAV, Option.bind_eq_some_iff] at h1
      obtain ⟨cs, hcs, hl⟩ := h1
      have hr := he.at_ b hin.1
      obtain ⟨u, hu, hru⟩ := load_sound hi hr hcs hl
      obtain ⟨bb, ii, _, hp, _⟩ := memOf_rep hi hr hcs
      refine ⟨u :: xs, ?_, by simp only [RepL]; exact ⟨_, _, rfl, hru, q2⟩⟩
      rw [hp] at hu
      simp only [Instr.loadAt, Instr.sureAddr, Sem.run_bind, Sem.run_pure, Result.andThen_ok] at hu
      simp only [List.mapM_cons, oneRes, Sem.run_bind, Sem.run_pure, Result.andThen_ok, hp, asAddr, hu, q1]

theorem acalls_of_body {C : Ctx} {f : FuncId} {fn : Func} {c : Code} {args : List AV} {M : Mem} {Q : AV → Mem → Prop} {N : Nat} {rs : List ResultVar} (hf : C.P.funcs[f]? = some fn) (hb : fn.body = some c) (hN : fn.ntmps = N) (hrs : fn.results = rs.toArray)
    (hn : decide (args.length ≤ N) = true) (hin : resInside N rs = true) (h : AWp C N c (bodyQ C rs Q) (Env.of args) M) : ACalls C f args M Q := by
  intro G w vs hi hr
  have hlen := hr.length
  simp only [decide_eq_true_eq] at hn
  refine calls_of_wp hf hb ?_
  have he := RepEnv.of (G := G) (N - vs.length) hr
  rw [show vs.length + (N - vs.length) = N from by omega] at he
  have hw := h G w _ hi he
  rw [hN]
  refine wp_mono (by simpa using hw) ?_
  rintro e a' w' ⟨T', M', G', h1, h2, h3, h4, h5⟩
  have key : bodyQ C rs Q .ret T' M' → a'.defers = [] ∧ ∃ v, (results fn a'.tmps).run C.P w' = .ok v w' ∧ ∃ r M' G' v', Ending.returned v = .returned v' ∧ Q r M' ∧ G.le G' ∧ Inv C G' M' w' ∧ Rep G' r v' ∧ Ext w w' := by
    intro hq
    refine ⟨h4.defers, ?_⟩
    simp only [bodyQ] at hq
    split at hq
    case h_2 => exact hq.elim
    rename_i r hres
    unfold resultAV at hres
    have run_of : ∀ vs', resList C T' M' rs = some vs' → ∃ xs, (fn.results.mapM (oneRes a'.tmps)).run C.P w' = .ok xs.toArray w' ∧ RepL G' vs' xs := by
      intro vs' hvs
      obtain ⟨xs, q1, q2⟩ := resList_sound h3 h4 rs vs' hin hvs
      refine ⟨xs, ?_, q2⟩
      rw [hrs]
      simp only [Array.mapM_eq_mapM_toList, Sem.run_map, q1, Result.andThen_ok]
    cases hrl : resList C T' M' rs with
    | none => rw [hrl] at hres; simp at hres
    | some vs' =>
      rw [hrl] at hres
      obtain ⟨xs, q1, q2⟩ := run_of vs' hrl
      have hl := q2.length
      by_cases h1' : vs'.length = 1
      · match vs', h1' with
        | [v], _ =>
          simp only [Option.some.injEq] at hres
          subst hres
          simp only [RepL] at q2
          obtain ⟨x, _, rfl, hx, rfl⟩ := q2
          exact ⟨x, by simp only [results_eq, Sem.run_bind, q1, Result.andThen_ok, Sem.run_pure]; simp, v, M', G', x, rfl, hq, h2, h3, hx, h5⟩
      · have hr' : r = .tuple vs' := by
          split at hres
          · rename_i v hv; simp only [Option.some.injEq] at hv; subst hv; simp at h1'
          · rename_i vs'' _ hv; simp only [Option.some.injEq] at hv hres; subst hv; exact hres.symm
          · rename_i hv; simp at hv
        subst hr'
        refine ⟨.tuple xs.toArray, by simp only [results_eq, Sem.run_bind, q1, Result.andThen_ok, Sem.run_pure]; simp [hl, h1'], _, M', G', _, rfl, hq, h2, h3, by simp only [Rep]; exact ⟨_, rfl, by simpa using q2⟩, h5⟩
  cases e with
  | normal => exact key h1
  | ret => exact key h1
  | exit id => exact h1.elim
  | goto l => exact h1.elim
  | panic ch => exact h1.elim
  | outgrown => exact h1.elim
end Go.Abs
end
