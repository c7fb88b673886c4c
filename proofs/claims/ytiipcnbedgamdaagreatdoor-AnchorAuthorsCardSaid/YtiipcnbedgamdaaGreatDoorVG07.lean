/- The texts AbsX5, AbsX6, AbsX7: what each proves stands at its head. -/
import Derived.Test.YtiipcnbedgamdaaGreatDoorVG06
import Derived.Laws.BytesString
section
/- More operations that turn no mutable object. -/
set_option linter.unusedVariables false
namespace Go.Abs
section
variable {C : Ctx} {G : Ghost} {M : Mem} {w : World}

def arr? (P : Program) (t : TypeId) : Option (Nat × TypeId) := match P.underlying t with
  | some (.array n e) => some (n, e)
  | _ => none
theorem arr?_und {P : Program} {t : TypeId} {n : Nat} {e : TypeId} (h : arr? P t = some (n, e)) : P.underlying t = some (.array n e) := by
  unfold arr? at h
  split at h
  · rename_i n' e' hu; simp only [Option.some.injEq, Prod.mk.injEq] at h; obtain ⟨rfl, rfl⟩ := h; exact hu
  · simp at h

def isConst : Operand → Bool
  | .const _ => true
  | _ => false

/-- == of interface values and nil, of pointers into one variable -/
def eqMore (P : Program) (t : TypeId) (cx : Bool) (x y : AV) : Option Bool := match P.underlying t with
  | some (.interface _) => match x, y with
    | .val .nilIface, .val .nilIface => if cx then some true else none
    | .iface _ _, .val .nilIface => some false
    | _, _ => none
  | some (.pointer e) => match szOf P e with
    | some n => if n = 0 then none else match x, y with
      | .ptr b o, .ptr b2 o2 => if b = b2 then some (o == o2) else none
      | .vptr f g o, .vptr f2 g2 o2 => if f = f2 ∧ g = g2 then some (o == o2) else none
      | _, _ => none
    | none => none
  | _ => none

def chunks {α : Type} (sz : Nat) : Nat → List α → List (List α)
  | 0, _ => []
  | n + 1, z => z.take sz :: chunks sz n (z.drop sz)
theorem chunks_flatten {α : Type} {sz : Nat} : ∀ (n : Nat) (z : List α), z.length = n * sz → (chunks sz n z).flatten = z
  | 0, z, h => by simp at h; simp [chunks, h]
  | n + 1, z, h => by
    have := chunks_flatten (sz := sz) n (z.drop sz) (by rw [List.length_drop, h, Nat.add_mul]; omega)
    simp only [chunks, List.flatten_cons, this, List.take_append_drop]
theorem chunks_len {α : Type} {sz : Nat} : ∀ (n : Nat) (z : List α), z.length = n * sz → ∀ q ∈ chunks sz n z, q.length = sz
  | 0, z, h, q, hq => by simp [chunks] at hq
  | n + 1, z, h, q, hq => by
    simp only [chunks, List.mem_cons] at hq
    have hl : sz ≤ z.length := by rw [h, Nat.add_mul]; omega
    rcases hq with rfl | hq
    · rw [List.length_take]; omega
    · exact chunks_len n (z.drop sz) (by rw [List.length_drop, h, Nat.add_mul]; omega) q hq
def arrBuild (P : Program) (t : TypeId) (parts : List (Nat × AV)) : Option AV := match arr? P t, zeroCells? P t with
  | some (n, e), some z => match szOf P e with
    | some sz => if z.length = n * sz ∧ z.all (·.oneCell') then (rowsGo sz parts (chunks sz n (z.map .val))).map fun rows => .agg rows.flatten else none
    | none => none
  | _, _ => none

/-- bytes that are read as data -/
def u8Rows : List (List AV) → Option (List Int)
  | [] => some []
  | r :: rs => match r with
    | [.val (.int .u8 n)] => (u8Rows rs).map (n :: ·)
    | _ => none
def strOfBytes (ns : List Int) : ByteArray := ns.foldl (fun r n => r.push (UInt8.ofNat n.toNat)) ByteArray.empty
theorem u8Rows_cells {C : Ctx} {G : Ghost} {M : Mem} {w : World} (hi : Inv C G M w) : ∀ (rows : List (List AV)) (ns : List Int) (b off : Nat), u8Rows rows = some ns → RepRows G 1 rows b off →
    ∀ (j : Nat) (v : Value), (ns.map (Value.int .u8))[j]? = some v → w.cell? ⟨b, off + j, none⟩ = some v
  | [], ns, b, off, h, _, j, v, hv => by simp only [u8Rows, Option.some.injEq] at h; subst h; simp at hv
  | r :: rs, ns, b, off, h, hr, j, v, hv => by
    simp only [u8Rows] at h
    split at h
    case h_2 => simp at h
    rename_i n
    simp only [Option.map_eq_some_iff] at h
    obtain ⟨ns', h', rfl⟩ := h
    simp only [RepRows, RepMem] at hr
    obtain ⟨⟨_, ⟨x, hx, _, hxr⟩, _⟩, h2⟩ := hr
    cases j with
    | zero =>
      simp at hv; subst hv
      simp only [Rep] at hxr; subst hxr
      exact hi.st _ _ _ hx
    | succ j =>
      have := u8Rows_cells hi rs ns' b (off + 1) h' h2 j v (by simpa using hv)
      rw [show off + (j + 1) = off + 1 + j by omega]; exact this
theorem u8Rows_len : ∀ (rows : List (List AV)) (ns : List Int), u8Rows rows = some ns → ns.length = rows.length
  | [], ns, h => by simp only [u8Rows, Option.some.injEq] at h; subst h; rfl
  | r :: rs, ns, h => by
    simp only [u8Rows] at h
    split at h
    case h_2 => simp at h
    simp only [Option.map_eq_some_iff] at h
    obtain ⟨ns', h', rfl⟩ := h
    simp [u8Rows_len rs ns' h']
def evalPure1 (C : Ctx) (o : Oper) (ρ : Operand → AV) : Option AV := match o.op with
  | .indexAddr t x ix => match arr? C.P t, ρ ix with
    | some (n, e), .val (.int _ i) => match szOf C.P e with
      | some sz => if 0 ≤ i ∧ i < n then match ρ x with
         | .cptr cs => some (.cptr (cs.drop (i.toNat * sz)))
         | .ptr b off => some (.ptr b (off + i.toNat * sz))
         | .vptr f g off => some (.vptr f g (off + i.toNat * sz))
         | _ => none
        else none
      | none => none
    | _, _ => none
  | .index t x ix => match arr? C.P t, ρ x, ρ ix with
    | some (n, e), .agg cs, .val (.int _ i) => match szOf C.P e with
      | some sz => if 0 ≤ i ∧ i < n ∧ i.toNat * sz + sz ≤ cs.length then loadCells? C.P e (cs.drop (i.toNat * sz)) else none
      | none => none
    | _, _, _ => none
  | .build t parts => arrBuild C.P t (parts.toList.map fun p => (p.1, ρ p.2))
  | .binOp .eql t x y _ => (eqMore C.P t (isConst y) (ρ x) (ρ y)).map fun b => .val (.bool b)
  | .binOp .neq t x y _ => (eqMore C.P t (isConst y) (ρ x) (ρ y)).map fun b => .val (.bool !b)
  | .unOp .xor _ x => match ρ x with
    | .val (.int k n) => (intB .xor k (if k.signed then -1 else k.max) n).map .val
    | _ => none
  | .convert src dst x => match C.P.underlying src, C.P.underlying dst, ρ x with
    | some (.int _), some .string, .val (.int _ n) => some (.val (.string (Utf8.encode n)))
    | some (.slice e), some .string, .list 1 rows _ => match C.P.underlying e with
      | some (.int .u8) => (u8Rows rows).map fun ns => .val (.string (strOfBytes ns))
      | _ => none
    | _, _, _ => none
  | _ => none

theorem addr_beq (b o o2 : Nat) : ((⟨b, o, none⟩ : Addr) == ⟨b, o2, none⟩) = (o == o2) := by
  by_cases h : o = o2
  · subst h; rw [beq_self_eq_true o]; exact beq_iff_eq.2 rfl
  · rw [beq_eq_false_iff_ne.2 h, beq_eq_false_iff_ne]
    intro e; simp only [Addr.mk.injEq] at e; exact h e.2.1
theorem eqMore_sound {t : TypeId} {x y : AV} {xv yv : Value} (hx : Rep G x xv) (hy : Rep G y yv) {ox oy : Operand} {b : Bool} (h : eqMore C.P t (isConst oy) x y = some b) :
    (do eqGuard .eql t ox oy xv yv; binOp .eql t xv yv : Sem Value).run C.P w = .ok (.bool b) w ∧ (do eqGuard .neq t ox oy xv yv; binOp .neq t xv yv : Sem Value).run C.P w = .ok (.bool !b) w := by
  unfold eqMore at h
  split at h
  · rename_i ms hu
    split at h
    · split at h
      case isFalse => simp at h
      rename_i hc
      simp only [Option.some.injEq] at h
      subst h
      simp only [Rep] at hx hy
      subst hx; subst hy
      have h1 : ∃ v, oy = .const v := by cases oy <;> simp [isConst] at hc; exact ⟨_, rfl⟩
      obtain ⟨v, rfl⟩ := h1
      have he0 : ∀ d, (Op.equalIn (d + 1) t .nilIface .nilIface).run C.P w = .ok true w := fun d => by simp [Op.equalIn, run_underlying hu]
      have he : (Op.equal t .nilIface .nilIface).run C.P w = .ok true w := he0 9999
      constructor
      · simp [eqGuard, binOp, he]
      · simp [eqGuard, binOp, he]
    · rename_i t' v'
      simp only [Option.some.injEq] at h
      subst h
      simp only [Rep] at hx hy
      subst hy
      obtain ⟨y', rfl, _⟩ := hx
      have he0 : ∀ d, (Op.equalIn (d + 1) t (.iface t' y') .nilIface).run C.P w = .ok false w := fun d => by simp [Op.equalIn, run_underlying hu]
      have he : (Op.equal t (.iface t' y') .nilIface).run C.P w = .ok false w := he0 9999
      constructor
      · simp [eqGuard, binOp, he]
      · simp [eqGuard, binOp, he]
    · simp at h
  · rename_i e hu
    split at h
    case h_2 => simp at h
    rename_i n hn
    split at h
    · simp at h
    rename_i hn0
    split at h
    · rename_i b1 o b2 o2
      split at h
      case isFalse => simp at h
      rename_i hb
      subst hb
      simp only [Option.some.injEq] at h
      subst h
      simp only [Rep] at hx hy
      obtain ⟨_, rfl⟩ := hx
      obtain ⟨_, rfl⟩ := hy
      refine run_eq_other (fun d => ?_) (.inl ⟨_, rfl⟩) (.inl ⟨_, rfl⟩)
      simp [Op.equalIn, run_underlying hu, run_szOf hn, hn0, sameAddr]
      exact addr_beq _ _ _
    · rename_i f g o f2 g2 o2
      split at h
      case isFalse => simp at h
      rename_i hb
      obtain ⟨rfl, rfl⟩ := hb
      simp only [Option.some.injEq] at h
      subst h
      simp only [Rep] at hx hy
      obtain ⟨_, _, a, cap, hd, rfl⟩ := hx
      obtain ⟨_, _, a', cap', hd', rfl⟩ := hy
      rw [hd] at hd'
      simp only [Prod.mk.injEq, Option.some.injEq] at hd'
      obtain ⟨rfl, rfl⟩ := hd'
      refine run_eq_other (fun d => ?_) (.inl ⟨_, rfl⟩) (.inl ⟨_, rfl⟩)
      simp [Op.equalIn, run_underlying hu, run_szOf hn, hn0, sameAddr]
      rw [addr_beq]
      by_cases ho : o = o2
      · subst ho; rw [beq_self_eq_true, beq_self_eq_true]
      · rw [beq_eq_false_iff_ne.2 ho, beq_eq_false_iff_ne.2 (by omega)]
    · simp at h
  · simp at h

theorem arrBuild_sound {t : TypeId} {ps : List (Nat × AV)} {xs : Array (Nat × Value)} (hl : ps.length = xs.size) (hps : ∀ (j : Nat) (p : Nat × AV) (x : Nat × Value), ps[j]? = some p → xs.toList[j]? = some x → p.1 = x.1 ∧ Rep G p.2 x.2) {v : AV} (h : arrBuild C.P t ps = some v) :
    ∃ u, (Instr.build t xs).run C.P w = .ok u w ∧ Rep G v u := by
  unfold arrBuild at h
  split at h
  case h_2 => simp at h
  rename_i n e z ha hz
  split at h
  case h_2 => simp at h
  rename_i sz hsz
  split at h
  case isFalse => simp at h
  rename_i hc
  obtain ⟨hzl, hz1⟩ := hc
  simp only [Option.map_eq_some_iff] at h
  obtain ⟨rows, hrows, rfl⟩ := h
  obtain ⟨zv, hv, hvc, hvr⟩ := zero_rep (P := C.P) hz G w
  have hzl' : (z.map AV.val).length = n * sz := by simpa using hzl
  obtain ⟨vs', q1, q2, q3, q4, q5⟩ := fill_rows (G := G) ps xs.toList (chunks sz n (z.map .val)) rows zv.cells (by simpa using hl) hps (chunks_len n _ hzl') (by rw [chunks_flatten n _ hzl', hvc]; exact hvr)
    (fun y hy => by rw [hvc] at hy; exact List.all_eq_true.1 hz1 y hy) hrows
  refine ⟨.agg vs', ?_, by simp only [Rep]; exact ⟨_, rfl, q2, q3⟩⟩
  simp only [Instr.build, Sem.run_bind, hv, Result.andThen_ok, run_underlying (arr?_und ha), run_szOf hsz, q1, Sem.run_pure]

theorem pure1_sound (hi : Inv C G M w) {o : Oper} {ρ : Operand → AV} {σ : Operand → Value} (hρ : ∀ x ∈ o.op.operands.toList, Rep G (ρ x) (σ x)) {v : AV} (h : evalPure1 C o ρ = some v) : OpOk C G w (execOp σ o) v M := by
  obtain ⟨dst, op, type, pos, after, guard⟩ := o
  simp only at hρ
  unfold evalPure1 at h
  simp only at h
  split at h
  · -- indexAddr
    rename_i t x ix
    have hx := hρ x (by simp [Op.operands])
    have hix := hρ ix (by simp [Op.operands])
    split at h
    case h_2 => simp at h
    rename_i n e k i ha hei
    split at h
    case h_2 => simp at h
    rename_i sz hsz
    split at h
    case isFalse => simp at h
    rename_i hc
    obtain ⟨h0, hlt⟩ := hc
    rw [hei] at hix
    simp only [Rep] at hix
    have hu := arr?_und ha
    have run : ∀ (b off : Nat), σ x = .pointer (some ⟨b, off, none⟩) → (execOp σ ⟨dst, .indexAddr t x ix, type, pos, after, guard⟩).run C.P w = .ok (.value (.pointer (some ⟨b, off + i.toNat * sz, none⟩))) w := by
      intro b off hp
      simp [execOp, Instr.indexAt, hp, hix, asIntOf, run_underlying hu, Instr.sureAddr, h0, hlt, run_szOf hsz, Addr.add_lit]
    split at h
    · rename_i cs he
      simp only [Option.some.injEq] at h; subst h
      rw [he] at hx
      simp only [Rep] at hx
      obtain ⟨b, j, hp, hm⟩ := hx
      exact OpOk.same hi (run b j hp) (by simp only [Rep]; exact ⟨b, _, rfl, hm.drop _⟩)
    · rename_i b off he
      simp only [Option.some.injEq] at h; subst h
      rw [he] at hx
      simp only [Rep] at hx
      exact OpOk.same hi (run _ _ hx.2) (by simp only [Rep]; exact ⟨hx.1, trivial⟩)
    · rename_i f g off he
      simp only [Option.some.injEq] at h; subst h
      rw [he] at hx
      simp only [Rep] at hx
      obtain ⟨q1, q2, a, cap, q3, hp⟩ := hx
      exact OpOk.same hi (run _ _ hp) (by simp only [Rep]; exact ⟨q1, q2, a, cap, q3, by rw [Nat.add_assoc]⟩)
    · simp at h
  · -- index
    rename_i t x ix
    have hx := hρ x (by simp [Op.operands])
    have hix := hρ ix (by simp [Op.operands])
    split at h
    case h_2 => simp at h
    rename_i n e cs k i ha he hei
    split at h
    case h_2 => simp at h
    rename_i sz hsz
    split at h
    case isFalse => simp at h
    rename_i hc
    obtain ⟨h0, hlt, hfit⟩ := hc
    rw [hei] at hix
    rw [he] at hx
    simp only [Rep] at hx hix
    obtain ⟨ys, hp, hr, h1⟩ := hx
    obtain ⟨u, hu, hru⟩ := part_sound (C := C) (w := w) hr h1 (by simp [hsz, hfit]) h
    refine OpOk.same hi (x := u) ?_ hru
    simp [execOp, Instr.index, hp, hix, asIntOf, run_underlying (arr?_und ha), h0, hlt, run_szOf hsz, hu]
  · -- build
    rename_i t parts
    obtain ⟨u, h1, h2⟩ := arrBuild_sound (C := C) (G := G) (w := w) (xs := parts.map fun (i, x) => (i, σ x)) (by simp) (fun j p x hp hx => by
      simp only [List.getElem?_map, Option.map_eq_some_iff] at hp
      obtain ⟨q, hq, rfl⟩ := hp
      simp only [Array.toList_map, List.getElem?_map, Option.map_eq_some_iff] at hx
      obtain ⟨q', hq', rfl⟩ := hx
      rw [hq] at hq'
      simp at hq'
      subst hq'
      exact ⟨rfl, hρ _ (by simp [Op.operands]; exact ⟨_, by simpa using List.mem_of_getElem? hq⟩)⟩) h
    exact OpOk.same hi (x := u) (run_v h1) h2
  · rename_i t x y u
    simp only [Option.map_eq_some_iff] at h
    obtain ⟨b, hb, rfl⟩ := h
    have := (eqMore_sound (w := w) (ox := x) (hρ x (by simp [Op.operands])) (hρ y (by simp [Op.operands])) hb).1
    exact OpOk.same hi (x := .bool b) (run_v this) (by simp [Rep])
  · rename_i t x y u
    simp only [Option.map_eq_some_iff] at h
    obtain ⟨b, hb, rfl⟩ := h
    have := (eqMore_sound (w := w) (ox := x) (hρ x (by simp [Op.operands])) (hρ y (by simp [Op.operands])) hb).2
    exact OpOk.same hi (x := .bool !b) (run_v this) (by simp [Rep])
  · rename_i t x
    have hx := hρ x (by simp [Op.operands])
    split at h
    case h_2 => simp at h
    rename_i k n he
    simp only [intB, Option.map_some, Option.some.injEq] at h
    subst h
    rw [he] at hx
    simp only [Rep] at hx
    exact OpOk.same hi (x := _) (by simp [execOp, hx, Op.unary, Op.intBits]; rfl) (by simp [Rep])
  · rename_i src dst' x
    have hx := hρ x (by simp [Op.operands])
    split at h
    case h_3 => simp at h
    · rename_i k k' n h1 h2 he
      simp only [Option.some.injEq] at h
      subst h
      rw [he] at hx
      simp only [Rep] at hx
      exact OpOk.same hi (x := .string (Utf8.encode n)) (by simp [execOp, hx, convert, run_underlying h1, run_underlying h2, Conv.intToString]) (by simp [Rep])
    · rename_i e rows own h1 h2 he
      split at h
      case h_2 => simp at h
      rename_i h3
      simp only [Option.map_eq_some_iff] at h
      obtain ⟨ns, hns, rfl⟩ := h
      rw [he] at hx
      simp only [Rep] at hx
      obtain ⟨base, cap, hp, _, _, hb, _⟩ := hx
      have hlen := u8Rows_len rows ns hns
      refine OpOk.same hi (x := .string (strOfBytes ns)) ?_ (by simp [Rep])
      refine run_v ?_
      rw [hp]
      cases base with
      | none =>
        have : rows = [] := hb.1
        subst this
        simp only [u8Rows, Option.some.injEq] at hns
        subst hns
        simp [convert, run_underlying h1, run_underlying h2, run_underlying h3, Conv.bytesToString, strOfBytes]
      | some a =>
        rw [run_convert_bytes_string w src dst' e (some a) rows.length cap h1 h3 h2]
        refine run_bytesToString w a rows.length cap ns ?_
        rw [← hlen, ← List.length_map (f := Value.int .u8) (as := ns)]
        refine run_loadCells_list w a _ fun j v hv => ?_
        have hne : rows ≠ [] := by
          rintro rfl
          simp only [u8Rows, Option.some.injEq] at hns
          subst hns
          simp at hv
        obtain ⟨bb, oo, sp⟩ := a
        have hs : sp = none := hb.1 hne
        subst hs
        rw [Addr.add_lit]
        exact u8Rows_cells hi rows ns bb oo hns hb.2 j v hv
  · simp at h
end
end Go.Abs
end
section
/- Range over a string. -/
set_option linter.unusedVariables false
namespace Go.Abs
section
variable {C : Ctx} {G : Ghost} {M : Mem} {w : World}

def rangeAV (P : Program) (t : TypeId) (x : AV) (M : Mem) : Option (AV × Mem) := match P.underlying t, x with
  | some .string, .val (.string s) => some (.ptr M.length 0, M ++ [.siter s 0])
  | _, _ => none
def nextAV (x : AV) (M : Mem) : Option (AV × Mem) := match x with
  | .ptr b 0 => match M[b]? with
    | some (.siter s pos) => if pos < s.size then
        some (.tuple [.val (.bool true), .val (goInt pos), .val (.int .i32 (Utf8.decode s pos).1)], M.set b (.siter s (pos + (Utf8.decode s pos).2)))
      else some (.tuple [.val (.bool false)], M)
    | _ => none
  | _ => none

theorem range_sound (hi : Inv C G M w) {t : TypeId} {x : AV} {xv : Value} (hx : Rep G x xv) {v : AV} {M' : Mem} (h : rangeAV C.P t x M = some (v, M')) :
    ∃ u w' G', (Instr.range t xv).run C.P w = .ok u w' ∧ G.le G' ∧ Inv C G' M' w' ∧ Rep G' v u ∧ Ext w w' := by
  unfold rangeAV at h
  split at h
  case h_2 => simp at h
  rename_i s hu
  simp only [Option.some.injEq, Prod.mk.injEq] at h
  obtain ⟨rfl, rfl⟩ := h
  simp only [Rep] at hx
  subst hx
  obtain ⟨G', hi', hle, hblk, hn', _, _⟩ := hi.newObj (.stringIter s 0) (.siter s 0) (fun _ => (none, 0)) 0
    (fun G' _ hb _ _ _ hk => ⟨by rw [hb]; exact heap_alloc_new w _, by rw [hb]; exact hk⟩) (fun G' b hb _ ho => by simp only [owns, hb] at ho; exact ho)
  refine ⟨.pointer (some ⟨w.heap.size, 0, none⟩), _, G', ?_, hle, hi', by simp only [Rep]; exact ⟨hn', by rw [hblk]⟩, Ext.alloc _ _⟩
  simp [Instr.range, run_underlying hu]

theorem run_setObj_iter {P : Program} {r : Nat} {s : ByteArray} {c : Nat} (h : w.heap[r]? = some (.stringIter s c)) (o : Obj) : (setObj r o).run P w = .ok () { w with heap := w.heap.setIfInBounds r o } := by
  simp [setObj, Sem.run, h]
theorem run_getObj_iter {P : Program} {r : Nat} {s : ByteArray} {c : Nat} (h : w.heap[r]? = some (.stringIter s c)) : (getObj r).run P w = .ok (.stringIter s c) w := by
  simp [getObj, Sem.run, h]

theorem next_sound (hi : Inv C G M w) {x : AV} {xv : Value} (hx : Rep G x xv) (ty : TypeId) {v : AV} {M' : Mem} (h : nextAV x M = some (v, M')) :
    ∃ u w', (Instr.next xv true ty).run C.P w = .ok u w' ∧ Inv C G M' w' ∧ Rep G v u ∧ Ext w w' := by
  unfold nextAV at h
  split at h
  case h_2 => simp at h
  rename_i b
  split at h
  case h_2 => simp at h
  rename_i s pos hM
  simp only [Rep] at hx
  obtain ⟨hb, rfl⟩ := hx
  obtain ⟨hh, hk⟩ := hi.obj b _ hM
  split at h
  · rename_i hlt
    simp only [Option.some.injEq, Prod.mk.injEq] at h
    obtain ⟨rfl, rfl⟩ := h
    have hblt := heap_lt hh
    refine ⟨.tuple #[.bool true, goInt pos, .int .i32 (Utf8.decode s pos).1], { w with heap := w.heap.setIfInBounds (G.blk b) (.stringIter s (pos + (Utf8.decode s pos).2)) }, ?_, ?_, ?_, Ext.setHeap _ _ _⟩
    · simp [Instr.next, run_getObj_iter hh, hlt, run_setObj_iter hh]
    · have hget : ∀ c, (w.heap.setIfInBounds (G.blk b) (.stringIter s (pos + (Utf8.decode s pos).2)))[c]? = if c = G.blk b then some (.stringIter s (pos + (Utf8.decode s pos).2)) else w.heap[c]? := by
        intro c
        rw [Array.getElem?_setIfInBounds]
        by_cases e : G.blk b = c
        · subst e; simp [hblt]
        · rw [if_neg e, if_neg (fun h => e h.symm)]
      refine hi.step b (G.blk b) hM (.inl rfl) (.refl _) rfl (fun _ => rfl) (fun _ _ => ⟨rfl, rfl⟩) (fun b i v h => .inl h) (fun _ => rfl) (fun c _ hne => by simp only [hget, if_neg hne])
        (fun i v h => by
          have := hi.st _ _ _ h
          simp [World.cell?, hh] at this) (fun o h => by rw [hk] at h; simp at h) ⟨by simp only [hget, if_true], hk⟩ (fun b hb => .inl hb)
    · simp [Rep, RepL]
  · rename_i hlt
    simp only [Option.some.injEq, Prod.mk.injEq] at h
    obtain ⟨rfl, rfl⟩ := h
    refine ⟨.tuple #[.bool false], w, ?_, hi, by simp [Rep, RepL], .refl _⟩
    simp [Instr.next, run_getObj_iter hh, hlt]
end
end Go.Abs
end
section
/- Slices up to the known length, and clear. -/
set_option linter.unusedVariables false
namespace Go.Abs
section
variable {C : Ctx} {G : Ghost} {M : Mem} {w : World}

def sliceMore (P : Program) (t : TypeId) (M : Mem) (x : AV) (lo hi mx : Option AV) : Option AV := match x with
  | .vref f g sz lo0 len => match hi, M[f]? with
    | some h, some (.vec _ _ _ _ hist) => match hist.lookup g with
      | some n => if lo0 ≤ n then match mx with
          | none => vsliceAV P t f g sz lo0 (n - lo0) lo (some h) none
          | some m => match elemOf? P t, mxIdx (n - lo0) (some m) with
            | some e, some (some q) => match szOf P e, sliceIdx q (some h) with
              | some _, some hh => match loIdx hh lo with
                | some _ => some .poison
                | none => none
              | _, _ => none
            | _, _ => none
        else none
      | none => none
    | _, _ => none
  | _ => none

theorem bounds_len (len len2 cap : Nat) (xlo : Option Value) (h : Value) (xmx : Option Value) : Instr.sliceBounds true len cap xlo (some h) xmx = Instr.sliceBounds true len2 cap xlo (some h) xmx := by
  unfold Instr.sliceBounds
  cases xmx <;> rfl
theorem sliceAt_len {P : Program} {t e : TypeId} (hu : P.underlying t = some (.slice e)) (a : Option Addr) (len len2 cap : Nat) (xlo : Option Value) (h : Value) (xmx : Option Value) (w : World) :
    (Instr.sliceAt t (.slice a len cap) xlo (some h) xmx).run P w = (Instr.sliceAt t (.slice a len2 cap) xlo (some h) xmx).run P w := by
  simp only [Instr.sliceAt, Instr.slice, Sem.run_bind, run_underlying hu, Result.andThen_ok, bounds_len len len2]

theorem sliceMore_sound (hi : Inv C G M w) {t : TypeId} {x : AV} {xv : Value} (hx : Rep G x xv) {lo hiO mx : Option AV} {xlo xhi xmx : Option Value} {v : AV}
    (hlo : ∀ a, lo = some a → ∃ x, xlo = some x ∧ Rep G a x) (hlo' : lo = none → xlo = none)
    (hhi : ∀ a, hiO = some a → ∃ x, xhi = some x ∧ Rep G a x) (hhi' : hiO = none → xhi = none)
    (hmx : ∀ a, mx = some a → ∃ x, xmx = some x ∧ Rep G a x) (hmx' : mx = none → xmx = none) (h : sliceMore C.P t M x lo hiO mx = some v) :
    ∃ u, (Instr.sliceAt t xv xlo xhi xmx).run C.P w = .ok u w ∧ Rep G v u := by
  unfold sliceMore at h
  split at h
  case h_2 => simp at h
  rename_i f g sz lo0 len
  split at h
  case h_2 => simp at h
  rename_i hA e1 s1 cs g1 hist hM
  split at h
  case h_2 => simp at h
  rename_i n hn
  split at h
  case isFalse => simp at h
  rename_i hle
  obtain ⟨hv, hxhi, hrh⟩ := hhi hA rfl
  subst hxhi
  have hx0 := hx
  simp only [Rep] at hx
  obtain ⟨hf, hg, a, a', cap, hd, hsp, hsp', rfl, hlc, hcm, ha'⟩ := hx
  obtain ⟨p0, p2, p3⟩ := hi.obj f _ hM
  obtain ⟨_, q0, b, o, cap', vs, q1, q2, _⟩ := p2 g n (lookup_mem hn)
  rw [q1] at hd
  simp only [Prod.mk.injEq, Option.some.injEq] at hd
  obtain ⟨rfl, rfl⟩ := hd
  split at h
  · have hx2 : Rep G (.vref f g sz lo0 (n - lo0)) (.slice (some a') (n - lo0) (cap' - lo0)) := by
      simp only [Rep]
      exact ⟨hf, hg, _, a', cap', q1, rfl, hsp', rfl, by omega, hcm, ha'⟩
    obtain ⟨u, h1, h2⟩ := vslice_sound (C := C) (w := w) hx2 hlo hlo' (hi := some hA) (fun a ha => by simp at ha; subst ha; exact ⟨hv, rfl, hrh⟩) (by simp) hmx hmx' h
    refine ⟨u, ?_, h2⟩
    have he : ∃ e, elemOf? C.P t = some e := by
      cases he : elemOf? C.P t with
      | none => unfold vsliceAV at h; rw [he] at h; simp [mxIdx] at h
      | some e => exact ⟨e, rfl⟩
    obtain ⟨e, he⟩ := he
    rw [sliceAt_len (elemOf_und he) _ len (n - lo0)]; exact h1
  · rename_i m
    split at h
    case h_2 => simp at h
    rename_i e q he hq
    split at h
    case h_2 => simp at h
    rename_i sz' hh hsz hhe
    split at h
    case h_2 => simp at h
    rename_i l hl
    simp only [Option.some.injEq] at h
    subst h
    obtain ⟨m', hrun, _⟩ := bounds_run (C := C) (w := w) (G := G) (len := n - lo0) (cap := cap' - lo0) (by omega) hlo hlo' (hi := some hA) (fun a ha => by simp at ha; subst ha; exact ⟨hv, rfl, hrh⟩) (by simp) hmx hmx' (m := some q) hq (by simpa using hhe) (by simp) hl
    refine ⟨.slice (if m' = l then some a' else (some a').map (·.add (l * sz'))) (hh - l) (m' - l), ?_, by simp [Rep]⟩
    rw [sliceAt_len (elemOf_und he) _ len (n - lo0)]
    simp only [Instr.sliceAt, Instr.slice, Sem.run_bind, run_underlying (elemOf_und he), Result.andThen_ok, hrun, run_szOf hsz, Sem.run_pure]

def clearAV (P : Program) (t : TypeId) (M : Mem) (x : AV) : Option (AV × Mem) := match x with
  | .vref f g sz lo len => match elemOf? P t with
    | some e => match zeroCells? P e, M[f]? with
      | some z, some (.vec ty sz2 cs g' hist) => match hist.lookup g with
        | some n => if z.length = sz ∧ sz2 = sz ∧ 0 < sz ∧ z.all (·.oneCell') ∧ lo + len ≤ n then
            if len = 0 then some (.tuple [], M) else
            some (.tuple [], M.set f (.vec ty sz (overwrite cs (lo * sz) (List.replicate len (z.map .val)).flatten) g' (keepHist sz g (lo * sz) hist)))
          else none
        | none => none
      | _, _ => none
    | none => none
  | _ => none

theorem clear_sound (hi : Inv C G M w) {t ty : TypeId} {x : AV} {xv : Value} (hx : Rep G x xv) {v : AV} {M' : Mem} (h : clearAV C.P t M x = some (v, M')) :
    ∃ r w', (Builtin.clear_ #[t] ty #[xv]).run C.P w = .ok r w' ∧ Inv C G M' w' ∧ Rep G v r ∧ Ext w w' := by
  unfold clearAV at h
  split at h
  case h_2 => simp at h
  rename_i f g sz lo len
  split at h
  case h_2 => simp at h
  rename_i e he
  split at h
  case h_2 => simp at h
  rename_i z ety sz2 cs g' hist hz hM
  split at h
  case h_2 => simp at h
  rename_i n hn
  split at h
  case isFalse => simp at h
  rename_i hc
  obtain ⟨hzl, rfl, hpos, hz1, hln⟩ := hc
  simp only [Rep] at hx
  obtain ⟨hf, hg, a, a', cap, hdr, hsp, hsp', rfl, hle, hcm, ha'⟩ := hx
  split at h
  · rename_i h0
    subst h0
    simp only [Option.some.injEq, Prod.mk.injEq] at h
    obtain ⟨rfl, rfl⟩ := h
    exact ⟨.tuple #[], w, by simp [Builtin.clear_, run_underlying (elemOf_und he)], hi, by simp [Rep, RepL], .refl _⟩
  · rename_i h0
    simp only [Option.some.injEq, Prod.mk.injEq] at h
    obtain ⟨rfl, rfl⟩ := h
    obtain ⟨zv, hv, hvc, hvr⟩ := zero_rep (P := C.P) hz G w
    have hr0 : ∀ n, RepL G (List.replicate n (z.map AV.val)).flatten (List.replicate n z).flatten := by
      intro n
      induction n with
      | zero => simp [RepL]
      | succ n ih => rw [List.replicate_succ, List.replicate_succ, List.flatten_cons, List.flatten_cons]; exact hvr.append ih
    have hlen : (List.replicate len (z.map AV.val)).flatten.length = len * sz2 := by simp [hzl]
    have hone : ∀ u ∈ (List.replicate len z).flatten, u.oneCell' = true := fun u hu => by
      obtain ⟨l, hl1, hl2⟩ := List.mem_flatten.1 hu
      have := (List.mem_replicate.1 hl1).2
      subst this
      exact List.all_eq_true.1 hz1 u hl2
    have ha := ha' (by
      obtain ⟨_, p2, _⟩ := hi.obj f _ hM
      obtain ⟨_, _, b, o, cap', vs, q1, q2, _⟩ := p2 g n (lookup_mem hn)
      rw [q1] at hdr
      simp only [Prod.mk.injEq] at hdr
      obtain ⟨_, rfl⟩ := hdr
      omega)
    have hb : lo * sz2 + (List.replicate len (z.map AV.val)).flatten.length ≤ n * sz2 := by
      rw [hlen, ← Nat.add_mul]; exact Nat.mul_le_mul_right _ (by omega)
    obtain ⟨a2, w', e2, hst, h2, h3⟩ := vset_sound hi (f := f) (g := g) (off := lo * sz2) (x := .pointer (some ⟨a.block, a.off + lo * sz2, none⟩)) (by simp only [Rep]; exact ⟨hf, hg, a, cap, hdr, rfl⟩) (hr0 len) hone hM hn hb
    simp only [Value.pointer.injEq, Option.some.injEq] at e2
    subst e2
    rw [← ha] at hst
    refine ⟨.tuple #[], w', ?_, h2, by simp [Rep, RepL], h3⟩
    have hzc : (Builtin.zeroCells zv.cells len).toList = (List.replicate len z).flatten := by
      have e : zv.cells = z.toArray := by apply Array.ext'; simpa using hvc
      have := zeros_rows z len sz2 hzl hpos
      rw [e]
      unfold Builtin.zeroCells
      have hs : z.toArray.size = sz2 := by simpa using hzl
      rw [hs] at this ⊢
      exact this
    cases len with
    | zero => exact absurd rfl h0
    | succ k => simp [Builtin.clear_, run_underlying (elemOf_und he), hv, hzc, hst]
end
end Go.Abs
end
