/- Operations that turn no mutable object: one theorem. -/
import Derived.Test.YteillgpoonhdjaaAbsJ
set_option linter.unusedVariables false
namespace Go.Abs

section
variable {C : Ctx} {G : Ghost} {M : Mem} {w : World}

theorem repL_map {σ : Operand → Value} {ρ : Operand → AV} : ∀ (l : List Operand), (∀ x ∈ l, Rep G (ρ x) (σ x)) → RepL G (l.map ρ) (l.map σ)
  | [], _ => by simp [RepL]
  | x :: l, h => by
    simp only [List.map_cons, RepL]
    exact ⟨_, _, rfl, h x (by simp), repL_map l (fun y hy => h y (by simp [hy]))⟩

theorem lenAV_sound {t : TypeId} {x : AV} {xv : Value} (hr : Rep G x xv) {n : Nat} (h : lenAV C.P t x = some n) (ts : Array TypeId) (hts : ts[0]? = some t) (ty : TypeId) : (Builtin.len_ ts ty #[xv]).run C.P w = .ok (goInt n) w := by
  unfold lenAV at h
  split at h
  · simp only [Rep] at hr; subst hr
    split at h
    · rename_i hu; simp at h; subst h; simp [Builtin.len_, hts, run_underlying hu]
    · simp at h
  · simp only [Rep] at hr; subst hr
    split at h
    · rename_i hu; simp at h; subst h; simp [Builtin.len_, hts, run_underlying hu]
    · simp at h
  · simp only [Rep] at hr; subst hr
    split at h
    · rename_i hu; simp at h; subst h; simp [Builtin.len_, hts, run_underlying hu]
    · simp at h
  · simp only [Rep] at hr
    obtain ⟨base, cap, rfl, _⟩ := hr
    split at h
    · rename_i hu; simp at h; subst h; simp [Builtin.len_, hts, run_underlying hu]
    · simp at h
  · simp at h

theorem min2_sound {mx : Bool} {x y v : AV} {xv yv : Value} (hx : Rep G x xv) (hy : Rep G y yv) (h : min2V mx x y = some v) :
    ∃ u, (if mx then Builtin.max2 xv yv else Builtin.min2 xv yv).run C.P w = .ok u w ∧ Rep G v u := by
  unfold min2V at h
  split at h
  case h_2 => simp at h
  simp only [Rep] at hx hy
  subst hx; subst hy
  split at h
  case isFalse => simp at h
  simp at h; subst h
  cases mx
  · exact ⟨_, by simp [Builtin.min2]; rfl, by simp [Rep]⟩
  · exact ⟨_, by simp [Builtin.max2]; rfl, by simp [Rep]⟩

theorem callPure_sound {hint : Bool} {b : Builtin} {ts : Array TypeId} {args : List AV} {xs : Array Value} {v : AV} (hr : RepL G args xs.toList) (h : callPure C.P hint b ts args = some v) (ty : TypeId) (consts : Array Bool) :
    ∃ u, (builtin b ts ty consts xs).run C.P w = .ok (.value u) w ∧ Rep G v u := by
  obtain ⟨xs⟩ := xs
  simp only at hr
  unfold callPure at h
  split at h
  · rename_i x
    simp only [RepL] at hr
    obtain ⟨y, ys, rfl, hy, rfl⟩ := hr
    split at h
    · rename_i t ht
      simp only [Option.map_eq_some_iff] at h
      obtain ⟨n, hn, rfl⟩ := h
      exact ⟨goInt n, by simp [builtin, lenAV_sound (C := C) (w := w) hy hn ts ht ty], by simp [Rep]⟩
    · simp at h
  · simp only [RepL] at hr
    obtain ⟨y, _, rfl, hy, y2, _, rfl, hy2, rfl⟩ := hr
    obtain ⟨u, hu, hru⟩ := min2_sound (C := C) (w := w) hy hy2 h
    exact ⟨u, by simp at hu; simp [builtin, Builtin.max_, List.foldlM, hu], hru⟩
  · simp only [RepL] at hr
    obtain ⟨y, _, rfl, hy, y2, _, rfl, hy2, rfl⟩ := hr
    obtain ⟨u, hu, hru⟩ := min2_sound (C := C) (w := w) hy hy2 h
    exact ⟨u, by simp at hu; simp [builtin, Builtin.min_, List.foldlM, hu], hru⟩
  · simp at h

theorem box_sound (hi : Inv C G M w) {x : AV} {xv : Value} (hx : Rep G x xv) (hs : x.storable = true) (e : TypeId) :
    ∃ u w' G', (Instr.box e xv).run C.P w = .ok u w' ∧ G.le G' ∧ Inv C G' M w' ∧ Rep G' (.cptr x.cells) u ∧ Ext w w' := by
  obtain ⟨h1, h2⟩ := hx.cells hs
  have hle := Ghost.le_fix hi xv.cells.toList
  refine ⟨.pointer (some ⟨w.heap.size, 0, none⟩), w.alloc (.cells xv.cells e), G.fix w.heap.size xv.cells.toList, ?_, hle, hi.fix xv.cells e xv.cells.toList (fun i v hv => by simpa using hv), ?_, Ext.alloc _ _⟩
  · simp only [Instr.box, newVar, newRow, Sem.run_bind, run_newObj, Result.andThen_ok, Sem.run_pure]
    rfl
  · simp only [Rep]
    exact ⟨_, _, rfl, RepMem.fix hi h1 h2⟩

theorem pure_sound (hi : Inv C G M w) {o : Oper} {ρ : Operand → AV} {σ : Operand → Value} (hρ : ∀ x ∈ o.op.operands.toList, Rep G (ρ x) (σ x)) {hn : Hint} {v : AV} (h : evalPure C hn o ρ = some v) : OpOk C G w (execOp σ o) v M := by
  obtain ⟨dst, op, type, pos, after, guard⟩ := o
  simp only at hρ
  unfold evalPure at h
  simp only at h
  split at h
  · -- move
    simp only [Option.some.injEq] at h; subst h
    exact OpOk.same hi (by simp [execOp]) (hρ _ (by simp [Op.operands]))
  · simp only [Option.some.injEq] at h; subst h
    exact OpOk.same hi (by simp [execOp]) (hρ _ (by simp [Op.operands]))
  · -- pick
    rename_i c a b
    split at h
    case h_2 => simp at h
    rename_i t hc
    simp only [Option.some.injEq] at h; subst h
    have h1 := hρ c (by simp [Op.operands])
    rw [hc] at h1
    simp only [Rep] at h1
    have h2 := hρ a (by simp [Op.operands])
    have h3 := hρ b (by simp [Op.operands])
    cases t
    · exact OpOk.same hi (x := σ b) (by simp [execOp, h1, asBool]) (by simpa using h3)
    · exact OpOk.same hi (x := σ a) (by simp [execOp, h1, asBool]) (by simpa using h2)
  · -- box
    rename_i e x
    split at h
    case isFalse => simp at h
    rename_i hc
    simp only [Bool.and_eq_true] at hc
    simp only [Option.some.injEq] at h; subst h
    obtain ⟨u, w', G', h1, h2, h3, h4, h5⟩ := box_sound hi (hρ x (by simp [Op.operands])) hc.2 e
    exact ⟨_, w', G', run_v h1, .inl ⟨u, rfl, h4⟩, h2, h3, h5⟩
  · -- nilCheck
    rename_i x
    have hx := hρ x (by simp [Op.operands])
    split at h
    · rename_i b off he
      simp only [Option.some.injEq] at h; subst h
      rw [he] at hx
      have hx' := hx
      simp only [Rep] at hx
      exact OpOk.same hi (x := σ x) (by simp [execOp, hx.2]) hx'
    · rename_i cs he
      simp only [Option.some.injEq] at h; subst h
      rw [he] at hx
      have hx' := hx
      simp only [Rep] at hx
      obtain ⟨b, i, hp, _⟩ := hx
      exact OpOk.same hi (x := σ x) (by simp [execOp, hp]) hx'
    · rename_i f a c he
      simp only [Option.some.injEq] at h; subst h
      rw [he] at hx
      have hx' := hx
      simp only [Rep] at hx
      obtain ⟨fs, cs, hp, _⟩ := hx
      exact OpOk.same hi (x := σ x) (by simp [execOp, hp]) hx'
    · simp at h
  · -- binOp
    rename_i op t x y _
    obtain ⟨u, h1, h2⟩ := binAV_sound hi (hρ x (by simp [Op.operands])) (hρ y (by simp [Op.operands])) h x y
    exact OpOk.same hi (x := u) (run_v h1) h2
  · -- not
    rename_i t x
    have hx := hρ x (by simp [Op.operands])
    split at h
    case h_2 => simp at h
    rename_i b he
    simp only [Option.some.injEq] at h; subst h
    rw [he] at hx
    simp only [Rep] at hx
    exact OpOk.same hi (x := .bool !b) (by simp [execOp, hx, Op.unary]) (by simp [Rep])
  · rename_i t x
    have hx := hρ x (by simp [Op.operands])
    split at h
    case h_2 => simp at h
    rename_i k n he
    simp only [Option.some.injEq] at h; subst h
    rw [he] at hx
    simp only [Rep] at hx
    exact OpOk.same hi (x := .int k (k.wrap (0 - n))) (by simp [execOp, hx, Op.unary, Op.intArith]) (by simp [Rep])
  · -- fieldAddr
    rename_i t x f
    have hx := hρ x (by simp [Op.operands])
    split at h
    · rename_i k b off ho he
      simp only [Option.some.injEq] at h; subst h
      rw [he] at hx
      simp only [Rep] at hx
      refine OpOk.same hi (x := .pointer (some ⟨G.blk b, off + k, none⟩)) ?_ (by simp only [Rep]; exact ⟨hx.1, trivial⟩)
      have := offOf_run ho ⟨G.blk b, off, none⟩ w
      rw [Addr.add_lit] at this
      simp only [execOp, hx.2]
      exact run_v this
    · rename_i k cs ho he
      simp only [Option.some.injEq] at h; subst h
      rw [he] at hx
      simp only [Rep] at hx
      obtain ⟨b, i, hp, hm⟩ := hx
      refine OpOk.same hi (x := .pointer (some ⟨b, i + k, none⟩)) ?_ (by simp only [Rep]; exact ⟨b, i + k, rfl, hm.drop k⟩)
      have := offOf_run ho ⟨b, i, none⟩ w
      rw [Addr.add_lit] at this
      simp only [execOp, hp]
      exact run_v this
    · simp at h
  · -- field
    rename_i t x f
    have hx := hρ x (by simp [Op.operands])
    split at h
    case h_2 => simp at h
    rename_i k ft cs hfo he
    split at h
    case isFalse => simp at h
    rename_i hfit
    rw [he] at hx
    simp only [Rep] at hx
    obtain ⟨ys, hp, hr, h1⟩ := hx
    obtain ⟨u, hu, hru⟩ := part_sound (C := C) (w := w) hr h1 hfit h
    refine OpOk.same hi (x := u) ?_ hru
    unfold fieldOf? at hfo
    split at hfo
    case h_2 => simp at hfo
    rename_i fs hund
    simp only [Option.map_eq_some_iff] at hfo
    obtain ⟨fx, hfx, he2⟩ := hfo
    simp at he2
    obtain ⟨rfl, rfl⟩ := he2
    simp [execOp, Instr.field, hp, run_underlying hund, hfx, asAgg, hu]
  · -- indexAddr
    rename_i t x ix
    have hx := hρ x (by simp [Op.operands])
    have hix := hρ ix (by simp [Op.operands])
    split at h
    case h_2 => simp at h
    rename_i e sz rows own k i hel he hei
    split at h
    case isFalse => simp at h
    rename_i hc
    obtain ⟨hsz, h0, hlt⟩ := hc
    simp only [Option.some.injEq] at h; subst h
    rw [he] at hx
    rw [hei] at hix
    simp only [Rep] at hx hix
    obtain ⟨base, cap, hp, hlc, hcm, hbase, hown⟩ := hx
    cases base with
    | none => obtain ⟨rfl, _⟩ := hbase; simp at hlt; omega
    | some a =>
      obtain ⟨hsp, hrows⟩ := hbase
      have hidx : i.toNat < rows.length := by omega
      have hrow := hrows.row (j := i.toNat) (r := rows[i.toNat]) (by simp [hidx])
      have ea : a.add (i.toNat * sz) = ⟨a.block, a.off + i.toNat * sz, none⟩ := by
        have ea : a = ⟨a.block, a.off, none⟩ := by cases a; simp_all
        rw [ea, Addr.add_lit]
      refine OpOk.same hi (x := .pointer (some ⟨a.block, a.off + i.toNat * sz, none⟩)) ?_ ?_
      · have hu := elemOf_und hel
        simp [execOp, Instr.indexAt, hp, hix, asIntOf, run_underlying hu, h0, hlt, run_szOf hsz, ea]
      · have : rows.getD i.toNat [] = rows[i.toNat] := by simp [List.getD, hidx]
        rw [this]
        simp only [Rep]
        exact ⟨_, _, rfl, hrow.2⟩
  · -- index of a string
    rename_i t x ix
    have hx := hρ x (by simp [Op.operands])
    have hix := hρ ix (by simp [Op.operands])
    split at h
    case h_2 => simp at h
    rename_i s k i hu he hei
    split at h
    case isFalse => simp at h
    rename_i hc
    simp only [Option.some.injEq] at h; subst h
    rw [he] at hx
    rw [hei] at hix
    simp only [Rep] at hx hix
    refine OpOk.same hi (x := .int .u8 (s.data.getD i.toNat 0).toNat) ?_ (by simp [Rep])
    have hlt : i.toNat < s.size := by omega
    have hlt' : i.toNat < s.data.size := hlt
    have e1 : s[i.toNat]? = some (s.data.getD i.toNat 0) := by
      rw [getElem?_pos s i.toNat hlt]
      simp only [Array.getD]
      rw [dif_pos hlt']
      rfl
    simp [execOp, Instr.index, hx, hix, asIntOf, run_underlying hu, hc.1, e1]
  · -- load
    rename_i t x
    have hx := hρ x (by simp [Op.operands])
    split at h
    case h_2 => simp at h
    rename_i cs he
    rw [he] at hx
    obtain ⟨u, hu, hru⟩ := load_sound hi hx (t := t) (cs := cs) (by simp [memOf]) h
    exact OpOk.same hi (x := u) (run_v hu) hru
  · -- extract
    rename_i x i
    have hx := hρ x (by simp [Op.operands])
    split at h
    case h_2 => simp at h
    rename_i vs he
    rw [he] at hx
    simp only [Rep] at hx
    obtain ⟨ys, hp, hr⟩ := hx
    obtain ⟨y, hy, hry⟩ := hr.get h
    have : ys[i]? = some y := by simpa using hy
    exact OpOk.same hi (x := y) (by simp [execOp, Instr.extract, hp, this]) hry
  · -- makeFunc
    rename_i fn f c
    simp only [Option.some.injEq] at h; subst h
    refine OpOk.same hi (x := .func fn (f.map σ) (c.map σ)) (by simp [execOp, Instr.makeFunc]) ?_
    simp only [Rep]
    refine ⟨_, _, rfl, ?_, ?_⟩
    · simpa using repL_map (G := G) (ρ := ρ) (σ := σ) f.toList (fun x hx => hρ x (by simp [Op.operands]; simp at hx; simp [hx]))
    · simpa using repL_map (G := G) (ρ := ρ) (σ := σ) c.toList (fun x hx => hρ x (by simp [Op.operands]; simp at hx; simp [hx]))
  · -- slice
    rename_i t x lo hi' mx
    have hx := hρ x (by simp [Op.operands])
    have hlo : ∀ a, lo.map ρ = some a → ∃ y, lo.map σ = some y ∧ Rep G a y := fun a ha => by
      cases lo with
      | none => simp at ha
      | some q => simp at ha; subst ha; exact ⟨_, rfl, hρ q (by simp [Op.operands])⟩
    have hhi : ∀ a, hi'.map ρ = some a → ∃ y, hi'.map σ = some y ∧ Rep G a y := fun a ha => by
      cases hi' with
      | none => simp at ha
      | some q => simp at ha; subst ha; exact ⟨_, rfl, hρ q (by simp [Op.operands])⟩
    have hmx : ∀ a, mx.map ρ = some a → ∃ y, mx.map σ = some y ∧ Rep G a y := fun a ha => by
      cases mx with
      | none => simp at ha
      | some q => simp at ha; subst ha; exact ⟨_, rfl, hρ q (by simp [Op.operands])⟩
    by_cases hs : ∃ s, ρ x = .val (.string s)
    · obtain ⟨s, hs⟩ := hs
      rw [hs] at h hx
      simp only [Rep] at hx
      cases mx with
      | some q => simp [sliceAV] at h
      | none =>
        obtain ⟨u, hu, hru⟩ := slice_string_sound (C := C) (G := G) (w := w) hlo (by cases lo <;> simp) hhi (by cases hi' <;> simp) h
        refine OpOk.same hi (x := u) ?_ hru
        simp only [execOp, hx]
        exact run_v hu
    · cases he : ρ x with
      | list sz rows own =>
        rw [he] at h hx
        obtain ⟨u, hu, hru⟩ := slice_list_sound (C := C) (G := G) (w := w) hx hlo (by cases lo <;> simp) hhi (by cases hi' <;> simp) hmx (by cases mx <;> simp) h
        exact OpOk.same hi (x := u) (run_v hu) hru
      | val v =>
        cases v with
        | string s => exact absurd ⟨s, he⟩ hs
        | slice a n c =>
          rw [he] at h hx
          simp only [Rep] at hx
          have hnil : a = none ∧ n = 0 ∧ c = 0 := by
            unfold sliceAV at h
            split at h
            · rename_i heq; simp at heq
            · rename_i heq; simp at heq
            · rename_i heq; simpa using heq
            · simp at h
          obtain ⟨rfl, rfl, rfl⟩ := hnil
          simp only [sliceAV] at h
          split at h
          case h_2 => simp at h
          split at h
          case h_2 => simp at h
          rename_i sz _
          have hx' : Rep G (.list sz [] .full) (σ x) := by
            rw [hx]
            exact rep_list (by simp) (Nat.le_refl _) (by simp [maxLen]) ⟨rfl, rfl⟩ rfl
          obtain ⟨u, hu, hru⟩ := slice_list_sound (C := C) (G := G) (w := w) hx' hlo (by cases lo <;> simp) hhi (by cases hi' <;> simp) hmx (by cases mx <;> simp) h
          exact OpOk.same hi (x := u) (run_v hu) hru
        | _ => rw [he] at h; simp [sliceAV] at h
      | _ => rw [he] at h; simp [sliceAV] at h
  · -- build
    rename_i t parts
    split at h
    case h_2 => simp at h
    rename_i z fs hz hu
    split at h
    · simp at h
    rename_i hc
    simp only [Bool.or_eq_true, Bool.not_eq_true', not_or, Bool.not_eq_false] at hc
    simp only [Option.map_eq_some_iff] at h
    obtain ⟨cs, hcs, rfl⟩ := h
    obtain ⟨u, hu', hru⟩ := build_sound (C := C) (G := G) (w := w) hu hc.1 hz hc.2 (xs := parts.map fun (i, x) => (i, σ x)) (by simp) (fun j p x hp hx => by
      simp only [List.getElem?_map, Option.map_eq_some_iff] at hp
      obtain ⟨q, hq, rfl⟩ := hp
      simp only [Array.toList_map, List.getElem?_map, Option.map_eq_some_iff] at hx
      obtain ⟨q', hq', rfl⟩ := hx
      rw [hq] at hq'
      simp at hq'
      subst hq'
      exact ⟨rfl, hρ _ (by simp [Op.operands]; exact ⟨_, by simpa using List.mem_of_getElem? hq⟩)⟩) hcs
    exact OpOk.same hi (x := u) (run_v hu') hru
  · -- buildSlice
    rename_i t n parts
    split at h
    case h_2 => simp at h
    rename_i e he
    split at h
    case h_2 => simp at h
    rename_i sz z hs hz
    split at h
    case isFalse => simp at h
    rename_i hc
    obtain ⟨c1, c2, c3, c4⟩ := hc
    simp only [Option.map_eq_some_iff] at h
    obtain ⟨rows, hrows, rfl⟩ := h
    obtain ⟨u, w', G', h1, h2, h3, h4, h5⟩ := buildSlice_sound (C := C) (G := G) (w := w) hi he hs hz c3 c2 c4 c1 (xs := parts.map fun (i, x) => (i, σ x)) (by simp) (fun j p x hp hx => by
      simp only [List.getElem?_map, Option.map_eq_some_iff] at hp
      obtain ⟨q, hq, rfl⟩ := hp
      simp only [Array.toList_map, List.getElem?_map, Option.map_eq_some_iff] at hx
      obtain ⟨q', hq', rfl⟩ := hx
      rw [hq] at hq'
      simp at hq'
      subst hq'
      exact ⟨rfl, hρ _ (by simp [Op.operands]; exact ⟨_, by simpa using List.mem_of_getElem? hq⟩)⟩) hrows
    exact ⟨_, w', G', run_v h1, .inl ⟨u, rfl, h4⟩, h2, h3, h5⟩
  · -- a builtin
    rename_i b args ts
    obtain ⟨u, hu, hru⟩ := callPure_sound (C := C) (w := w) (xs := args.map σ) (by simpa using repL_map (G := G) (ρ := ρ) (σ := σ) args.toList (fun x hx => hρ x (by simp [Op.operands, Call.operands]; simpa using hx))) h type (args.map fun | .const _ => true | _ => false)
    exact OpOk.same hi (x := u) (by simp only [execOp, resolve, invoke, Sem.run_bind, Sem.run_pure, Result.andThen_ok]; exact hu) hru
  · simp at h
end
end Go.Abs
