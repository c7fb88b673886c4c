/- What an operation does to the abstract state: memory. -/
import Derived.Test.YteillgpoonhdjaaAbsB
set_option linter.unusedVariables false
namespace Go.Abs

/-! ### facts of a program's types, as functions -/
def szOf (P : Program) (t : TypeId) : Option Nat := (P.info? t).map (·.size)
def aggOf (P : Program) (t : TypeId) : Option Bool := (P.underlying t).map fun d => match d with | .struct _ | .array _ _ => true | _ => false
def bytesOf (P : Program) (t : TypeId) : Option Nat := (P.info? t).map (·.bytes)
def elemOf? (P : Program) (t : TypeId) : Option TypeId := match P.underlying t with | some (.slice e) => some e | _ => none
def offOf (P : Program) (t : TypeId) (f : Nat) : Option Nat := match P.underlying t with
  | some (.struct fs) => match fs[f]? with
    | some x => match szOf P x.type with
      | some 0 => none
      | some _ => some x.offset
      | none => none
    | none => none
  | _ => none

section
variable {P : Program}
theorem run_szOf {t : TypeId} {n : Nat} (h : szOf P t = some n) (w : World) : (sizeOf t).run P w = .ok n w := by
  unfold szOf at h
  cases hi : P.info? t with
  | none => simp [hi] at h
  | some i => simp [hi] at h; simp [sizeOf, typeInfo, hi, h]
theorem run_aggOf {t : TypeId} {b : Bool} (h : aggOf P t = some b) (w : World) : (isAgg t).run P w = .ok b w := by
  unfold aggOf at h
  cases hi : P.underlying t with
  | none => simp [hi] at h
  | some d =>
    simp [hi] at h
    simp only [isAgg, Sem.run_bind, run_underlying hi, Result.andThen_ok]
    subst h
    cases d <;> rfl
theorem elemOf_und {t e : TypeId} (h : elemOf? P t = some e) : P.underlying t = some (.slice e) := by
  unfold elemOf? at h
  split at h
  · rename_i e' he; simp at h; subst h; exact he
  · simp at h
end

/-! ### a load -/
def loadCells? (P : Program) (t : TypeId) (cs : List AV) : Option AV :=
  match aggOf P t, szOf P t with
  | some true, some n => if n ≤ cs.length then some (.agg (cs.take n)) else none
  | some false, some _ => match cs with | c :: _ => some c | [] => none
  | _, _ => none

def memOf (M : Mem) : AV → Option (List AV)
  | .cptr cs => some cs
  | .ptr b off => match M[b]? with
    | some (.cells cs) => if off ≤ cs.length then some (cs.drop off) else none
    | _ => none
  | _ => none

/-- the cells behind a pointer, as they lie in the real memory -/
theorem memOf_rep {C : Ctx} {G : Ghost} {M : Mem} {w : World} (hi : Inv C G M w) {p : AV} {x : Value} (hr : Rep G p x) {cs : List AV} (h : memOf M p = some cs) :
    ∃ (b i : Nat) (vs : List Value), x = .pointer (some ⟨b, i, none⟩) ∧ RepL G cs vs ∧ (∀ v ∈ vs, v.oneCell' = true) ∧ ∀ j v, vs[j]? = some v → w.cell? ⟨b, i + j, none⟩ = some v := by
  cases p with
  | cptr ds =>
    simp only [memOf, Option.some.injEq] at h
    subst h
    simp only [Rep] at hr
    obtain ⟨b, i, rfl, hm⟩ := hr
    obtain ⟨vs, h1, h2, h3, h4⟩ := hm.vals
    exact ⟨b, i, vs, rfl, h1, h3, fun j v hv => hi.st _ _ _ (h4 j v hv)⟩
  | ptr b off =>
    simp only [memOf] at h
    simp only [Rep] at hr
    obtain ⟨hb, rfl⟩ := hr
    split at h
    · rename_i ds hd
      split at h
      · rename_i hle
        simp only [Option.some.injEq] at h
        subst h
        obtain ⟨vs, t, hh, h1, h2, h3⟩ := hi.obj b _ hd
        refine ⟨G.blk b, off, vs.toList.drop off, rfl, h1.drop off, fun v hv => h2 v (List.mem_of_mem_drop hv), ?_⟩
        intro j v hv
        rw [List.getElem?_drop] at hv
        simpa [World.cell?, hh] using hv
      · simp at h
    · simp at h
  | _ => simp [memOf] at h

theorem load_sound {C : Ctx} {G : Ghost} {M : Mem} {w : World} (hi : Inv C G M w) {p : AV} {x : Value} (hr : Rep G p x) {t : TypeId} {cs : List AV} {r : AV}
    (h : memOf M p = some cs) (hl : loadCells? C.P t cs = some r) : ∃ v, (Instr.loadAt t x).run C.P w = .ok v w ∧ Rep G r v := by
  obtain ⟨b, i, vs, rfl, h1, h2, h3⟩ := memOf_rep hi hr h
  have hlen := h1.length
  unfold loadCells? at hl
  split at hl
  · rename_i n ha hs
    split at hl
    · rename_i hle
      simp only [Option.some.injEq] at hl
      subst hl
      have hc := run_loadCells_list (P := C.P) w ⟨b, i, none⟩ (vs.take n) (fun j v hv => by
        rw [List.getElem?_take] at hv
        split at hv
        · rw [Addr.add_lit]; exact h3 j v hv
        · simp at hv)
      have hn : (vs.take n).length = n := by rw [List.length_take]; omega
      rw [hn] at hc
      refine ⟨.agg (vs.take n).toArray, ?_, ?_⟩
      · simp only [Instr.loadAt, Instr.sureAddr, loadVar, Sem.run_bind, Sem.run_pure, Result.andThen_ok, run_aggOf ha, run_szOf hs, if_true, hc]
      · simp only [Rep]
        exact ⟨_, rfl, by simpa using h1.take n, fun v hv => h2 v (List.mem_of_mem_take (by simpa using hv))⟩
    · simp at hl
  · rename_i n ha hs
    split at hl
    · rename_i c cs'
      simp only [Option.some.injEq] at hl
      subst hl
      simp only [RepL] at h1
      obtain ⟨y, ys', rfl, h5, h6⟩ := h1
      refine ⟨y, ?_, h5⟩
      have h0 := h3 0 y rfl
      simp only [Nat.add_zero] at h0
      simp [Instr.loadAt, Instr.sureAddr, loadVar, run_aggOf ha, run_load, h0]
    · simp at hl
  · simp at hl

/-! ### a store into a box -/
def AV.one : AV → Bool
  | .val v => v.oneCell'
  | .poison | .agg _ | .tuple _ => false
  | _ => true
def AV.cells : AV → List AV
  | .agg cs => cs
  | v => [v]
def AV.storable : AV → Bool
  | .agg _ => true
  | v => v.one

theorem Rep.one {G : Ghost} {a : AV} {x : Value} (h : Rep G a x) (h1 : a.one = true) : x.oneCell' = true := by
  cases a <;> simp only [AV.one, Bool.false_eq_true] at h1 <;> simp only [Rep] at h
  · subst h; exact h1
  · obtain ⟨_, rfl⟩ := h; rfl
  · obtain ⟨_, _, rfl, _⟩ := h; rfl
  · obtain ⟨_, _, rfl, _⟩ := h; rfl
  · obtain ⟨_, rfl⟩ := h; rfl
  · obtain ⟨_, _, rfl, _⟩ := h; rfl
  · obtain ⟨_, rfl, _⟩ := h; rfl

theorem Rep.cells {G : Ghost} {a : AV} {x : Value} (h : Rep G a x) (h1 : a.storable = true) : RepL G a.cells x.cells.toList ∧ ∀ v ∈ x.cells.toList, v.oneCell' = true := by
  by_cases ha : ∃ cs, a = .agg cs
  · obtain ⟨cs, rfl⟩ := ha
    simp only [Rep] at h
    obtain ⟨ys, rfl, h2, h3⟩ := h
    exact ⟨by simpa [AV.cells, Value.cells] using h2, by simpa [Value.cells] using h3⟩
  · have hone : a.one = true := by
      cases a <;> simp_all [AV.storable, AV.one]
    have hx := h.one hone
    have hc : x.cells = #[x] := by cases x <;> simp_all [Value.cells, Value.oneCell']
    have hac : a.cells = [a] := by cases a <;> simp_all [AV.cells]
    rw [hc, hac]
    exact ⟨by simp [RepL, h], by simpa using hx⟩

def overwrite (cs : List AV) (off : Nat) (news : List AV) : List AV := cs.take off ++ news ++ cs.drop (off + news.length)

theorem setRow_cell_ne (w : World) (g : Nat) (c : Array Value) (a : Addr) (h : a.block ≠ g) : (w.setRow g c).cell? a = w.cell? a := by
  have := setRow_other w g a.block c h
  simp [World.cell?, this]

/-- The abstract state behind a box's new contents. -/
theorem Inv.setBox {C : Ctx} {G : Ghost} {M : Mem} {w : World} (hi : Inv C G M w) {k : Nat} {cs cs' : List AV} (hk : M[k]? = some (.cells cs)) {vs : Array Value} {t : TypeId}
    (hh : w.heap[G.blk k]? = some (.cells vs t (0, 0))) {vs' : Array Value} (hr : RepL G cs' vs'.toList) (h1 : ∀ v ∈ vs'.toList, v.oneCell' = true) :
    Inv C G (M.set k (.cells cs')) (w.setRow (G.blk k) vs') := by
  obtain ⟨_, _, _, _, _, hst, hkeep⟩ := hi.obj k _ hk
  refine hi.step k (G.blk k) hk (.inl rfl) (.refl _) rfl (fun _ => rfl) (fun _ _ => ⟨rfl, rfl⟩) (fun b i v h => .inl h) (fun _ => rfl) (fun b _ hne => setRow_other _ _ _ _ hne)
    (fun i v h => by rw [hst i] at h; simp at h) (fun o h => by rw [hkeep] at h; simp at h) ⟨vs', t, setRow_heap w _ vs vs' t _ hh, hr, h1, hst, hkeep⟩ (fun b hb => by simp [oblk] at hb; exact hb.symm)

theorem Ext.setRow (w : World) (g : Nat) (c : Array Value) : Ext w (w.setRow g c) := ⟨rfl, rfl, rfl, by simp [World.setRow]⟩

theorem store_sound {C : Ctx} {G : Ghost} {M : Mem} {w : World} (hi : Inv C G M w) {b off : Nat} {x : Value} (hr : Rep G (.ptr b off) x) {t : TypeId} {cs : List AV} {v : AV} {y : Value} (hv : Rep G v y)
    (hb : M[b]? = some (.cells cs)) (hs : v.storable = true) (hsz : szOf C.P t = some v.cells.length) (hfit : off + v.cells.length ≤ cs.length) :
    ∃ w', (Instr.storeAt t x y).run C.P w = .ok () w' ∧ Inv C G (M.set b (.cells (overwrite cs off v.cells))) w' ∧ Ext w w' := by
  simp only [Rep] at hr
  obtain ⟨hblt, rfl⟩ := hr
  obtain ⟨vs, ty, hh, h1, h2, h3, h4⟩ := hi.obj b _ hb
  obtain ⟨hc1, hc2⟩ := hv.cells hs
  have hlen := h1.length
  have hclen := hc1.length
  have hst := run_storeCells_at C.P (G.blk b) off ty y.cells.toList 0 vs w hh (by simp at hlen hclen ⊢; omega) hc2
  simp only [Nat.add_zero] at hst
  refine ⟨_, ?_, hi.setBox hb hh (vs' := (vs.toList.take off ++ y.cells.toList ++ vs.toList.drop (off + y.cells.toList.length)).toArray) ?_ ?_, Ext.setRow _ _ _⟩
  · have hsz' : y.cells.size = v.cells.length := by simpa using hclen
    simp only [Instr.storeAt, Instr.sureAddr, storeVar, Sem.run_bind, Sem.run_pure, Result.andThen_ok, run_szOf hsz, hsz', ne_eq, not_true_eq_false, if_false, hst]
  · simp only [overwrite]
    have e : y.cells.toList.length = v.cells.length := hclen
    rw [e]
    exact ((h1.take off).append hc1).append (h1.drop _)
  · intro u hu
    simp only [List.mem_append] at hu
    rcases hu with (hu | hu) | hu
    · exact h2 u (List.mem_of_mem_take hu)
    · exact hc2 u hu
    · exact h2 u (List.mem_of_mem_drop hu)
end Go.Abs
