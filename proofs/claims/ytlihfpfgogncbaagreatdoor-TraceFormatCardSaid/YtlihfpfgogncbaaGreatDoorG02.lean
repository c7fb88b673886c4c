/- The texts AbsC, AbsC2, AbsD, AbsE: what each proves stands at its head. -/
import Derived.Test.YtlihfpfgogncbaaGreatDoorG01
section
/- What an operation does to the abstract state: memory. -/
set_option linter.unusedVariables false
namespace Go.Abs

/-! ### facts of a program's types, as functions -/
def szOf (P : Program) (t : TypeId) : Option Nat := (P.info? t).map (·.size)
def aggOf (P : Program) (t : TypeId) : Option Bool := (P.underlying t).map fun d => match d with | .struct _ | .array _ _ => true | _ => false
def bytesOf (P : Program) (t : TypeId) : Option Nat := (P.info? t).map (·.bytes)
def elemOf? (P : Program) (t : TypeId) : Option TypeId := match P.underlying t with | some (.slice e) => some e | _ => none
def offOf (P : Program) (t : TypeId) (f : Nat) : Option Nat := match P.underlying t with
  | some (.struct fs) => match fs[f]? with
    | some x => match szOf P x.type with
      | some 0 => none
      | some _ => some x.offset
      | none => none
    | none => none
  | _ => none

section
variable {P : Program}
theorem run_szOf {t : TypeId} {n : Nat} (h : szOf P t = some n) (w : World) : (sizeOf t).run P w = .ok n w := by
  unfold szOf at h
  cases hi : P.info? t with
  | none => simp [hi] at h
  | some i => simp [hi] at h; simp [sizeOf, typeInfo, hi, h]
theorem run_aggOf {t : TypeId} {b : Bool} (h : aggOf P t = some b) (w : World) : (isAgg t).run P w = .ok b w := by
  unfold aggOf at h
  cases hi : P.underlying t with
  | none => simp [hi] at h
  | some d =>
    simp [hi] at h
    simp only [isAgg, Sem.run_bind, run_underlying hi, Result.andThen_ok]
    subst h
    cases d <;> rfl
theorem elemOf_und {t e : TypeId} (h : elemOf? P t = some e) : P.underlying t = some (.slice e) := by
  unfold elemOf? at h
  split at h
  · rename_i e' he; simp at h; subst h; exact he
  · simp at h
end

/-! ### a load -/
def loadCells? (P : Program) (t : TypeId) (cs : List AV) : Option AV :=
  match aggOf P t, szOf P t with
  | some true, some n => if n ≤ cs.length then some (.agg (cs.take n)) else none
  | some false, some _ => match cs with | c :: _ => some c | [] => none
  | _, _ => none

def memOf (M : Mem) : AV → Option (List AV)
  | .cptr cs => some cs
  | .ptr b off => match M[b]? with
    | some (.cells _ cs) => if off ≤ cs.length then some (cs.drop off) else none
    | _ => none
  | .vptr f g off => match M[f]? with
    | some (.vec _ sz cs _ hist) => match hist.lookup g with
      | some n => some ((cs.take (n * sz)).drop off)
      | none => none
    | _ => none
  | _ => none

theorem lookup_mem {l : List (Nat × Nat)} {g n : Nat} (h : l.lookup g = some n) : (g, n) ∈ l := by
  induction l with
  | nil => simp at h
  | cons x xs ih =>
    obtain ⟨a, b⟩ := x
    simp only [List.lookup_cons] at h
    split at h
    · rename_i e
      simp only [beq_iff_eq] at e
      simp only [Option.some.injEq] at h
      subst e h
      exact List.mem_cons_self
    · exact List.mem_cons_of_mem _ (ih h)

/-- the cells behind a pointer, as they lie in the real memory -/
theorem memOf_rep {C : Ctx} {G : Ghost} {M : Mem} {w : World} (hi : Inv C G M w) {p : AV} {x : Value} (hr : Rep G p x) {cs : List AV} (h : memOf M p = some cs) :
    ∃ (b i : Nat) (vs : List Value), x = .pointer (some ⟨b, i, none⟩) ∧ RepL G cs vs ∧ (∀ v ∈ vs, v.oneCell' = true) ∧ ∀ j v, vs[j]? = some v → w.cell? ⟨b, i + j, none⟩ = some v := by
  cases p with
  | cptr ds =>
    simp only [memOf, Option.some.injEq] at h
    subst h
    simp only [Rep] at hr
    obtain ⟨b, i, rfl, hm⟩ := hr
    obtain ⟨vs, h1, h2, h3, h4⟩ := hm.vals
    exact ⟨b, i, vs, rfl, h1, h3, fun j v hv => hi.st _ _ _ (h4 j v hv)⟩
  | ptr b off =>
    simp only [memOf] at h
    simp only [Rep] at hr
    obtain ⟨hb, rfl⟩ := hr
    split at h
    · rename_i ty ds hd
      split at h
      · rename_i hle
        simp only [Option.some.injEq] at h
        subst h
        obtain ⟨vs, hh, h1, h2, h3⟩ := hi.obj b _ hd
        refine ⟨G.blk b, off, vs.toList.drop off, rfl, h1.drop off, fun v hv => h2 v (List.mem_of_mem_drop hv), ?_⟩
        intro j v hv
        rw [List.getElem?_drop] at hv
        simpa [World.cell?, hh] using hv
      · simp at h
    · simp at h
  | vptr f g off =>
    simp only [memOf] at h
    simp only [Rep] at hr
    obtain ⟨hf, hg, a, cap, hd, rfl⟩ := hr
    split at h
    · rename_i ty sz ds g' hist hM
      split at h
      · rename_i n hn
        simp only [Option.some.injEq] at h
        subst h
        obtain ⟨_, h2, _⟩ := hi.obj f _ hM
        obtain ⟨_, _, b, o, cap', vs, q1, q2, q3, q4, q5, q6, q7, q8, q9⟩ := h2 g n (lookup_mem hn)
        rw [hd] at q1
        simp only [Prod.mk.injEq, Option.some.injEq] at q1
        obtain ⟨rfl, rfl⟩ := q1
        refine ⟨b, o + off, ((vs.toList.drop o).take (n * sz)).drop off, rfl, q6.drop off, fun v hv => q7 v (List.mem_of_mem_drop hv), ?_⟩
        intro j v hv
        rw [List.getElem?_drop, List.getElem?_take] at hv
        split at hv
        · rw [List.getElem?_drop] at hv
          rw [cell_of_row _ _ _ _ _ _ q4, show o + off + j = o + (off + j) from by omega]
          simpa using hv
        · simp at hv
      · simp at h
    · simp at h
  | _ => simp [memOf] at h

theorem load_sound {C : Ctx} {G : Ghost} {M : Mem} {w : World} (hi : Inv C G M w) {p : AV} {x : Value} (hr : Rep G p x) {t : TypeId} {cs : List AV} {r : AV}
    (h : memOf M p = some cs) (hl : loadCells? C.P t cs = some r) : ∃ v, (Instr.loadAt t x).run C.P w = .ok v w ∧ Rep G r v := by
  obtain ⟨b, i, vs, rfl, h1, h2, h3⟩ := memOf_rep hi hr h
  have hlen := h1.length
  unfold loadCells? at hl
  split at hl
  · rename_i n ha hs
    split at hl
    · rename_i hle
      simp only [Option.some.injEq] at hl
      subst hl
      have hc := run_loadCells_list (P := C.P) w ⟨b, i, none⟩ (vs.take n) (fun j v hv => by
        rw [List.getElem?_take] at hv
        split at hv
        · rw [Addr.add_lit]; exact h3 j v hv
        · simp at hv)
      have hn : (vs.take n).length = n := by rw [List.length_take]; omega
      rw [hn] at hc
      refine ⟨.agg (vs.take n).toArray, ?_, ?_⟩
      · simp only [Instr.loadAt, Instr.sureAddr, loadVar, Sem.run_bind, Sem.run_pure, Result.andThen_ok, run_aggOf ha, run_szOf hs, if_true, hc]
      · simp only [Rep]
        exact ⟨_, rfl, by simpa using h1.take n, fun v hv => h2 v (List.mem_of_mem_take (by simpa using hv))⟩
    · simp at hl
  · rename_i n ha hs
    split at hl
    · rename_i c cs'
      simp only [Option.some.injEq] at hl
      subst hl
      simp only [RepL] at h1
      obtain ⟨y, ys', rfl, h5, h6⟩ := h1
      refine ⟨y, ?_, h5⟩
      have h0 := h3 0 y rfl
      simp only [Nat.add_zero] at h0
      simp [Instr.loadAt, Instr.sureAddr, loadVar, run_aggOf ha, run_load, h0]
    · simp at hl
  · simp at hl

/-! ### a store into a box -/
def AV.one : AV → Bool
  | .val v => v.oneCell'
  | .poison | .agg _ | .tuple _ => false
  | _ => true
def AV.cells : AV → List AV
  | .agg cs => cs
  | .val (.agg ys) => ys.toList.map .val
  | v => [v]
def AV.storable : AV → Bool
  | .agg _ => true
  | .val (.agg ys) => ys.toList.all (·.oneCell')
  | v => v.one

theorem Rep.one {G : Ghost} {a : AV} {x : Value} (h : Rep G a x) (h1 : a.one = true) : x.oneCell' = true := by
  cases a <;> simp only [AV.one, Bool.false_eq_true] at h1 <;> simp only [Rep] at h
  · subst h; exact h1
  · obtain ⟨_, rfl⟩ := h; rfl
  · obtain ⟨_, _, rfl, _⟩ := h; rfl
  · obtain ⟨_, _, rfl, _⟩ := h; rfl
  · obtain ⟨_, _, _, _, _, _, _, _, rfl, _⟩ := h; rfl
  · obtain ⟨_, _, _, _, _, rfl⟩ := h; rfl
  · obtain ⟨_, rfl⟩ := h; rfl
  · obtain ⟨_, _, rfl, _⟩ := h; rfl
  · obtain ⟨_, rfl, _⟩ := h; rfl

theorem Rep.cells {G : Ghost} {a : AV} {x : Value} (h : Rep G a x) (h1 : a.storable = true) : RepL G a.cells x.cells.toList ∧ ∀ v ∈ x.cells.toList, v.oneCell' = true := by
  by_cases ha : ∃ cs, a = .agg cs
  · obtain ⟨cs, rfl⟩ := ha
    simp only [Rep] at h
    obtain ⟨ys, rfl, h2, h3⟩ := h
    exact ⟨by simpa [AV.cells, Value.cells] using h2, by simpa [Value.cells] using h3⟩
  by_cases hv : ∃ ys, a = .val (.agg ys)
  · obtain ⟨ys, rfl⟩ := hv
    simp only [Rep] at h
    subst h
    simp only [AV.storable, List.all_eq_true] at h1
    refine ⟨?_, by simpa [Value.cells] using h1⟩
    show RepL G (ys.toList.map .val) ys.toList
    generalize ys.toList = l
    induction l with
    | nil => simp [RepL]
    | cons y l ih => exact ⟨y, l, rfl, rfl, ih⟩
  · have hone : a.one = true := by
      cases a with
      | val v => cases v <;> simp_all [AV.storable, AV.one]
      | _ => simp_all [AV.storable, AV.one]
    have hx := h.one hone
    have hc : x.cells = #[x] := by cases x <;> simp_all [Value.cells, Value.oneCell']
    have hac : a.cells = [a] := by
      cases a with
      | val v => cases v <;> simp_all [AV.cells]
      | _ => simp_all [AV.cells]
    rw [hc, hac]
    exact ⟨by simp [RepL, h], by simpa using hx⟩

def overwrite (cs : List AV) (off : Nat) (news : List AV) : List AV := cs.take off ++ news ++ cs.drop (off + news.length)

theorem setRow_cell_ne (w : World) (g : Nat) (c : Array Value) (a : Addr) (h : a.block ≠ g) : (w.setRow g c).cell? a = w.cell? a := by
  have := setRow_other w g a.block c h
  simp [World.cell?, this]

/-- The abstract state behind a box's new contents. -/
theorem Inv.setBox {C : Ctx} {G : Ghost} {M : Mem} {w : World} (hi : Inv C G M w) {k : Nat} {cs cs' : List AV} {t : TypeId} (hk : M[k]? = some (.cells t cs)) {vs : Array Value}
    (hh : w.heap[G.blk k]? = some (.cells vs t (0, 0))) {vs' : Array Value} (hr : RepL G cs' vs'.toList) (h1 : ∀ v ∈ vs'.toList, v.oneCell' = true) :
    Inv C G (M.set k (.cells t cs')) (w.setRow (G.blk k) vs') := by
  obtain ⟨_, _, _, _, hst, hkeep⟩ := hi.obj k _ hk
  refine hi.step k (G.blk k) hk (.inl rfl) (.refl _) rfl (fun _ => rfl) (fun _ _ => ⟨rfl, rfl⟩) (fun b i v h => .inl h) (fun _ => rfl) (fun b _ hne => setRow_other _ _ _ _ hne)
    (fun i v h => by rw [hst i] at h; simp at h) (fun o h => by rw [hkeep] at h; simp at h) ⟨vs', setRow_heap w _ vs vs' t _ hh, hr, h1, hst, hkeep⟩ (fun b hb => .inl hb)

theorem Ext.setRow (w : World) (g : Nat) (c : Array Value) : Ext w (w.setRow g c) := ⟨rfl, rfl, rfl, by simp [World.setRow]⟩

theorem store_sound {C : Ctx} {G : Ghost} {M : Mem} {w : World} (hi : Inv C G M w) {b off : Nat} {x : Value} (hr : Rep G (.ptr b off) x) {t : TypeId} {cs : List AV} {v : AV} {y : Value} {bt : TypeId} (hv : Rep G v y)
    (hb : M[b]? = some (.cells bt cs)) (hs : v.storable = true) (hsz : szOf C.P t = some v.cells.length) (hfit : off + v.cells.length ≤ cs.length) :
    ∃ w', (Instr.storeAt t x y).run C.P w = .ok () w' ∧ Inv C G (M.set b (.cells bt (overwrite cs off v.cells))) w' ∧ Ext w w' := by
  simp only [Rep] at hr
  obtain ⟨hblt, rfl⟩ := hr
  obtain ⟨vs, hh, h1, h2, h3, h4⟩ := hi.obj b _ hb
  obtain ⟨hc1, hc2⟩ := hv.cells hs
  have hlen := h1.length
  have hclen := hc1.length
  have hst := run_storeCells_at C.P (G.blk b) off bt y.cells.toList 0 vs w hh (by simp at hlen hclen ⊢; omega) hc2
  simp only [Nat.add_zero] at hst
  refine ⟨_, ?_, hi.setBox hb hh (vs' := (vs.toList.take off ++ y.cells.toList ++ vs.toList.drop (off + y.cells.toList.length)).toArray) ?_ ?_, Ext.setRow _ _ _⟩
  · have hsz' : y.cells.size = v.cells.length := by simpa using hclen
    simp only [Instr.storeAt, Instr.sureAddr, storeVar, Sem.run_bind, Sem.run_pure, Result.andThen_ok, run_szOf hsz, hsz', ne_eq, not_true_eq_false, if_false, hst]
  · simp only [overwrite]
    have e : y.cells.toList.length = v.cells.length := hclen
    rw [e]
    exact ((h1.take off).append hc1).append (h1.drop _)
  · intro u hu
    simp only [List.mem_append] at hu
    rcases hu with (hu | hu) | hu
    · exact h2 u (List.mem_of_mem_take hu)
    · exact hc2 u hu
    · exact h2 u (List.mem_of_mem_drop hu)
end Go.Abs
end
section
/- A store into an array. -/
set_option linter.unusedVariables false
namespace Go.Abs

theorem RepL.of_get {G : Ghost} : ∀ {cs : List AV} {ys : List Value}, cs.length = ys.length → (∀ (i : Nat) (c : AV) (y : Value), cs[i]? = some c → ys[i]? = some y → Rep G c y) → RepL G cs ys
  | [], [], _, _ => by simp [RepL]
  | [], _ :: _, h, _ => by simp at h
  | _ :: _, [], h, _ => by simp at h
  | c :: cs, y :: ys, h, k => by
    simp only [RepL]
    exact ⟨y, ys, rfl, k 0 c y rfl rfl, RepL.of_get (by simpa using h) (fun i c y h1 h2 => k (i + 1) c y (by simpa using h1) (by simpa using h2))⟩
theorem RepL.get2 {G : Ghost} {cs : List AV} {ys : List Value} (h : RepL G cs ys) {i : Nat} {c : AV} {y : Value} (h1 : cs[i]? = some c) (h2 : ys[i]? = some y) : Rep G c y := by
  obtain ⟨z, hz, hr⟩ := h.get h1
  rw [h2] at hz
  simp only [Option.some.injEq] at hz
  subst hz; exact hr

theorem overwrite_length {cs news : List AV} {off : Nat} (h : off + news.length ≤ cs.length) : (overwrite cs off news).length = cs.length := by
  simp only [overwrite, List.length_append, List.length_take, List.length_drop]; omega
theorem overwrite_get {α : Type} {cs news : List α} {off i : Nat} (h : off + news.length ≤ cs.length) : (cs.take off ++ news ++ cs.drop (off + news.length))[i]? = if off ≤ i ∧ i < off + news.length then news[i - off]? else cs[i]? := by
  by_cases h1 : i < off
  · rw [if_neg (by omega), List.append_assoc, List.getElem?_append_left (by rw [List.length_take]; omega), List.getElem?_take, if_pos h1]
  · by_cases h2 : i < off + news.length
    · rw [if_pos (by omega), List.append_assoc, List.getElem?_append_right (by rw [List.length_take]; omega), List.getElem?_append_left (by rw [List.length_take]; omega), List.length_take]
      congr 1; omega
    · rw [if_neg (by omega), List.getElem?_append_right (by rw [List.length_append, List.length_take]; omega), List.getElem?_drop]
      congr 1; rw [List.length_append, List.length_take]; omega

/-- the slices that a store from cell off on, through the slice of time g, leaves readable -/
def keepHist (sz g off : Nat) (hist : List (Nat × Nat)) : List (Nat × Nat) := hist.filter fun x => x.1 == g || decide (x.2 * sz ≤ off)

theorem vset_sound {C : Ctx} {G : Ghost} {M : Mem} {w : World} (hi : Inv C G M w) {f g off : Nat} {x : Value} (hr : Rep G (.vptr f g off) x) {ty : TypeId} {sz g' n : Nat} {cs : List AV} {hist : List (Nat × Nat)} {news : List AV} {ys : List Value} (hc1 : RepL G news ys) (hc2 : ∀ u ∈ ys, u.oneCell' = true)
    (hM : M[f]? = some (.vec ty sz cs g' hist)) (hn : hist.lookup g = some n) (hfit : off + news.length ≤ n * sz) :
    ∃ a w', x = .pointer (some a) ∧ (storeCells a ys).run C.P w = .ok () w' ∧ Inv C G (M.set f (.vec ty sz (overwrite cs off news) g' (keepHist sz g off hist))) w' ∧ Ext w w' := by
  simp only [Rep] at hr
  obtain ⟨hf, hg, a, cap, hd, rfl⟩ := hr
  have hclen := hc1.length
  obtain ⟨p0, p2, p3⟩ := hi.obj f _ hM
  have hmem := lookup_mem hn
  obtain ⟨_, hle, b, o, cap', vs, q1, q2, q3, q4, q5, q6, q7, q8, q9⟩ := p2 g n hmem
  have q1' := q1
  rw [hd] at q1
  simp only [Prod.mk.injEq, Option.some.injEq] at q1
  obtain ⟨rfl, rfl⟩ := q1
  have hcap : n * sz ≤ cap * sz := Nat.mul_le_mul_right _ q2
  have hst := run_storeCells_at C.P b (o + off) ty ys 0 vs w q4 (by rw [hclen]; omega) hc2
  simp only [Nat.add_zero, hclen] at hst
  have hheap := setRow_heap w b vs (vs.toList.take (o + off) ++ ys ++ vs.toList.drop (o + off + news.length)).toArray ty (0, 0) q4
  generalize hnew : (vs.toList.take (o + off) ++ ys ++ vs.toList.drop (o + off + news.length)) = nl at hst hheap
  have hnlen : nl.length = vs.size := by
    rw [← hnew]; simp only [List.length_append, List.length_take, List.length_drop, Array.length_toList, hclen]; omega
  have hget : ∀ i, nl[i]? = if o + off ≤ i ∧ i < o + off + news.length then ys[i - (o + off)]? else vs.toList[i]? := by
    intro i
    have := overwrite_get (cs := vs.toList) (news := ys) (off := o + off) (i := i) (by rw [hclen]; simp; omega)
    rw [hclen] at this
    rw [← hnew]; exact this
  have hown : owns G f (.vec ty sz cs g' hist) b := ⟨g, n, _, hmem, by rw [hd], rfl⟩
  have hi' := hi.step (w' := w.setRow b nl.toArray) (o' := .vec ty sz (overwrite cs off news) g' (keepHist sz g off hist)) f b hM (.inl hown) (.refl _) rfl (fun _ => rfl) (fun _ _ => ⟨rfl, rfl⟩) (fun _ _ _ h => .inl h) (fun _ => rfl)
    (fun b' _ hne => setRow_other _ _ _ _ hne) (fun i v h => by rw [q8 i] at h; simp at h) (fun o h => by rw [q9] at h; simp at h)
    ⟨p0, fun h' n' hm => ?_, fun h1 n1 h2 n2 a1 a2 c1 c2 m1 m2 => p3 h1 n1 h2 n2 a1 a2 c1 c2 ((List.mem_filter.1 m1).1) ((List.mem_filter.1 m2).1)⟩
    (fun b' ⟨h1, n1, a1, m1, e1, e2⟩ => .inr ⟨h1, n1, a1, (List.mem_filter.1 m1).1, e1, e2⟩)
  · exact ⟨_, _, rfl, hst, hi', Ext.setRow _ _ _⟩
  · have hm' := (List.mem_filter.1 hm).1
    have hcond : h' = g ∨ n' * sz ≤ off := by simpa using (List.mem_filter.1 hm).2
    obtain ⟨r0, r1, b', o', cap2, vs', s1, s2, s3, s4, s5, s6, s7, s8, s9⟩ := p2 h' n' hm'
    have hlen2 : (overwrite cs off news).length = cs.length := overwrite_length (by omega)
    refine ⟨r0, by rw [hlen2]; exact r1, ?_⟩
    have hcap2 : n' * sz ≤ cap2 * sz := Nat.mul_le_mul_right _ s2
    by_cases e : b' = b
    · subst e
      have eo : (⟨b', o', none⟩ : Addr) = ⟨b', o, none⟩ := p3 h' n' g n _ _ _ _ hm' hmem s1 hd rfl
      simp only [Addr.mk.injEq, true_and, and_true] at eo
      subst eo
      rw [q4] at s4
      simp only [Option.some.injEq, Obj.cells.injEq, and_true] at s4
      subst s4
      have hlens := s6.length
      simp only [List.length_take, List.length_drop, Array.length_toList] at hlens
      have gl : ∀ i, i < n' * sz → ((nl.drop o').take (n' * sz))[i]? = if off ≤ i ∧ i < off + news.length then ys[i - off]? else ((vs.toList.drop o').take (n' * sz))[i]? := by
        intro i hlt
        rw [List.getElem?_take, if_pos hlt, List.getElem?_drop, hget, List.getElem?_take, if_pos hlt, List.getElem?_drop]
        by_cases hc : off ≤ i ∧ i < off + news.length
        · rw [if_pos (by omega), if_pos hc]; congr 1; omega
        · rw [if_neg (by omega), if_neg hc]
      refine ⟨b', o', cap2, nl.toArray, s1, s2, s3, hheap, by simp only [List.size_toArray]; omega, ?_, ?_, s8, s9⟩
      · refine RepL.of_get ?_ ?_
        · simp only [List.length_take, List.length_drop, hlen2]; omega
        · intro i c z hc hz
          have hlt : i < n' * sz := by
            have := getElem?_lt hz
            simp only [List.length_take] at this; omega
          have hz' := gl i hlt
          rw [show (nl.toArray.toList : List Value) = nl from rfl] at hz
          rw [hz'] at hz
          rw [List.getElem?_take, if_pos hlt] at hc
          simp only [overwrite] at hc
          rw [overwrite_get (by omega)] at hc
          by_cases hcc : off ≤ i ∧ i < off + news.length
          · rw [if_pos hcc] at hz hc
            exact hc1.get2 hc hz
          · rw [if_neg hcc] at hz hc
            exact s6.get2 (by rw [List.getElem?_take, if_pos hlt]; exact hc) hz
      · intro u hu
        obtain ⟨i, hi2⟩ := List.mem_iff_getElem?.1 hu
        have hlt : i < n' * sz := by
          have := getElem?_lt hi2
          simp only [List.length_take] at this; omega
        have hz' := gl i hlt
        rw [show (nl.toArray.toList : List Value) = nl from rfl, hz'] at hi2
        by_cases hcc : off ≤ i ∧ i < off + news.length
        · rw [if_pos hcc] at hi2; exact hc2 u (List.mem_of_getElem? hi2)
        · rw [if_neg hcc] at hi2; exact s7 u (List.mem_of_getElem? hi2)
    · have hoff : n' * sz ≤ off := by
        rcases hcond with h | h
        · subst h
          rw [hd] at s1
          simp only [Prod.mk.injEq, Option.some.injEq, Addr.mk.injEq] at s1
          exact absurd s1.1.1.symm e
        · exact h
      refine ⟨b', o', cap2, vs', s1, s2, s3, by rw [setRow_other _ _ _ _ e]; exact s4, s5, ?_, s7, s8, s9⟩
      have : (overwrite cs off news).take (n' * sz) = cs.take (n' * sz) := by
        simp only [overwrite]
        rw [List.append_assoc, List.take_append_of_le_length (by rw [List.length_take]; omega), List.take_take, Nat.min_eq_left hoff]
      rw [this]; exact s6
theorem vstore_sound {C : Ctx} {G : Ghost} {M : Mem} {w : World} (hi : Inv C G M w) {f g off : Nat} {x : Value} (hr : Rep G (.vptr f g off) x) {t : TypeId} {ty : TypeId} {sz g' n : Nat} {cs : List AV} {hist : List (Nat × Nat)} {v : AV} {y : Value} (hv : Rep G v y)
    (hM : M[f]? = some (.vec ty sz cs g' hist)) (hn : hist.lookup g = some n) (hs : v.storable = true) (hsz : szOf C.P t = some v.cells.length) (hfit : off + v.cells.length ≤ n * sz) :
    ∃ w', (Instr.storeAt t x y).run C.P w = .ok () w' ∧ Inv C G (M.set f (.vec ty sz (overwrite cs off v.cells) g' (keepHist sz g off hist))) w' ∧ Ext w w' := by
  obtain ⟨hc1, hc2⟩ := hv.cells hs
  obtain ⟨a, w', rfl, hst, h2, h3⟩ := vset_sound hi hr hc1 hc2 hM hn hfit
  refine ⟨w', ?_, h2, h3⟩
  have hclen := hc1.length
  have hsz' : y.cells.size = v.cells.length := by simpa using hclen
  simp only [Instr.storeAt, Instr.sureAddr, storeVar, Sem.run_bind, Sem.run_pure, Result.andThen_ok, run_szOf hsz, hsz', ne_eq, not_true_eq_false, if_false, hst]
end Go.Abs
end
section
/- New memory; append. -/
set_option linter.unusedVariables false
namespace Go.Abs

/-- fixed memory in a new block -/
def Ghost.fix (G : Ghost) (nb : Nat) (vs : List Value) : Ghost := { G with st := fun b i => if b = nb then vs[i]? else G.st b i }

theorem Inv.st_lt {C : Ctx} {G : Ghost} {M : Mem} {w : World} (hi : Inv C G M w) {b i : Nat} {v : Value} (h : G.st b i = some v) : b < w.heap.size :=
  World.block_lt_of_cell? w ⟨b, i, none⟩ (hi.st b i v h)
theorem Inv.keep_lt {C : Ctx} {G : Ghost} {M : Mem} {w : World} (hi : Inv C G M w) {b : Nat} {o : Obj} (h : G.keep b = some o) : b < w.heap.size :=
  (Array.getElem?_eq_some_iff.1 (hi.keep b o h)).1

theorem Ghost.le_fix {C : Ctx} {G : Ghost} {M : Mem} {w : World} (hi : Inv C G M w) (vs : List Value) : G.le (G.fix w.heap.size vs) :=
  ⟨Nat.le_refl _, fun _ _ => rfl, fun b i v h => by
    have := hi.st_lt h
    simp only [Ghost.fix]
    rw [if_neg (by omega)]; exact h, fun _ _ h => h, fun _ _ => Nat.le_refl _, fun _ _ _ _ => rfl⟩

theorem heap_alloc_lt (w : World) (o : Obj) (b : Nat) (h : b < w.heap.size) : (w.alloc o).heap[b]? = w.heap[b]? := by
  show (w.heap.push o)[b]? = _
  rw [Array.getElem?_push, if_neg (by omega)]

theorem cell_alloc (w : World) (o : Obj) (b i : Nat) (h : b < w.heap.size) : (w.alloc o).cell? ⟨b, i, none⟩ = w.cell? ⟨b, i, none⟩ := by
  have := heap_alloc_lt w o b h
  simp [World.cell?, this]

theorem Inv.fix {C : Ctx} {G : Ghost} {M : Mem} {w : World} (hi : Inv C G M w) (all : Array Value) (t : TypeId) (vs : List Value) (hvs : ∀ (i : Nat) (v : Value), vs[i]? = some v → all[i]? = some v) :
    Inv C (G.fix w.heap.size vs) M (w.alloc (.cells all t)) := by
  have hle := Ghost.le_fix hi vs
  have hst : ∀ b i v, (G.fix w.heap.size vs).st b i = some v → (b = w.heap.size ∧ vs[i]? = some v) ∨ (b < w.heap.size ∧ G.st b i = some v) := by
    intro b i v h
    simp only [Ghost.fix] at h
    by_cases e : b = w.heap.size
    · rw [if_pos e] at h; exact .inl ⟨e, h⟩
    · rw [if_neg e] at h; exact .inr ⟨hi.st_lt h, h⟩
  have hheap := fun b (h : b < w.heap.size) => heap_alloc_lt w (.cells all t) b h
  refine ⟨hi.n, ?_, ?_, ?_, ?_, fun g => Rep.mono hle _ _ (hi.gl g), hi.tab_le hle⟩
  · intro b i v hv
    rcases hst b i v hv with ⟨rfl, h⟩ | ⟨hlt, h⟩
    · have := heap_alloc_new w (.cells all t)
      rw [cell_of_row _ _ _ _ _ _ this]
      exact hvs i v h
    · rw [cell_alloc _ _ _ _ hlt]; exact hi.st b i v h
  · intro b o ho
    rw [hheap b (hi.keep_lt ho)]; exact hi.keep b o ho
  · intro k o hk
    have ho := hi.obj k o hk
    refine ho.keeps hle (by rw [hi.n]; exact getElem?_lt hk) rfl ⟨rfl, rfl⟩ (fun b hb i v hv => ?_) (fun _ => rfl) (fun b hb => hheap b (ho.owns_lt hb))
    have hlt := ho.owns_lt hb
    simp only [Ghost.fix] at hv
    rwa [if_neg (by omega)] at hv
  · intro i j x y b hx hy ox oy
    have ob : ∀ k x b, owns (G.fix w.heap.size vs) k x b ↔ owns G k x b := fun k x b => by cases x <;> exact Iff.rfl
    rw [ob] at ox oy
    exact hi.apart i j x y b hx hy ox oy

theorem Ext.alloc (w : World) (o : Obj) : Ext w (w.alloc o) := ⟨rfl, rfl, rfl, by simp⟩
theorem Ext.drew (w : World) : Ext w w.drew := ⟨rfl, rfl, rfl, Nat.le_refl _⟩

theorem RepMem.fix {C : Ctx} {G : Ghost} {M : Mem} {w : World} (hi : Inv C G M w) {cs : List AV} {vs : List Value} (hr : RepL G cs vs) (h1 : ∀ v ∈ vs, v.oneCell' = true) :
    RepMem (G.fix w.heap.size vs) cs w.heap.size 0 :=
  RepMem.mk (RepL.mono (Ghost.le_fix hi vs) _ _ hr) h1 (fun j v hv => by simp only [Ghost.fix, if_true, Nat.zero_add]; exact hv)

/-- a new box -/
theorem Inv.newBox {C : Ctx} {G : Ghost} {M : Mem} {w : World} (hi : Inv C G M w) {cs : List AV} {vs : Array Value} (t : TypeId) (hr : RepL G cs vs.toList) (h1 : ∀ v ∈ vs.toList, v.oneCell' = true) :
    ∃ G', Inv C G' (M ++ [.cells t cs]) (w.alloc (.cells vs t)) ∧ G.le G' ∧ G'.blk M.length = w.heap.size ∧ M.length < G'.n := by
  have hm := hi.more w.heap.size (fun _ => (none, 0)) 0
  have hk : (M ++ [AObj.gone])[M.length]? = some .gone := by simp
  have hb : (G.more w.heap.size (fun _ => (none, 0)) 0).blk M.length = w.heap.size := by simp [Ghost.more, hi.n]
  have hnone : ∀ i, (G.more w.heap.size (fun _ => (none, 0)) 0).st w.heap.size i = none := by
    intro i
    cases h : G.st w.heap.size i with
    | none => exact h
    | some v => have := hi.st_lt h; omega
  have hknone : (G.more w.heap.size (fun _ => (none, 0)) 0).keep w.heap.size = none := by
    cases h : G.keep w.heap.size with
    | none => exact h
    | some v => have := hi.keep_lt h; omega
  have := hm.step (w' := w.alloc (.cells vs t)) (o' := .cells t cs) M.length w.heap.size hk (.inr (Nat.le_refl _)) (.refl _) rfl (fun _ => rfl) (fun _ _ => ⟨rfl, rfl⟩) (fun _ _ _ h => .inl h) (fun _ => rfl)
    (fun b hlt _ => heap_alloc_lt w _ b hlt) (fun i v h => by rw [hnone] at h; simp at h) (fun o h => by rw [hknone] at h; simp at h)
    ⟨vs, by rw [hb]; exact heap_alloc_new w _, RepL.mono (G.le_more _ _ _) _ _ hr, h1, by rw [hb]; exact hnone, by rw [hb]; exact hknone⟩ (fun b h => .inl (by simp only [owns, hb] at h; exact h))
  refine ⟨_, ?_, G.le_more _ _ _, hb, by simp [Ghost.more, hi.n]⟩
  simpa using this

/-- a new object in a block of its own -/
theorem Inv.newObj {C : Ctx} {G : Ghost} {M : Mem} {w : World} (hi : Inv C G M w) (o : Obj) (ao : AObj) (h : Nat → Option Addr × Nat) (t : Nat)
    (hob : ∀ G', G.le G' → G'.blk M.length = w.heap.size → G'.hdr M.length = h → G'.top M.length = t → (∀ i, G'.st w.heap.size i = none) → G'.keep w.heap.size = none → ObjInv G' (w.alloc o) M.length ao)
    (hown : ∀ G' b, G'.blk M.length = w.heap.size → G'.hdr M.length = h → owns G' M.length ao b → b = w.heap.size) :
    ∃ G', Inv C G' (M ++ [ao]) (w.alloc o) ∧ G.le G' ∧ G'.blk M.length = w.heap.size ∧ M.length < G'.n ∧ G'.hdr M.length = h ∧ G'.top M.length = t := by
  have hm := hi.more w.heap.size h t
  have hk : (M ++ [AObj.gone])[M.length]? = some .gone := by simp
  have hb : (G.more w.heap.size h t).blk M.length = w.heap.size := by simp [Ghost.more, hi.n]
  have hh : (G.more w.heap.size h t).hdr M.length = h := by simp [Ghost.more, hi.n]
  have ht : (G.more w.heap.size h t).top M.length = t := by simp [Ghost.more, hi.n]
  have hnone : ∀ i, (G.more w.heap.size h t).st w.heap.size i = none := by
    intro i
    cases h : G.st w.heap.size i with
    | none => exact h
    | some v => have := hi.st_lt h; omega
  have hknone : (G.more w.heap.size h t).keep w.heap.size = none := by
    cases h : G.keep w.heap.size with
    | none => exact h
    | some v => have := hi.keep_lt h; omega
  have := hm.step (w' := w.alloc o) (o' := ao) M.length w.heap.size hk (.inr (Nat.le_refl _)) (.refl _) rfl (fun _ => rfl) (fun _ _ => ⟨rfl, rfl⟩) (fun _ _ _ h => .inl h) (fun _ => rfl)
    (fun b hlt _ => heap_alloc_lt w _ b hlt) (fun i v h => by rw [hnone] at h; simp at h) (fun o h => by rw [hknone] at h; simp at h)
    (hob _ (G.le_more _ _ _) hb hh ht hnone hknone) (fun b h => .inl (hown _ b hb hh h))
  refine ⟨_, ?_, G.le_more _ _ _, hb, by simp [Ghost.more, hi.n], hh, ht⟩
  simpa using this

/-! ### append -/
def asList : AV → Option (List (List AV) × Own)
  | .val (.slice none 0 0) => some ([], .full)
  | .list _ rows own => some (rows, own)
  | _ => none
def sizeOk (sz : Nat) : AV → Prop
  | .list s _ _ => s = sz
  | _ => True

theorem asList_rep {C : Ctx} {G : Ghost} {M : Mem} {w : World} (hi : Inv C G M w) {v : AV} {x : Value} {sz : Nat} {rows : List (List AV)} {own : Own} (hr : Rep G v x) (h : asList v = some (rows, own)) (hs : sizeOk sz v) :
    ∃ base cap, x = .slice base rows.length cap ∧ rows.length ≤ cap ∧ cap ≤ maxLen ∧ (match base with | none => rows = [] ∧ cap = 0 | some a => (rows ≠ [] → a.spot = none) ∧ RepRows G sz rows a.block a.off) ∧ RepOwn G own rows.length base cap := by
  unfold asList at h
  split at h
  · simp only [Option.some.injEq, Prod.mk.injEq] at h
    obtain ⟨rfl, rfl⟩ := h
    simp only [Rep] at hr
    subst hr
    exact ⟨none, 0, rfl, Nat.le_refl _, by simp [maxLen], ⟨rfl, rfl⟩, rfl⟩
  · simp only [Option.some.injEq, Prod.mk.injEq] at h
    obtain ⟨rfl, rfl⟩ := h
    simp only [sizeOk] at hs
    subst hs
    simp only [Rep] at hr
    exact hr
  · simp at h

/-- the cells of a slice that reads as rows -/
theorem rows_cells {C : Ctx} {G : Ghost} {M : Mem} {w : World} (hi : Inv C G M w) {base : Option Addr} {sz cap : Nat} {rows : List (List AV)}
    (h : match base with | none => rows = [] ∧ cap = 0 | some a => (rows ≠ [] → a.spot = none) ∧ RepRows G sz rows a.block a.off) :
    ∃ vs : List Value, RepL G rows.flatten vs ∧ vs.length = rows.length * sz ∧ (∀ v ∈ vs, v.oneCell' = true) ∧ (∀ r ∈ rows, r.length = sz) ∧
      ∀ w', w'.heap = w.heap → (Builtin.firstCells sz rows.length (.slice base rows.length cap)).run C.P w' = .ok vs.toArray w' := by
  cases base with
  | none =>
    obtain ⟨rfl, _⟩ := h
    exact ⟨[], by simp [RepL], by simp, by simp, by simp, fun w' _ => by simp [Builtin.firstCells]⟩
  | some a =>
    obtain ⟨hsp, h⟩ := h
    obtain ⟨hm, hl⟩ := RepRows.flat h
    obtain ⟨vs, h1, h2, h3, h4⟩ := hm.vals
    refine ⟨vs, h1, by omega, h3, h.sizes, fun w' hw => ?_⟩
    refine run_firstCells_some (P := C.P) w' sz rows.length a rows.length cap vs (by omega) (fun j v hv => ?_)
    have hne : rows ≠ [] := by
      intro e
      subst e
      have := getElem?_lt hv
      simp at h2
      subst h2
      simp at this
    have hsp := hsp hne
    have ea : a = ⟨a.block, a.off, none⟩ := by cases a; simp_all
    rw [ea, Addr.add_lit]
    have := hi.st _ _ _ (h4 j v hv)
    simpa [World.cell?, hw] using this

end Go.Abs
end
section
/- append: what it computes -/
set_option linter.unusedVariables false
namespace Go.Abs
/-- what may be appended: a slice or a string -/
def srcOk (P : Program) (u : TypeId) : Prop := (∃ e2, P.underlying u = some (.slice e2)) ∨ P.underlying u = some .string

section
variable {P : Program}
theorem run_app_same {t u e : TypeId} {ty : TypeId} {sz : Nat} {s x : Value} {base : Option Addr} {n cap : Nat} {w : World} (ht : P.underlying t = some (.slice e)) (hsz : szOf P e = some sz)
    (hu : srcOk P u) (hx : ∀ w, (Builtin.lenOf x).run P w = .ok 0 w)
    (hfx : (Builtin.firstCells sz 0 x).run P w = .ok #[] w) (hle : n ≤ cap) : (Builtin.append_ #[t, u] ty #[.slice base n cap, x]).run P w = .ok (.slice base n cap) w := by
  obtain ⟨e2, hu⟩ | hu := hu
  all_goals cases base <;> simp [Builtin.append_, run_underlying ht, run_underlying hu, run_szOf hsz, hx, hfx, hle, storeCells]

theorem run_app_room {t u e : TypeId} {ty : TypeId} {sz : Nat} {x : Value} {g n cap m : Nat} {w : World} (ht : P.underlying t = some (.slice e)) (hsz : szOf P e = some sz)
    (hu : srcOk P u) (hx : ∀ w, (Builtin.lenOf x).run P w = .ok m w)
    {news : List Value} (hfx : (Builtin.firstCells sz m x).run P w = .ok news.toArray w) (hle : n + m ≤ cap) {cur : Array Value} {ct : TypeId} (hg : w.heap[g]? = some (.cells cur ct (0, 0)))
    (hfit : n * sz + news.length ≤ cur.size) (h1 : ∀ v ∈ news, v.oneCell' = true) :
    (Builtin.append_ #[t, u] ty #[.slice (some ⟨g, 0, none⟩) n cap, x]).run P w =
      .ok (.slice (some ⟨g, 0, none⟩) (n + m) cap) (w.setRow g (cur.toList.take (n * sz) ++ news ++ cur.toList.drop (n * sz + news.length)).toArray) := by
  obtain ⟨e2, hu⟩ | hu := hu
  all_goals
   have hst := run_storeCells_at P g (n * sz) ct news 0 cur w hg (by simpa using hfit) h1
   simp only [Nat.add_zero] at hst
   simp [Builtin.append_, run_underlying ht, run_underlying hu, run_szOf hsz, hx, hfx, hle, hst, Addr.add_lit]

theorem run_app_grow {t u e : TypeId} {ty : TypeId} {i : TypeInfo} {z x : Value} {base : Option Addr} {n cap m : Nat} {w : World} (ht : P.underlying t = some (.slice e)) (hi : P.info? e = some i) (hz : i.zero = some z)
    (hu : srcOk P u) (hx : ∀ w, (Builtin.lenOf x).run P w = .ok m w)
    {news olds : List Value} (hfx : (Builtin.firstCells i.size m x).run P w.drew = .ok news.toArray w.drew) (hfs : (Builtin.firstCells i.size n (.slice base n cap)).run P w.drew = .ok olds.toArray w.drew)
    (hgt : cap < n + m) (hb : (n + m) * i.bytes ≤ 140737488355328) (h63 : n + m ≤ maxLen) :
    (Builtin.append_ #[t, u] ty #[.slice base n cap, x]).run P w =
      .ok (.slice (some ⟨w.heap.size, 0, none⟩) (n + m) (grownCap w (n + m) cap e)) (w.drew.alloc (.cells (olds.toArray ++ news.toArray ++ Builtin.zeroCells z.cells (grownCap w (n + m) cap e - (n + m))) e)) := by
  have hn : ¬ (n + m ≤ cap) := by omega
  have h63' : ¬ (9223372036854775807 < ((n : Int) + (m : Int))) := by simp only [maxLen] at h63; omega
  have hfit := growslice_fits hgt hb
  have h48' : ¬ (281474976710656 < Builtin.nextslicecap (n + m) cap * i.bytes) := by omega
  obtain ⟨e2, hu⟩ | hu := hu
  all_goals simp [Builtin.append_, run_underlying ht, run_underlying hu, sizeOf, typeInfo, zeroValue, hi, hz, hx, hn, h63', h48', Question.forced, hfx, hfs, newRow, grownCap]
  all_goals (congr 2; apply Array.ext'; simp)
end

/-- the facts of an element's type that append wants -/
def elemOk (P : Program) (e : TypeId) (sz bytes : Nat) : Prop := ∃ i z, P.info? e = some i ∧ i.zero = some z ∧ i.size = sz ∧ i.bytes = bytes ∧ z.cells.size = sz ∧ 0 < bytes

def appendAV (hint : Bool) (sz : Nat) (s x : AV) (M : Mem) : Option (AV × Mem) :=
  match asList s, asList x with
  | some (r1, own), some (r2, _) =>
    match own with
    | .fam f => match M[f]? with
      | some (.fam m sz') => if m = r1.length ∧ sz' = sz then some (.list sz (r1 ++ r2) (.fam f), M.set f (.fam (r1.length + r2.length) sz)) else none
      | _ => none
    | .full => if hint then some (.list sz (r1 ++ r2) (.fam M.length), M ++ [.fam (r1.length + r2.length) sz]) else some (.list sz (r1 ++ r2) .no, M)
    | .no => none
  | _, _ => none

def rowsLen (s : AV) : Nat := match asList s with | some (r, _) => r.length | none => 0

theorem lenOf_slice (P : Program) (base : Option Addr) (n c : Nat) (w : World) : (Builtin.lenOf (.slice base n c)).run P w = .ok n w := rfl

/-- a family's next header, fixed memory in block nb from place o on -/
def Ghost.grow (G : Ghost) (f n : Nat) (h : Option Addr × Nat) (nb o : Nat) (vs : List Value) : Ghost :=
  { G with st := fun b i => if b = nb ∧ o ≤ i ∧ i < o + vs.length then vs[i - o]? else G.st b i,
           hdr := fun j => if j = f then fun k => if k = n then h else G.hdr f k else G.hdr j,
           top := fun j => if j = f then n else G.top j }

theorem Ghost.le_grow {G : Ghost} {f n : Nat} {h : Option Addr × Nat} {nb o : Nat} {vs : List Value} (hn : G.top f < n ∨ (G.top f = n ∧ G.hdr f n = h)) (hst : ∀ i v, o ≤ i → i < o + vs.length → G.st nb i = some v → vs[i - o]? = some v) : G.le (G.grow f n h nb o vs) := by
  refine ⟨Nat.le_refl _, fun _ _ => rfl, fun b i v hv => ?_, fun _ _ h => h, fun j _ => ?_, fun j _ k hk => ?_⟩
  · simp only [Ghost.grow]
    split
    · rename_i e; obtain ⟨rfl, h1, h2⟩ := e; exact hst i v h1 h2 hv
    · exact hv
  · simp only [Ghost.grow]
    by_cases e : j = f
    · subst e; rw [if_pos rfl]; omega
    · rw [if_neg e]; exact Nat.le_refl _
  · simp only [Ghost.grow]
    by_cases e : j = f
    · subst e
      rw [if_pos rfl]
      by_cases e2 : k = n
      · subst e2
        rw [if_pos rfl]
        rcases hn with h1 | ⟨_, h1⟩
        · omega
        · exact h1.symm
      · rw [if_neg e2]
    · rw [if_neg e]
end Go.Abs
end
