/- New memory; append. -/
import Derived.Test.YteillgpoonhdjaaAbsC
set_option linter.unusedVariables false
namespace Go.Abs

/-- fixed memory in a new block -/
def Ghost.fix (G : Ghost) (nb : Nat) (vs : List Value) : Ghost := { G with st := fun b i => if b = nb then vs[i]? else G.st b i }

theorem Inv.st_lt {C : Ctx} {G : Ghost} {M : Mem} {w : World} (hi : Inv C G M w) {b i : Nat} {v : Value} (h : G.st b i = some v) : b < w.heap.size :=
  World.block_lt_of_cell? w ⟨b, i, none⟩ (hi.st b i v h)
theorem Inv.keep_lt {C : Ctx} {G : Ghost} {M : Mem} {w : World} (hi : Inv C G M w) {b : Nat} {o : Obj} (h : G.keep b = some o) : b < w.heap.size :=
  (Array.getElem?_eq_some_iff.1 (hi.keep b o h)).1

theorem Ghost.le_fix {C : Ctx} {G : Ghost} {M : Mem} {w : World} (hi : Inv C G M w) (vs : List Value) : G.le (G.fix w.heap.size vs) :=
  ⟨Nat.le_refl _, fun _ _ => rfl, fun b i v h => by
    have := hi.st_lt h
    simp only [Ghost.fix]
    rw [if_neg (by omega)]; exact h, fun _ _ h => h, fun _ _ => Nat.le_refl _, fun _ _ _ _ => rfl⟩

theorem heap_alloc_lt (w : World) (o : Obj) (b : Nat) (h : b < w.heap.size) : (w.alloc o).heap[b]? = w.heap[b]? := by
  show (w.heap.push o)[b]? = _
  rw [Array.getElem?_push, if_neg (by omega)]

theorem cell_alloc (w : World) (o : Obj) (b i : Nat) (h : b < w.heap.size) : (w.alloc o).cell? ⟨b, i, none⟩ = w.cell? ⟨b, i, none⟩ := by
  have := heap_alloc_lt w o b h
  simp [World.cell?, this]

theorem Inv.fix {C : Ctx} {G : Ghost} {M : Mem} {w : World} (hi : Inv C G M w) (all : Array Value) (t : TypeId) (vs : List Value) (hvs : ∀ (i : Nat) (v : Value), vs[i]? = some v → all[i]? = some v) :
    Inv C (G.fix w.heap.size vs) M (w.alloc (.cells all t)) := by
  have hle := Ghost.le_fix hi vs
  have hst : ∀ b i v, (G.fix w.heap.size vs).st b i = some v → (b = w.heap.size ∧ vs[i]? = some v) ∨ (b < w.heap.size ∧ G.st b i = some v) := by
    intro b i v h
    simp only [Ghost.fix] at h
    by_cases e : b = w.heap.size
    · rw [if_pos e] at h; exact .inl ⟨e, h⟩
    · rw [if_neg e] at h; exact .inr ⟨hi.st_lt h, h⟩
  have hheap := fun b (h : b < w.heap.size) => heap_alloc_lt w (.cells all t) b h
  refine ⟨hi.n, ?_, ?_, ?_, ?_, fun g => Rep.mono hle _ _ (hi.gl g)⟩
  · intro b i v hv
    rcases hst b i v hv with ⟨rfl, h⟩ | ⟨hlt, h⟩
    · have := heap_alloc_new w (.cells all t)
      rw [cell_of_row _ _ _ _ _ _ this]
      exact hvs i v h
    · rw [cell_alloc _ _ _ _ hlt]; exact hi.st b i v h
  · intro b o ho
    rw [hheap b (hi.keep_lt ho)]; exact hi.keep b o ho
  · intro k o hk
    have ho := hi.obj k o hk
    cases o with
    | gone => trivial
    | cells cs =>
      obtain ⟨us, t', h1, h2, h3, h4, h5⟩ := ho
      have hlt : G.blk k < w.heap.size := (Array.getElem?_eq_some_iff.1 h1).1
      refine ⟨us, t', by rw [show (G.fix w.heap.size vs).blk k = G.blk k from rfl, hheap _ hlt]; exact h1, RepL.mono hle _ _ h2, h3, fun i => ?_, h5⟩
      simp only [Ghost.fix]
      rw [if_neg (by omega)]; exact h4 i
    | fam m sz =>
      obtain ⟨h0, h1, h1', h2⟩ := ho
      refine ⟨h0, h1, h1', fun hlt => ?_⟩
      obtain ⟨g, us, t', q1, q2, q3, q4, q5⟩ := h2 hlt
      have hlt : g < w.heap.size := (Array.getElem?_eq_some_iff.1 q2).1
      refine ⟨g, us, t', q1, by rw [hheap _ hlt]; exact q2, q3, fun i hi' => ?_, q5⟩
      simp only [Ghost.fix]
      rw [if_neg (by omega)]; exact q4 i hi'
  · intro i j x y b hx hy ox oy
    have ob : ∀ k x, oblk (G.fix w.heap.size vs) k x = oblk G k x := fun k x => by cases x <;> rfl
    rw [ob] at ox oy
    exact hi.apart i j x y b hx hy ox oy

theorem Ext.alloc (w : World) (o : Obj) : Ext w (w.alloc o) := ⟨rfl, rfl, rfl, by simp⟩
theorem Ext.drew (w : World) : Ext w w.drew := ⟨rfl, rfl, rfl, Nat.le_refl _⟩

theorem RepMem.fix {C : Ctx} {G : Ghost} {M : Mem} {w : World} (hi : Inv C G M w) {cs : List AV} {vs : List Value} (hr : RepL G cs vs) (h1 : ∀ v ∈ vs, v.oneCell' = true) :
    RepMem (G.fix w.heap.size vs) cs w.heap.size 0 :=
  RepMem.mk (RepL.mono (Ghost.le_fix hi vs) _ _ hr) h1 (fun j v hv => by simp only [Ghost.fix, if_true, Nat.zero_add]; exact hv)

/-- a new box -/
theorem Inv.newBox {C : Ctx} {G : Ghost} {M : Mem} {w : World} (hi : Inv C G M w) {cs : List AV} {vs : Array Value} (t : TypeId) (hr : RepL G cs vs.toList) (h1 : ∀ v ∈ vs.toList, v.oneCell' = true) :
    ∃ G', Inv C G' (M ++ [.cells cs]) (w.alloc (.cells vs t)) ∧ G.le G' ∧ G'.blk M.length = w.heap.size ∧ M.length < G'.n := by
  have hm := hi.more w.heap.size (fun _ => (none, 0)) 0
  have hk : (M ++ [AObj.gone])[M.length]? = some .gone := by simp
  have hb : (G.more w.heap.size (fun _ => (none, 0)) 0).blk M.length = w.heap.size := by simp [Ghost.more, hi.n]
  have hnone : ∀ i, (G.more w.heap.size (fun _ => (none, 0)) 0).st w.heap.size i = none := by
    intro i
    cases h : G.st w.heap.size i with
    | none => exact h
    | some v => have := hi.st_lt h; omega
  have hknone : (G.more w.heap.size (fun _ => (none, 0)) 0).keep w.heap.size = none := by
    cases h : G.keep w.heap.size with
    | none => exact h
    | some v => have := hi.keep_lt h; omega
  have := hm.step (w' := w.alloc (.cells vs t)) (o' := .cells cs) M.length w.heap.size hk (.inr (Nat.le_refl _)) (.refl _) rfl (fun _ => rfl) (fun _ _ => ⟨rfl, rfl⟩) (fun _ _ _ h => .inl h) (fun _ => rfl)
    (fun b hlt _ => heap_alloc_lt w _ b hlt) (fun i v h => by rw [hnone] at h; simp at h) (fun o h => by rw [hknone] at h; simp at h)
    ⟨vs, t, by rw [hb]; exact heap_alloc_new w _, RepL.mono (G.le_more _ _ _) _ _ hr, h1, by rw [hb]; exact hnone, by rw [hb]; exact hknone⟩ (fun b h => by simp [oblk, hb] at h; exact h.symm)
  refine ⟨_, ?_, G.le_more _ _ _, hb, by simp [Ghost.more, hi.n]⟩
  simpa using this

/-! ### append -/
def asList : AV → Option (List (List AV) × Own)
  | .val (.slice none 0 0) => some ([], .full)
  | .list _ rows own => some (rows, own)
  | _ => none
def sizeOk (sz : Nat) : AV → Prop
  | .list s _ _ => s = sz
  | _ => True

theorem asList_rep {C : Ctx} {G : Ghost} {M : Mem} {w : World} (hi : Inv C G M w) {v : AV} {x : Value} {sz : Nat} {rows : List (List AV)} {own : Own} (hr : Rep G v x) (h : asList v = some (rows, own)) (hs : sizeOk sz v) :
    ∃ base cap, x = .slice base rows.length cap ∧ rows.length ≤ cap ∧ cap ≤ maxLen ∧ (match base with | none => rows = [] ∧ cap = 0 | some a => a.spot = none ∧ RepRows G sz rows a.block a.off) ∧ RepOwn G own rows.length base cap := by
  unfold asList at h
  split at h
  · simp only [Option.some.injEq, Prod.mk.injEq] at h
    obtain ⟨rfl, rfl⟩ := h
    simp only [Rep] at hr
    subst hr
    exact ⟨none, 0, rfl, Nat.le_refl _, by simp [maxLen], ⟨rfl, rfl⟩, rfl⟩
  · simp only [Option.some.injEq, Prod.mk.injEq] at h
    obtain ⟨rfl, rfl⟩ := h
    simp only [sizeOk] at hs
    subst hs
    simp only [Rep] at hr
    exact hr
  · simp at h

/-- the cells of a slice that reads as rows -/
theorem rows_cells {C : Ctx} {G : Ghost} {M : Mem} {w : World} (hi : Inv C G M w) {base : Option Addr} {sz cap : Nat} {rows : List (List AV)}
    (h : match base with | none => rows = [] ∧ cap = 0 | some a => a.spot = none ∧ RepRows G sz rows a.block a.off) :
    ∃ vs : List Value, RepL G rows.flatten vs ∧ vs.length = rows.length * sz ∧ (∀ v ∈ vs, v.oneCell' = true) ∧ (∀ r ∈ rows, r.length = sz) ∧
      ∀ w', w'.heap = w.heap → (Builtin.firstCells sz rows.length (.slice base rows.length cap)).run C.P w' = .ok vs.toArray w' := by
  cases base with
  | none =>
    obtain ⟨rfl, _⟩ := h
    exact ⟨[], by simp [RepL], by simp, by simp, by simp, fun w' _ => by simp [Builtin.firstCells]⟩
  | some a =>
    obtain ⟨hsp, h⟩ := h
    obtain ⟨hm, hl⟩ := RepRows.flat h
    obtain ⟨vs, h1, h2, h3, h4⟩ := hm.vals
    refine ⟨vs, h1, by omega, h3, h.sizes, fun w' hw => ?_⟩
    refine run_firstCells_some (P := C.P) w' sz rows.length a rows.length cap vs (by omega) (fun j v hv => ?_)
    have ea : a = ⟨a.block, a.off, none⟩ := by cases a; simp_all
    rw [ea, Addr.add_lit]
    have := hi.st _ _ _ (h4 j v hv)
    simpa [World.cell?, hw] using this

end Go.Abs
