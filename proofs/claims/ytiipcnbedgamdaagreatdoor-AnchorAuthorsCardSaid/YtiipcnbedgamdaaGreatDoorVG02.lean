/- The texts AbsD, AbsE, AbsF: what each proves stands at its head. -/
import Derived.Test.YtiipcnbedgamdaaGreatDoorVG01
section
/- New memory; append. -/
set_option linter.unusedVariables false
namespace Go.Abs

/-- fixed memory in a new block -/
def Ghost.fix (G : Ghost) (nb : Nat) (vs : List Value) : Ghost := { G with st := fun b i => if b = nb then vs[i]? else G.st b i }

theorem Inv.st_lt {C : Ctx} {G : Ghost} {M : Mem} {w : World} (hi : Inv C G M w) {b i : Nat} {v : Value} (h : G.st b i = some v) : b < w.heap.size :=
  World.block_lt_of_cell? w ⟨b, i, none⟩ (hi.st b i v h)
theorem Inv.keep_lt {C : Ctx} {G : Ghost} {M : Mem} {w : World} (hi : Inv C G M w) {b : Nat} {o : Obj} (h : G.keep b = some o) : b < w.heap.size :=
  (Array.getElem?_eq_some_iff.1 (hi.keep b o h)).1

theorem Ghost.le_fix {C : Ctx} {G : Ghost} {M : Mem} {w : World} (hi : Inv C G M w) (vs : List Value) : G.le (G.fix w.heap.size vs) :=
  ⟨Nat.le_refl _, fun _ _ => rfl, fun b i v h => by
    have := hi.st_lt h
    simp only [Ghost.fix]
    rw [if_neg (by omega)]; exact h, fun _ _ h => h, fun _ _ => Nat.le_refl _, fun _ _ _ _ => rfl⟩

theorem heap_alloc_lt (w : World) (o : Obj) (b : Nat) (h : b < w.heap.size) : (w.alloc o).heap[b]? = w.heap[b]? := by
  show (w.heap.push o)[b]? = _
  rw [Array.getElem?_push, if_neg (by omega)]

theorem cell_alloc (w : World) (o : Obj) (b i : Nat) (h : b < w.heap.size) : (w.alloc o).cell? ⟨b, i, none⟩ = w.cell? ⟨b, i, none⟩ := by
  have := heap_alloc_lt w o b h
  simp [World.cell?, this]

theorem Inv.fix {C : Ctx} {G : Ghost} {M : Mem} {w : World} (hi : Inv C G M w) (all : Array Value) (t : TypeId) (vs : List Value) (hvs : ∀ (i : Nat) (v : Value), vs[i]? = some v → all[i]? = some v) :
    Inv C (G.fix w.heap.size vs) M (w.alloc (.cells all t)) := by
  have hle := Ghost.le_fix hi vs
  have hst : ∀ b i v, (G.fix w.heap.size vs).st b i = some v → (b = w.heap.size ∧ vs[i]? = some v) ∨ (b < w.heap.size ∧ G.st b i = some v) := by
    intro b i v h
    simp only [Ghost.fix] at h
    by_cases e : b = w.heap.size
    · rw [if_pos e] at h; exact .inl ⟨e, h⟩
    · rw [if_neg e] at h; exact .inr ⟨hi.st_lt h, h⟩
  have hheap := fun b (h : b < w.heap.size) => heap_alloc_lt w (.cells all t) b h
  refine ⟨hi.n, ?_, ?_, ?_, ?_, fun g => Rep.mono hle _ _ (hi.gl g), hi.tab_le hle⟩
  · intro b i v hv
    rcases hst b i v hv with ⟨rfl, h⟩ | ⟨hlt, h⟩
    · have := heap_alloc_new w (.cells all t)
      rw [cell_of_row _ _ _ _ _ _ this]
      exact hvs i v h
    · rw [cell_alloc _ _ _ _ hlt]; exact hi.st b i v h
  · intro b o ho
    rw [hheap b (hi.keep_lt ho)]; exact hi.keep b o ho
  · intro k o hk
    have ho := hi.obj k o hk
    refine ho.keeps hle (by rw [hi.n]; exact getElem?_lt hk) rfl ⟨rfl, rfl⟩ (fun b hb i v hv => ?_) (fun _ => rfl) (fun b hb => hheap b (ho.owns_lt hb))
    have hlt := ho.owns_lt hb
    simp only [Ghost.fix] at hv
    rwa [if_neg (by omega)] at hv
  · intro i j x y b hx hy ox oy
    have ob : ∀ k x b, owns (G.fix w.heap.size vs) k x b ↔ owns G k x b := fun k x b => by cases x <;> exact Iff.rfl
    rw [ob] at ox oy
    exact hi.apart i j x y b hx hy ox oy

theorem Ext.alloc (w : World) (o : Obj) : Ext w (w.alloc o) := ⟨rfl, rfl, rfl, by simp⟩
theorem Ext.drew (w : World) : Ext w w.drew := ⟨rfl, rfl, rfl, Nat.le_refl _⟩

theorem RepMem.fix {C : Ctx} {G : Ghost} {M : Mem} {w : World} (hi : Inv C G M w) {cs : List AV} {vs : List Value} (hr : RepL G cs vs) (h1 : ∀ v ∈ vs, v.oneCell' = true) :
    RepMem (G.fix w.heap.size vs) cs w.heap.size 0 :=
  RepMem.mk (RepL.mono (Ghost.le_fix hi vs) _ _ hr) h1 (fun j v hv => by simp only [Ghost.fix, if_true, Nat.zero_add]; exact hv)

/-- a new box -/
theorem Inv.newBox {C : Ctx} {G : Ghost} {M : Mem} {w : World} (hi : Inv C G M w) {cs : List AV} {vs : Array Value} (t : TypeId) (hr : RepL G cs vs.toList) (h1 : ∀ v ∈ vs.toList, v.oneCell' = true) :
    ∃ G', Inv C G' (M ++ [.cells t cs]) (w.alloc (.cells vs t)) ∧ G.le G' ∧ G'.blk M.length = w.heap.size ∧ M.length < G'.n := by
  have hm := hi.more w.heap.size (fun _ => (none, 0)) 0
  have hk : (M ++ [AObj.gone])[M.length]? = some .gone := by simp
  have hb : (G.more w.heap.size (fun _ => (none, 0)) 0).blk M.length = w.heap.size := by simp [Ghost.more, hi.n]
  have hnone : ∀ i, (G.more w.heap.size (fun _ => (none, 0)) 0).st w.heap.size i = none := by
    intro i
    cases h : G.st w.heap.size i with
    | none => exact h
    | some v => have := hi.st_lt h; omega
  have hknone : (G.more w.heap.size (fun _ => (none, 0)) 0).keep w.heap.size = none := by
    cases h : G.keep w.heap.size with
    | none => exact h
    | some v => have := hi.keep_lt h; omega
  have := hm.step (w' := w.alloc (.cells vs t)) (o' := .cells t cs) M.length w.heap.size hk (.inr (Nat.le_refl _)) (.refl _) rfl (fun _ => rfl) (fun _ _ => ⟨rfl, rfl⟩) (fun _ _ _ h => .inl h) (fun _ => rfl)
    (fun b hlt _ => heap_alloc_lt w _ b hlt) (fun i v h => by rw [hnone] at h; simp at h) (fun o h => by rw [hknone] at h; simp at h)
    ⟨vs, by rw [hb]; exact heap_alloc_new w _, RepL.mono (G.le_more _ _ _) _ _ hr, h1, by rw [hb]; exact hnone, by rw [hb]; exact hknone⟩ (fun b h => .inl (by simp only [owns, hb] at h; exact h))
  refine ⟨_, ?_, G.le_more _ _ _, hb, by simp [Ghost.more, hi.n]⟩
  simpa using this

/-- a new object in a block of its own -/
theorem Inv.newObj {C : Ctx} {G : Ghost} {M : Mem} {w : World} (hi : Inv C G M w) (o : Obj) (ao : AObj) (h : Nat → Option Addr × Nat) (t : Nat)
    (hob : ∀ G', G.le G' → G'.blk M.length = w.heap.size → G'.hdr M.length = h → G'.top M.length = t → (∀ i, G'.st w.heap.size i = none) → G'.keep w.heap.size = none → ObjInv G' (w.alloc o) M.length ao)
    (hown : ∀ G' b, G'.blk M.length = w.heap.size → G'.hdr M.length = h → owns G' M.length ao b → b = w.heap.size) :
    ∃ G', Inv C G' (M ++ [ao]) (w.alloc o) ∧ G.le G' ∧ G'.blk M.length = w.heap.size ∧ M.length < G'.n ∧ G'.hdr M.length = h ∧ G'.top M.length = t := by
  have hm := hi.more w.heap.size h t
  have hk : (M ++ [AObj.gone])[M.length]? = some .gone := by simp
  have hb : (G.more w.heap.size h t).blk M.length = w.heap.size := by simp [Ghost.more, hi.n]
  have hh : (G.more w.heap.size h t).hdr M.length = h := by simp [Ghost.more, hi.n]
  have ht : (G.more w.heap.size h t).top M.length = t := by simp [Ghost.more, hi.n]
  have hnone : ∀ i, (G.more w.heap.size h t).st w.heap.size i = none := by
    intro i
    cases h : G.st w.heap.size i with
    | none => exact h
    | some v => have := hi.st_lt h; omega
  have hknone : (G.more w.heap.size h t).keep w.heap.size = none := by
    cases h : G.keep w.heap.size with
    | none => exact h
    | some v => have := hi.keep_lt h; omega
  have := hm.step (w' := w.alloc o) (o' := ao) M.length w.heap.size hk (.inr (Nat.le_refl _)) (.refl _) rfl (fun _ => rfl) (fun _ _ => ⟨rfl, rfl⟩) (fun _ _ _ h => .inl h) (fun _ => rfl)
    (fun b hlt _ => heap_alloc_lt w _ b hlt) (fun i v h => by rw [hnone] at h; simp at h) (fun o h => by rw [hknone] at h; simp at h)
    (hob _ (G.le_more _ _ _) hb hh ht hnone hknone) (fun b h => .inl (hown _ b hb hh h))
  refine ⟨_, ?_, G.le_more _ _ _, hb, by simp [Ghost.more, hi.n], hh, ht⟩
  simpa using this

/-! ### append -/
def asList : AV → Option (List (List AV) × Own)
  | .val (.slice none 0 0) => some ([], .full)
  | .list _ rows own => some (rows, own)
  | _ => none
def sizeOk (sz : Nat) : AV → Prop
  | .list s _ _ => s = sz
  | _ => True

theorem asList_rep {C : Ctx} {G : Ghost} {M : Mem} {w : World} (hi : Inv C G M w) {v : AV} {x : Value} {sz : Nat} {rows : List (List AV)} {own : Own} (hr : Rep G v x) (h : asList v = some (rows, own)) (hs : sizeOk sz v) :
    ∃ base cap, x = .slice base rows.length cap ∧ rows.length ≤ cap ∧ cap ≤ maxLen ∧ (match base with | none => rows = [] ∧ cap = 0 | some a => (rows ≠ [] → a.spot = none) ∧ RepRows G sz rows a.block a.off) ∧ RepOwn G own rows.length base cap := by
  unfold asList at h
  split at h
  · simp only [Option.some.injEq, Prod.mk.injEq] at h
    obtain ⟨rfl, rfl⟩ := h
    simp only [Rep] at hr
    subst hr
    exact ⟨none, 0, rfl, Nat.le_refl _, by simp [maxLen], ⟨rfl, rfl⟩, rfl⟩
  · simp only [Option.some.injEq, Prod.mk.injEq] at h
    obtain ⟨rfl, rfl⟩ := h
    simp only [sizeOk] at hs
    subst hs
    simp only [Rep] at hr
    exact hr
  · simp at h

/-- the cells of a slice that reads as rows -/
theorem rows_cells {C : Ctx} {G : Ghost} {M : Mem} {w : World} (hi : Inv C G M w) {base : Option Addr} {sz cap : Nat} {rows : List (List AV)}
    (h : match base with | none => rows = [] ∧ cap = 0 | some a => (rows ≠ [] → a.spot = none) ∧ RepRows G sz rows a.block a.off) :
    ∃ vs : List Value, RepL G rows.flatten vs ∧ vs.length = rows.length * sz ∧ (∀ v ∈ vs, v.oneCell' = true) ∧ (∀ r ∈ rows, r.length = sz) ∧
      ∀ w', w'.heap = w.heap → (Builtin.firstCells sz rows.length (.slice base rows.length cap)).run C.P w' = .ok vs.toArray w' := by
  cases base with
  | none =>
    obtain ⟨rfl, _⟩ := h
    exact ⟨[], by simp [RepL], by simp, by simp, by simp, fun w' _ => by simp [Builtin.firstCells]⟩
  | some a =>
    obtain ⟨hsp, h⟩ := h
    obtain ⟨hm, hl⟩ := RepRows.flat h
    obtain ⟨vs, h1, h2, h3, h4⟩ := hm.vals
    refine ⟨vs, h1, by omega, h3, h.sizes, fun w' hw => ?_⟩
    refine run_firstCells_some (P := C.P) w' sz rows.length a rows.length cap vs (by omega) (fun j v hv => ?_)
    have hne : rows ≠ [] := by
      intro e
      subst e
      have := getElem?_lt hv
      simp at h2
      subst h2
      simp at this
    have hsp := hsp hne
    have ea : a = ⟨a.block, a.off, none⟩ := by cases a; simp_all
    rw [ea, Addr.add_lit]
    have := hi.st _ _ _ (h4 j v hv)
    simpa [World.cell?, hw] using this

end Go.Abs
end
section
/- append: what it computes -/
set_option linter.unusedVariables false
namespace Go.Abs
/-- what may be appended: a slice or a string -/
def srcOk (P : Program) (u : TypeId) : Prop := (∃ e2, P.underlying u = some (.slice e2)) ∨ P.underlying u = some .string

section
variable {P : Program}
theorem run_app_same {t u e : TypeId} {ty : TypeId} {sz : Nat} {s x : Value} {base : Option Addr} {n cap : Nat} {w : World} (ht : P.underlying t = some (.slice e)) (hsz : szOf P e = some sz)
    (hu : srcOk P u) (hx : ∀ w, (Builtin.lenOf x).run P w = .ok 0 w)
    (hfx : (Builtin.firstCells sz 0 x).run P w = .ok #[] w) (hle : n ≤ cap) : (Builtin.append_ #[t, u] ty #[.slice base n cap, x]).run P w = .ok (.slice base n cap) w := by
  obtain ⟨e2, hu⟩ | hu := hu
  all_goals cases base <;> simp [Builtin.append_, run_underlying ht, run_underlying hu, run_szOf hsz, hx, hfx, hle, storeCells]

theorem run_app_room {t u e : TypeId} {ty : TypeId} {sz : Nat} {x : Value} {g n cap m : Nat} {w : World} (ht : P.underlying t = some (.slice e)) (hsz : szOf P e = some sz)
    (hu : srcOk P u) (hx : ∀ w, (Builtin.lenOf x).run P w = .ok m w)
    {news : List Value} (hfx : (Builtin.firstCells sz m x).run P w = .ok news.toArray w) (hle : n + m ≤ cap) {cur : Array Value} {ct : TypeId} (hg : w.heap[g]? = some (.cells cur ct (0, 0)))
    (hfit : n * sz + news.length ≤ cur.size) (h1 : ∀ v ∈ news, v.oneCell' = true) :
    (Builtin.append_ #[t, u] ty #[.slice (some ⟨g, 0, none⟩) n cap, x]).run P w =
      .ok (.slice (some ⟨g, 0, none⟩) (n + m) cap) (w.setRow g (cur.toList.take (n * sz) ++ news ++ cur.toList.drop (n * sz + news.length)).toArray) := by
  obtain ⟨e2, hu⟩ | hu := hu
  all_goals
   have hst := run_storeCells_at P g (n * sz) ct news 0 cur w hg (by simpa using hfit) h1
   simp only [Nat.add_zero] at hst
   simp [Builtin.append_, run_underlying ht, run_underlying hu, run_szOf hsz, hx, hfx, hle, hst, Addr.add_lit]

theorem run_app_grow {t u e : TypeId} {ty : TypeId} {i : TypeInfo} {z x : Value} {base : Option Addr} {n cap m : Nat} {w : World} (ht : P.underlying t = some (.slice e)) (hi : P.info? e = some i) (hz : i.zero = some z)
    (hu : srcOk P u) (hx : ∀ w, (Builtin.lenOf x).run P w = .ok m w)
    {news olds : List Value} (hfx : (Builtin.firstCells i.size m x).run P w.drew = .ok news.toArray w.drew) (hfs : (Builtin.firstCells i.size n (.slice base n cap)).run P w.drew = .ok olds.toArray w.drew)
    (hgt : cap < n + m) (hb : (n + m) * i.bytes ≤ 140737488355328) (h63 : n + m ≤ maxLen) :
    (Builtin.append_ #[t, u] ty #[.slice base n cap, x]).run P w =
      .ok (.slice (some ⟨w.heap.size, 0, none⟩) (n + m) (grownCap w (n + m) cap e)) (w.drew.alloc (.cells (olds.toArray ++ news.toArray ++ Builtin.zeroCells z.cells (grownCap w (n + m) cap e - (n + m))) e)) := by
  have hn : ¬ (n + m ≤ cap) := by omega
  have h63' : ¬ (9223372036854775807 < ((n : Int) + (m : Int))) := by simp only [maxLen] at h63; omega
  have hfit := growslice_fits hgt hb
  have h48' : ¬ (281474976710656 < Builtin.nextslicecap (n + m) cap * i.bytes) := by omega
  obtain ⟨e2, hu⟩ | hu := hu
  all_goals simp [Builtin.append_, run_underlying ht, run_underlying hu, sizeOf, typeInfo, zeroValue, hi, hz, hx, hn, h63', h48', Question.forced, hfx, hfs, newRow, grownCap]
  all_goals (congr 2; apply Array.ext'; simp)
end

/-- the facts of an element's type that append wants -/
def elemOk (P : Program) (e : TypeId) (sz bytes : Nat) : Prop := ∃ i z, P.info? e = some i ∧ i.zero = some z ∧ i.size = sz ∧ i.bytes = bytes ∧ z.cells.size = sz ∧ 0 < bytes

def appendAV (hint : Bool) (sz : Nat) (s x : AV) (M : Mem) : Option (AV × Mem) :=
  match asList s, asList x with
  | some (r1, own), some (r2, _) =>
    match own with
    | .fam f => match M[f]? with
      | some (.fam m sz') => if m = r1.length ∧ sz' = sz then some (.list sz (r1 ++ r2) (.fam f), M.set f (.fam (r1.length + r2.length) sz)) else none
      | _ => none
    | .full => if hint then some (.list sz (r1 ++ r2) (.fam M.length), M ++ [.fam (r1.length + r2.length) sz]) else some (.list sz (r1 ++ r2) .no, M)
    | .no => none
  | _, _ => none

def rowsLen (s : AV) : Nat := match asList s with | some (r, _) => r.length | none => 0

theorem lenOf_slice (P : Program) (base : Option Addr) (n c : Nat) (w : World) : (Builtin.lenOf (.slice base n c)).run P w = .ok n w := rfl

/-- a family's next header, fixed memory in block nb from place o on -/
def Ghost.grow (G : Ghost) (f n : Nat) (h : Option Addr × Nat) (nb o : Nat) (vs : List Value) : Ghost :=
  { G with st := fun b i => if b = nb ∧ o ≤ i ∧ i < o + vs.length then vs[i - o]? else G.st b i,
           hdr := fun j => if j = f then fun k => if k = n then h else G.hdr f k else G.hdr j,
           top := fun j => if j = f then n else G.top j }

theorem Ghost.le_grow {G : Ghost} {f n : Nat} {h : Option Addr × Nat} {nb o : Nat} {vs : List Value} (hn : G.top f < n ∨ (G.top f = n ∧ G.hdr f n = h)) (hst : ∀ i v, o ≤ i → i < o + vs.length → G.st nb i = some v → vs[i - o]? = some v) : G.le (G.grow f n h nb o vs) := by
  refine ⟨Nat.le_refl _, fun _ _ => rfl, fun b i v hv => ?_, fun _ _ h => h, fun j _ => ?_, fun j _ k hk => ?_⟩
  · simp only [Ghost.grow]
    split
    · rename_i e; obtain ⟨rfl, h1, h2⟩ := e; exact hst i v h1 h2 hv
    · exact hv
  · simp only [Ghost.grow]
    by_cases e : j = f
    · subst e; rw [if_pos rfl]; omega
    · rw [if_neg e]; exact Nat.le_refl _
  · simp only [Ghost.grow]
    by_cases e : j = f
    · subst e
      rw [if_pos rfl]
      by_cases e2 : k = n
      · subst e2
        rw [if_pos rfl]
        rcases hn with h1 | ⟨_, h1⟩
        · omega
        · exact h1.symm
      · rw [if_neg e2]
    · rw [if_neg e]
end Go.Abs
end
section
/- append is sound -/
set_option linter.unusedVariables false
namespace Go.Abs

abbrev BaseOk (G : Ghost) (sz : Nat) (rows : List (List AV)) (base : Option Addr) (cap : Nat) : Prop :=
  match base with | none => rows = [] ∧ cap = 0 | some a => (rows ≠ [] → a.spot = none) ∧ RepRows G sz rows a.block a.off

theorem rep_list {G : Ghost} {sz : Nat} {rows : List (List AV)} {own : Own} {base : Option Addr} {n cap : Nat} (hn : n = rows.length) (h1 : rows.length ≤ cap) (h2 : cap ≤ maxLen) (h3 : BaseOk G sz rows base cap) (h4 : RepOwn G own rows.length base cap) :
    Rep G (.list sz rows own) (.slice base n cap) := by
  subst hn
  simp only [Rep]
  exact ⟨base, cap, rfl, h1, h2, h3, h4⟩

theorem BaseOk.mono {G G' : Ghost} (h : G.le G') {sz : Nat} {rows : List (List AV)} {base : Option Addr} {cap : Nat} (k : BaseOk G sz rows base cap) : BaseOk G' sz rows base cap := by
  cases base with
  | none => exact k
  | some a => exact ⟨k.1, RepRows.mono h sz rows _ _ k.2⟩

/-- a full slice is given a family of its own -/
theorem Inv.adopt {C : Ctx} {G : Ghost} {M : Mem} {w : World} (hi : Inv C G M w) {n sz : Nat} {base : Option Addr} (hn : n ≤ maxLen) :
    ∃ G', Inv C G' (M ++ [.fam n sz]) w ∧ G.le G' ∧ M.length < G'.n ∧ G'.top M.length = n ∧ G'.hdr M.length n = (base, n) := by
  have hm := hi.more w.heap.size (fun _ => (base, n)) n
  have hk : (M ++ [AObj.gone])[M.length]? = some .gone := by simp
  have e1 : (G.more w.heap.size (fun _ => (base, n)) n).hdr M.length n = (base, n) := by simp [Ghost.more, hi.n]
  have e2 : (G.more w.heap.size (fun _ => (base, n)) n).top M.length = n := by simp [Ghost.more, hi.n]
  have hs := hm.step (w' := w) (o' := .fam n sz) M.length w.heap.size hk (.inr (Nat.le_refl _)) (.refl _) rfl (fun _ => rfl) (fun _ _ => ⟨rfl, rfl⟩) (fun _ _ _ h => .inl h) (fun _ => rfl) (fun _ _ _ => rfl)
    (fun i v h => hi.st _ _ _ h) (fun o h => by have := hi.keep_lt (b := w.heap.size) (o := o) h; omega) ⟨e2, by rw [e1]; exact Nat.le_refl _, by rw [e1]; exact hn, fun h => by rw [e1] at h; simp at h⟩ (fun b h => by simp [owns, e1] at h)
  exact ⟨_, by simpa using hs, G.le_more _ _ _, by simp [Ghost.more, hi.n], e2, e1⟩

/-- the new fixed memory of a grown slice -/
theorem RepRows.grown {G G' : Ghost} (hle : G.le G') {sz nb o : Nat} {rows : List (List AV)} {vs : List Value} (hr : RepL G rows.flatten vs) (h1 : ∀ v ∈ vs, v.oneCell' = true) (hsz : ∀ r ∈ rows, r.length = sz)
    (hst : ∀ (i : Nat) (v : Value), vs[i]? = some v → G'.st nb (o + i) = some v) : RepRows G' sz rows nb o :=
  RepRows.mk hsz (RepMem.mk (RepL.mono hle _ _ hr) h1 hst)

theorem append_sound {C : Ctx} {G : Ghost} {M : Mem} {w : World} (hi : Inv C G M w) {s x : AV} {sv xv : Value} (hs : Rep G s sv) (hx : Rep G x xv) {sz bytes : Nat} (hss : sizeOk sz s) (hsx : sizeOk sz x)
    {hint : Bool} {r : AV} {M' : Mem} (h : appendAV hint sz s x M = some (r, M')) {t u e : TypeId} (ty : TypeId) (ht : elemOf? C.P t = some e) (hu : srcOk C.P u) (he : elemOk C.P e sz bytes)
    (hb : (rowsLen s + rowsLen x) * bytes ≤ 140737488355328) :
    ∃ v w' G', (Builtin.append_ #[t, u] ty #[sv, xv]).run C.P w = .ok v w' ∧ G.le G' ∧ Inv C G' M' w' ∧ Rep G' r v ∧ Ext w w' := by
  have ht := elemOf_und ht
  obtain ⟨i, z, hinfo, hz, hisz, hib, hzs, hbpos⟩ := he
  have hszo : szOf C.P e = some sz := by simp [szOf, hinfo, hisz]
  unfold appendAV at h
  split at h
  case h_2 => simp at h
  rename_i r1 own r2 own2 e1 e2
  obtain ⟨base, cap, rfl, hl1, hm1, hb1, ho1⟩ := asList_rep hi hs e1 hss
  obtain ⟨base2, cap2, rfl, hl2, hm2, hb2, ho2⟩ := asList_rep hi hx e2 hsx
  obtain ⟨vs1, hr1, hlen1, hone1, hsz1, hf1⟩ := rows_cells hi (cap := cap) hb1
  obtain ⟨vs2, hr2, hlen2, hone2, hsz2, hf2⟩ := rows_cells hi (cap := cap2) hb2
  have hb' : (r1.length + r2.length) * bytes ≤ 140737488355328 := by simpa [rowsLen, e1, e2] using hb
  have h63 : r1.length + r2.length ≤ maxLen := by
    have : r1.length + r2.length ≤ (r1.length + r2.length) * bytes := Nat.le_mul_of_pos_right _ hbpos
    simp only [maxLen]; omega
  have hr12 : RepL G (r1 ++ r2).flatten (vs1 ++ vs2) := by rw [List.flatten_append]; exact hr1.append hr2
  have hone12 : ∀ v ∈ vs1 ++ vs2, v.oneCell' = true := fun v hv => by
    rcases List.mem_append.1 hv with h | h
    · exact hone1 v h
    · exact hone2 v h
  have hsz12 : ∀ q ∈ r1 ++ r2, q.length = sz := fun v hv => by
    rcases List.mem_append.1 hv with h | h
    · exact hsz1 v h
    · exact hsz2 v h
  have hlen12 : (vs1 ++ vs2).length = (r1.length + r2.length) * sz := by rw [List.length_append, hlen1, hlen2, Nat.add_mul]
  by_cases hm : r2.length = 0
  · -- nothing is appended
    have hr2n : r2 = [] := List.eq_nil_of_length_eq_zero hm
    subst hr2n
    have hfx : (Builtin.firstCells sz 0 (.slice base2 ([] : List (List AV)).length cap2)).run C.P w = .ok #[] w := by
      have := hf2 w rfl
      have hv : vs2 = [] := List.eq_nil_of_length_eq_zero (by simpa using hlen2)
      subst hv
      exact this
    have hrun := run_app_same (P := C.P) (ty := ty) (s := .bool true) (base := base) (n := r1.length) (cap := cap) (x := .slice base2 ([] : List (List AV)).length cap2) ht hszo hu (fun w => lenOf_slice _ _ _ _ _) hfx hl1
    simp only [List.append_nil, List.length_nil, Nat.add_zero] at h
    cases own with
    | no => simp at h
    | full =>
      simp only [RepOwn] at ho1
      subst ho1
      simp only at h
      split at h
      · simp only [Option.some.injEq, Prod.mk.injEq] at h
        obtain ⟨rfl, rfl⟩ := h
        obtain ⟨G', hi', hle, hlt, q1, q2⟩ := hi.adopt (n := r1.length) (sz := sz) (base := base) hm1
        exact ⟨_, w, G', hrun, hle, hi', rep_list rfl (Nat.le_refl _) hm1 (BaseOk.mono hle hb1) ⟨hlt, by omega, q2⟩, .refl _⟩
      · simp only [Option.some.injEq, Prod.mk.injEq] at h
        obtain ⟨rfl, rfl⟩ := h
        exact ⟨_, w, G, hrun, .refl _, hi, rep_list rfl hl1 hm1 hb1 trivial, .refl _⟩
    | fam f =>
      simp only at h
      split at h
      · rename_i m sz' hf
        split at h
        · rename_i hcond
          obtain ⟨rfl, rfl⟩ := hcond
          simp only [Option.some.injEq, Prod.mk.injEq] at h
          obtain ⟨rfl, rfl⟩ := h
          have hM : M.set f (.fam r1.length sz') = M := by
            have hlt := getElem?_lt hf
            rw [List.getElem?_eq_getElem hlt] at hf
            have := Option.some.inj hf
            rw [← this]; exact List.set_getElem_self hlt
          rw [hM]
          exact ⟨_, w, G, hrun, .refl _, hi, rep_list rfl hl1 hm1 hb1 ho1, .refl _⟩
        · simp at h
      · simp at h
  · by_cases hroom : r1.length + r2.length ≤ cap
    · -- in place
      cases own with
      | no => simp at h
      | full => simp only [RepOwn] at ho1; omega
      | fam f =>
        simp only at h
        split at h
        case h_2 => simp at h
        rename_i m sz' hf
        split at h
        case isFalse => simp at h
        rename_i hcond
        obtain ⟨rfl, rfl⟩ := hcond
        simp only [Option.some.injEq, Prod.mk.injEq] at h
        obtain ⟨rfl, rfl⟩ := h
        obtain ⟨hfn, hft, hfh⟩ := ho1
        obtain ⟨htop, hle1, hcm, hsp⟩ := hi.obj f _ hf
        rw [hfh] at hle1 hcm hsp
        obtain ⟨g, cur, ct, hbase, hg, hfit, hfree, hkeep⟩ := hsp (by show r1.length < cap; omega)
        simp only at hbase hfit
        subst hbase
        have hfit2 : r1.length * sz' + vs2.length ≤ cur.size := by
          rw [hlen2, ← Nat.add_mul]
          exact Nat.le_trans (Nat.mul_le_mul_right _ hroom) hfit
        have hrun := run_app_room (P := C.P) (ty := ty) (g := g) (n := r1.length) (cap := cap) (x := .slice base2 r2.length cap2) (m := r2.length) ht hszo hu (fun w => lenOf_slice _ _ _ _ _) (hf2 w rfl) hroom hg hfit2 hone2
        generalize hw' : w.setRow g (cur.toList.take (r1.length * sz') ++ vs2 ++ cur.toList.drop (r1.length * sz' + vs2.length)).toArray = w' at hrun
        have hheap : w'.heap[g]? = some (.cells (cur.toList.take (r1.length * sz') ++ vs2 ++ cur.toList.drop (r1.length * sz' + vs2.length)).toArray ct (0, 0)) := by rw [← hw']; exact setRow_heap w g cur _ ct _ hg
        have htk : (cur.toList.take (r1.length * sz')).length = r1.length * sz' := by rw [List.length_take]; simp; omega
        have hcell : ∀ i : Nat, w'.cell? ⟨g, i, none⟩ = (cur.toList.take (r1.length * sz') ++ vs2 ++ cur.toList.drop (r1.length * sz' + vs2.length))[i]? := by
          intro i; rw [cell_of_row _ _ _ _ _ _ hheap]; simp
        have hold : ∀ i : Nat, i < r1.length * sz' → w'.cell? ⟨g, i, none⟩ = w.cell? ⟨g, i, none⟩ := by
          intro i hi'
          rw [hcell, cell_of_row _ _ _ _ _ _ hg, List.append_assoc, List.getElem?_append_left (by omega), List.getElem?_take, if_pos hi']
          simp
        have hnewc : ∀ i v, r1.length * sz' ≤ i → vs2[i - r1.length * sz']? = some v → w'.cell? ⟨g, i, none⟩ = some v := by
          intro i v hi' hv
          have hlt := getElem?_lt hv
          rw [hcell, List.append_assoc, List.getElem?_append_right (by omega), htk, List.getElem?_append_left hlt]
          exact hv
        have hstn : ∀ i v, G.st g i = some v → i < r1.length * sz' := by
          intro i v hv
          rcases Nat.lt_or_ge i (r1.length * sz') with h | h
          · exact h
          · rw [hfree i h] at hv; simp at hv
        have hle : G.le (G.grow f (r1.length + r2.length) (some ⟨g, 0, none⟩, cap) g (r1.length * sz') vs2) :=
          Ghost.le_grow (.inl (by omega)) (fun i v h1 h2 hv => by have := hstn i v hv; omega)
        have hhdr : (G.grow f (r1.length + r2.length) (some ⟨g, 0, none⟩, cap) g (r1.length * sz') vs2).hdr f (r1.length + r2.length) = (some ⟨g, 0, none⟩, cap) := by simp [Ghost.grow]
        have hob : owns G f (.fam r1.length sz') g := by
          simp only [owns, hfh]
          exact ⟨by omega, _, rfl, rfl⟩
        have hi' := hi.step (w' := w') (o' := .fam (r1.length + r2.length) sz') f g hf (.inl hob) hle rfl (fun _ => rfl) (fun j hj => by simp [Ghost.grow, hj])
          (fun b i v hv => by
            simp only [Ghost.grow] at hv
            split at hv
            · rename_i hc; obtain ⟨rfl, c1, c2⟩ := hc; exact .inr ⟨rfl, hnewc i v c1 hv⟩
            · exact .inl hv)
          (fun _ => rfl) (fun b _ hne => by rw [← hw']; exact setRow_other _ _ _ _ hne) (fun i v hv => by rw [hold i (hstn i v hv)]; exact hi.st _ _ _ hv) (fun o ho => by rw [hkeep] at ho; simp at ho)
          ⟨by simp [Ghost.grow], by rw [hhdr]; exact hroom, by rw [hhdr]; exact hm1, fun hlt => ⟨g, _, ct, by rw [hhdr], hheap, by
            rw [hhdr]
            simp only [List.size_toArray, List.length_append, List.length_take, List.length_drop, Array.length_toList]
            omega, fun i hi' => by
              simp only [Ghost.grow]
              rw [if_neg (by rw [hlen2, ← Nat.add_mul]; omega)]
              exact hfree i (Nat.le_trans (Nat.mul_le_mul_right _ (Nat.le_add_right _ _)) hi'), hkeep⟩⟩
          (fun b hb => .inl (by
            simp only [owns, hhdr, Option.some.injEq] at hb
            obtain ⟨_, a, rfl, rfl⟩ := hb
            rfl))
        refine ⟨_, w', _, hrun, hle, hi', ?_, by rw [← hw']; exact Ext.setRow _ _ _⟩
        refine rep_list (by simp) (by simpa using hroom) hm1 ⟨fun _ => rfl, ?_⟩ ⟨by exact hfn, by simp [Ghost.grow], by simpa using hhdr⟩
        -- the rows: the old ones as they were, the new ones behind
        refine RepRows.grown hle hr12 hone12 hsz12 (fun i v hv => ?_)
        simp only [Nat.zero_add, Ghost.grow]
        by_cases hlt : i < vs1.length
        · rw [List.getElem?_append_left hlt] at hv
          rw [if_neg (by omega)]
          -- the old cell's fixed value is the one of vs1
          obtain ⟨_, hrows⟩ := hb1
          obtain ⟨us, q1, q2, q3, q4⟩ := (RepRows.flat hrows).1.vals
          have hus : us = vs1 := by
            have hfc := hf1 w rfl
            have hfc' := run_firstCells_some (P := C.P) w sz' r1.length ⟨g, 0, none⟩ r1.length cap us (by rw [q2, (RepRows.flat hrows).2]) (fun j v hv => by rw [Addr.add_lit]; exact hi.st _ _ _ (q4 j v hv))
            rw [hfc'] at hfc
            simp at hfc
            exact hfc
          subst hus
          simpa using q4 i v hv
        · rw [List.getElem?_append_right (by omega)] at hv
          have := getElem?_lt hv
          rw [if_pos ⟨trivial, by omega, by omega⟩, ← hlen1]
          exact hv
    · -- a new block
      have hrun := run_app_grow (P := C.P) (ty := ty) (base := base) (n := r1.length) (cap := cap) (x := .slice base2 r2.length cap2) (m := r2.length) (w := w) (i := i) (z := z) (e := e) (t := t) (u := u) (news := vs2) (olds := vs1) ht hinfo hz hu
        (fun w => lenOf_slice _ _ _ _ _) (by rw [hisz]; exact hf2 w.drew rfl) (by rw [hisz]; exact hf1 w.drew rfl) (by omega) (by rw [hib]; exact hb') h63
      have hge := grownCap_ge w (r1.length + r2.length) cap e
      have hcl := grownCap_le_maxLen w (r1.length + r2.length) cap e h63
      generalize grownCap w (r1.length + r2.length) cap e = nc at hrun hge hcl
      generalize hall : vs1.toArray ++ vs2.toArray ++ Builtin.zeroCells z.cells (nc - (r1.length + r2.length)) = all at hrun
      have hallsz : all.size = nc * sz := by
        rw [← hall]
        simp only [Array.size_append, List.size_toArray, size_zeroCells, hzs, hlen1, hlen2, ← Nat.add_mul]
        congr 1; omega
      have hallget : ∀ (i : Nat) (v : Value), (vs1 ++ vs2)[i]? = some v → all[i]? = some v := by
        intro i v hv
        have hlt := getElem?_lt hv
        rw [← hall, Array.getElem?_append_left (by simp at hlt ⊢; omega), ← hv]
        simp
      have hiw : Inv C G M w.drew := hi.world rfl
      have hext : Ext w (w.drew.alloc (.cells all e)) := (Ext.drew w).trans (Ext.alloc _ _)
      have hnewheap := heap_alloc_new w.drew (.cells all e)
      -- with a family f (a new one or the old one)
      have withFam : ∀ (G1 : Ghost) (M1 : Mem) (f : Nat) (o : AObj), Inv C G1 M1 w.drew → G.le G1 → M1[f]? = some o → f < G1.n → (G1.top f < r1.length + r2.length ∨ (∀ h, G1.top f = r1.length + r2.length ∧ G1.hdr f (r1.length + r2.length) = h → True) ∧ G1.top f < r1.length + r2.length) →
          ∃ G', G.le G' ∧ Inv C G' (M1.set f (.fam (r1.length + r2.length) sz)) (w.drew.alloc (.cells all e)) ∧ Rep G' (.list sz (r1 ++ r2) (.fam f)) (.slice (some ⟨w.heap.size, 0, none⟩) (r1.length + r2.length) nc) := by
        intro G1 M1 f o hi1 hle1 hf hfn htop
        have htop : G1.top f < r1.length + r2.length := by rcases htop with h | h; exact h; exact h.2
        have hle : G1.le (G1.grow f (r1.length + r2.length) (some ⟨w.heap.size, 0, none⟩, nc) w.heap.size 0 (vs1 ++ vs2)) :=
          Ghost.le_grow (.inl htop) (fun i v _ _ hv => by have := hi1.st_lt hv; simp at this)
        have hhdr : (G1.grow f (r1.length + r2.length) (some ⟨w.heap.size, 0, none⟩, nc) w.heap.size 0 (vs1 ++ vs2)).hdr f (r1.length + r2.length) = (some ⟨w.heap.size, 0, none⟩, nc) := by simp [Ghost.grow]
        have hst1 : ∀ i, G1.st w.heap.size i = none := by
          intro i
          cases h : G1.st w.heap.size i with
          | none => rfl
          | some v => have := hi1.st_lt h; simp at this
        have hk1 : ∀ o, G1.keep w.heap.size ≠ some o := by
          intro o h
          have := hi1.keep_lt h; simp at this
        have hi' := hi1.step (w' := w.drew.alloc (.cells all e)) (o' := .fam (r1.length + r2.length) sz) f w.heap.size hf (.inr (by simp)) hle rfl (fun _ => rfl) (fun j hj => by simp [Ghost.grow, hj])
          (fun b i v hv => by
            simp only [Ghost.grow] at hv
            split at hv
            · rename_i hc; obtain ⟨rfl, c1, c2⟩ := hc
              refine .inr ⟨rfl, ?_⟩
              rw [cell_of_row _ _ _ _ _ _ (by simpa using hnewheap)]
              exact hallget i v (by simpa using hv)
            · exact .inl hv)
          (fun _ => rfl) (fun b hlt _ => heap_alloc_lt w.drew _ b (by simpa using hlt)) (fun i v hv => by rw [hst1] at hv; simp at hv) hk1
          ⟨by simp [Ghost.grow], by rw [hhdr]; exact hge, by rw [hhdr]; exact hcl, fun hlt => ⟨w.heap.size, all, e, by rw [hhdr], by simpa using hnewheap, by rw [hhdr, hallsz]; exact Nat.le_refl _, fun i hi' => by
              simp only [Ghost.grow]
              rw [if_neg (by rw [hlen12]; omega)]
              exact hst1 i, by
              cases h : G1.keep w.heap.size with
              | none => exact h
              | some o => exact absurd h (hk1 o)⟩⟩
          (fun b hb => .inl (by
            simp only [owns, hhdr, Option.some.injEq] at hb
            obtain ⟨_, a, rfl, rfl⟩ := hb
            rfl))
        refine ⟨_, hle1.trans hle, hi', ?_⟩
        refine rep_list (by simp) (by simpa using hge) hcl ⟨fun _ => rfl, ?_⟩ ⟨hfn, by simp [Ghost.grow], by simpa using hhdr⟩
        refine RepRows.grown (hle1.trans hle) hr12 hone12 hsz12 (fun i v hv => ?_)
        have := getElem?_lt hv
        simp only [Nat.zero_add, Ghost.grow]
        rw [if_pos ⟨trivial, by omega, by omega⟩]
        simpa using hv
      cases own with
      | no => simp at h
      | full =>
        simp only at h
        split at h
        · simp only [Option.some.injEq, Prod.mk.injEq] at h
          obtain ⟨rfl, rfl⟩ := h
          have hm1' := hiw.more 0 (fun _ => (none, 0)) 0
          obtain ⟨G', hle, hi', hrep⟩ := withFam _ (M ++ [.gone]) M.length .gone hm1' (G.le_more _ _ _) (by simp) (by simp [Ghost.more, hi.n]) (.inl (by simp [Ghost.more, hi.n]; omega))
          exact ⟨_, _, G', hrun, hle, by simpa using hi', hrep, hext⟩
        · simp only [Option.some.injEq, Prod.mk.injEq] at h
          obtain ⟨rfl, rfl⟩ := h
          have hle := Ghost.le_fix hiw (vs1 ++ vs2)
          refine ⟨_, _, _, hrun, hle, hiw.fix all e (vs1 ++ vs2) hallget, ?_, hext⟩
          refine rep_list (by simp) (by simpa using hge) hcl ⟨fun _ => rfl, ?_⟩ trivial
          refine RepRows.grown hle hr12 hone12 hsz12 (fun i v hv => ?_)
          simp only [Nat.zero_add, Ghost.fix]
          rw [if_pos (show w.heap.size = w.drew.heap.size from rfl)]
          exact hv
      | fam f =>
        simp only at h
        split at h
        case h_2 => simp at h
        rename_i m sz' hf
        split at h
        case isFalse => simp at h
        rename_i hcond
        obtain ⟨rfl, rfl⟩ := hcond
        simp only [Option.some.injEq, Prod.mk.injEq] at h
        obtain ⟨rfl, rfl⟩ := h
        obtain ⟨hfn, hft, hfh⟩ := ho1
        obtain ⟨htop, _⟩ := hi.obj f _ hf
        obtain ⟨G', hle, hi', hrep⟩ := withFam G M f _ hiw (.refl _) hf hfn (.inl (by omega))
        exact ⟨_, _, G', hrun, hle, hi', hrep, hext⟩
end Go.Abs
end
