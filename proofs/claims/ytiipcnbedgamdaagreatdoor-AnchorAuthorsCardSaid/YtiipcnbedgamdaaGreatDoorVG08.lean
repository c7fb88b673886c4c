/- The texts AbsX8, AbsX9: what each proves stands at its head. -/
import Derived.Test.YtiipcnbedgamdaaGreatDoorVG07
import Derived.Laws.IdiomStrings
section
/- []byte of a string. -/
set_option linter.unusedVariables false
namespace Go.Abs
section
variable {C : Ctx} {G : Ghost} {M : Mem} {w : World}

theorem Inv.fixF (hi : Inv C G M w) (all : Array Value) (t : TypeId) (fz : Nat × Nat) (vs : List Value) (hvs : ∀ (i : Nat) (v : Value), vs[i]? = some v → all[i]? = some v) :
    Inv C (G.fix w.heap.size vs) M (w.alloc (.cells all t fz)) := by
  have hle := Ghost.le_fix hi vs
  have hst : ∀ b i v, (G.fix w.heap.size vs).st b i = some v → (b = w.heap.size ∧ vs[i]? = some v) ∨ (b < w.heap.size ∧ G.st b i = some v) := by
    intro b i v h
    simp only [Ghost.fix] at h
    by_cases e : b = w.heap.size
    · rw [if_pos e] at h; exact .inl ⟨e, h⟩
    · rw [if_neg e] at h; exact .inr ⟨hi.st_lt h, h⟩
  have hheap := fun b (h : b < w.heap.size) => heap_alloc_lt w (.cells all t fz) b h
  refine ⟨hi.n, ?_, ?_, ?_, ?_, fun g => Rep.mono hle _ _ (hi.gl g), hi.tab_le hle⟩
  · intro b i v hv
    rcases hst b i v hv with ⟨rfl, h⟩ | ⟨hlt, h⟩
    · have := heap_alloc_new w (.cells all t fz)
      rw [cell_of_row _ _ _ _ _ _ this]
      exact hvs i v h
    · rw [cell_alloc _ _ _ _ hlt]; exact hi.st b i v h
  · intro b o ho
    rw [hheap b (hi.keep_lt ho)]; exact hi.keep b o ho
  · intro k o hk
    have ho := hi.obj k o hk
    refine ho.keeps hle (by rw [hi.n]; exact getElem?_lt hk) rfl ⟨rfl, rfl⟩ (fun b hb i v hv => ?_) (fun _ => rfl) (fun b hb => hheap b (ho.owns_lt hb))
    have hlt := ho.owns_lt hb
    simp only [Ghost.fix] at hv
    rwa [if_neg (by omega)] at hv
  · intro i j x y b hx hy ox oy
    have ob : ∀ k x b, owns (G.fix w.heap.size vs) k x b ↔ owns G k x b := fun k x b => by cases x <;> exact Iff.rfl
    rw [ob] at ox oy
    exact hi.apart i j x y b hx hy ox oy

def bytesAV (P : Program) (src dst : TypeId) (x : AV) : Option AV := match P.underlying src, P.underlying dst, x with
  | some .string, some (.slice e), .val (.string s) => match P.underlying e with
    | some (.int .u8) => if s.size < 2 ^ 62 then some (.list 1 (s.data.toList.map fun b => [.val (.int .u8 b.toNat)]) .no) else none
    | _ => none
  | _, _, _ => none

theorem flatten_single {α β : Type} (f : α → β) : ∀ l : List α, (l.map fun b => [f b]).flatten = l.map f
  | [] => rfl
  | a :: l => by simp [flatten_single f l]
theorem repL_vals : ∀ l : List Value, RepL G (l.map .val) l
  | [] => by simp [RepL]
  | v :: l => by simp only [List.map_cons, RepL]; exact ⟨v, l, rfl, by simp [Rep], repL_vals l⟩

theorem bytes_sound (hi : Inv C G M w) {src dst : TypeId} {x : AV} {xv : Value} (hx : Rep G x xv) {v : AV} (h : bytesAV C.P src dst x = some v) :
    ∃ u w' G', (convert src dst xv).run C.P w = .ok u w' ∧ G.le G' ∧ Inv C G' M w' ∧ Rep G' v u ∧ Ext w w' := by
  unfold bytesAV at h
  split at h
  case h_2 => simp at h
  rename_i e s hs hd
  split at h
  case h_2 => simp at h
  rename_i he
  split at h
  case isFalse => simp at h
  rename_i hsz
  simp only [Option.some.injEq] at h
  subst h
  simp only [Rep] at hx
  subst hx
  have hiw : Inv C G M w.drew := hi.world rfl
  have hrun := run_bytes_of_string w src dst e s hs hd he
  have hge := grownCap_ge w s.size 0 e
  have hcl := grownCap_le_maxLen w s.size 0 e (Nat.le_trans (Nat.le_of_lt hsz) (by decide))
  generalize grownCap w s.size 0 e = nc at hrun hge hcl
  have hall : ∀ (i : Nat) (v : Value), (s.data.toList.map fun b => Value.int .u8 b.toNat)[i]? = some v → (bytesRow s nc)[i]? = some v := by
    intro i v hv
    have hlt := getElem?_lt hv
    simp only [List.length_map, Array.length_toList] at hlt
    unfold bytesRow
    rw [Array.getElem?_append_left (by simpa using hlt)]
    simpa using hv
  have hi' := hiw.fixF (bytesRow s nc) e ((bytesRow s nc).size, (bytesRow s nc).size + 1) (s.data.toList.map fun b => Value.int .u8 b.toNat) hall
  refine ⟨_, _, _, hrun, Ghost.le_fix hiw _, hi', ?_, (Ext.drew w).trans (Ext.alloc _ _)⟩
  have hlen : (s.data.toList.map fun b => [AV.val (.int .u8 b.toNat)]).length = s.size := by rw [List.length_map, Array.length_toList]; rfl
  refine rep_list (base := some ⟨w.heap.size, 0, none⟩) hlen.symm (by rw [hlen]; exact hge) hcl ⟨fun _ => rfl, ?_⟩ (by simp [RepOwn])
  refine RepRows.mk (fun r hr => by obtain ⟨b, _, rfl⟩ := List.mem_map.1 hr; rfl) ?_
  rw [flatten_single]
  have e1 : (s.data.toList.map fun b => AV.val (.int .u8 b.toNat)) = (s.data.toList.map fun b => Value.int .u8 b.toNat).map AV.val := by simp
  rw [e1]
  refine RepMem.mk (RepL.mono (Ghost.le_fix hiw _) _ _ (repL_vals _)) (fun v hv => by obtain ⟨b, _, rfl⟩ := List.mem_map.1 hv; rfl) (fun j v hv => ?_)
  have : w.drew.heap.size = w.heap.size := rfl
  simp only [Ghost.fix, this, if_true, Nat.zero_add]
  exact hv
end
end Go.Abs
end
section
/- Pointers seen as unsafe.Pointer and back. -/
set_option linter.unusedVariables false
namespace Go.Abs
section
variable {C : Ctx} {G : Ghost} {M : Mem} {w : World}

def convU (P : Program) (src dst : TypeId) (M : Mem) (x : AV) : Option AV := match P.underlying src, P.underlying dst, x with
  | some (.pointer t), some .unsafePointer, .ptr b off => match M[b]?, szOf P t with
    | some (.cells bt cs), some n => if n ≠ 0 ∧ off < cs.length then some (.ptr b off) else none
    | _, _ => none
  | some .unsafePointer, some (.pointer u), .ptr b off => match M[b]?, szOf P u with
    | some (.cells bt cs), some n => if n ≠ 0 ∧ liesAt P P.depth bt (cs.length / P.cellsOf bt) off u 1 = true then some (.ptr b off) else none
    | _, _ => none
  | _, _, _ => none

theorem convU_sound (hi : Inv C G M w) {src dst : TypeId} {x : AV} {xv : Value} (hx : Rep G x xv) {v : AV} (h : convU C.P src dst M x = some v) :
    ∃ u, (convert src dst xv).run C.P w = .ok u w ∧ Rep G v u := by
  unfold convU at h
  split at h
  · rename_i t b off hs hd
    split at h
    case h_2 => simp at h
    rename_i bt cs n hM hn
    split at h
    case isFalse => simp at h
    rename_i hc
    simp only [Option.some.injEq] at h
    subst h
    obtain ⟨vs, hh, hr, _⟩ := hi.obj b _ hM
    have hx' := hx
    simp only [Rep] at hx
    obtain ⟨_, rfl⟩ := hx
    have hlen : vs.size = cs.length := by have := hr.length; simpa using this
    have hsh : w.shape? (G.blk b) = some (bt, vs.size) := by simp [World.shape?, hh]
    have hnot : ¬ vs.size ≤ off := by omega
    refine ⟨_, ?_, hx'⟩
    simp [convert, run_underlying hs, run_underlying hd, Conv.unsafePointer, Conv.seenAt, viewAt, cellsIn, hsh, run_szOf hn, hc.1, hnot]
  · rename_i u b off hs hd
    split at h
    case h_2 => simp at h
    rename_i bt cs n hM hn
    split at h
    case isFalse => simp at h
    rename_i hc
    simp only [Option.some.injEq] at h
    subst h
    obtain ⟨vs, hh, hr, _⟩ := hi.obj b _ hM
    have hx' := hx
    simp only [Rep] at hx
    obtain ⟨_, rfl⟩ := hx
    have hlen : vs.size = cs.length := by have := hr.length; simpa using this
    have hsh : w.shape? (G.blk b) = some (bt, vs.size) := by simp [World.shape?, hh]
    refine ⟨_, ?_, hx'⟩
    have hl := hc.2
    rw [← hlen] at hl
    simp [convert, run_underlying hs, run_underlying hd, Conv.unsafePointer, Conv.seenAt, viewAt, variablesAt, hsh, run_szOf hn, hc.1, hl]
  · simp at h
end
end Go.Abs
end
