/- The law PagestoreAtomic: slices that grow, beside a store. -/
import Derived.Test.YteillgpoonhdjaaPsL
set_option maxRecDepth 100000
set_option linter.unusedSimpArgs false
namespace Go.Abs
open Go.Proofs

/-- a slice of one-cell elements that the law itself grows -/
def Grow (M : Mem) (v : AV) (rows : List (List AV)) : Prop := v = .list 1 rows .full ∨ ∃ f, v = .list 1 rows (.fam f) ∧ M[f]? = some (.fam rows.length 1)
theorem Grow.fam_lt {M : Mem} {v : AV} {rows : List (List AV)} (h : Grow M v rows) {f : Nat} (hf : famOf v = some f) : f < M.length := by
  rcases h with rfl | ⟨g, rfl, hg⟩
  · simp [famOf] at hf
  · simp [famOf] at hf
    subst hf
    exact getElem?_lt hg
theorem Grow.keep {M M' : Mem} {b : Nat} {pv pv' v : AV} {rows : List (List AV)} (h : Grow M v rows) (fr : Fr M M' b pv pv') (h1 : famOf v ≠ some b) (h2 : ∀ f, famOf v = some f → famOf pv ≠ some f) : Grow M' v rows := by
  rcases h with rfl | ⟨g, rfl, hg⟩
  · exact .inl rfl
  · exact .inr ⟨g, rfl, (fr.same g (getElem?_lt hg) (fun e => h1 (by simp [famOf, e])) (h2 g rfl)).trans hg⟩
/-- what growing a slice may turn -/
structure FrG (M M' : Mem) (v v' : AV) : Prop where
  len : M.length ≤ M'.length
  same : ∀ k, k < M.length → famOf v ≠ some k → M'[k]? = M[k]?
  fam : ∀ k, famOf v' = some k → famOf v = some k ∨ M.length ≤ k
theorem Grow.append {M : Mem} {v : AV} {rows : List (List AV)} (h : Grow M v rows) (r : List AV) :
    ∃ v' M', appendAV true 1 v (.list 1 [r] .full) M = some (v', M') ∧ Grow M' v' (rows ++ [r]) ∧ FrG M M' v v' := by
  rcases h with rfl | ⟨f, rfl, hf⟩
  · refine ⟨.list 1 (rows ++ [r]) (.fam M.length), M ++ [.fam (rows.length + 1) 1], by simp [appendAV, asList], .inr ⟨M.length, rfl, by simp⟩, by simp, fun k hk _ => by rw [List.getElem?_append_left hk], fun k hk => ?_⟩
    simp [famOf] at hk
    omega
  · have hlt := getElem?_lt hf
    refine ⟨.list 1 (rows ++ [r]) (.fam f), M.set f (.fam (rows.length + 1) 1), by simp [appendAV, asList, hf], .inr ⟨f, rfl, by rw [List.getElem?_set_self hlt]; simp⟩, by simp, fun k _ hk => ?_, fun k hk => .inl hk⟩
    have : f ≠ k := fun e => hk (by simp [famOf, e])
    rw [List.getElem?_set_ne this]
def Dis (v w : AV) : Prop := ∀ f, famOf v = some f → famOf w ≠ some f
theorem Dis.symm {v w : AV} (h : Dis v w) : Dis w v := fun f h1 h2 => h f h2 h1
theorem At.keepG {M M' : Mem} {b : Nat} {pv v v' : AV} {s : St} (h : At M b pv s) (fr : FrG M M' v v') (h1 : famOf v ≠ some b) (h2 : Dis v pv) : At M' b pv s := by
  obtain ⟨hb, hp⟩ := h
  refine ⟨(fr.same b (getElem?_lt hb) h1).trans hb, ?_⟩
  rcases hp with hp | ⟨f, rfl, hf⟩
  · exact .inl hp
  · exact .inr ⟨f, rfl, (fr.same f (getElem?_lt hf) fun e => h2 f e rfl).trans hf⟩
theorem Grow.keepG {M M' : Mem} {w v v' : AV} {rows : List (List AV)} (h : Grow M w rows) (fr : FrG M M' v v') (h2 : Dis v w) : Grow M' w rows := by
  rcases h with rfl | ⟨g, rfl, hg⟩
  · exact .inl rfl
  · exact .inr ⟨g, rfl, (fr.same g (getElem?_lt hg) fun e => h2 g e rfl).trans hg⟩

/-- a store, the roots and the pages that the law has seen -/
structure Atom (M : Mem) (b : Nat) (pv : AV) (s : St) (vr : AV) (rs : List Int) (vp : AV) (ps : List ByteArray) : Prop where
  at' : At M b pv s
  gr : Grow M vr (rs.map fun n => [I n])
  gp : Grow M vp (rowsS ps)
  rb : famOf vr ≠ some b
  pb : famOf vp ≠ some b
  rv : Dis vr pv
  pv' : Dis vp pv
  rp : Dis vr vp
  ok : s.ok
theorem Atom.store {M M' : Mem} {b : Nat} {pv qv vr vp : AV} {s t : St} {rs : List Int} {ps : List ByteArray} (h : Atom M b pv s vr rs vp ps) (ha : At M' b qv t) (ok : t.ok) (fr : Fr M M' b pv qv) : Atom M' b qv t vr rs vp ps := by
  refine ⟨ha, h.gr.keep fr h.rb h.rv, h.gp.keep fr h.pb h.pv', h.rb, h.pb, fun f h1 h2 => ?_, fun f h1 h2 => ?_, h.rp, ok⟩
  · rcases fr.fam f h2 with e | e
    · exact h.rv f h1 e
    · have := h.gr.fam_lt h1; omega
  · rcases fr.fam f h2 with e | e
    · exact h.pv' f h1 e
    · have := h.gp.fam_lt h1; omega
theorem Atom.root {M : Mem} {b : Nat} {pv vr vp : AV} {s : St} {rs : List Int} {ps : List ByteArray} (h : Atom M b pv s vr rs vp ps) (n : Int) :
    ∃ v' M', appendAV true 1 vr (.list 1 [[I n]] .full) M = some (v', M') ∧ Atom M' b pv s v' (rs ++ [n]) vp ps := by
  obtain ⟨v', M', e, g, fr⟩ := h.gr.append [I n]
  have hb := getElem?_lt h.at'.1
  refine ⟨v', M', e, h.at'.keepG fr h.rb h.rv, by simpa using g, h.gp.keepG fr h.rp, fun e => ?_, h.pb, fun f h1 h2 => ?_, h.pv', fun f h1 h2 => ?_, h.ok⟩
  · rcases fr.fam b e with e | e
    · exact h.rb e
    · omega
  · rcases fr.fam f h1 with e | e
    · exact h.rv f e h2
    · have := h.at'.2.fam_lt h2; omega
  · rcases fr.fam f h1 with e | e
    · exact h.rp f e h2
    · have := h.gp.fam_lt h2; omega
theorem Atom.page {M : Mem} {b : Nat} {pv vr vp : AV} {s : St} {rs : List Int} {ps : List ByteArray} (h : Atom M b pv s vr rs vp ps) (x : ByteArray) :
    ∃ v' M', appendAV true 1 vp (.list 1 [[S x]] .full) M = some (v', M') ∧ Atom M' b pv s vr rs v' (ps ++ [x]) := by
  obtain ⟨v', M', e, g, fr⟩ := h.gp.append [S x]
  have hb := getElem?_lt h.at'.1
  refine ⟨v', M', e, h.at'.keepG fr h.pb h.pv', h.gr.keepG fr h.rp.symm, by simpa [rowsS] using g, h.rb, fun e => ?_, h.rv, fun f h1 h2 => ?_, fun f h1 h2 => ?_, h.ok⟩
  · rcases fr.fam b e with e | e
    · exact h.pb e
    · omega
  · rcases fr.fam f h1 with e | e
    · exact h.pv' f e h2
    · have := h.at'.2.fam_lt h2; omega
  · rcases fr.fam f h2 with e | e
    · exact h.rp f h1 e
    · have := h.gr.fam_lt h1; omega
end Go.Abs
