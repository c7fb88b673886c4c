/- An array at its next time, wherever its cells lie now; copies of rows. -/
import Derived.Test.YtiipcnbedgamdaaGreatDoorVG33
import Derived.Laws.IdiomCopy
set_option linter.unusedVariables false
namespace Go.Abs
section
variable {C : Ctx} {G : Ghost} {M : Mem} {w w1 : World}
theorem Inv.retime (hi : Inv C G M w) {f e sz g : Nat} {cs : List AV} {hist : List (Nat × Nat)} (hM : M[f]? = some (.vec e sz cs g hist)) {gb o1 c1 n1 : Nat} {all : Array Value} {cs1 : List AV} {vs1 : List Value}
    (hown : owns G f (.vec e sz cs g hist) gb ∨ w.heap.size ≤ gb) (hw : ∀ b', b' < w.heap.size → b' ≠ gb → w1.heap[b']? = w.heap[b']?) (hheap : w1.heap[gb]? = some (.cells all e (0, 0)))
    (hc1 : n1 ≤ c1) (hc1m : c1 ≤ maxLen) (hsz : o1 + c1 * sz ≤ all.size) (hcells : (all.toList.drop o1).take (n1 * sz) = vs1) (hr : RepL G cs1 vs1) (hlen : cs1.length = n1 * sz) (hone : ∀ v ∈ vs1, v.oneCell' = true)
    (hst : ∀ i, G.st gb i = none) (hkeep : G.keep gb = none) :
    ∃ G', G.le G' ∧ Inv C G' (M.set f (.vec e sz cs1 (g + 1) [(g + 1, n1)])) w1 ∧ Rep G' (.vref f (g + 1) sz 0 n1) (.slice (some ⟨gb, o1, none⟩) n1 c1) := by
  have hf := getElem?_lt hM
  rw [← hi.n] at hf
  obtain ⟨p0, p2, p3⟩ := hi.obj f _ hM
  have htop : G.top f < g + 1 := by omega
  have hle := Ghost.le_time (h := (some (⟨gb, o1, none⟩ : Addr), c1)) htop
  have hi' := hi.step (G' := G.grow f (g + 1) (some ⟨gb, o1, none⟩, c1) 0 0 []) (w' := w1) (o' := .vec e sz cs1 (g + 1) [(g + 1, n1)]) f gb hM
    hown hle rfl (fun _ => rfl) (fun j hj => by simp [Ghost.grow, hj]) (fun b i v hv => by rw [Ghost.time_st] at hv; exact .inl hv) (fun _ => rfl) hw
    (fun i v hv => by rw [hst i] at hv; simp at hv) (fun o ho => by rw [hkeep] at ho; simp at ho)
    ⟨by simp [Ghost.grow], fun h1 n2 hm => ?_, fun h1 n1' h2 n2 a1 a2 c1' c2' m1 m2 e1 e2 e3 => ?_⟩
    (fun b1 ⟨h1, n2, a1, hm, e1, e2⟩ => ?_)
  · refine ⟨_, hle, hi', ?_⟩
    simp only [Rep]
    exact ⟨hf, by simp [Ghost.grow], ⟨gb, o1, none⟩, ⟨gb, o1, none⟩, c1, Ghost.time_hdr _ _ _ _, rfl, rfl, by simp, by omega, hc1m, fun _ => by simp⟩
  · simp only [List.mem_cons, Prod.mk.injEq, List.not_mem_nil, or_false] at hm
    obtain ⟨rfl, rfl⟩ := hm
    refine ⟨by simp [Ghost.grow], Nat.le_of_eq hlen.symm, gb, o1, c1, all, Ghost.time_hdr _ _ _ _, hc1, hc1m, hheap, hsz, ?_, ?_, fun i => by rw [Ghost.time_st]; exact hst i, hkeep⟩
    · rw [hcells, List.take_of_length_le (Nat.le_of_eq hlen)]
      exact RepL.mono hle _ _ hr
    · rw [hcells]; exact hone
  · simp only [List.mem_cons, Prod.mk.injEq, List.not_mem_nil, or_false] at m1 m2
    obtain ⟨rfl, rfl⟩ := m1
    obtain ⟨rfl, rfl⟩ := m2
    rw [e1] at e2
    simp only [Prod.mk.injEq, Option.some.injEq] at e2
    exact e2.1
  · simp only [List.mem_cons, Prod.mk.injEq, List.not_mem_nil, or_false] at hm
    obtain ⟨rfl, rfl⟩ := hm
    rw [Ghost.time_hdr] at e1
    simp only [Option.some.injEq] at e1
    subst e1
    exact .inl e2.symm
end
variable {P : Program}
theorem run_copy_rows (w : World) (dT sT ty elem : TypeId) (sz b o dLen dCap : Nat) (a : Addr) (m sCap : Nat) (cs : List Value) (hu : P.underlying dT = some (.slice elem)) (hs : szOf P elem = some sz) (hmd : m ≤ dLen) (hn : cs.length = m * sz)
    (hsrc : ∀ j v, cs[j]? = some v → w.cell? (a.add j) = some v) (hc : ∀ j, j < cs.length → (w.cell? ⟨b, o + j, none⟩).isSome = true) (hf : ∀ j, j < cs.length → w.frozen? ⟨b, o + j, none⟩ = false) (h1 : ∀ v ∈ cs, v.oneCell' = true) :
    (Builtin.copy_ #[dT, sT] ty #[.slice (some ⟨b, o, none⟩) dLen dCap, .slice (some a) m sCap]).run P w = .ok (goInt m) (w.setCells b o cs) := by
  have hl := run_loadCells_list (P := P) w a cs hsrc
  have hst := run_storeCells_cells (P := P) b o cs 0 w (by simpa using hc) (by simpa using hf) h1
  have hmin : Nat.min m dLen = m := Nat.min_eq_left hmd
  simp [Builtin.copy_, run_underlying hu, Builtin.lenOf, Builtin.firstCells, run_szOf hs, hmin, ← hn, hl, hst]
end Go.Abs
