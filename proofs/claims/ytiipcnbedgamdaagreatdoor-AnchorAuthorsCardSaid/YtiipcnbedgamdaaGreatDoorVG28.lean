/- An array that a call has made and handed over, read as data from then on: where what it holds is told in part. -/
import Derived.Test.YtiipcnbedgamdaaGreatDoorVG26
set_option maxRecDepth 100000
set_option linter.unusedVariables false
namespace Go.Abs
theorem ACalls.stillE {C : Ctx} {f : FuncId} {args : List AV} {M : Mem} {α : Type} {e sz : Nat} {enc : α → List AV} {P : List α → Prop} (he : ∀ x, (enc x).length = sz) (hb : ∀ n x, bddL n (enc x))
    (h : ACalls C f args M (fun v M' => ∃ l, OwnR e sz enc M' v l ∧ Grow M M' ∧ Later M.length v ∧ P l)) : ACalls C f args M (fun v M' => ∃ l, v = .list sz (l.map enc) .no ∧ M' = M ∧ P l) := by
  intro G w vs hi hr
  refine Calls.mono (h G w vs hi hr) ?_
  rintro ex w' ⟨r, M', G', x, rfl, ⟨l, ho, hg, hlat, hp⟩, h2, h3, h4, h5⟩
  obtain ⟨X, rfl⟩ : ∃ X, M' = M ++ X := by
    refine ⟨M'.drop M.length, ?_⟩
    have ht : M'.take M.length = M := by
      apply List.ext_getElem?
      intro i
      rw [List.getElem?_take]
      split
      · rename_i hi; exact hg.2 i hi (by simp)
      · rename_i hi; exact (List.getElem?_eq_none (by omega)).symm
    have := List.take_append_drop M.length M'
    rw [ht] at this
    exact this.symm
  obtain ⟨k1, k2⟩ := hi.cut h2 h3
  rcases ho with ⟨rfl, rfl⟩ | ⟨fo, g, hist, rfl, hm, hl⟩
  · refine ⟨_, M, _, x, rfl, ⟨[], rfl, rfl, hp⟩, k2, k1, ?_, h5⟩
    simp only [Rep] at h4 ⊢
    subst h4
    exact ⟨none, 0, rfl, by simp, by simp [maxLen], ⟨rfl, rfl⟩, trivial⟩
  have hfo : M.length ≤ fo := hlat fo rfl
  have hmem : (g, l.length) ∈ hist := lookup_mem hl
  obtain ⟨p1, p2, b, o, cap, bs, q1, q2, q3, q4, q5, q6, q7, q8, q9⟩ := (h3.obj fo _ hm).2.1 g l.length hmem
  have hown : owns G' fo (.vec e sz (l.flatMap enc) g hist) b := ⟨g, l.length, _, hmem, congrArg Prod.fst q1, rfl⟩
  rw [List.take_of_length_le (by rw [flat_len he]; exact Nat.le_refl _)] at q6
  obtain ⟨ws, hws⟩ : ∃ ws, ws = (bs.toList.drop o).take (l.length * sz) := ⟨_, rfl⟩
  rw [← hws] at q6 q7
  have hcell : ∀ i v, ws[i]? = some v → w'.cell? ⟨b, o + i, none⟩ = some v := fun i v hv => by
    rw [hws, List.getElem?_take] at hv
    split at hv
    · rw [List.getElem?_drop] at hv
      simp only [World.cell?, q4]
      simpa using hv
    · simp at hv
  have hno : ∀ k y, M[k]? = some y → ∀ b', owns (G'.cut M.length) k y b' → b' ≠ b := fun k y hy b' hb' e => by
    subst e
    have := h3.apart k fo y _ b' (by rw [List.getElem?_append_left (getElem?_lt hy)]; exact hy) hm (by cases y <;> exact hb') hown
    have := getElem?_lt hy
    omega
  obtain ⟨G2, hG2⟩ : ∃ G2 : Ghost, G2 = { G'.cut M.length with st := fun b' i => if b' = b ∧ o ≤ i then ws[i - o]? else G'.st b' i } := ⟨_, rfl⟩
  have hst2 : ∀ b' i, b' ≠ b → G2.st b' i = G'.st b' i := fun b' i hne => by rw [hG2]; simp [hne]
  have hstb : ∀ i v, ws[i]? = some v → G2.st b (o + i) = some v := fun i v hv => by rw [hG2]; simpa using hv
  have hle : (G'.cut M.length).le G2 := by
    rw [hG2]
    refine ⟨Nat.le_refl _, fun _ _ => rfl, fun b' i v hv => ?_, fun _ _ h => h, fun _ _ => Nat.le_refl _, fun _ _ _ _ => rfl⟩
    have hv : G'.st b' i = some v := hv
    have hne : b' ≠ b := fun e => by rw [e, q8] at hv; simp at hv
    simp only [hne, false_and, if_false]
    exact hv
  have hblk : G2.blk = (G'.cut M.length).blk := by rw [hG2]
  have hkeep : G2.keep = (G'.cut M.length).keep := by rw [hG2]
  have hhdr : G2.hdr = (G'.cut M.length).hdr := by rw [hG2]
  have htop : G2.top = (G'.cut M.length).top := by rw [hG2]
  have hinv : Inv C G2 M w' := by
    refine ⟨by rw [hG2]; rfl, fun b' i v hv => ?_, fun b' ob hv => ?_, fun k ob hk => ?_, fun j k x y b' hx hy ox oy => ?_, fun gg => Rep.mono hle _ _ (k1.gl gg), fun gg cs hc => ?_⟩
    · rw [hG2] at hv
      simp only at hv
      split at hv
      · rename_i hc
        obtain ⟨rfl, hoi⟩ := hc
        have := hcell _ v hv
        rwa [show o + (i - o) = i by omega] at this
      · exact h3.st b' i v hv
    · rw [hkeep] at hv; exact h3.keep b' ob hv
    · have h0 := k1.obj k ob hk
      have hn := hno k ob hk
      have hs : ∀ b' i, b' ≠ b → G2.st b' i = (G'.cut M.length).st b' i := fun b' i h => hst2 b' i h
      cases ob with
      | gone => trivial
      | cells t cs =>
        obtain ⟨vs', a1, a2, a3, a4, a5⟩ := h0
        refine ⟨vs', by rw [hblk]; exact a1, RepL.mono hle _ _ a2, a3, fun i => ?_, by rw [hblk, hkeep]; exact a5⟩
        rw [hblk, hs _ _ (hn _ rfl)]; exact a4 i
      | fam m sz' =>
        obtain ⟨a1, a2, a3, a4⟩ := h0
        refine ⟨by rw [htop]; exact a1, by rw [hhdr]; exact a2, by rw [hhdr]; exact a3, fun hlt => ?_⟩
        rw [hhdr] at hlt ⊢
        obtain ⟨gb, vs', t, c1, c2, c3, c4, c5⟩ := a4 hlt
        refine ⟨gb, vs', t, c1, c2, c3, fun i hi => ?_, by rw [hkeep]; exact c5⟩
        rw [hs _ _ (hn gb ⟨hlt, _, c1, rfl⟩)]; exact c4 i hi
      | vec e' sz' cs g' hist' =>
        obtain ⟨a1, a2, a3⟩ := h0
        refine ⟨by rw [htop]; exact a1, fun hh n hmm => ?_, by rw [hhdr]; exact a3⟩
        obtain ⟨c1, c2, b', o', cap', vs', d1, d2, d3, d4, d5, d6, d7, d8, d9⟩ := a2 hh n hmm
        refine ⟨by rw [htop]; exact c1, c2, b', o', cap', vs', by rw [hhdr]; exact d1, d2, d3, d4, d5, RepL.mono hle _ _ d6, d7, fun i => ?_, by rw [hkeep]; exact d9⟩
        rw [hs _ _ (hn b' ⟨hh, n, _, hmm, congrArg Prod.fst d1, rfl⟩)]; exact d8 i
      | map es clock =>
        obtain ⟨xs, a1, a2, a3⟩ := h0
        exact ⟨xs, by rw [hblk]; exact a1, a2.mono hle, by rw [hblk, hkeep]; exact a3⟩
      | siter s pos =>
        obtain ⟨a1, a2⟩ := h0
        exact ⟨by rw [hblk]; exact a1, by rw [hblk, hkeep]; exact a2⟩
      | miter m since seen stepped =>
        obtain ⟨a1, a2, a3⟩ := h0
        exact ⟨by rw [hblk]; exact a1, by rw [hG2]; exact a2, by rw [hblk, hkeep]; exact a3⟩
    · refine k1.apart j k x y b' hx hy ?_ ?_
      · cases x <;> simp only [owns] at ox ⊢ <;> first | exact ox | (rw [hblk] at ox; exact ox) | (rw [hhdr] at ox; exact ox)
      · cases y <;> simp only [owns] at oy ⊢ <;> first | exact oy | (rw [hblk] at oy; exact oy) | (rw [hhdr] at oy; exact oy)
    · rw [hkeep]; exact k1.tab gg cs hc
  refine ⟨_, M, G2, x, rfl, ⟨l, rfl, rfl, hp⟩, k2.trans hle, hinv, ?_, h5⟩
  simp only [Rep] at h4
  obtain ⟨_, _, a, a', cap', r1, r2, r3, rfl, r5, r6, r7⟩ := h4
  rw [q1] at r1
  simp only [Prod.mk.injEq, Option.some.injEq] at r1
  obtain ⟨rfl, rfl⟩ := r1
  simp only [Rep, List.length_map]
  refine ⟨some a', cap, by simp, q2, q3, ⟨fun _ => r3, ?_⟩, trivial⟩
  by_cases hc : 0 < cap
  · have := r7 hc
    rw [this]
    simp only [Nat.zero_mul, Nat.add_zero]
    have hrl : RepL (G'.cut M.length) (l.flatMap enc) ws := RepL.cut _ _ q6 (bddL_flat hb l)
    exact repRows_of he [] (fun _ _ _ _ _ => trivial) l o ws (RepL.mono hle _ _ hrl) q7 hstb
  · have : l = [] := List.eq_nil_of_length_eq_zero (by omega)
    subst this
    simp [RepRows]
end Go.Abs
