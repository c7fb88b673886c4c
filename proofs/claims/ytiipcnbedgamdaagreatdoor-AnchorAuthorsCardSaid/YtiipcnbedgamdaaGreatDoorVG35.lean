/- The texts AyR, AyT: what each proves stands at its head. -/
import Derived.Test.YtiipcnbedgamdaaGreatDoorVG31
import Derived.Test.YtiipcnbedgamdaaGreatDoorVG34
import Derived.LaidMore
import Derived.LaidHandle
import Derived.MakeChecks
section
/- The laid variables read as the walk's globals. -/
set_option maxRecDepth 1000000
namespace Go.Abs
open Go Go.Proofs

theorem repMem_of {W : World} {g : Nat} : ∀ {avs : List AV} {vs : List Value} {i : Nat}, RepL (fixedG W) avs vs → (∀ v ∈ vs, v.oneCell' = true) → (∀ j v, vs[j]? = some v → W.cell? ⟨g, i + j, none⟩ = some v) → RepMem (fixedG W) avs g i
  | [], _, _, _, _, _ => trivial
  | c :: cs, vs, i, hr, h1, hc => by
    simp only [RepL] at hr
    obtain ⟨y, ys, rfl, hy, hys⟩ := hr
    refine ⟨⟨y, hc 0 y rfl, h1 y (by simp), hy⟩, repMem_of hys (fun v hv => h1 v (by simp [hv])) fun j v hv => ?_⟩
    have := hc (j + 1) v (by simpa using hv)
    rw [show i + 1 + j = i + (j + 1) by omega]; exact this
theorem laidVars_mem {P : Program} {W : World} : ∀ {l : List (String × DataW Unit)} {ps : List MemPlace}, DataW.LaidVars P W l ps → ∀ {n : String} {d : DataW Unit}, (n, d) ∈ l →
    ∃ g t cs fuel p, P.globalNamed n = some g ∧ (P.globals[g]?).map (·.type) = some t ∧ W.var? P n = some cs ∧ DataW.trod (fun _ => ()) P W 0 (fun _ => true) false fuel t cs.toList = some (d, p)
  | [], _, _, _, _, hm => by simp at hm
  | (n', d') :: r, ps, h, n, d, hm => by
    obtain ⟨g, t, cs, fuel, p, q, h1, h2, h3, h4, h5, _⟩ := h
    rcases List.mem_cons.1 hm with e | hm
    · cases e; exact ⟨g, t, cs, fuel, p, h1, h2, h3, h4⟩
    · exact laidVars_mem h5 hm
theorem laidH_mem {P : Program} {W : World} {l : List (String × DataW Unit)} (h : laidMetH P l W) {n : String} {d : DataW Unit} (hm : (n, d) ∈ l) (hd : d.handleName?.isNone = true) :
    ∃ g t cs fuel p, P.globalNamed n = some g ∧ (P.globals[g]?).map (·.type) = some t ∧ W.var? P n = some cs ∧ DataW.trod (fun _ => ()) P W 0 (fun _ => true) false fuel t cs.toList = some (d, p) := by
  have key : laidMet P l W ∨ laidMet P (l.filter fun x => x.2.handleName?.isNone) W := by
    unfold laidMetH at h
    split at h
    · exact .inl h
    · exact .inr h.1
  rcases key with ⟨ps, hl, _⟩ | ⟨ps, hl, _⟩
  · exact laidVars_mem hl hm
  · exact laidVars_mem hl (List.mem_filter.2 ⟨hm, hd⟩)
theorem rep_laid {P : Program} {W : World} {l : List (String × DataW Unit)} (h : laidMetH P l W) {n : String} {d : DataW Unit} (hm : (n, d) ∈ l) (hd : d.handleName?.isNone = true) {g : Nat} {t : TypeId} (hg : P.globalNamed n = some g) (ht : (P.globals[g]?).map (·.type) = some t)
    {sh : Sh} {a : List AV} (hf : Sh.fits P K1.E0 sh t = true) (ha : avsOf K1.E0 400 sh d = some a) : Rep (fixedG W) (.cptr a) (.pointer (some ⟨g, 0, none⟩)) := by
  obtain ⟨g', t', cs, fuel, p, e1, e2, e3, e4⟩ := laidH_mem h hm hd
  obtain rfl := Option.some.inj (hg.symm.trans e1)
  obtain rfl := Option.some.inj (ht.symm.trans e2)
  obtain ⟨⟨avs, ⟨n0, hn⟩, hr, _⟩, h1⟩ := reads_of_trod (E := K1.E0) (fun i hi => absurd hi (Nat.not_lt_zero i)) fuel sh t cs.toList d p hf e4
  have k1 := hn (400 + n0) (by omega)
  have k2 := avsOf_le ha n0
  obtain rfl := Option.some.inj (k2.symm.trans k1)
  simp only [Rep]
  refine ⟨g, 0, rfl, repMem_of hr h1 fun j v hv => ?_⟩
  have := World.var?_cell e1 e3 (0 + j)
  rw [this]
  simpa using hv
end Go.Abs
end
section
/- The laid variables of AnchorAuthors: the walk's globals hold. -/
set_option maxRecDepth 1000000
namespace Go.Abs
open Go Go.Proofs Go.Proofs.YtiipcnbedgamdaaGreatDoor

theorem cl_of {sh : Sh} {d : DataW Unit} (h : (avsOf K1.E0 400 sh d).isSome = true) : ∃ a, avsOf K1.E0 400 sh d = some a ∧ K1.cl sh d = .cptr a := by
  obtain ⟨a, ha⟩ := Option.isSome_iff_exists.1 h
  exact ⟨a, ha, by simp [K1.cl, ha]⟩
abbrev laidL : List (String × DataW Unit) := Rows.anchorAuthorsRow.laid
section
variable {W : World} (h : laidMetH Tryz.prog laidL W)
include h
theorem rep_g1 : Rep (fixedG W) (K1.glT 1) (.pointer (some ⟨1, 0, none⟩)) := by
  obtain ⟨a, ha, hc⟩ := cl_of (sh := .parts (List.replicate 8 (.slice 1 (.int .i64)))) (d := Rows.laid_pandect_unit_below) (by kernel_rfl)
  have e : K1.glT 1 = .cptr a := hc
  rw [e]
  exact rep_laid (t := ((Tryz.prog.globals[1]?).map (·.type)).getD 0) h (n := "pandect/unit.below") (d := Rows.laid_pandect_unit_below) (by simp [laidL, Rows.anchorAuthorsRow]) (by kernel_rfl) (by kernel_rfl) (by kernel_rfl) (by kernel_rfl) ha
theorem rep_g3 : Rep (fixedG W) (K1.glT 3) (.pointer (some ⟨3, 0, none⟩)) := by
  obtain ⟨a, ha, hc⟩ := cl_of (sh := K1.u8s 256) (d := Rows.laid_unicode_utf8_first) (by kernel_rfl)
  have e : K1.glT 3 = .cptr a := hc
  rw [e]
  exact rep_laid (t := ((Tryz.prog.globals[3]?).map (·.type)).getD 0) h (n := "unicode/utf8.first") (d := Rows.laid_unicode_utf8_first) (by simp [laidL, Rows.anchorAuthorsRow]) (by kernel_rfl) (by kernel_rfl) (by kernel_rfl) (by kernel_rfl) ha
theorem rep_g4 : Rep (fixedG W) (K1.glT 4) (.pointer (some ⟨4, 0, none⟩)) := by
  obtain ⟨a, ha, hc⟩ := cl_of (sh := .parts (List.replicate 16 (K1.u8s 2))) (d := Rows.laid_unicode_utf8_acceptRanges) (by kernel_rfl)
  have e : K1.glT 4 = .cptr a := hc
  rw [e]
  exact rep_laid (t := ((Tryz.prog.globals[4]?).map (·.type)).getD 0) h (n := "unicode/utf8.acceptRanges") (d := Rows.laid_unicode_utf8_acceptRanges) (by simp [laidL, Rows.anchorAuthorsRow]) (by kernel_rfl) (by kernel_rfl) (by kernel_rfl) (by kernel_rfl) ha
theorem rep_g5 : Rep (fixedG W) (K1.glT 5) (.pointer (some ⟨5, 0, none⟩)) := by
  obtain ⟨a, ha, hc⟩ := cl_of (sh := .parts (List.replicate 8 .str)) (d := Rows.laid_pandect_unit_names) (by kernel_rfl)
  have e : K1.glT 5 = .cptr a := hc
  rw [e]
  exact rep_laid (t := ((Tryz.prog.globals[5]?).map (·.type)).getD 0) h (n := "pandect/unit.names") (d := Rows.laid_pandect_unit_names) (by simp [laidL, Rows.anchorAuthorsRow]) (by kernel_rfl) (by kernel_rfl) (by kernel_rfl) (by kernel_rfl) ha
end
end Go.Abs
end
