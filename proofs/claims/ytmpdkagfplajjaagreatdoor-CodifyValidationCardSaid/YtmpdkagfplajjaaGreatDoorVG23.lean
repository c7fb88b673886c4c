/- The texts CvC, CvD, CyF, CyG, CyH, CyI, CvE, CvF, CvG, CvH: what each proves stands at its head. -/
import Derived.Test.YtmpdkagfplajjaaGreatDoorVG21
import Derived.Test.YtmpdkagfplajjaaGreatDoorVG22
section
/- Contracts: words and rows of words. -/
set_option maxRecDepth 100000
set_option linter.unusedSimpArgs false
set_option linter.unusedVariables false
namespace Go.Abs
open Go.Proofs TryTypes

def wordOk (s : ByteArray) : Bool := decide (1 ≤ s.size) && decide (s.size ≤ 24) && decide (scanB (outOf 33 126) s s.size 0 < 0)
def rowOk (ws : List WordD) : Bool := decide (ws.length ≤ 256) && ws.all fun w => wordOk w.text
def rowsB (s : ByteArray) : List (List AV) := s.data.toList.map fun b => [.val (.int .u8 b.toNat)]
@[simp] theorem rowsB_len (s : ByteArray) : (rowsB s).length = s.size := by simp only [rowsB, List.length_map, Array.length_toList]; rfl
@[simp] theorem rowsB_get {s : ByteArray} {i : Nat} (h : i < (rowsB s).length) : (rowsB s)[i] = [.val (.int .u8 (byteAt s i))] := by
  have h' : i < s.size := by simpa using h
  rw [byteAt_get s i h']
  simp only [rowsB, List.getElem_map, Array.getElem_toList]
  rfl
theorem scanB_next (p : Int → Bool) (s : ByteArray) {i : Nat} (h : i < s.size) : scanB p s (s.size - i) i = if p (byteAt s i) then (i : Int) else scanB p s (s.size - (i + 1)) (i + 1) := by
  have : s.size - i = (s.size - (i + 1)) + 1 := by omega
  rw [this]; rfl
/-- the first place from i on where p holds, or -1 -/
def idxL {α : Type} (p : α → Bool) : List α → Nat → Int
  | [], _ => -1
  | x :: l, i => if p x then (i : Int) else idxL p l (i + 1)
theorem idxL_any {α : Type} (p : α → Bool) : ∀ (l : List α) (i : Nat), decide (0 ≤ idxL p l i) = l.any p
  | [], i => by simp [idxL]
  | x :: l, i => by
    rw [idxL, List.any_cons]
    cases h : p x
    · rw [if_neg (by simp), Bool.false_or]; exact idxL_any p l (i + 1)
    · rw [if_pos rfl, Bool.true_or]; exact decide_eq_true (Int.natCast_nonneg i)
abbrev encS (s : ByteArray) : List AV := [S s]
/-- a row of one cell, read -/
theorem OwnR.at1 {α : Type} {e : Nat} {enc : α → List AV} {M : Mem} {v : AV} {l : List α} {P : Program} {t : TypeId} (h : OwnR e 1 enc M v l) {f : α → AV} (hf : ∀ x, enc x = [f x]) (ha : aggOf P t = some false) (hs : szOf P t = some 1) {i : Nat} (hi : i < l.length) :
    ∃ p, idxAV (some (some 1)) v (I i) = some p ∧ loadAV P t M p = some (f l[i]) := by
  have he : ∀ x, (enc x).length = 1 := fun x => by rw [hf]; rfl
  rcases h with ⟨rfl, rfl⟩ | ⟨f', g, hist, rfl, hm, hl⟩
  · simp at hi
  · refine ⟨.vptr f' g (i * 1), by simp [hi], ?_⟩
    simp only [loadAV, memOf, hm, hl, Option.bind_some, loadCells_row, ha, hs]
    rw [List.take_of_length_le (by rw [flat_len he]; exact Nat.le_refl _), flat_drop he, List.drop_eq_getElem_cons hi, List.flatMap_cons, hf]
    rfl
section
variable (gl : Nat → AV) (M : Mem)
theorem odd379 (c : Int) : ACalls (WC gl) 379 [.val (.int .u8 c)] M (fun v M' => v = B (outOf 33 126 c) ∧ M' = M) := by
  refine w_body hB Tryz.func379 rfl rfl rfl rfl rfl rfl ?_
  by_cases h1 : c < 33
  · simp (dsimp := false) (implicitDefEqProofs := false) [outOf, h1]
  · simp (dsimp := false) (implicitDefEqProofs := false) [outOf, h1]
theorem idxB_ok (s : ByteArray) (hs : s.size ≤ maxLen) : ACalls (WC gl) 397 [.list 1 (rowsB s) .no, .func (.func 379) [] []] M (fun v M' => v = I (scanB (outOf 33 126) s s.size 0) ∧ M' = M) := by
  refine w_body hB Tryz.func397 rfl rfl rfl rfl rfl rfl ?_
  have hs' : s.size ≤ 9223372036854775807 := hs
  simp (dsimp := false) (implicitDefEqProofs := false)
  refine w_looped hB (fun T M1 => ∃ i : Nat, i ≤ s.size ∧ M1 = M ∧ T 0 = .list 1 (rowsB s) .no ∧ T 1 = .func (.func 379) [] [] ∧ T 7 = I s.size ∧ T 8 = I i ∧ scanB (outOf 33 126) s s.size 0 = scanB (outOf 33 126) s (s.size - i) i)
    (fun T M1 => match T 8 with | .val (.int _ i) => s.size - i.toNat | _ => 0) (by kernel_rfl) ?_ ?_
  · exact ⟨0, by omega, rfl, by simp, by simp, by simp, by simp, by simp⟩
  · rintro T M1 ⟨i, i1, rfl, t0, t1, t7, t8, ho⟩
    by_cases hi : i < s.size
    · have hi' : (i : Int) < s.size := by omega
      have w1 : IntKind.i64.wrap ((i : Int) + 1) = (i + 1 : Nat) := by rw [wrap_in (by omega) (by omega)]; omega
      rw [scanB_next _ _ hi] at ho
      simp (dsimp := false) (implicitDefEqProofs := false) [t0, t1, t7, t8, hi, hi']
      refine w_calls (inv_of Tryz.func379 rfl rfl (odd379 gl _ _)) ?_
      rintro _ _ ⟨rfl, rfl⟩
      cases hp : outOf 33 126 (byteAt s i)
      · rw [hp, if_neg (by simp)] at ho
        simp (dsimp := false) (implicitDefEqProofs := false) [t0, t1, t7, t8, w1]
        exact ⟨⟨i + 1, by clear w1; omega, rfl, ho⟩, by clear w1; omega⟩
      · rw [hp, if_pos rfl] at ho
        simp (dsimp := false) (implicitDefEqProofs := false) [t0, t1, t7, t8, ho]
    · have hi' : ¬ (i : Int) < s.size := by omega
      rw [show s.size - i = 0 by omega] at ho
      simp (dsimp := false) (implicitDefEqProofs := false) [t0, t1, t7, t8, hi', ho, scanB]
theorem contB_ok (s : ByteArray) (hs : s.size ≤ maxLen) : ACalls (WC gl) 380 [.list 1 (rowsB s) .no, .func (.func 379) [] []] M (fun v M' => v = B (decide (0 ≤ scanB (outOf 33 126) s s.size 0)) ∧ M' = M) := by
  refine w_body hB Tryz.func380 rfl rfl rfl rfl rfl rfl ?_
  simp (dsimp := false) (implicitDefEqProofs := false)
  refine w_calls (inv_of Tryz.func397 rfl rfl (idxB_ok gl M s hs)) ?_
  rintro _ _ ⟨rfl, rfl⟩
  simp (dsimp := false) (implicitDefEqProofs := false)
theorem conv_s2b {h : Hint} {d : Option Tmp} {x : Operand} {t : TypeId} {p : String} {af : Array Edge} {g : Option (Nat × Bool)} {ρ : Operand → AV} {M : Mem} {s : ByteArray} (hx : ρ x = S s) (hs : s.size < 2 ^ 62) :
    evalOp (WC gl) h ⟨d, .convert 9 114 x, t, p, af, g⟩ ρ M = some (.list 1 (rowsB s) .no, M) := by
  have hs' : s.size < 4611686018427387904 := by simpa using hs
  simp [evalOp, evalPure, evalMem, evalMore, evalPure1, evalX, hx, convAV, bytesAV, rowsB, hs']
theorem word_ok (s : ByteArray) (hs : s.size ≤ maxLen) : ACalls (WC gl) 339 [S s] M (fun v M' => v = B (wordOk s) ∧ M' = M) := by
  refine w_body hB Tryz.func339 rfl rfl rfl rfl rfl rfl ?_
  by_cases h0 : s.size = 0
  · have he : s = ⟨#[]⟩ := ba_empty.2 h0
    have hw : wordOk ⟨#[]⟩ = false := by decide
    simp (dsimp := false) (implicitDefEqProofs := false) [he, hw]
  · have he : ¬ s = ⟨#[]⟩ := fun h => h0 (ba_empty.1 h)
    have h1 : decide (1 ≤ s.size) = true := decide_eq_true (by omega)
    by_cases h2 : s.size ≤ 24
    · have h2' : (s.size : Int) ≤ 24 := by omega
      have hw : wordOk s = decide (scanB (outOf 33 126) s s.size 0 < 0) := by simp [wordOk, h1, h2]
      simp (dsimp := false) (implicitDefEqProofs := false) [he, h2', hw, convAV]
      rw [conv_s2b gl (s := s) (by rfl) (by omega)]
      simp (dsimp := false) (implicitDefEqProofs := false)
      refine w_calls (inv_of Tryz.func380 rfl rfl (contB_ok gl M s hs)) ?_
      rintro _ _ ⟨rfl, rfl⟩
      by_cases h3 : 0 ≤ scanB (outOf 33 126) s s.size 0
      · have h3' : ¬ scanB (outOf 33 126) s s.size 0 < 0 := by omega
        rw [decide_eq_false h3'] at hw
        simp (dsimp := false) (implicitDefEqProofs := false) [h3, h3', hw]
      · have h3' : scanB (outOf 33 126) s s.size 0 < 0 := by omega
        rw [decide_eq_true h3'] at hw
        simp (dsimp := false) (implicitDefEqProofs := false) [h3, h3', hw]
    · have h2' : ¬ (s.size : Int) ≤ 24 := by omega
      have hw : wordOk s = false := by simp [wordOk, h2]
      simp (dsimp := false) (implicitDefEqProofs := false) [he, h2', hw]
theorem bad338 (s : ByteArray) (hs : s.size ≤ maxLen) : ACalls (WC gl) 338 [S s] M (fun v M' => v = B (!wordOk s) ∧ M' = M) := by
  refine w_body hB Tryz.func338 rfl rfl rfl rfl rfl rfl ?_
  simp (dsimp := false) (implicitDefEqProofs := false)
  refine w_calls (inv_of Tryz.func339 rfl rfl (word_ok gl M s hs)) ?_
  rintro _ _ ⟨rfl, rfl⟩
  simp (dsimp := false) (implicitDefEqProofs := false)
theorem idxS_ok (l : List ByteArray) (hl : l.length ≤ 1000) (hs : ∀ s ∈ l, s.size ≤ maxLen) (v : AV) (hv : OwnR 9 1 encS M v l) : ACalls (WC gl) 378 [v, .func (.func 338) [] []] M (fun r M' => r = I (idxL (fun s => !wordOk s) l 0) ∧ M' = M) := by
  refine w_body hB Tryz.func378 rfl rfl rfl rfl rfl rfl ?_
  have hlen : lenAV Tryz.prog 37 v = some l.length := hv.len (e' := 9) (by simp)
  simp (dsimp := false) (implicitDefEqProofs := false) [hlen]
  refine w_looped hB (fun T M1 => ∃ i : Nat, i ≤ l.length ∧ M1 = M ∧ T 0 = v ∧ T 1 = .func (.func 338) [] [] ∧ T 7 = I l.length ∧ T 8 = I i ∧ idxL (fun s => !wordOk s) l 0 = idxL (fun s => !wordOk s) (l.drop i) i)
    (fun T M1 => match T 8 with | .val (.int _ i) => l.length - i.toNat | _ => 0) (by kernel_rfl) ?_ ?_
  · exact ⟨0, by omega, rfl, by simp, by simp, by simp, by simp, by simp⟩
  · rintro T M1 ⟨i, i1, rfl, t0, t1, t7, t8, ho⟩
    by_cases hi : i < l.length
    · have hi' : (i : Int) < l.length := by omega
      have w1 := wadd1 (i := i) (by omega)
      obtain ⟨p, p1, p2⟩ := hv.at1 (P := Tryz.prog) (t := 9) (f := S) (fun _ => rfl) (by simp) (by simp) hi
      have hd : l.drop i = l[i] :: l.drop (i + 1) := List.drop_eq_getElem_cons hi
      rw [hd, idxL] at ho
      simp (dsimp := false) (implicitDefEqProofs := false) [t0, t1, t7, t8, hi, hi', p1, p2]
      refine w_calls (inv_of Tryz.func338 rfl rfl (bad338 gl _ l[i] (hs _ (List.getElem_mem hi)))) ?_
      rintro _ _ ⟨rfl, rfl⟩
      cases hp : wordOk l[i]
      · rw [hp, if_pos (by rfl)] at ho
        simp (dsimp := false) (implicitDefEqProofs := false) [t0, t1, t7, t8, ho]
      · rw [hp, if_neg (by simp)] at ho
        simp (dsimp := false) (implicitDefEqProofs := false) [t0, t1, t7, t8, w1]
        exact ⟨⟨i + 1, by clear w1; omega, rfl, ho⟩, by clear w1; omega⟩
    · have hi' : ¬ (i : Int) < l.length := by omega
      rw [show l.drop i = [] from List.drop_eq_nil_of_le (by omega)] at ho
      simp (dsimp := false) (implicitDefEqProofs := false) [t0, t1, t7, t8, hi', ho, idxL]
theorem contS_ok (l : List ByteArray) (hl : l.length ≤ 1000) (hs : ∀ s ∈ l, s.size ≤ maxLen) (v : AV) (hv : OwnR 9 1 encS M v l) : ACalls (WC gl) 337 [v, .func (.func 338) [] []] M (fun r M' => r = B (l.any fun s => !wordOk s) ∧ M' = M) := by
  refine w_body hB Tryz.func337 rfl rfl rfl rfl rfl rfl ?_
  simp (dsimp := false) (implicitDefEqProofs := false)
  refine w_calls (inv_of Tryz.func378 rfl rfl (idxS_ok gl M l hl hs v hv)) ?_
  rintro _ _ ⟨rfl, rfl⟩
  rw [← idxL_any _ l 0]
  simp (dsimp := false) (implicitDefEqProofs := false)
theorem wordsValid_ok (l : List ByteArray) (hl : l.length ≤ 1000) (hs : ∀ s ∈ l, s.size ≤ maxLen) (v : AV) (hv : OwnR 9 1 encS M v l) : ACalls (WC gl) 262 [v] M (fun r M' => r = B (decide (l.length ≤ 256) && l.all wordOk) ∧ M' = M) := by
  refine w_body hB Tryz.func262 rfl rfl rfl rfl rfl rfl ?_
  have hlen : lenAV Tryz.prog 37 v = some l.length := hv.len (e' := 9) (by simp)
  by_cases h1 : l.length ≤ 256
  · have h1' : (l.length : Int) ≤ 256 := by omega
    simp (dsimp := false) (implicitDefEqProofs := false) [hlen, h1', h1]
    refine w_calls (inv_of Tryz.func337 rfl rfl (contS_ok gl M l hl hs v hv)) ?_
    rintro _ _ ⟨rfl, rfl⟩
    have : (l.any fun s => !wordOk s) = !l.all wordOk := by rw [List.not_all_eq_any_not]
    rw [this]
    simp (dsimp := false) (implicitDefEqProofs := false) [h1]
  · have h1' : ¬ (l.length : Int) ≤ 256 := by omega
    simp (dsimp := false) (implicitDefEqProofs := false) [hlen, h1', h1]
end
end Go.Abs
end
section
/- Contracts: rows of words, both ways; which kinds lie in which. -/
set_option maxRecDepth 100000
set_option linter.unusedSimpArgs false
set_option linter.unusedVariables false
namespace Go.Abs
open Go.Proofs TryTypes

def textsW (l : List WordD) : List ByteArray := l.map WordD.text
theorem flat_S (l : List ByteArray) : (rowsS l).flatten = l.flatMap encS := by simp [rowsS, List.flatMap]
def belowL : List (List Int) := [[1, 2], [2], [3, 4, 7], [3, 4, 7], [5], [6], [], []]
def nestsB (p k : Int) : Bool := decide (0 ≤ p) && decide (p < 8) && (belowL.getD p.toNat []).contains k
theorem all_texts (l : List WordD) : (textsW l).all wordOk = l.all fun w => wordOk w.text := by simp [textsW, List.all_map]; rfl
/-- variables as data; slices as data but for those of the slots named, which are arrays -/
def hQ (l : List Nat) : Hint := ⟨fun _ => true, fun _ => false, fun d => l.contains d⟩
@[simp] theorem hQ_imm {l : List Nat} : (hQ l).imm = fun _ => true := rfl
@[simp] theorem hQ_own {l : List Nat} : (hQ l).own = fun _ => false := rfl
@[simp] theorem hQ_vec {l : List Nat} : (hQ l).vec = fun d => l.contains d := rfl
section
variable (gl : Nat → AV) (M : Mem)
/-- one more text behind those that are there -/
theorem push_text {own vec : Bool} {K : AV → Mem → Prop} {tg : Tag K} {v : AV} {M : Mem} {l : List ByteArray} {s : ByteArray} {o : Own} (hv : OwnR 9 1 encS M v l) (hl : l.length ≤ 1000) (hvec : vec = true)
    (hk : ∀ v' M', OwnR 9 1 encS M' v' (l ++ [s]) → KeepsBut (obj v) M M' → (obj v' = obj v ∨ Later M.length v') → K v' M') : wAppend (WC gl) own vec 37 37 v (.list 1 [[S s]] o) M K tg := by
  refine pushR (C := WC gl) (enc := encS) (e := 9) (sz := 1) (news := [s]) elem37 src37 eok9 (fun _ => rfl) hv (by simp [srcCells]) (by simp; omega) hvec ?_
  intro v' M' h1 h2 h3 _
  exact hk v' M' h1 h2 h3
theorem fresh_step {M M1 M2 : Mem} {v v' : AV} {X : List AObj} (h1 : Grow M M1) (hl : Later M.length v) (h2 : KeepsBut (obj v) (M1 ++ X) M2) (h3 : obj v' = obj v ∨ Later (M1 ++ X).length v') : Grow M M2 ∧ Later M.length v' := by
  refine ⟨⟨?_, fun i hi _ => ?_⟩, fun f hf => ?_⟩
  · have := h1.1; have := h2.1; simp at this; omega
  · rw [h2.2 i (by have := h1.1; simp; omega) (fun e => by have := hl _ e; omega), List.getElem?_append_left (by have := h1.1; omega)]
    exact h1.2 i hi (by simp)
  · rcases h3 with e | e
    · exact hl f (by rw [← e]; exact hf)
    · have := e f hf; have := h1.1; simp at *; omega
theorem row_ok (ws : List WordD) (o : Own) (hl : ws.length ≤ 300) (hs : ∀ w ∈ ws, w.text.size ≤ maxLen) : ACalls (WC gl) 208 [.list 4 (rowsW ws) o] M (fun v M' => v = B (rowOk ws) ∧ M' = M) := by
  have key : ACalls (WC gl) 208 [.list 4 (rowsW ws) o] M (fun v M' => (∃ x, v = .val x ∧ x = .bool (rowOk ws)) ∧ Grow M M') := by
    refine w_body (hQ [16]) Tryz.func208 rfl rfl rfl rfl rfl rfl ?_
    simp (dsimp := false) (implicitDefEqProofs := false)
    refine w_looped (hQ [16]) (fun T M1 => ∃ i : Nat, i ≤ ws.length ∧ T 0 = .list 4 (rowsW ws) o ∧ T 6 = .list 4 (rowsW ws) o ∧ T 7 = I ws.length ∧ T 8 = I i ∧ OwnR 9 1 encS M1 (T 3) (textsW (ws.take i)) ∧ Grow M M1 ∧ Later M.length (T 3))
      (fun T M1 => match T 8 with | .val (.int _ i) => ws.length - i.toNat | _ => 0) (by kernel_rfl) ?_ ?_
    · exact ⟨0, by omega, by simp, by simp, by simp, by simp, by simpa [textsW] using OwnR.nil, .refl _ _, by simp [Later]⟩
    · rintro T M1 ⟨i, i1, t0, t6, t7, t8, hv, hg, hL⟩
      by_cases hi : i < ws.length
      · have hi' : (i : Int) < ws.length := by omega
        have w1 : IntKind.i64.wrap ((i : Int) + 1) = (i + 1 : Nat) := by rw [wrap_in (by omega) (by omega)]; omega
        generalize hT3 : T 3 = ov at *
        have hMX : (M1 ++ [AObj.cells 152 [S ws[i].text, I ws[i].act, I ws[i].item, I ws[i].at_]])[M1.length]? = some (AObj.cells 152 [S ws[i].text, I ws[i].act, I ws[i].item, I ws[i].at_]) := by simp
        have hv1 : OwnR 9 1 encS (M1 ++ [AObj.cells 152 [S ws[i].text, I ws[i].act, I ws[i].item, I ws[i].at_]]) ov (textsW (ws.take i)) := hv.keep (KeepsBut.app none M1 _) (by simp)
        have ht : textsW (ws.take (i + 1)) = textsW (ws.take i) ++ [ws[i].text] := by
          rw [textsW, textsW, List.take_add_one, List.getElem?_eq_getElem hi, List.map_append]; rfl
        simp (dsimp := false) (implicitDefEqProofs := false) [t0, t6, t7, t8, hi, hi', hT3, allocAV, storeAV, overwrite, WordD.row, loadAV_ptr hMX, buildSliceAV, rowsGo]
        refine push_text gl hv1 (by simp [textsW]; omega) rfl ?_
        intro v' M' h1 h2 h3
        obtain ⟨k1, k2⟩ := fresh_step hg hL h2 h3
        simp (dsimp := false) (implicitDefEqProofs := false) [t0, t6, t7, t8, w1]
        exact ⟨⟨i + 1, by clear w1; omega, rfl, by rw [ht]; exact h1, k1, k2⟩, by clear w1; omega⟩
      · have hi' : ¬ (i : Int) < ws.length := by omega
        rw [List.take_of_length_le (by omega)] at hv
        by_cases h3 : ws.length ≤ 256
        · have h3' : (ws.length : Int) ≤ 256 := by omega
          simp (dsimp := false) (implicitDefEqProofs := false) [t0, t6, t7, t8, hi', h3']
          refine w_calls (inv_of Tryz.func262 rfl rfl (wordsValid_ok gl M1 (textsW ws) (by simp [textsW]; omega) (by simpa [textsW] using hs) (T 3) hv)) ?_
          rintro _ _ ⟨rfl, rfl⟩
          rw [all_texts]
          simp (dsimp := false) (implicitDefEqProofs := false) [rowOk, textsW, hg]
        · have h3' : ¬ (ws.length : Int) ≤ 256 := by omega
          simp (dsimp := false) (implicitDefEqProofs := false) [t0, t6, t7, t8, hi', h3', rowOk, hg, h3]
  have := grow_cut (Q := fun x => x = .bool (rowOk ws)) key
  exact this.mono (by rintro v M' ⟨⟨x, rfl, rfl⟩, rfl⟩; exact ⟨rfl, rfl⟩)
end
end Go.Abs
end
section
/- Contracts: the paths of citations. -/
set_option maxRecDepth 100000
set_option linter.unusedSimpArgs false
set_option linter.unusedVariables false
namespace Go.Abs
open Go.Proofs TryTypes

abbrev Step.v (s : Step) : AV := .agg s.row
def rowsP (p : List Step) : List (List AV) := p.map Step.row
@[simp] theorem rowsP_len (p : List Step) : (rowsP p).length = p.length := by simp [rowsP]
@[simp] theorem eq159 {k j : Int} {a b : ByteArray} : binAV Tryz.prog .eql 159 (.agg [I k, S a]) (.agg [I j, S b]) = some (B (decide (k = j) && decide (a = b))) := by
  have h1 : Tryz.prog.eqGuardType Tryz.prog.depth 159 = false := by kernel_rfl
  have h2 : Tryz.prog.stoodInHeld 159 = false := by kernel_rfl
  simp [binAV, binAV0, binMore, nilKind, sameKind, h1, eqAV, h2, eqFieldsAV]
  by_cases c1 : k = j
  · by_cases c2 : a = b
    · simp [c1, c2]
    · have : ¬ a.data = b.data := fun e => c2 (by cases a; cases b; simpa using e)
      have e : (a.data == b.data) = false := by simpa using this
      rw [e]; simp [c1, c2]
  · have e : (k == j) = false := by simpa using c1
    rw [e]; simp [c1]

theorem build159_0 {x : Int} : buildAV Tryz.prog 159 [(0, I x)] = some (.agg [I x, S ⟨#[]⟩]) := by
  simp [buildAV, buildGo, putCells, overwrite]
section
variable (gl : Nat → AV) (M : Mem)
def isBookS (s : Step) : Bool := decide (s.k = 0) && decide (s.lab = ⟨#[]⟩)
theorem book_ok (s : Step) : ACalls (WC gl) 214 [s.v] M (fun v M' => v = B (isBookS s) ∧ M' = M) := by
  refine w_body hB Tryz.func214 rfl rfl rfl rfl rfl rfl ?_
  simp (dsimp := false) (implicitDefEqProofs := false) [Step.row, isBookS, build159_0]
def namedS (s : Step) : Bool := decide (1 ≤ s.k) && decide (s.k ≤ 7) && labelOk s.lab
theorem named_ok (s : Step) : ACalls (WC gl) 217 [s.v] M (fun v M' => v = B (namedS s) ∧ Grow M M') := by
  refine w_body hB Tryz.func217 rfl rfl rfl rfl rfl rfl ?_
  by_cases c1 : 1 ≤ s.k
  case neg => simp (dsimp := false) (implicitDefEqProofs := false) [Step.row, namedS, c1, Grow, KeepsBut.refl]
  by_cases c2 : s.k ≤ 7
  case neg => simp (dsimp := false) (implicitDefEqProofs := false) [Step.row, namedS, c1, c2, Grow, KeepsBut.refl]
  simp (dsimp := false) (implicitDefEqProofs := false) [Step.row, namedS, c1, c2]
  refine w_calls (inv_of Tryz.func112 rfl rfl (Valid_ok gl M s.lab)) ?_
  rintro r M' ⟨rfl, hgr⟩
  simp (dsimp := false) (implicitDefEqProofs := false) [namedS, c1, c2, hgr]
theorem plain1_ok (s : Step) : ACalls (WC gl) 216 [s.v] M (fun v M' => v = B (!namedS s) ∧ Grow M M') := by
  refine w_body hB Tryz.func216 rfl rfl rfl rfl rfl rfl ?_
  simp (dsimp := false) (implicitDefEqProofs := false) [Step.row]
  refine w_calls (inv_of Tryz.func217 rfl rfl (named_ok gl M s)) ?_
  rintro r M' ⟨rfl, hgr⟩
  simp (dsimp := false) (implicitDefEqProofs := false) [hgr]
end
end Go.Abs
end
section
/- Contracts: plain paths, the written words of a path. -/
set_option maxRecDepth 100000
set_option linter.unusedSimpArgs false
set_option linter.unusedVariables false
namespace Go.Abs
open Go.Proofs TryTypes

theorem Grow.refl (M : Mem) : Grow M M := KeepsBut.refl _ _
theorem Grow.trans {A B C : Mem} (h1 : Grow A B) (h2 : Grow B C) : Grow A C := KeepsBut.trans h1 h2
theorem rowsP_at {p : List Step} {i : Nat} (h : i < p.length) : (rowsP p)[i]?.getD [] = (p[i]).row := by simp [rowsP, h]
@[simp] theorem rowsP_get {p : List Step} {i : Nat} (h : i < (rowsP p).length) : (rowsP p)[i] = [I (p[i]'(by simpa using h)).k, S (p[i]'(by simpa using h)).lab] := by simp [rowsP, Step.row]
theorem take_succ_all {p : List Step} {f : Step → Bool} {i : Nat} (h : i < p.length) (ha : (p.take i).all f = true) (hf : f (p[i]) = true) : (p.take (i + 1)).all f = true := by
  rw [List.take_succ_eq_append_getElem h, List.all_append, ha]; simp [hf]
theorem any_of {p : List Step} {f : Step → Bool} {i : Nat} (h : i < p.length) (hf : f (p[i]) = true) : p.any f = true := List.any_eq_true.2 ⟨p[i], List.getElem_mem h, hf⟩

section
variable (gl : Nat → AV) (M : Mem)
theorem indexStep_ok (p : List Step) (o : Own) (hlen : p.length ≤ 1000000) : ACalls (WC gl) 270 [.list 2 (rowsP p) o, .func (.func 216) [] []] M (fun v M' => (∃ r, v = I r ∧ decide (0 ≤ r) = p.any (fun s => !namedS s)) ∧ Grow M M') := by
  refine w_body hB Tryz.func270 rfl rfl rfl rfl rfl rfl ?_
  simp (dsimp := false) (implicitDefEqProofs := false)
  refine w_looped hB (fun T M1 => ∃ i : Nat, i ≤ p.length ∧ Grow M M1 ∧ T 0 = .list 2 (rowsP p) o ∧ T 1 = .func (.func 216) [] [] ∧ T 7 = I p.length ∧ T 8 = I i ∧ (p.take i).all namedS = true)
    (fun T M1 => match T 8 with | .val (.int _ i) => p.length - i.toNat | _ => 0) (by kernel_rfl) ?_ ?_
  · refine ⟨0, ?_⟩
    simp (dsimp := false) (implicitDefEqProofs := false) [Grow.refl]
  · rintro T M1 ⟨i, h1, h2, h3, h4, h5, h6, h7⟩
    by_cases hi : i < p.length
    · have hi' : (i : Int) < p.length := by omega
      have hw : IntKind.i64.wrap ((i : Int) + 1) = (i + 1 : Nat) := by rw [wrap_in (by omega) (by omega)]; omega
      simp (dsimp := false) (implicitDefEqProofs := false) [h3, h4, h5, h6, hi, hi']
      refine w_calls (inv_of Tryz.func216 rfl rfl (plain1_ok gl M1 p[i])) ?_
      rintro r M' ⟨rfl, hgr⟩
      have hg := h2.trans hgr
      cases hb : namedS p[i]
      · simp (dsimp := false) (implicitDefEqProofs := false) [h3, h4, h5, h6]
        refine ⟨?_, hg⟩
        exact ⟨p[i], List.getElem_mem hi, hb⟩
      · simp (dsimp := false) (implicitDefEqProofs := false) [h3, h4, h5, h6, hw, hg]
        refine ⟨⟨i + 1, ?_⟩, ?_⟩
        · have := take_succ_all hi h7 hb
          simp only [List.all_eq_true] at this ⊢
          exact ⟨by clear hw; omega, by simp, this⟩
        · clear hw; omega
    · have hi' : ¬ (i : Int) < p.length := by omega
      rw [List.take_of_length_le (by omega), List.all_eq_true] at h7
      simp (dsimp := false) (implicitDefEqProofs := false) [h3, h4, h5, h6, hi']
      exact ⟨h7, h2⟩
theorem containsStep_ok (p : List Step) (o : Own) (hlen : p.length ≤ 1000000) : ACalls (WC gl) 215 [.list 2 (rowsP p) o, .func (.func 216) [] []] M (fun v M' => v = B (p.any (fun s => !namedS s)) ∧ Grow M M') := by
  refine w_body hB Tryz.func215 rfl rfl rfl rfl rfl rfl ?_
  simp (dsimp := false) (implicitDefEqProofs := false)
  refine w_calls (inv_of Tryz.func270 rfl rfl (indexStep_ok gl M p o hlen)) ?_
  rintro r M' ⟨⟨r, rfl, hr⟩, hgr⟩
  simp (dsimp := false) (implicitDefEqProofs := false) [hgr, hr]
/-- a path without the step of the book -/
def restP (p : List Step) : List Step := match p with
  | [] => []
  | s :: p' => if isBookS s then p' else s :: p'
def plainP (p : List Step) : Bool := decide (0 < (restP p).length) && (restP p).all namedS
theorem not_any {p : List Step} : (!p.any (fun s => !namedS s)) = p.all namedS := by
  induction p with
  | nil => rfl
  | cons a p ih => simp only [List.any_cons, List.all_cons, Bool.not_or, Bool.not_not, ih]
theorem plain_ok (p : List Step) (o : Own) (hlen : p.length ≤ 1000000) : ACalls (WC gl) 166 [.list 2 (rowsP p) o] M (fun v M' => v = B (plainP p) ∧ Grow M M') := by
  refine w_body hB Tryz.func166 rfl rfl rfl rfl rfl rfl ?_
  cases p with
  | nil => simp (dsimp := false) (implicitDefEqProofs := false) [rowsP, plainP, restP, Grow.refl]
  | cons s p' =>
    simp only [List.length_cons] at hlen
    simp (dsimp := false) (implicitDefEqProofs := false) [rowsP, Step.row]
    refine w_calls (inv_of Tryz.func214 rfl rfl (book_ok gl M s)) ?_
    rintro r M' ⟨rfl, rfl⟩
    cases hb : isBookS s
    · simp (dsimp := false) (implicitDefEqProofs := false)
      refine w_calls (inv_of Tryz.func215 rfl rfl (containsStep_ok gl M' (s :: p') o (by simpa using hlen))) ?_
      rintro r M2 ⟨rfl, hgr⟩
      have e : (s :: p').all namedS = plainP (s :: p') := by simp [plainP, restP, hb]
      rw [← e, ← not_any]
      simp (dsimp := false) (implicitDefEqProofs := false) [hgr]
    · have i1 : (1 : Int) ≤ p'.length + 1 := by omega
      by_cases c : 0 < p'.length
      · have e : p'.all namedS = plainP (s :: p') := by simp [plainP, restP, hb, c]
        rw [← e, ← not_any]
        simp (dsimp := false) (implicitDefEqProofs := false) [i1, c]
        refine w_calls (inv_of Tryz.func215 rfl rfl (containsStep_ok gl M' p' _ (by omega))) ?_
        rintro r M2 ⟨rfl, hgr⟩
        simp (dsimp := false) (implicitDefEqProofs := false) [hgr]
      · have e : plainP (s :: p') = false := by simp [plainP, restP, hb, c]
        simp (dsimp := false) (implicitDefEqProofs := false) [i1, c, e, Grow.refl]
end
end Go.Abs
end
section
/- Contracts: citation.Valid of a plain citation, told, words, WordsOf. -/
set_option maxRecDepth 100000
set_option linter.unusedSimpArgs false
set_option linter.unusedVariables false
namespace Go.Abs
open Go.Proofs TryTypes

abbrev citeP (p : List Step) (o : Own) : AV := .agg [I 0, .list 2 (rowsP p) o, S ⟨#[]⟩, I 0, I 0]
def addrOk (p : List Step) : Bool := decide (p.length ≤ 9) && plainP p
def kindWords : List ByteArray := [⟨#[]⟩, ⟨#[112, 97, 114, 116]⟩, ⟨#[115, 101, 99, 116, 105, 111, 110]⟩, ⟨#[112, 97, 114, 97, 103, 114, 97, 112, 104]⟩, ⟨#[116, 97, 98, 108, 101]⟩, ⟨#[114, 111, 119]⟩, ⟨#[99, 101, 108, 108]⟩, ⟨#[110, 111, 116, 101]⟩]
def bookWord : ByteArray := ⟨#[98, 111, 111, 107]⟩
def stepWords (s : Step) : List ByteArray := if isBookS s then [bookWord] else [kindWords.getD s.k.toNat ⟨#[]⟩, s.lab]
def toldW (p : List Step) : List ByteArray := p.flatMap stepWords

/-- the appends' slices are arrays, the others data -/
def hT : Hint := ⟨fun _ => true, fun _ => false, fun d => d == 27 || d == 39 || d == 21⟩
@[simp] theorem hT_imm : hT.imm = fun _ => true := rfl
@[simp] theorem hT_own : hT.own = fun _ => false := rfl
@[simp] theorem hT_vec : hT.vec = fun d => d == 27 || d == 39 || d == 21 := rfl
def goodStep (s : Step) : Bool := isBookS s || namedS s
theorem label_ne {s : ByteArray} (h : labelOk s = true) : ¬ s = ⟨#[]⟩ := by
  rintro rfl
  revert h
  decide +kernel
theorem fresh_push {M M1 M' X : Mem} {l news : List ByteArray} {out v' : AV} (h : FreshS M l out M1) (h1 : Own1 9 M' v' (l.map S ++ news.map S)) (h2 : KeepsBut (obj out) (M1 ++ X) M') (h3 : obj v' = obj out ∨ Later (M1 ++ X).length v') : FreshS M (l ++ news) v' M' := by
  refine ⟨by simpa using h1, ⟨?_, fun i hi _ => ?_⟩, ?_⟩
  · have a := h.2.1.1; have b := h2.1; simp at b; omega
  · have hl := h.2.1.1
    rw [h2.2 i (by simp; omega) fun e => by have := h.2.2 i e; omega, List.getElem?_append_left (by omega)]
    exact h.2.1.2 i hi (by simp)
  · intro f hf
    rcases h3 with e | e
    · exact h.2.2 f (by rw [← e]; exact hf)
    · have a := h.2.1.1; have b := e f hf; simp at b; omega
theorem toldW_succ {p : List Step} {i : Nat} (h : i < p.length) : toldW (p.take (i + 1)) = toldW (p.take i) ++ stepWords p[i] := by
  rw [List.take_succ_eq_append_getElem h, toldW, toldW, List.flatMap_append]; simp
theorem stepWords_len (s : Step) : (stepWords s).length ≤ 2 := by unfold stepWords; split <;> simp
theorem toldW_len (p : List Step) : (toldW p).length ≤ 2 * p.length := by
  induction p with
  | nil => simp [toldW]
  | cons a p ih => have := stepWords_len a; simp only [toldW, List.flatMap_cons, List.length_append, List.length_cons] at *; omega
section
variable (gl : Nat → AV) (M : Mem)
theorem citeValid_ok (p : List Step) (o : Own) (hlen : p.length ≤ 1000000) : ACalls (WC gl) 116 [citeP p o] M (fun v M' => v = B (addrOk p) ∧ Grow M M') := by
  refine w_body hB Tryz.func116 rfl rfl rfl rfl rfl rfl ?_
  by_cases c : p.length ≤ 9
  · have i1 : ¬ (p.length : Int) > 9 := by omega
    have i2 : ¬ (9 : Int) < p.length := by omega
    simp (dsimp := false) (implicitDefEqProofs := false) [i1, i2]
    refine w_calls (inv_of Tryz.func166 rfl rfl (plain_ok gl M p o hlen)) ?_
    rintro r M2 ⟨rfl, hgr⟩
    simp (dsimp := false) (implicitDefEqProofs := false) [addrOk, c, hgr]
  · have i2 : (9 : Int) < p.length := by omega
    simp (dsimp := false) (implicitDefEqProofs := false) [i2, addrOk, c, Grow.refl]
theorem single_ok : ACalls (WC gl) 219 [] M (fun v M' => v = .list 1 (rowsS kindWords) .full ∧ M' = M) := by
  refine w_body hB Tryz.func219 rfl rfl rfl rfl rfl rfl ?_
  simp (dsimp := false) (implicitDefEqProofs := false) [buildSliceAV, rowsGo, rowsS, kindWords]
theorem told_ok (p : List Step) (o : Own) (hlen : p.length ≤ 1000000) (hgood : p.all goodStep = true) : ACalls (WC gl) 168 [.list 2 (rowsP p) o] M (FreshS M (toldW p)) := by
  refine w_body hT Tryz.func168 rfl rfl rfl rfl rfl rfl ?_
  simp (dsimp := false) (implicitDefEqProofs := false)
  refine w_looped hT (fun T M1 => ∃ i : Nat, i ≤ p.length ∧ FreshS M (toldW (p.take i)) (T 3) M1 ∧ T 6 = .list 2 (rowsP p) o ∧ T 7 = I p.length ∧ T 8 = I i)
    (fun T M1 => match T 8 with | .val (.int _ i) => p.length - i.toNat | _ => 0) (by kernel_rfl) ?_ ?_
  · refine ⟨0, ?_⟩
    simp (dsimp := false) (implicitDefEqProofs := false) [FreshS, Own1, KeepsBut.refl, Later, toldW]
  · rintro T M1 ⟨i, h1, h2, h3, h4, h5⟩
    generalize hT3 : T 3 = out at h2
    by_cases hi : i < p.length
    · have hi' : (i : Int) < p.length := by omega
      have hw : IntKind.i64.wrap ((i : Int) + 1) = (i + 1 : Nat) := by rw [wrap_in (by omega) (by omega)]; omega
      have hM2 : (M1 ++ [AObj.cells 159 [I p[i].k, S p[i].lab]])[M1.length]? = some (.cells 159 [I p[i].k, S p[i].lab]) := by simp
      have hg := List.all_eq_true.1 hgood p[i] (List.getElem_mem hi)
      have ho2 : Own1 9 (M1 ++ [AObj.cells 159 [I p[i].k, S p[i].lab]]) out ((toldW (p.take i)).map S) := h2.1.keep (.app none _ _) (by simp)
      have hlen2 := toldW_len (p.take i)
      have hlen3 : (p.take i).length ≤ p.length := by simp; omega
      simp (dsimp := false) (implicitDefEqProofs := false) [h3, h4, h5, hi, hi', allocAV, storeAV, overwrite, loadAV_ptr hM2]
      refine w_calls (inv_of Tryz.func214 rfl rfl (book_ok gl _ p[i])) ?_
      rintro r M2 ⟨rfl, rfl⟩
      cases hb : isBookS p[i]
      · have hn : namedS p[i] = true := by simpa [goodStep, hb] using hg
        simp only [namedS, Bool.and_eq_true, decide_eq_true_eq] at hn
        obtain ⟨⟨n1, n2⟩, n3⟩ := hn
        have hl := label_ne n3
        have n1' : 0 ≤ p[i].k := by omega
        have n2' : p[i].k < 8 := by omega
        have n2n : p[i].k.toNat < 8 := by omega
        have hkw : (rowsS kindWords)[p[i].k.toNat]?.getD [] = [S (kindWords.getD p[i].k.toNat ⟨#[]⟩)] := by
          have : p[i].k.toNat < kindWords.length := n2n
          simp [rowsS, this]
        have hkw2 : ∀ h : p[i].k.toNat < (rowsS kindWords).length, (rowsS kindWords)[p[i].k.toNat]'h = [S (kindWords.getD p[i].k.toNat ⟨#[]⟩)] := by
          intro h
          have : p[i].k.toNat < kindWords.length := n2n
          simp [rowsS, this]
        have hsw : stepWords p[i] = [kindWords.getD p[i].k.toNat ⟨#[]⟩, p[i].lab] := by simp only [stepWords, hb]; rfl
        have hlk : kindWords.length = 8 := rfl
        generalize kindWords.getD p[i].k.toNat ⟨#[]⟩ = kw at hkw hkw2 hsw
        simp (dsimp := false) (implicitDefEqProofs := false) [hl, loadAV_ptr hM2]
        refine w_drawn hT (cfollows gl) (fun k => if k = 3 ∨ k = 7 then 1 else if k = 9 then 2 else 0) (fun _ => M1.length) (by rfl) (by kernel_rfl) ?_
        simp (dsimp := false) (implicitDefEqProofs := false)
        refine w_call0 (fun M => inv_of Tryz.func219 rfl rfl (single_ok gl M)) ?_
        simp (dsimp := false) (implicitDefEqProofs := false) [loadAV_ptr hM2, n1', hkw, hkw2, n2', hlk, buildSliceAV, rowsGo, hT3]
        refine push (C := WC gl) (e := 9) elem37 src37 eok9 ho2 (news := [kw, p[i].lab].map S) (m := 2) rfl rfl (by simp; omega) rfl ?_
        intro v' M' q1 q2 q3 _
        have hf := fresh_push h2 q1 q2 q3
        rw [← hsw, ← toldW_succ hi] at hf
        simp (dsimp := false) (implicitDefEqProofs := false) [h3, h4, h5, hw]
        refine ⟨⟨i + 1, ?_⟩, ?_⟩
        · exact ⟨by clear hw; omega, hf, by simp⟩
        · clear hw; omega
      · have hsw : stepWords p[i] = [bookWord] := by simp [stepWords, hb]
        simp (dsimp := false) (implicitDefEqProofs := false) [buildSliceAV, rowsGo, hT3]
        refine push (C := WC gl) (e := 9) elem37 src37 eok9 ho2 (news := [bookWord].map S) (m := 1) rfl rfl (by simp; omega) rfl ?_
        intro v' M' q1 q2 q3 _
        have hf := fresh_push h2 q1 q2 q3
        rw [← hsw, ← toldW_succ hi] at hf
        simp (dsimp := false) (implicitDefEqProofs := false) [h3, h4, h5, hw]
        refine ⟨⟨i + 1, ?_⟩, ?_⟩
        · exact ⟨by clear hw; omega, hf, by simp⟩
        · clear hw; omega
    · have hi' : ¬ (i : Int) < p.length := by omega
      rw [List.take_of_length_le (by omega)] at h2
      simp (dsimp := false) (implicitDefEqProofs := false) [h3, h4, h5, hi', hT3, h2]
theorem words_ok (p : List Step) (o : Own) (hlen : p.length ≤ 1000000) (hgood : p.all goodStep = true) : ACalls (WC gl) 117 [citeP p o] M (FreshS M (toldW p)) := by
  refine w_body hB Tryz.func117 rfl rfl rfl rfl rfl rfl ?_
  simp (dsimp := false) (implicitDefEqProofs := false)
  refine w_calls (inv_of Tryz.func168 rfl rfl (told_ok gl M p o hlen hgood)) ?_
  intro v M' h
  simp (dsimp := false) (implicitDefEqProofs := false) [h]
def addrW (p : List Step) : List ByteArray := if addrOk p then toldW p else []
theorem addr_good {p : List Step} (h : addrOk p = true) : p.all goodStep = true := by
  simp only [addrOk, plainP, Bool.and_eq_true] at h
  have h2 := h.2.2
  cases p with
  | nil => rfl
  | cons s p' =>
    simp only [restP] at h2
    cases hb : isBookS s
    · simp only [hb, Bool.false_eq_true, if_false, List.all_cons, Bool.and_eq_true] at h2
      simp only [List.all_cons, Bool.and_eq_true, goodStep, hb, h2.1, Bool.or_true, true_and, Bool.false_or]
      exact List.all_eq_true.2 fun x hx => by have := List.all_eq_true.1 h2.2 x hx; show (isBookS x || namedS x) = true; rw [this, Bool.or_true]
    · simp only [hb, if_true] at h2
      simp only [List.all_cons, Bool.and_eq_true, goodStep, hb, Bool.true_or, true_and]
      exact List.all_eq_true.2 fun x hx => by have := List.all_eq_true.1 h2 x hx; show (isBookS x || namedS x) = true; rw [this, Bool.or_true]
theorem addrW_ne {p : List Step} (h : addrOk p = true) : addrW p ≠ [] := by
  rw [addrW, if_pos h]
  simp only [addrOk, plainP, Bool.and_eq_true] at h
  cases p with
  | nil => simp [restP] at h
  | cons s p' => simp only [toldW, List.flatMap_cons]; unfold stepWords; split <;> simp
theorem addrW_len (p : List Step) : (addrW p).length ≤ 18 := by
  unfold addrW
  split
  · rename_i h
    simp only [addrOk, Bool.and_eq_true, decide_eq_true_eq] at h
    have := toldW_len p; omega
  · simp
theorem grow_fresh {M M1 M' : Mem} {l : List ByteArray} {v : AV} (hg : Grow M M1) (h : FreshS M1 l v M') : FreshS M l v M' :=
  ⟨h.1, hg.trans h.2.1, fun f hf => Nat.le_trans hg.1 (h.2.2 f hf)⟩
theorem WordsOf_ok (p : List Step) (o : Own) (hlen : p.length ≤ 1000000) : ACalls (WC gl) 60 [.list 2 (rowsP p) o] M (FreshS M (addrW p)) := by
  refine w_body hB Tryz.func60 rfl rfl rfl rfl rfl rfl ?_
  have hcs : ∀ M : Mem, (M ++ [AObj.cells 110 [I 0, .list 2 (rowsP p) o, S ⟨#[]⟩, I 0, I 0]])[M.length]? = some (.cells 110 [I 0, .list 2 (rowsP p) o, S ⟨#[]⟩, I 0, I 0]) := by simp
  simp (dsimp := false) (implicitDefEqProofs := false) [buildAV, buildGo, putCells, allocAV, storeAV, overwrite, loadAV_ptr (hcs _)]
  refine w_calls (inv_of Tryz.func116 rfl rfl (citeValid_ok gl _ p o hlen)) ?_
  rintro r M' ⟨rfl, hgr⟩
  have hg : Grow M M' := Grow.trans (.app none M _) hgr
  have hc := hgr.get (hcs M) (by simp)
  cases hb : addrOk p
  · simp (dsimp := false) (implicitDefEqProofs := false) [addrW, hb]
    exact ⟨.inl ⟨rfl, rfl⟩, hg, by simp [Later]⟩
  · simp (dsimp := false) (implicitDefEqProofs := false) [loadAV_ptr hc]
    refine w_calls (inv_of Tryz.func117 rfl rfl (words_ok gl M' p o hlen (addr_good hb))) ?_
    intro v M2 h
    simp (dsimp := false) (implicitDefEqProofs := false) [addrW, hb]
    exact grow_fresh hg h
end
end Go.Abs
end
section
/- Contracts: the reference's labels. -/
set_option maxRecDepth 100000
set_option linter.unusedSimpArgs false
set_option linter.unusedVariables false
namespace Go.Abs
open Go.Proofs TryTypes

section
variable (gl : Nat → AV) (M : Mem)
theorem scanB_succ (p : Int → Bool) (s : ByteArray) {i : Nat} (h : i < s.size) : scanB p s (s.size - i) i = if p (byteAt s i) then (i : Int) else scanB p s (s.size - (i + 1)) (i + 1) := by
  have : s.size - i = (s.size - (i + 1)) + 1 := by omega
  rw [this]; rfl
theorem digitsN_of {s : ByteArray} {i : Nat} (h : scanB (outOf 48 57) s s.size 0 = (i : Int)) : digitsN s = i := by
  simp only [digitsN, h]; split <;> omega
theorem digitsN_none {s : ByteArray} (h : scanB (outOf 48 57) s s.size 0 = -1) : digitsN s = s.size := by
  simp only [digitsN, h]; rfl
theorem digits_ok (s : ByteArray) (hs : s.size ≤ maxLen) : ACalls (WC gl) 155 [S s] M (fun v M' => v = I (digitsN s) ∧ M' = M) := by
  refine w_body hB Tryz.func155 rfl rfl rfl rfl rfl rfl ?_
  simp (dsimp := false) (implicitDefEqProofs := false)
  refine w_looped hB (fun T M1 => ∃ i : Nat, i ≤ s.size ∧ M1 = M ∧ T 0 = S s ∧ T 3 = I i ∧ scanB (outOf 48 57) s s.size 0 = scanB (outOf 48 57) s (s.size - i) i)
    (fun T M1 => match T 3 with | .val (.int _ i) => s.size - i.toNat | _ => 0) (by kernel_rfl) ?_ ?_
  · refine ⟨0, ?_⟩
    simp (dsimp := false) (implicitDefEqProofs := false)
  · rintro T M1 ⟨i, h1, rfl, h3, h4, h5⟩
    by_cases hi : i < s.size
    · have hi' : (i : Int) < s.size := by omega
      have hw : IntKind.i64.wrap ((i : Int) + 1) = (i + 1 : Nat) := by rw [wrap_in (by omega) (by simp only [maxLen] at hs; omega)]; omega
      rw [scanB_succ _ _ hi] at h5
      by_cases c1 : byteAt s i ≥ 48
      · by_cases c2 : byteAt s i ≤ 57
        · have ho : outOf 48 57 (byteAt s i) = false := by simp [outOf]; omega
          rw [ho] at h5
          have c1' : (48 : Int) ≤ byteAt s i := c1
          simp (dsimp := false) (implicitDefEqProofs := false) [h3, h4, hi, hi', c1, c1', c2, hw]
          refine ⟨⟨i + 1, by clear hw; omega, by simp, by simpa using h5⟩, by clear hw; omega⟩
        · have ho : outOf 48 57 (byteAt s i) = true := by simp [outOf]; omega
          rw [ho] at h5
          have c1' : (48 : Int) ≤ byteAt s i := c1
          have hd := digitsN_of (by simpa using h5)
          simp (dsimp := false) (implicitDefEqProofs := false) [h3, h4, hi, hi', c1, c1', c2, hd]
      · have ho : outOf 48 57 (byteAt s i) = true := by simp [outOf]; omega
        rw [ho] at h5
        have c1' : ¬ (48 : Int) ≤ byteAt s i := c1
        have hd := digitsN_of (by simpa using h5)
        simp (dsimp := false) (implicitDefEqProofs := false) [h3, h4, hi, hi', c1, c1', hd]
    · have hi' : ¬ (i : Int) < s.size := by omega
      rw [show s.size - i = 0 by omega] at h5
      have hd := digitsN_none (by rw [h5]; rfl)
      have hii : (i : Int) = s.size := by omega
      simp (dsimp := false) (implicitDefEqProofs := false) [h3, h4, hi', hd, hii]
theorem labelMay_ok (s : ByteArray) (hs : s.size ≤ maxLen) : ACalls (WC gl) 105 [S s] M (fun v M' => v = B (labelOk s) ∧ M' = M) := by
  refine w_body hB Tryz.func105 rfl rfl rfl rfl rfl rfl ?_
  simp (dsimp := false) (implicitDefEqProofs := false)
  refine w_calls (inv_of Tryz.func155 rfl rfl (digits_ok gl M s hs)) ?_
  rintro r M' ⟨rfl, rfl⟩
  have hle := digitsN_le s
  generalize hd : digitsN s = d at *
  by_cases c1 : 1 ≤ d
  case neg =>
    have : (d : Int) < 1 := by omega
    simp (dsimp := false) (implicitDefEqProofs := false) [this, labelOk, hd, c1]
  have i1 : ¬ (d : Int) < 1 := by omega
  by_cases c2 : d ≤ 4
  case neg =>
    have : (4 : Int) < d := by omega
    simp (dsimp := false) (implicitDefEqProofs := false) [this, labelOk, hd, c1, i1, c2]
  have i2 : ¬ (4 : Int) < d := by omega
  have hpos : 0 < s.size := by omega
  by_cases c3 : byteAt s 0 = 48
  · simp (dsimp := false) (implicitDefEqProofs := false) [labelOk, hd, c1, i1, c2, i2, c3, hpos]
  have hw : IntKind.i64.wrap ((s.size : Int) - d) = (s.size - d : Nat) := by rw [wrap_in (by omega) (by simp only [maxLen] at hs; omega)]; omega
  by_cases c4 : s.size - d ≤ 3
  case neg =>
    have : (3 : Int) < (s.size - d : Nat) := by omega
    have c4' : ¬ s.size ≤ 3 + d := by omega
    simp (dsimp := false) (implicitDefEqProofs := false) [labelOk, hd, c1, i1, c2, i2, c3, hpos, hw, this, c4']
  have i4 : ¬ (3 : Int) < (s.size - d : Nat) := by omega
  simp (dsimp := false) (implicitDefEqProofs := false) [labelOk, hd, c1, i1, c2, i2, c3, hpos, hw, i4]
  have hlo : labelOk s = decide (scanB (outOf 65 90) s (s.size - d) d < 0) := by simp [labelOk, hd, c1, c2, c3]; omega
  rw [hlo]
  clear hlo
  refine w_looped hB (fun T M1 => ∃ i : Nat, i ≤ s.size ∧ M1 = M' ∧ T 0 = S s ∧ T 4 = I i ∧ decide (scanB (outOf 65 90) s (s.size - d) d < 0) = decide (scanB (outOf 65 90) s (s.size - i) i < 0))
    (fun T M1 => match T 4 with | .val (.int _ i) => s.size - i.toNat | _ => 0) (by kernel_rfl) ?_ ?_
  · refine ⟨d, ?_⟩
    simp (dsimp := false) (implicitDefEqProofs := false) [hle]
  · rintro T M1 ⟨i, h1, rfl, h3, h4, h5⟩
    rw [h5]
    by_cases hi : i < s.size
    · have hi' : (i : Int) < s.size := by omega
      have hw : IntKind.i64.wrap ((i : Int) + 1) = (i + 1 : Nat) := by rw [wrap_in (by omega) (by simp only [maxLen] at hs; omega)]; omega
      rw [scanB_succ _ _ hi] at h5 ⊢
      by_cases c1 : byteAt s i < 65
      · have ho : outOf 65 90 (byteAt s i) = true := by simp [outOf]; omega
        rw [ho] at h5 ⊢
        simp (dsimp := false) (implicitDefEqProofs := false) [h3, h4, hi, hi', c1]
      · by_cases c2 : byteAt s i > 90
        · have ho : outOf 65 90 (byteAt s i) = true := by simp [outOf]; omega
          rw [ho] at h5 ⊢
          have c2' : 90 < byteAt s i := c2
          simp (dsimp := false) (implicitDefEqProofs := false) [h3, h4, hi, hi', c1, c2, c2']
        · have ho : outOf 65 90 (byteAt s i) = false := by simp [outOf]; omega
          rw [ho] at h5 ⊢
          have c2' : ¬ 90 < byteAt s i := c2
          simp (dsimp := false) (implicitDefEqProofs := false) [h3, h4, hi, hi', c1, c2, c2', hw]
          refine ⟨⟨i + 1, by clear hw; omega, by simp, Iff.rfl⟩, by clear hw; omega⟩
    · have hi' : ¬ (i : Int) < s.size := by omega
      rw [show s.size - i = 0 by omega] at h5 ⊢
      simp (dsimp := false) (implicitDefEqProofs := false) [h3, h4, hi', scanB]
end
end Go.Abs
end
section
/- Contracts: the reference's words and rows; kinds. -/
set_option maxRecDepth 100000
set_option linter.unusedSimpArgs false
set_option linter.unusedVariables false
namespace Go.Abs
open Go.Proofs TryTypes

section
variable (gl : Nat → AV) (M : Mem)
theorem rWord_ok (s : ByteArray) (hs : s.size ≤ maxLen) : ACalls (WC gl) 193 [S s] M (fun v M' => v = B (wordOk s) ∧ M' = M) := by
  refine w_body hB Tryz.func193 rfl rfl rfl rfl rfl rfl ?_
  by_cases h1 : s.size < 1
  · have h1' : (s.size : Int) < 1 := by omega
    have hw : wordOk s = false := by simp [wordOk]; omega
    simp (dsimp := false) (implicitDefEqProofs := false) [h1', hw]
  have h1' : ¬ (s.size : Int) < 1 := by omega
  by_cases h2 : s.size ≤ 24
  case neg =>
    have h2' : (24 : Int) < s.size := by omega
    have h2g : (s.size : Int) > 24 := h2'
    have hw : wordOk s = false := by simp [wordOk, h2]
    simp (dsimp := false) (implicitDefEqProofs := false) [h1', h2', h2g, hw]
  have h2' : ¬ (24 : Int) < s.size := by omega
  have h2g : ¬ (s.size : Int) > 24 := h2'
  have hw : wordOk s = decide (scanB (outOf 33 126) s s.size 0 < 0) := by
    have : 1 ≤ s.size := by omega
    simp [wordOk, h2, this]
  simp (dsimp := false) (implicitDefEqProofs := false) [h1', h2', h2g]
  refine w_looped hB (fun T M1 => ∃ i : Nat, i ≤ s.size ∧ M1 = M ∧ T 0 = S s ∧ T 3 = I i ∧ scanB (outOf 33 126) s s.size 0 = scanB (outOf 33 126) s (s.size - i) i)
    (fun T M1 => match T 3 with | .val (.int _ i) => s.size - i.toNat | _ => 0) (by kernel_rfl) ?_ ?_
  · exact ⟨0, by omega, rfl, by simp, by simp, by simp⟩
  · rintro T M1 ⟨i, i1, rfl, t0, t3, ho⟩
    by_cases hi : i < s.size
    · have hi' : (i : Int) < s.size := by omega
      have w1 : IntKind.i64.wrap ((i : Int) + 1) = (i + 1 : Nat) := by rw [wrap_in (by omega) (by omega)]; omega
      rw [scanB_next _ _ hi] at ho
      generalize hc : byteAt s i = c at *
      by_cases c1 : c < 33
      · have hp : outOf 33 126 c = true := by simp [outOf, c1]
        rw [hp, if_pos rfl] at ho
        have hn : ¬ scanB (outOf 33 126) s s.size 0 < 0 := by rw [ho]; omega
        rw [decide_eq_false hn] at hw
        simp (dsimp := false) (implicitDefEqProofs := false) [t0, t3, hi, hi', hc, c1, hw]
      · by_cases c2 : c > 126
        · have hp : outOf 33 126 c = true := by simp [outOf]; omega
          rw [hp, if_pos rfl] at ho
          have hn : ¬ scanB (outOf 33 126) s s.size 0 < 0 := by rw [ho]; omega
          rw [decide_eq_false hn] at hw
          have c2' : 126 < c := c2
          simp (dsimp := false) (implicitDefEqProofs := false) [t0, t3, hi, hi', hc, c1, c2, c2', hw]
        · have hp : outOf 33 126 c = false := by simp [outOf]; omega
          rw [hp, if_neg (by simp)] at ho
          have c2' : ¬ 126 < c := c2
          simp (dsimp := false) (implicitDefEqProofs := false) [t0, t3, hi, hi', hc, c1, c2, c2', w1]
          exact ⟨⟨i + 1, by clear w1; omega, rfl, ho⟩, by clear w1; omega⟩
    · have hi' : ¬ (i : Int) < s.size := by omega
      rw [show s.size - i = 0 by omega] at ho
      have hn : scanB (outOf 33 126) s s.size 0 < 0 := by rw [ho, scanB]; omega
      rw [decide_eq_true hn] at hw
      simp (dsimp := false) (implicitDefEqProofs := false) [t0, t3, hi', hw]
theorem rMay04_ok (l : List ByteArray) (hl : l.length ≤ 1000) (hs : ∀ s ∈ l, s.size ≤ maxLen) (v : AV) (hv : OwnR 9 1 encS M v l) : ACalls (WC gl) 195 [v] M (fun r M' => r = B (decide (l.length ≤ 256) && l.all wordOk) ∧ M' = M) := by
  refine w_body hB Tryz.func195 rfl rfl rfl rfl rfl rfl ?_
  have hlen : lenAV Tryz.prog 37 v = some l.length := hv.len (e' := 9) (by simp)
  by_cases h1 : l.length ≤ 256
  case neg =>
    have h1' : (256 : Int) < l.length := by omega
    have h1g : (l.length : Int) > 256 := h1'
    simp (dsimp := false) (implicitDefEqProofs := false) [hlen, h1', h1g, h1]
  have h1' : ¬ (256 : Int) < l.length := by omega
  have h1g : ¬ (l.length : Int) > 256 := h1'
  simp (dsimp := false) (implicitDefEqProofs := false) [hlen, h1', h1g]
  refine w_looped hB (fun T M1 => ∃ i : Nat, i ≤ l.length ∧ M1 = M ∧ T 0 = v ∧ T 3 = I i ∧ l.all wordOk = (l.drop i).all wordOk)
    (fun T M1 => match T 3 with | .val (.int _ i) => l.length - i.toNat | _ => 0) (by kernel_rfl) ?_ ?_
  · exact ⟨0, by omega, rfl, by simp, by simp, by simp⟩
  · rintro T M1 ⟨i, i1, rfl, t0, t3, ho⟩
    by_cases hi : i < l.length
    · have hi' : (i : Int) < l.length := by omega
      have w1 := wadd1 (i := i) (by omega)
      obtain ⟨p, p1, p2⟩ := hv.at1 (P := Tryz.prog) (t := 9) (f := S) (fun _ => rfl) (by simp) (by simp) hi
      have hd : l.drop i = l[i] :: l.drop (i + 1) := List.drop_eq_getElem_cons hi
      rw [hd, List.all_cons] at ho
      simp (dsimp := false) (implicitDefEqProofs := false) [t0, t3, hlen, hi, hi', p1, p2]
      refine w_calls (inv_of Tryz.func193 rfl rfl (rWord_ok gl _ l[i] (hs _ (List.getElem_mem hi)))) ?_
      rintro _ _ ⟨rfl, rfl⟩
      cases hp : wordOk l[i]
      · rw [hp, Bool.false_and] at ho
        rw [ho, Bool.and_false]
        simp (dsimp := false) (implicitDefEqProofs := false) [t0, t3]
      · rw [hp, Bool.true_and] at ho
        simp (dsimp := false) (implicitDefEqProofs := false) [t0, t3, w1]
        exact ⟨⟨i + 1, by clear w1; omega, rfl, ho⟩, by clear w1; omega⟩
    · have hi' : ¬ (i : Int) < l.length := by omega
      rw [show l.drop i = [] from List.drop_eq_nil_of_le (by omega)] at ho
      rw [ho]
      simp (dsimp := false) (implicitDefEqProofs := false) [t0, t3, hlen, hi', h1]
/-- new texts -/
def FreshT (M : Mem) (l : List ByteArray) (v : AV) (M' : Mem) : Prop := OwnR 9 1 encS M' v l ∧ Grow M M' ∧ Later M.length v
theorem rTexts_ok (ws : List WordD) (o : Own) (hl : ws.length ≤ 300) : ACalls (WC gl) 33 [.list 4 (rowsW ws) o] M (FreshT M (textsW ws)) := by
  refine w_body (hQ [5, 19]) Tryz.func33 rfl rfl rfl rfl rfl rfl ?_
  simp (dsimp := false) (implicitDefEqProofs := false)
  refine w_looped (hQ [5, 19]) (fun T M1 => ∃ i : Nat, i ≤ ws.length ∧ T 0 = .list 4 (rowsW ws) o ∧ T 4 = I i ∧ OwnR 9 1 encS M1 (T 3) (textsW (ws.take i)) ∧ Grow M M1 ∧ Later M.length (T 3))
    (fun T M1 => match T 4 with | .val (.int _ i) => ws.length - i.toNat | _ => 0) (by kernel_rfl) ?_ ?_
  · refine ⟨0, by omega, by simp, by simp, ?_, KeepsBut.app none M _, by simp [Later]⟩
    refine .inr ⟨M.length, 0, [(0, 0)], by simp [textsW], by simp [textsW], by simp [textsW, List.lookup]⟩
  · rintro T M1 ⟨i, i1, t0, t4, hv, hg, hL⟩
    by_cases hi : i < ws.length
    · have hi' : (i : Int) < ws.length := by omega
      have w1 : IntKind.i64.wrap ((i : Int) + 1) = (i + 1 : Nat) := by rw [wrap_in (by omega) (by omega)]; omega
      generalize hT3 : T 3 = ov at *
      have ht : textsW (ws.take (i + 1)) = textsW (ws.take i) ++ [ws[i].text] := by
        rw [textsW, textsW, List.take_add_one, List.getElem?_eq_getElem hi, List.map_append]; rfl
      simp (dsimp := false) (implicitDefEqProofs := false) [t0, t4, hi, hi', hT3, WordD.row, buildSliceAV, rowsGo]
      refine push_text gl hv (by simp [textsW]; omega) rfl ?_
      intro v' M' h1 h2 h3
      obtain ⟨k1, k2⟩ := fresh_step (X := []) hg hL (by simpa using h2) (by simpa using h3)
      simp (dsimp := false) (implicitDefEqProofs := false) [t0, t4, w1]
      exact ⟨⟨i + 1, by clear w1; omega, rfl, by rw [ht]; exact h1, k1, k2⟩, by clear w1; omega⟩
    · have hi' : ¬ (i : Int) < ws.length := by omega
      rw [List.take_of_length_le (by omega)] at hv
      simp (dsimp := false) (implicitDefEqProofs := false) [t0, t4, hi', FreshT, hv, hg, hL]
theorem rRow_ok (ws : List WordD) (o : Own) (hl : ws.length ≤ 300) (hs : ∀ w ∈ ws, w.text.size ≤ maxLen) : ACalls (WC gl) 245 [.list 4 (rowsW ws) o] M (fun v M' => v = B (rowOk ws) ∧ M' = M) := by
  have key : ACalls (WC gl) 245 [.list 4 (rowsW ws) o] M (fun v M' => (∃ x, v = .val x ∧ x = .bool (rowOk ws)) ∧ Grow M M') := by
    refine w_body hB Tryz.func245 rfl rfl rfl rfl rfl rfl ?_
    by_cases h1 : ws.length ≤ 256
    · have h1' : (ws.length : Int) ≤ 256 := by omega
      simp (dsimp := false) (implicitDefEqProofs := false) [h1']
      refine w_calls (inv_of Tryz.func33 rfl rfl (rTexts_ok gl M ws o hl)) ?_
      rintro v M1 ⟨hv, hg, hL⟩
      simp (dsimp := false) (implicitDefEqProofs := false)
      refine w_calls (inv_of Tryz.func195 rfl rfl (rMay04_ok gl M1 (textsW ws) (by simp [textsW]; omega) (by simpa [textsW] using hs) v hv)) ?_
      rintro _ _ ⟨rfl, rfl⟩
      rw [all_texts]
      simp (dsimp := false) (implicitDefEqProofs := false) [rowOk, textsW, hg]
    · have h1' : ¬ (ws.length : Int) ≤ 256 := by omega
      simp (dsimp := false) (implicitDefEqProofs := false) [h1', rowOk, h1]
      exact KeepsBut.refl _ _
  exact (grow_cut (Q := fun x => x = .bool (rowOk ws)) key).mono (by rintro v M' ⟨⟨x, rfl, rfl⟩, rfl⟩; exact ⟨rfl, rfl⟩)
end
end Go.Abs
end
section
/- Contracts: kinds. -/
set_option maxRecDepth 100000
set_option linter.unusedSimpArgs false
set_option linter.unusedVariables false
namespace Go.Abs
open Go.Proofs TryTypes

def rowsZ (l : List Int) : List (List AV) := l.map fun x => [I x]
@[simp] theorem rowsZ_len (l : List Int) : (rowsZ l).length = l.length := by simp [rowsZ]
@[simp] theorem rowsZ_get {p : List Int} {i : Nat} (h : i < (rowsZ p).length) : (rowsZ p)[i] = [I (p[i]'(by simpa using h))] := by simp [rowsZ]
def belowAV : AV := .cptr (belowL.map fun l => .list 1 (rowsZ l) .no)
def namesL : List ByteArray := [⟨#[98, 111, 111, 107]⟩, ⟨#[112, 97, 114, 116]⟩, ⟨#[115, 101, 99, 116, 105, 111, 110]⟩, ⟨#[112, 97, 114, 97, 103, 114, 97, 112, 104]⟩, ⟨#[116, 97, 98, 108, 101]⟩, ⟨#[114, 111, 119]⟩, ⟨#[99, 101, 108, 108]⟩, ⟨#[110, 111, 116, 101]⟩]
def namesAV : AV := .cptr (namesL.map S)
section
variable (gl : Nat → AV) (M : Mem)
theorem indexZ_ok (l : List Int) (o : Own) (hl : l.length ≤ 1000) (x : Int) : ACalls (WC gl) 261 [.list 1 (rowsZ l) o, I x] M (fun v M' => v = I (idxL (fun y => decide (x = y)) l 0) ∧ M' = M) := by
  refine w_body hB Tryz.func261 rfl rfl rfl rfl rfl rfl ?_
  simp (dsimp := false) (implicitDefEqProofs := false)
  refine w_looped hB (fun T M1 => ∃ i : Nat, i ≤ l.length ∧ M1 = M ∧ T 0 = .list 1 (rowsZ l) o ∧ T 1 = I x ∧ T 7 = I l.length ∧ T 8 = I i ∧ idxL (fun y => decide (x = y)) l 0 = idxL (fun y => decide (x = y)) (l.drop i) i)
    (fun T M1 => match T 8 with | .val (.int _ i) => l.length - i.toNat | _ => 0) (by kernel_rfl) ?_ ?_
  · exact ⟨0, by omega, rfl, by simp, by simp, by simp, by simp, by simp⟩
  · rintro T M1 ⟨i, i1, rfl, t0, t1, t7, t8, ho⟩
    by_cases hi : i < l.length
    · have hi' : (i : Int) < l.length := by omega
      have w1 := wadd1 (i := i) (by omega)
      have hd : l.drop i = l[i] :: l.drop (i + 1) := List.drop_eq_getElem_cons hi
      rw [hd, idxL] at ho
      by_cases hp : x = l[i]
      · rw [decide_eq_true hp, if_pos rfl] at ho
        simp (dsimp := false) (implicitDefEqProofs := false) [t0, t1, t7, t8, hi, hi', hp.symm, ho]
      · rw [decide_eq_false hp, if_neg (by simp)] at ho
        simp (dsimp := false) (implicitDefEqProofs := false) [t0, t1, t7, t8, hi, hi', hp, w1]
        exact ⟨⟨i + 1, by clear w1; omega, rfl, ho⟩, by clear w1; omega⟩
    · have hi' : ¬ (i : Int) < l.length := by omega
      rw [show l.drop i = [] from List.drop_eq_nil_of_le (by omega)] at ho
      simp (dsimp := false) (implicitDefEqProofs := false) [t0, t1, t7, t8, hi', ho, idxL]
theorem containsZ_ok (l : List Int) (o : Own) (hl : l.length ≤ 1000) (x : Int) : ACalls (WC gl) 205 [.list 1 (rowsZ l) o, I x] M (fun v M' => v = B (l.contains x) ∧ M' = M) := by
  refine w_body hB Tryz.func205 rfl rfl rfl rfl rfl rfl ?_
  simp (dsimp := false) (implicitDefEqProofs := false)
  refine w_calls (inv_of Tryz.func261 rfl rfl (indexZ_ok gl M l o hl x)) ?_
  rintro _ _ ⟨rfl, rfl⟩
  have : l.contains x = l.any fun y => decide (x = y) := by
    rw [List.contains_eq_any_beq]
    congr 1
  rw [this, ← idxL_any _ l 0]
  simp (dsimp := false) (implicitDefEqProofs := false)
theorem arr242 : arr? Tryz.prog 242 = some (8, 130) := by kernel_rfl
theorem arr278 : arr? Tryz.prog 278 = some (8, 9) := by kernel_rfl
theorem idx_below {h : Hint} {d : Option Tmp} {y : Operand} {t : TypeId} {p : String} {af : Array Edge} {g : Option (Nat × Bool)} {ρ : Operand → AV} {M : Mem} {k : Int} (h0 : ρ (.global 0) = belowAV) (hy : ρ y = I k) (k0 : 0 ≤ k) (k8 : k < 8) :
    evalOp (WC gl) h ⟨d, .indexAddr 242 (.global 0) y, t, p, af, g⟩ ρ M = some (.cptr ((belowL.map fun l => AV.list 1 (rowsZ l) .no).drop k.toNat), M) := by
  simp [evalOp, evalPure, evalMem, evalMore, evalPure1, h0, hy, belowAV, arr242, k0, k8]
theorem idx_names {h : Hint} {d : Option Tmp} {y : Operand} {t : TypeId} {p : String} {af : Array Edge} {g : Option (Nat × Bool)} {ρ : Operand → AV} {M : Mem} {k : Int} (h0 : ρ (.global 1) = namesAV) (hy : ρ y = I k) (k0 : 0 ≤ k) (k8 : k < 8) :
    evalOp (WC gl) h ⟨d, .indexAddr 278 (.global 1) y, t, p, af, g⟩ ρ M = some (.cptr ((namesL.map S).drop k.toNat), M) := by
  simp [evalOp, evalPure, evalMem, evalMore, evalPure1, h0, hy, namesAV, arr278, k0, k8]
theorem nests_ok (p k : Int) : ACalls (WC gl) 106 [I p, I k] M (fun v M' => v = B (nestsB p k) ∧ M' = M) := by
  refine w_body hB Tryz.func106 rfl rfl rfl rfl rfl rfl ?_
  by_cases h0 : p = 0
  · subst h0
    have e : nestsB 0 k = (decide (k = 1) || decide (k = 2)) := by simp [nestsB, belowL]
    rw [e]
    by_cases k1 : k = 1
    · simp (dsimp := false) (implicitDefEqProofs := false) [k1]
    · simp (dsimp := false) (implicitDefEqProofs := false) [k1]
      rfl
  by_cases h1 : p = 1
  · subst h1
    have e : nestsB 1 k = decide (k = 2) := by simp [nestsB, belowL]
    rw [e]
    simp (dsimp := false) (implicitDefEqProofs := false)
    rfl
  by_cases h2 : p = 2
  · subst h2
    have e : nestsB 2 k = (decide (k = 3) || decide (k = 4) || decide (k = 7)) := by simp [nestsB, belowL, Bool.or_assoc]
    rw [e]
    by_cases k1 : k = 3
    · simp (dsimp := false) (implicitDefEqProofs := false) [k1]
    · by_cases k2 : k = 4
      · simp (dsimp := false) (implicitDefEqProofs := false) [k1, k2]
      · simp (dsimp := false) (implicitDefEqProofs := false) [k1, k2]
        rfl
  by_cases h3 : p = 3
  · subst h3
    have e : nestsB 3 k = (decide (k = 3) || decide (k = 4) || decide (k = 7)) := by simp [nestsB, belowL, Bool.or_assoc]
    rw [e]
    by_cases k1 : k = 3
    · simp (dsimp := false) (implicitDefEqProofs := false) [k1]
    · by_cases k2 : k = 4
      · simp (dsimp := false) (implicitDefEqProofs := false) [k1, k2]
      · simp (dsimp := false) (implicitDefEqProofs := false) [k1, k2]
        rfl
  by_cases h4 : p = 4
  · subst h4
    have e : nestsB 4 k = decide (k = 5) := by simp [nestsB, belowL]
    rw [e]
    simp (dsimp := false) (implicitDefEqProofs := false)
    rfl
  by_cases h5 : p = 5
  · subst h5
    have e : nestsB 5 k = decide (k = 6) := by simp [nestsB, belowL]
    rw [e]
    simp (dsimp := false) (implicitDefEqProofs := false)
    rfl
  · have e : nestsB p k = false := by
      by_cases q : 0 ≤ p ∧ p < 8
      · have : p = 6 ∨ p = 7 := by omega
        rcases this with rfl | rfl <;> simp [nestsB, belowL]
      · simp only [nestsB, Bool.and_eq_false_iff, decide_eq_false_iff_not]
        omega
    simp (dsimp := false) (implicitDefEqProofs := false) [h0, h1, h2, h3, h4, h5, e]
theorem idx_cptr {e : Option (Option Nat)} {x i : AV} {cs : List AV} (h : x = .cptr cs) : idxAV e x i = none := by subst h; unfold idxAV; split <;> simp_all
theorem canContain_ok (hg : gl 0 = belowAV) (p k : Int) : ACalls (WC gl) 152 [I p, I k] M (fun v M' => v = B (nestsB p k) ∧ M' = M) := by
  refine w_body hB Tryz.func152 rfl rfl rfl rfl rfl rfl ?_
  by_cases h0 : 0 ≤ p
  case neg =>
    have h0g : ¬ p ≥ 0 := h0
    have e : nestsB p k = false := by simp [nestsB, h0]
    simp (dsimp := false) (implicitDefEqProofs := false) [h0, h0g, e]
  have h0g : p ≥ 0 := h0
  by_cases h1 : p < 8
  case neg =>
    have e : nestsB p k = false := by simp [nestsB, h1]
    simp (dsimp := false) (implicitDefEqProofs := false) [h0, h0g, h1, e]
  have hn : ∀ e, idxAV e (gl 0) (I p) = none := fun e => idx_cptr hg
  simp (dsimp := false) (implicitDefEqProofs := false) [h0, h0g, h1, hn]
  rw [idx_below gl (k := p) (by exact hg) (by rfl) h0 h1]
  have hlt : p.toNat < belowL.length := by show p.toNat < 8; omega
  have hd : (belowL.map fun l => AV.list 1 (rowsZ l) .no).drop p.toNat = .list 1 (rowsZ belowL[p.toNat]) .no :: (belowL.map fun l => AV.list 1 (rowsZ l) .no).drop (p.toNat + 1) := by
    rw [List.drop_eq_getElem_cons (by simpa using hlt), List.getElem_map]
  have hsmall : ∀ l ∈ belowL, l.length ≤ 1000 := by decide
  have e : nestsB p k = belowL[p.toNat].contains k := by simp only [nestsB, decide_eq_true h0, decide_eq_true h1, Bool.true_and, List.getD_eq_getElem?_getD, List.getElem?_eq_getElem hlt, Option.getD_some]
  rw [e]
  simp (dsimp := false) (implicitDefEqProofs := false) [hd]
  refine w_calls (inv_of Tryz.func205 rfl rfl (containsZ_ok gl M _ .no (hsmall _ (List.getElem_mem hlt)) k)) ?_
  rintro _ _ ⟨rfl, rfl⟩
  simp (dsimp := false) (implicitDefEqProofs := false)
def kindName (k : Int) : ByteArray := if 0 ≤ k ∧ k < 8 then namesL.getD k.toNat .empty else ⟨#[]⟩
theorem kindName_empty (k : Int) : kindName k = ⟨#[]⟩ ↔ ¬ (0 ≤ k ∧ k < 8) := by
  unfold kindName
  constructor
  · intro h hk
    rw [if_pos hk] at h
    have : ∀ i : Fin 8, namesL.getD i.val .empty ≠ ⟨#[]⟩ := by decide
    exact this ⟨k.toNat, by omega⟩ h
  · intro h; rw [if_neg h]
theorem kindName_ok (hg : gl 1 = namesAV) (k : Int) : ACalls (WC gl) 207 [I k] M (fun v M' => v = S (kindName k) ∧ M' = M) := by
  refine w_body hB Tryz.func207 rfl rfl rfl rfl rfl rfl ?_
  by_cases h0 : k < 0
  · have e : kindName k = ⟨#[]⟩ := (kindName_empty k).2 (by omega)
    simp (dsimp := false) (implicitDefEqProofs := false) [h0, e]
  by_cases h1 : 8 ≤ k
  · have h1g : k ≥ 8 := h1
    have e : kindName k = ⟨#[]⟩ := (kindName_empty k).2 (by omega)
    simp (dsimp := false) (implicitDefEqProofs := false) [h0, h1, h1g, e]
  have h1g : ¬ k ≥ 8 := h1
  have hn : ∀ e, idxAV e (gl 1) (I k) = none := fun e => idx_cptr hg
  simp (dsimp := false) (implicitDefEqProofs := false) [h0, h1, h1g, hn]
  rw [idx_names gl (k := k) (by exact hg) (by rfl) (by omega) (by omega)]
  have hlt : k.toNat < namesL.length := by show k.toNat < 8; omega
  have hd : (namesL.map S).drop k.toNat = S namesL[k.toNat] :: (namesL.map S).drop (k.toNat + 1) := by
    rw [List.drop_eq_getElem_cons (by simpa using hlt), List.getElem_map]
  have e : kindName k = namesL[k.toNat] := by rw [kindName, if_pos (by omega), List.getD_eq_getElem?_getD, List.getElem?_eq_getElem hlt]; rfl
  rw [e]
  simp (dsimp := false) (implicitDefEqProofs := false) [hd]
end
end Go.Abs
end
section
/- Contracts: the simp (dsimp := false) (implicitDefEqProofs := false) over a tree; what a unit must be by itself (both ways). -/
set_option maxRecDepth 100000
set_option linter.unusedSimpArgs false
set_option linter.unusedVariables false
namespace Go.Abs
open Go.Proofs TryTypes

mutual
/-- the simp (dsimp := false) (implicitDefEqProofs := false) in document order, stopped by a visit that answers false -/
def everyF {A : Type} (p : UnitD → Bool) (stp : A → UnitD → A) : UnitD → A → Bool × A
  | .mk id k l h w ks, a => if p (.mk id k l h w ks) then everyFL p stp ks (stp a (.mk id k l h w ks)) else (false, stp a (.mk id k l h w ks))
def everyFL {A : Type} (p : UnitD → Bool) (stp : A → UnitD → A) : List UnitD → A → Bool × A
  | [], a => (true, a)
  | u :: l, a => if (everyF p stp u a).1 then everyFL p stp l (everyF p stp u a).2 else (false, (everyF p stp u a).2)
end
section
variable (gl : Nat → AV)
theorem every_ok {A : Type} (fid : FuncId) (first cap : List AV) (p : UnitD → Bool) (stp : A → UnitD → A) (J : Mem → A → Prop) (G : UnitD → Prop) (hG : ∀ u, G u → u.good ∧ ∀ k ∈ u.kids, G k) (hJ : ∀ M a X, J M a → J (M ++ [.cells 27 X]) a)
    (hv : ∀ u a M, G u → J M a → Invk (WC gl) fid (first ++ .agg u.row :: cap) M (fun v M' => v = B (p u) ∧ J M' (stp a u))) :
    ∀ (u : UnitD) (a : A) (M : Mem), G u → J M a → ACalls (WC gl) 86 [.agg u.row, .func (.func fid) first cap] M (fun v M' => v = B (everyF p stp u a).1 ∧ J M' (everyF p stp u a).2)
  | .mk id kind lab hd ws ks, a, M, hg, hj => by
    obtain ⟨hgood, hkg⟩ := hG _ hg
    obtain ⟨_, _, _, _, _, _, _, hk, _⟩ := (UnitD.good_iff _).1 hgood
    have hk' : ks.length ≤ 9223372036854775807 := hk
    have hrow : (UnitD.mk id kind lab hd ws ks).row = [I id.act, I id.item, I id.n, I kind, S lab, .list 4 (rowsW hd) .no, .list 4 (rowsW ws) .no, .list 8 (rowsU ks) .no] := by rw [UnitD.row]
    have hev : everyF p stp (.mk id kind lab hd ws ks) a = if p (.mk id kind lab hd ws ks) then everyFL p stp ks (stp a (.mk id kind lab hd ws ks)) else (false, stp a (.mk id kind lab hd ws ks)) := by rw [everyF]
    have hv0 := hv _ a M hg hj
    rw [hrow] at hv0 ⊢
    refine w_body hW Tryz.func86 rfl rfl rfl rfl rfl rfl ?_
    simp (dsimp := false) (implicitDefEqProofs := false)
    refine w_calls hv0 ?_
    rintro _ M1 ⟨rfl, hj1⟩
    cases hp : p (.mk id kind lab hd ws ks)
    case false =>
      rw [hp, if_neg (by simp)] at hev
      rw [hev]
      simp (dsimp := false) (implicitDefEqProofs := false) [hj1]
    rw [hp, if_pos rfl] at hev
    rw [hev]
    generalize stp a (.mk id kind lab hd ws ks) = a1 at *
    simp (dsimp := false) (implicitDefEqProofs := false)
    refine w_looped hW (fun T M1 => ∃ i : Nat, i ≤ ks.length ∧ T 1 = .func (.func fid) first cap ∧ T 12 = .list 8 (rowsU ks) .no ∧ T 13 = I ks.length ∧ T 14 = I i ∧ ∃ a2, J M1 a2 ∧ everyFL p stp ks a1 = everyFL p stp (ks.drop i) a2)
      (fun T M1 => match T 14 with | .val (.int _ i) => ks.length - i.toNat | _ => 0) (by kernel_rfl) ?_ ?_
    · exact ⟨0, by omega, by simp, by simp, by simp, by simp, a1, hj1, by simp⟩
    · rintro T M2 ⟨i, i1, t1, t12, t13, t14, a2, hj2, ho⟩
      by_cases hi : i < ks.length
      · have hi' : (i : Int) < ks.length := by omega
        have w1 : IntKind.i64.wrap ((i : Int) + 1) = (i + 1 : Nat) := by rw [wrap_in (by omega) (by omega)]; omega
        have hmem : ks[i] ∈ ks := List.getElem_mem hi
        have hd2 : ks.drop i = ks[i] :: ks.drop (i + 1) := List.drop_eq_getElem_cons hi
        rw [hd2, everyFL] at ho
        have hMX : (M2 ++ [AObj.cells 27 ks[i].row])[M2.length]? = some (AObj.cells 27 ks[i].row) := by simp
        simp (dsimp := false) (implicitDefEqProofs := false) [t1, t12, t13, t14, hi, hi', allocAV, storeAV, overwrite, AV.storable, AV.cells, loadAV_ptr hMX]
        have := UnitD.kid_lt (u := .mk id kind lab hd ws ks) hmem
        refine w_calls (inv_of Tryz.func86 rfl rfl (every_ok fid first cap p stp J G hG hJ hv ks[i] a2 _ (hkg _ hmem) (hJ _ _ _ hj2))) ?_
        rintro _ M3 ⟨rfl, hj3⟩
        cases hp : (everyF p stp ks[i] a2).1
        · rw [hp, if_neg (by simp)] at ho
          rw [ho]
          simp (dsimp := false) (implicitDefEqProofs := false) [t1, t12, t13, t14, hj3]
        · rw [hp, if_pos rfl] at ho
          simp (dsimp := false) (implicitDefEqProofs := false) [t1, t12, t13, t14, w1]
          exact ⟨⟨i + 1, by clear w1; omega, rfl, _, hj3, ho⟩, by clear w1; omega⟩
      · have hi' : ¬ (i : Int) < ks.length := by omega
        rw [show ks.drop i = [] from List.drop_eq_nil_of_le (by omega), everyFL] at ho
        rw [ho]
        simp (dsimp := false) (implicitDefEqProofs := false) [t1, t12, t13, t14, hi', hj2]
termination_by u => SizeOf.sizeOf u
end
end Go.Abs
end
section
/- Contracts: a unit by itself (the program's). -/
set_option maxRecDepth 100000
set_option linter.unusedSimpArgs false
set_option linter.unusedVariables false
namespace Go.Abs
open Go.Proofs TryTypes

abbrev encCall (x : Int × ByteArray) : AV := .agg [I x.1, S x.2]
abbrev encId (x : IdD) : AV := .agg x.row
theorem stood247 : Tryz.prog.stoodInHeld 247 = false := by kernel_rfl
theorem stood23 : Tryz.prog.stoodInHeld 23 = false := by kernel_rfl
theorem data_eq {a b : ByteArray} : (a.data == b.data) = decide (a = b) := by
  by_cases h : a = b
  · subst h; simp
  · rw [decide_eq_false h]
    refine beq_eq_false_iff_ne.2 fun e => h ?_
    cases a; cases b; simp only at e; rw [e]
theorem ba_refl (a : ByteArray) : (a == a) = true := by
  show (a.data == a.data) = true
  simp
theorem ibeq {x y : Int} (h : ¬ x = y) : (x == y) = false := beq_eq_false_iff_ne.2 h
theorem keyCalled : KeyOK Tryz.prog 245 247 4 encCall := by
  refine ⟨by kernel_rfl, by kernel_rfl, fun k => ?_, fun a b => ?_, fun a => ⟨.agg #[.int .i64 a.1, .string a.2], by simp [plainAV], ?_⟩⟩
  · simp [checkAV, loadCells_row, Tryz.underlying247]
  · obtain ⟨x, s⟩ := a
    obtain ⟨y, t⟩ := b
    simp [eqAV, eqFieldsAV, loadCells_row, stood247]
    rw [data_eq]
    by_cases h1 : x = y
    · subst h1
      by_cases h2 : s = t
      · subst h2; simp
      · simp [h2]
    · simp [h1, ibeq h1]
  · simp [Instr.sameBits, ba_refl]
theorem keyId (t e : TypeId) (hkv : mapKV? Tryz.prog t = some (23, e)) : KeyOK Tryz.prog t 23 e encId := by
  refine ⟨hkv, by kernel_rfl, fun k => ?_, fun a b => ?_, fun a => ⟨.agg #[.int .i64 a.act, .int .i64 a.item, .int .i64 a.n], by simp [plainAV, IdD.row], ?_⟩⟩
  · simp [checkAV, loadCells_row, IdD.row]
  · obtain ⟨x, y, z⟩ := a
    obtain ⟨x', y', z'⟩ := b
    simp [eqAV, eqFieldsAV, loadCells_row, stood23, IdD.row]
    by_cases h1 : x = x'
    · subst h1
      by_cases h2 : y = y'
      · subst h2
        by_cases h3 : z = z'
        · subst h3; simp
        · simp [h3, ibeq h3]
      · simp [h2, ibeq h2]
    · simp [h1, ibeq h1]
  · simp [Instr.sameBits]
theorem keyInt (t e : TypeId) (hkv : mapKV? Tryz.prog t = some (3, e)) : KeyOK Tryz.prog t 3 e I := by
  refine ⟨hkv, by kernel_rfl, fun k => ?_, fun a b => ?_, fun a => ⟨.int .i64 a, by simp [plainAV], ?_⟩⟩
  · simp [checkAV]
  · simp [eqAV]
    by_cases h1 : a = b
    · subst h1; simp
    · simp [h1]
  · simp [Instr.sameBits]
@[simp] theorem build247 {a : Int} {b : ByteArray} : buildAV Tryz.prog 247 [(0, I a), (1, S b)] = some (.agg [I a, S b]) := by
  simp [buildAV, buildGo, putCells, overwrite]
@[simp] theorem build23 : buildAV Tryz.prog 23 [] = some (.agg [I 0, I 0, I 0]) := by
  simp [buildAV, buildGo]
theorem getL_seen {K : Type} [DecidableEq K] (c : K) : ∀ seen : List K, getL (seen.map fun x => (x, true)) c = if (seen.any fun y => decide (y = c)) then some true else none
  | [] => rfl
  | x :: l => by
    rw [List.map_cons, getL, List.any_cons]
    by_cases h : c = x
    · subst h; simp
    · rw [if_neg h, decide_eq_false (fun e => h e.symm), Bool.false_or]; exact getL_seen c l
theorem putL_seen {K : Type} [DecidableEq K] (c : K) : ∀ seen : List K, (seen.any fun y => decide (y = c)) = false → putL (seen.map fun x => (x, true)) c true = (seen ++ [c]).map fun x => (x, true)
  | [], _ => rfl
  | x :: l, h => by
    rw [List.any_cons, Bool.or_eq_false_iff] at h
    have h1 : ¬ c = x := fun e => by subst e; simp at h
    rw [List.map_cons, putL, if_neg h1, putL_seen c l h.2]; rfl
def ownP (u : UnitD) : Bool := if u.kind = 0 then decide (u.label.size = 0) && decide (u.head.length + u.words.length = 0) else decide (0 ≤ u.kind ∧ u.kind < 8) && labelOk u.label && rowOk u.head && rowOk u.words
def kidsP (kind : Int) : List UnitD → List (Int × ByteArray) → Bool
  | [], _ => true
  | k :: ks, seen => nestsB kind k.kind && !(seen.any fun y => decide (y = (k.kind, k.label))) && kidsP kind ks (seen ++ [(k.kind, k.label)])
def aloneP (u : UnitD) : Bool := ownP u && kidsP u.kind u.kids [] && decide (u.kids.length ≤ 64)
/-- small enough for the walks -/
def UnitD.lim (u : UnitD) : Prop := u.head.length ≤ 300 ∧ u.words.length ≤ 300 ∧ u.kids.length ≤ 1000 ∧ u.label.size ≤ 1000
section
variable (gl : Nat → AV) (M : Mem)
set_option maxHeartbeats 1000000 in
theorem alone_ok (hg0 : gl 0 = belowAV) (hg1 : gl 1 = namesAV) (u : UnitD) (hg : u.good) (hl : u.lim) : ACalls (WC gl) 156 [.agg u.row] M (fun v M' => v = B (aloneP u) ∧ Grow M M') := by
  obtain ⟨id, kind, lab, hd, ws, ks⟩ := u
  obtain ⟨_, _, _, _, hhg, _, hwg, _, hkg⟩ := (UnitD.good_iff _).1 hg
  obtain ⟨hl1, hl2, hl3, hl4⟩ := hl
  have hl1 : hd.length ≤ 300 := hl1
  have hl2 : ws.length ≤ 300 := hl2
  have hl3 : ks.length ≤ 1000 := hl3
  have hl4 : lab.size ≤ 1000 := hl4
  have hrow : (UnitD.mk id kind lab hd ws ks).row = [I id.act, I id.item, I id.n, I kind, S lab, .list 4 (rowsW hd) .no, .list 4 (rowsW ws) .no, .list 8 (rowsU ks) .no] := by rw [UnitD.row]
  have hal : aloneP (.mk id kind lab hd ws ks) = (ownP (.mk id kind lab hd ws ks) && kidsP kind ks [] && decide (ks.length ≤ 64)) := rfl
  have how : ownP (.mk id kind lab hd ws ks) = if kind = 0 then decide (lab.size = 0) && decide (hd.length + ws.length = 0) else decide (0 ≤ kind ∧ kind < 8) && labelOk lab && rowOk hd && rowOk ws := rfl
  rw [hrow]
  obtain ⟨R, hR⟩ : ∃ R, R = aloneP (.mk id kind lab hd ws ks) := ⟨_, rfl⟩
  rw [← hR]
  have hfalse : ownP (.mk id kind lab hd ws ks) = false → R = false := fun h => by rw [hR, hal, h]; rfl
  refine w_body hW Tryz.func156 rfl rfl rfl rfl rfl rfl ?_
  by_cases k0 : kind = 0
  case' pos =>
    rw [if_pos k0] at how
    by_cases h1 : lab = ⟨#[]⟩
    case neg =>
      have h1' : ¬ lab.size = 0 := fun e => h1 (ba_empty.2 e)
      have := hfalse (by rw [how, decide_eq_false h1', Bool.false_and])
      simp (dsimp := false) (implicitDefEqProofs := false) [eq_true k0, h1, this, KeepsBut.refl]
    have h1' : lab.size = 0 := ba_empty.1 h1
    have wz : IntKind.i64.wrap ((hd.length : Int) + (ws.length : Int)) = (hd.length : Int) + (ws.length : Int) := wrap_in (by omega) (by omega)
    by_cases h2 : hd.length + ws.length = 0
    case neg =>
      have h2' : (0 : Int) < (hd.length : Int) + (ws.length : Int) := by omega
      have h2g : (hd.length : Int) + (ws.length : Int) > 0 := h2'
      have := hfalse (by rw [how, decide_eq_false h2, Bool.and_false])
      simp (dsimp := false) (implicitDefEqProofs := false) [eq_true k0, eq_true h1, wz, h2', h2g, this, KeepsBut.refl]
    have h2' : ¬ (0 : Int) < (hd.length : Int) + (ws.length : Int) := by omega
    have h2g : ¬ (hd.length : Int) + (ws.length : Int) > 0 := h2'
    have hown : ownP (.mk id kind lab hd ws ks) = true := by rw [how, decide_eq_true h1', decide_eq_true h2]; rfl
    have hM1 : Grow M M := KeepsBut.refl _ _
    simp (dsimp := false) (implicitDefEqProofs := false) [eq_true k0, eq_true h1, wz, h2', h2g]
  case' neg =>
    rw [if_neg k0] at how
    by_cases h1 : 0 ≤ kind ∧ kind < 8
    case neg =>
      have e : kindName kind = ⟨#[]⟩ := (kindName_empty kind).2 h1
      have := hfalse (by rw [how, decide_eq_false h1]; rfl)
      simp (dsimp := false) (implicitDefEqProofs := false) [k0]
      refine w_calls (inv_of Tryz.func207 rfl rfl (kindName_ok gl M hg1 kind)) ?_
      rintro _ _ ⟨rfl, rfl⟩
      simp (dsimp := false) (implicitDefEqProofs := false) [e, this, KeepsBut.refl]
    have e : ¬ kindName kind = ⟨#[]⟩ := fun q => (kindName_empty kind).1 q h1
    rw [decide_eq_true h1, Bool.true_and] at how
    simp (dsimp := false) (implicitDefEqProofs := false) [k0]
    refine w_calls (inv_of Tryz.func207 rfl rfl (kindName_ok gl M hg1 kind)) ?_
    rintro _ M0 ⟨rfl, rfl⟩
    simp (dsimp := false) (implicitDefEqProofs := false) [e]
    refine w_calls (inv_of Tryz.func112 rfl rfl (Valid_ok gl M0 lab)) ?_
    rintro _ M ⟨rfl, hM1⟩
    cases h2 : labelOk lab
    case false =>
      have := hfalse (by rw [how, h2]; rfl)
      simp (dsimp := false) (implicitDefEqProofs := false) [this, hM1]
    rw [h2, Bool.true_and] at how
    simp (dsimp := false) (implicitDefEqProofs := false)
    refine w_calls (inv_of Tryz.func208 rfl rfl (row_ok gl M hd .no hl1 (fun w hw => (hhg w hw).1))) ?_
    rintro _ M ⟨rfl, rfl⟩
    cases h3 : rowOk hd
    case false =>
      have := hfalse (by rw [how, h3]; rfl)
      simp (dsimp := false) (implicitDefEqProofs := false) [this, hM1]
    rw [h3, Bool.true_and] at how
    simp (dsimp := false) (implicitDefEqProofs := false)
    refine w_calls (inv_of Tryz.func208 rfl rfl (row_ok gl M ws .no hl2 (fun w hw => (hwg w hw).1))) ?_
    rintro _ M ⟨rfl, rfl⟩
    cases h4 : rowOk ws
    case false =>
      have := hfalse (by rw [how, h4])
      simp (dsimp := false) (implicitDefEqProofs := false) [this, hM1]
    have hown : ownP (.mk id kind lab hd ws ks) = true := by rw [how, h4]
    simp (dsimp := false) (implicitDefEqProofs := false)
  all_goals
    have hR2 : R = (kidsP kind ks [] && decide (ks.length ≤ 64)) := by rw [hR, hal, hown, Bool.true_and]
    have hgm := fun {X : Mem} (h : Grow M X) => hM1.trans h
    clear hfalse hal how hR hown
    refine w_looped hW (fun T M1 => ∃ i : Nat, i ≤ ks.length ∧ T 1 = .cptr [I id.act, I id.item, I id.n, I kind, S lab, .list 4 (rowsW hd) .no, .list 4 (rowsW ws) .no, .list 8 (rowsU ks) .no] ∧ T 3 = .mapr M.length ∧ T 47 = .list 8 (rowsU ks) .no ∧ T 48 = I ks.length ∧ T 49 = I i ∧ Grow M M1 ∧
        ∃ seen, MapAt encCall B M1 M.length (seen.map fun x => (x, true)) ∧ kidsP kind ks [] = kidsP kind (ks.drop i) seen)
      (fun T M1 => match T 49 with | .val (.int _ i) => ks.length - i.toNat | _ => 0) (by kernel_rfl) ?_ ?_
    · exact ⟨0, by omega, by simp, by simp, by simp, by simp, by simp, KeepsBut.app none M _, [], MapAt.new M, by simp⟩
    · rintro T M2 ⟨i, i1, t1, t3, t47, t48, t49, hg2, seen, hmap, ho⟩
      by_cases hi : i < ks.length
      · have hi' : (i : Int) < ks.length := by omega
        have w1 := wadd1 (i := i) (by omega)
        have hd2 : ks.drop i = ks[i] :: ks.drop (i + 1) := List.drop_eq_getElem_cons hi
        rw [hd2, kidsP] at ho
        obtain ⟨X, hX⟩ : ∃ X, X = ks[i] := ⟨_, rfl⟩
        have hXr : ks[i].row = [I X.id.act, I X.id.item, I X.id.n, I X.kind, S X.label, .list 4 (rowsW X.head) .no, .list 4 (rowsW X.words) .no, .list 8 (rowsU X.kids) .no] := by rw [← hX]; exact X.row_eq
        rw [← hX] at ho
        have hMX : (M2 ++ [AObj.cells 27 [I X.id.act, I X.id.item, I X.id.n, I X.kind, S X.label, .list 4 (rowsW X.head) .no, .list 4 (rowsW X.words) .no, .list 8 (rowsU X.kids) .no]])[M2.length]? = some (AObj.cells 27 [I X.id.act, I X.id.item, I X.id.n, I X.kind, S X.label, .list 4 (rowsW X.head) .no, .list 4 (rowsW X.words) .no, .list 8 (rowsU X.kids) .no]) := by simp
        simp (dsimp := false) (implicitDefEqProofs := false) [t1, t3, t47, t48, t49, hi, hi', allocAV, storeAV, overwrite, AV.storable, AV.cells, hXr, loadAV_ptr hMX]
        obtain ⟨c, hc⟩ : ∃ c : Int × ByteArray, c = (X.kind, X.label) := ⟨_, rfl⟩
        have hcv : AV.agg [I X.kind, S X.label] = encCall c := by rw [hc]
        generalize hM3 : M2 ++ [AObj.cells 27 [I X.id.act, I X.id.item, I X.id.n, I X.kind, S X.label, .list 4 (rowsW X.head) .no, .list 4 (rowsW X.words) .no, .list 8 (rowsU X.kids) .no], AObj.cells 247 [I X.kind, S X.label]] = M3
        have hMc : M3[M2.length + 1]? = some (AObj.cells 247 [I X.kind, S X.label]) := by rw [← hM3]; simp
        have hMX' : M3[M2.length]? = some (AObj.cells 27 [I X.id.act, I X.id.item, I X.id.n, I X.kind, S X.label, .list 4 (rowsW X.head) .no, .list 4 (rowsW X.words) .no, .list 8 (rowsU X.kids) .no]) := by rw [← hM3]; simp
        have hg3 : Grow M2 M3 := by rw [← hM3]; exact KeepsBut.app none _ _
        have hmap3 := hmap.keep hg3 (by simp)
        have hgM3 := hg2.trans hg3
        clear hM3 hMX
        simp (dsimp := false) (implicitDefEqProofs := false) [t1, loadAV_ptr hMX']
        refine w_calls (inv_of Tryz.func152 rfl rfl (canContain_ok gl M3 hg0 kind X.kind)) ?_
        rintro _ _ ⟨rfl, rfl⟩
        cases hn : nestsB kind X.kind
        case false =>
          rw [hn, Bool.false_and, Bool.false_and] at ho
          rw [ho, Bool.false_and] at hR2
          simp (dsimp := false) (implicitDefEqProofs := false) [t1, hR2, hgm hgM3]
        rw [hn, Bool.true_and] at ho
        have hget := hmap3.get keyCalled c (z := B false) (by kernel_rfl) false
        rw [← hcv] at hget
        rw [getL_seen] at hget
        rw [← hc] at ho
        simp (dsimp := false) (implicitDefEqProofs := false) [t3, loadAV_ptr hMc, hget]
        cases hs : seen.any fun y => decide (y = c)
        case true =>
          rw [hs, Bool.not_true, Bool.false_and] at ho
          rw [ho, Bool.false_and] at hR2
          simp (dsimp := false) (implicitDefEqProofs := false) [t1, hR2, hgm hgM3]
        rw [hs, Bool.not_false, Bool.true_and] at ho
        obtain ⟨M4, p1, p2, p3⟩ := hmap3.put keyCalled c true
        rw [putL_seen c seen hs] at p2
        rw [← hcv] at p1
        have hg4 : Grow M M4 := by
          refine ⟨Nat.le_trans hgM3.1 p3.1, fun j hj _ => ?_⟩
          rw [p3.2 j (by have := hgM3.1; omega) (by simp; omega)]; exact hgM3.2 j hj (by simp)
        simp (dsimp := false) (implicitDefEqProofs := false) [t3, loadAV_ptr hMc, p1, t1, t47, t48, t49, w1]
        exact ⟨⟨i + 1, by clear w1; omega, rfl, hg4, seen ++ [c], p2, ho⟩, by clear w1; omega⟩
      · have hi' : ¬ (i : Int) < ks.length := by omega
        rw [show ks.drop i = [] from List.drop_eq_nil_of_le (by omega), kidsP] at ho
        rw [ho, Bool.true_and] at hR2
        by_cases h64 : ks.length ≤ 64
        · have h64' : (ks.length : Int) ≤ 64 := by omega
          rw [decide_eq_true h64] at hR2
          simp (dsimp := false) (implicitDefEqProofs := false) [t1, t47, t48, t49, hi', h64', hR2, hgm hg2]
        · have h64' : ¬ (ks.length : Int) ≤ 64 := by omega
          rw [decide_eq_false h64] at hR2
          simp (dsimp := false) (implicitDefEqProofs := false) [t1, t47, t48, t49, hi', h64', hR2, hgm hg2]
end
end Go.Abs
end
