/- The texts CyE, CyF, CyG, CyH, CyI, CyJ, CyK: what each proves stands at its head. -/
import Derived.Test.YtmpdkagfplajjaaGreatDoorG20
import Derived.Laws.RangeAny
import Derived.Laws.RangeString
section
/- Contracts: labels. -/
set_option maxRecDepth 100000
set_option linter.unusedSimpArgs false
set_option linter.unusedVariables false
namespace Go.Abs
open Go.Proofs TryTypes

/-- the first place from i on whose byte passes -/
def scanB (p : Int → Bool) (s : ByteArray) : Nat → Nat → Int
  | 0, _ => -1
  | n + 1, i => if p (byteAt s i) then i else scanB p s n (i + 1)
def outOf (lo hi : Int) (c : Int) : Bool := decide (c < lo) || decide (c > hi)
theorem byteAt_get (s : ByteArray) (i : Nat) (h : i < s.size) : byteAt s i = ((s[i]'h).toNat : Int) := by
  have h' : i < s.data.size := h
  simp only [byteAt, Array.getD_eq_getD_getElem?, Array.getElem?_eq_getElem h', Option.getD_some]
  rfl

theorem decode_out {lo hi : Int} (hlo : 0 < lo) (hhi : hi < 128) (s : ByteArray) (pos : Nat) (hp : pos < s.size) :
    outOf lo hi ((Utf8.decode s pos).1 : Int) = outOf lo hi (byteAt s pos) ∧ (outOf lo hi (byteAt s pos) = false → (Utf8.decode s pos).2 = 1) := by
  rw [byteAt_get s pos hp]
  by_cases ha : (s[pos]'hp).toNat < 128
  · rw [decode_ascii s pos hp ha]; exact ⟨rfl, fun _ => rfl⟩
  · have := decode_high s pos hp (by omega)
    have e1 : outOf lo hi ((Utf8.decode s pos).1 : Int) = true := by
      have : ((Utf8.decode s pos).1 : Int) > hi := by omega
      simp [outOf, this]
    have e2 : outOf lo hi ((s[pos]'hp).toNat : Int) = true := by
      have : ((s[pos]'hp).toNat : Int) > hi := by omega
      simp [outOf, this]
    rw [e1, e2]; exact ⟨rfl, fun e => by simp at e⟩
section
variable (gl : Nat → AV) (M : Mem)
theorem odd211 (c : Int) : ACalls (WC gl) 211 [.val (.int .i32 c)] M (fun v M' => v = B (outOf 48 57 c) ∧ M' = M) := by
  refine w_body hB Tryz.func211 rfl rfl rfl rfl rfl rfl ?_
  by_cases h1 : c < 48
  · simp (dsimp := false) (implicitDefEqProofs := false) [outOf, h1]
  · simp (dsimp := false) (implicitDefEqProofs := false) [outOf, h1]
theorem odd162 (c : Int) : ACalls (WC gl) 162 [.val (.int .i32 c)] M (fun v M' => v = B (outOf 65 90 c) ∧ M' = M) := by
  refine w_body hB Tryz.func162 rfl rfl rfl rfl rfl rfl ?_
  by_cases h1 : c < 65
  · simp (dsimp := false) (implicitDefEqProofs := false) [outOf, h1]
  · simp (dsimp := false) (implicitDefEqProofs := false) [outOf, h1]
def Grow (M M' : Mem) : Prop := KeepsBut none M M'

theorem indexFunc_ok (g : FuncId) (lo hi : Int) (hlo : 0 < lo) (hhi : hi < 128) (s : ByteArray) (hg : ∀ M c, Invk (WC gl) g [.val (.int .i32 c)] M (fun v M' => v = B (outOf lo hi c) ∧ M' = M)) :
    ACalls (WC gl) 264 [S s, .func (.func g) [] [], B true] M (fun v M' => v = I (scanB (outOf lo hi) s s.size 0) ∧ Grow M M') := by
  refine w_body hB Tryz.func264 rfl rfl rfl rfl rfl rfl ?_
  simp (dsimp := false) (implicitDefEqProofs := false) [rangeAV]
  refine w_looped hB (fun T M1 => ∃ pos, pos ≤ s.size ∧ M1 = M ++ [.siter s pos] ∧ T 1 = .func (.func g) [] [] ∧ T 2 = B true ∧ T 10 = .ptr M.length 0 ∧ scanB (outOf lo hi) s s.size 0 = scanB (outOf lo hi) s (s.size - pos) pos)
    (fun T M1 => match M1[M.length]? with | some (.siter _ pos) => s.size - pos | _ => 0) (by kernel_rfl) ?_ ?_
  · refine ⟨0, ?_⟩
    simp (dsimp := false) (implicitDefEqProofs := false)
  · rintro T M1 ⟨pos, h1, rfl, h2, h3, h4, h5⟩
    by_cases hp : pos < s.size
    · have hn : nextAV (.ptr M.length 0) (M ++ [.siter s pos]) = some (.tuple [.val (.bool true), .val (goInt pos), .val (.int .i32 (Utf8.decode s pos).1)], M ++ [.siter s (pos + (Utf8.decode s pos).2)]) := by
        simp [nextAV, hp]
      have hsc : scanB (outOf lo hi) s (s.size - pos) pos = if outOf lo hi (byteAt s pos) then (pos : Int) else scanB (outOf lo hi) s (s.size - (pos + 1)) (pos + 1) := by
        have : s.size - pos = (s.size - (pos + 1)) + 1 := by omega
        rw [this]; rfl
      obtain ⟨hd1, hd2⟩ := decode_out hlo hhi s pos hp
      have hpn : ((Utf8.decode s pos).1 : Int) = ((Utf8.decode s pos).1 : Nat) := rfl
      simp (dsimp := false) (implicitDefEqProofs := false) [h2, h3, h4, hn]
      refine w_calls (hg _ _) ?_
      rintro r M' ⟨rfl, rfl⟩
      cases hb : outOf lo hi ((Utf8.decode s pos).1 : Int)
      · rw [hd1] at hb
        have hd := hd2 hb
        simp (dsimp := false) (implicitDefEqProofs := false) [h2, h3, h4, hd]
        refine ⟨⟨pos + 1, by omega, rfl, by rw [h5, hsc, hb]; rfl⟩, ?_⟩
        omega
      · rw [hd1] at hb
        simp (dsimp := false) (implicitDefEqProofs := false) [h2, h3, h4]
        refine ⟨?_, .app _ _ _⟩
        rw [h5, hsc, hb]
        rfl
    · have hn : nextAV (.ptr M.length 0) (M ++ [.siter s pos]) = some (.tuple [.val (.bool false)], M ++ [.siter s pos]) := by
        simp [nextAV, hp]
      simp (dsimp := false) (implicitDefEqProofs := false) [h2, h3, h4, hn]
      refine ⟨?_, .app _ _ _⟩
      rw [h5, show s.size - pos = 0 by omega]
      rfl

theorem IndexFunc_ok (g : FuncId) (lo hi : Int) (hlo : 0 < lo) (hhi : hi < 128) (s : ByteArray) (hg : ∀ M c, Invk (WC gl) g [.val (.int .i32 c)] M (fun v M' => v = B (outOf lo hi c) ∧ M' = M)) :
    ACalls (WC gl) 210 [S s, .func (.func g) [] []] M (fun v M' => v = I (scanB (outOf lo hi) s s.size 0) ∧ Grow M M') := by
  refine w_body hB Tryz.func210 rfl rfl rfl rfl rfl rfl ?_
  simp (dsimp := false) (implicitDefEqProofs := false)
  refine w_calls (inv_of Tryz.func264 rfl rfl (indexFunc_ok gl M g lo hi hlo hhi s hg)) ?_
  rintro r M' ⟨rfl, hgr⟩
  simp (dsimp := false) (implicitDefEqProofs := false) [hgr]
theorem ContainsFunc_ok (g : FuncId) (lo hi : Int) (hlo : 0 < lo) (hhi : hi < 128) (s : ByteArray) (hg : ∀ M c, Invk (WC gl) g [.val (.int .i32 c)] M (fun v M' => v = B (outOf lo hi c) ∧ M' = M)) :
    ACalls (WC gl) 163 [S s, .func (.func g) [] []] M (fun v M' => v = B (decide (0 ≤ scanB (outOf lo hi) s s.size 0)) ∧ Grow M M') := by
  refine w_body hB Tryz.func163 rfl rfl rfl rfl rfl rfl ?_
  simp (dsimp := false) (implicitDefEqProofs := false)
  refine w_calls (inv_of Tryz.func210 rfl rfl (IndexFunc_ok gl M g lo hi hlo hhi s hg)) ?_
  rintro r M' ⟨rfl, hgr⟩
  simp (dsimp := false) (implicitDefEqProofs := false) [hgr]
theorem scanB_range (p : Int → Bool) (s : ByteArray) : ∀ n i, scanB p s n i = -1 ∨ ((i : Int) ≤ scanB p s n i ∧ scanB p s n i < i + n)
  | 0, i => .inl rfl
  | n + 1, i => by
    simp only [scanB]
    split
    · right; omega
    · rcases scanB_range p s n (i + 1) with h | h
      · exact .inl h
      · right; push_cast at h; omega
/-- the digits that a label begins with, and the rest -/
def digitsN (s : ByteArray) : Nat := let k := scanB (outOf 48 57) s s.size 0; if k < 0 then s.size else k.toNat
theorem parted_ok (s : ByteArray) : ACalls (WC gl) 161 [S s] M (fun v M' => v = .tuple [S (s.extract 0 (digitsN s)), S (s.extract (digitsN s) s.size)] ∧ Grow M M') := by
  refine w_body hB Tryz.func161 rfl rfl rfl rfl rfl rfl ?_
  simp (dsimp := false) (implicitDefEqProofs := false)
  refine w_calls (inv_of Tryz.func210 rfl rfl (IndexFunc_ok gl M 211 48 57 (by decide) (by decide) s fun M c => inv_of Tryz.func211 rfl rfl (odd211 gl M c))) ?_
  rintro r M' ⟨rfl, hgr⟩
  have hr := scanB_range (outOf 48 57) s s.size 0
  generalize hk : scanB (outOf 48 57) s s.size 0 = k at hr
  by_cases h0 : k < 0
  · have hd : digitsN s = s.size := by simp [digitsN, hk, h0]
    simp (dsimp := false) (implicitDefEqProofs := false) [h0, hgr, hd]
    rfl
  · have hd : digitsN s = k.toNat := by simp [digitsN, hk, h0]
    have h1 : 0 ≤ k := by omega
    have h2 : k ≤ s.size := by omega
    simp (dsimp := false) (implicitDefEqProofs := false) [h0]
    refine w_drawn hB (cfollows gl) (fun _ => 0) (fun _ => 0) (by rfl) (by kernel_rfl) ?_
    simp (dsimp := false) (implicitDefEqProofs := false) [hgr, hd, h1, h2]

theorem digitsN_le (s : ByteArray) : digitsN s ≤ s.size := by
  have hr := scanB_range (outOf 48 57) s s.size 0
  simp only [digitsN]
  split <;> omega
theorem scanB_neg_extract (p : Int → Bool) (s : ByteArray) (d : Nat) : ∀ n i, d + i + n ≤ s.size → (scanB p (s.extract d s.size) n i < 0 ↔ scanB p s n (d + i) < 0)
  | 0, i, h => by simp [scanB]
  | n + 1, i, h => by
    simp only [scanB]
    rw [byteAt_extract (by omega) (by omega)]
    split
    · constructor <;> intro h <;> omega
    · exact scanB_neg_extract p s d n (i + 1) (by omega)
def labelOk (s : ByteArray) : Bool := decide (1 ≤ digitsN s) && decide (digitsN s ≤ 4) && !decide (byteAt s 0 = 48) && decide (s.size - digitsN s ≤ 3) && decide (scanB (outOf 65 90) s (s.size - digitsN s) (digitsN s) < 0)
theorem Valid_ok (s : ByteArray) : ACalls (WC gl) 112 [S s] M (fun v M' => v = B (labelOk s) ∧ Grow M M') := by
  refine w_body hB Tryz.func112 rfl rfl rfl rfl rfl rfl ?_
  simp (dsimp := false) (implicitDefEqProofs := false)
  refine w_calls (inv_of Tryz.func161 rfl rfl (parted_ok gl M s)) ?_
  rintro r M' ⟨rfl, hgr⟩
  have hle := digitsN_le s
  have hsz1 : (s.extract 0 (digitsN s)).size = digitsN s := by simp; omega
  have hsz2 : (s.extract (digitsN s) s.size).size = s.size - digitsN s := by simp
  have hb0 : 1 ≤ digitsN s → byteAt (s.extract 0 (digitsN s)) 0 = byteAt s 0 := fun h => by rw [byteAt_extract (by omega) hle]
  generalize hd : digitsN s = d at *
  by_cases c1 : 1 ≤ d
  case neg =>
    have : ¬ (1 : Int) ≤ d := by omega
    simp (dsimp := false) (implicitDefEqProofs := false) [hsz1, this, labelOk, hd, c1, hgr]
  have i1 : (1 : Int) ≤ d := by omega
  have hb0 := hb0 c1
  by_cases c2 : d ≤ 4
  case neg =>
    have : ¬ (d : Int) ≤ 4 := by omega
    simp (dsimp := false) (implicitDefEqProofs := false) [hsz1, this, labelOk, hd, c1, i1, c2, hgr]
  have i2 : (d : Int) ≤ 4 := by omega
  have hpos : 0 < d := c1
  by_cases c3 : byteAt s 0 = 48
  · simp (dsimp := false) (implicitDefEqProofs := false) [hsz1, labelOk, hd, c1, i1, c2, i2, c3, hb0, hpos, hgr]
  by_cases c4 : s.size - d ≤ 3
  case neg =>
    have : ¬ ((s.size - d : Nat) : Int) ≤ 3 := by omega
    have c4' : ¬ s.size ≤ 3 + d := by omega
    simp (dsimp := false) (implicitDefEqProofs := false) [hsz1, hsz2, labelOk, hd, c1, i1, c2, i2, c3, hb0, hpos, this, c4, c4', hgr]
  have i4 : ((s.size - d : Nat) : Int) ≤ 3 := by omega
  simp (dsimp := false) (implicitDefEqProofs := false) [hsz1, hsz2, labelOk, hd, c1, i1, c2, i2, c3, hb0, hpos, i4, c4, hgr]
  refine w_calls (inv_of Tryz.func163 rfl rfl (ContainsFunc_ok gl M' 162 65 90 (by decide) (by decide) _ fun M c => inv_of Tryz.func162 rfl rfl (odd162 gl M c))) ?_
  rintro r M2 ⟨rfl, hgr2⟩
  have hg3 : Grow M M2 := KeepsBut.trans hgr hgr2
  have hx := scanB_neg_extract (outOf 65 90) s d (s.size - d) 0 (by omega)
  rw [hsz2]
  by_cases c5 : 0 ≤ scanB (outOf 65 90) (s.extract d s.size) (s.size - d) 0
  · have : ¬ scanB (outOf 65 90) s (s.size - d) d < 0 := fun h => by have := hx.2 (by simpa using h); omega
    simp (dsimp := false) (implicitDefEqProofs := false) [c5, labelOk, hd, c1, c2, c3, c4, this, hg3]
  · have : scanB (outOf 65 90) s (s.size - d) d < 0 := by have := hx.1 (by omega); simpa using this
    simp (dsimp := false) (implicitDefEqProofs := false) [c5, labelOk, hd, c1, c2, c3, c4, this, hg3]
end
end Go.Abs
end
section
/- Contracts: the paths of citations. -/
set_option maxRecDepth 100000
set_option linter.unusedSimpArgs false
set_option linter.unusedVariables false
namespace Go.Abs
open Go.Proofs TryTypes

abbrev Step.v (s : Step) : AV := .agg s.row
def rowsP (p : List Step) : List (List AV) := p.map Step.row
@[simp] theorem rowsP_len (p : List Step) : (rowsP p).length = p.length := by simp [rowsP]
@[simp] theorem eq159 {k j : Int} {a b : ByteArray} : binAV Tryz.prog .eql 159 (.agg [I k, S a]) (.agg [I j, S b]) = some (B (decide (k = j) && decide (a = b))) := by
  have h1 : Tryz.prog.eqGuardType Tryz.prog.depth 159 = false := by kernel_rfl
  have h2 : Tryz.prog.stoodInHeld 159 = false := by kernel_rfl
  simp [binAV, binAV0, binMore, nilKind, sameKind, h1, eqAV, h2, eqFieldsAV]
  by_cases c1 : k = j
  · by_cases c2 : a = b
    · simp [c1, c2]
    · have : ¬ a.data = b.data := fun e => c2 (by cases a; cases b; simpa using e)
      have e : (a.data == b.data) = false := by simpa using this
      rw [e]; simp [c1, c2]
  · have e : (k == j) = false := by simpa using c1
    rw [e]; simp [c1]

theorem build159_0 {x : Int} : buildAV Tryz.prog 159 [(0, I x)] = some (.agg [I x, S ⟨#[]⟩]) := by
  simp [buildAV, buildGo, putCells, overwrite]
section
variable (gl : Nat → AV) (M : Mem)
def isBookS (s : Step) : Bool := decide (s.k = 0) && decide (s.lab = ⟨#[]⟩)
theorem book_ok (s : Step) : ACalls (WC gl) 214 [s.v] M (fun v M' => v = B (isBookS s) ∧ M' = M) := by
  refine w_body hB Tryz.func214 rfl rfl rfl rfl rfl rfl ?_
  simp (dsimp := false) (implicitDefEqProofs := false) [Step.row, isBookS, build159_0]
def namedS (s : Step) : Bool := decide (1 ≤ s.k) && decide (s.k ≤ 7) && labelOk s.lab
theorem named_ok (s : Step) : ACalls (WC gl) 217 [s.v] M (fun v M' => v = B (namedS s) ∧ Grow M M') := by
  refine w_body hB Tryz.func217 rfl rfl rfl rfl rfl rfl ?_
  by_cases c1 : 1 ≤ s.k
  case neg => simp (dsimp := false) (implicitDefEqProofs := false) [Step.row, namedS, c1, Grow, KeepsBut.refl]
  by_cases c2 : s.k ≤ 7
  case neg => simp (dsimp := false) (implicitDefEqProofs := false) [Step.row, namedS, c1, c2, Grow, KeepsBut.refl]
  simp (dsimp := false) (implicitDefEqProofs := false) [Step.row, namedS, c1, c2]
  refine w_calls (inv_of Tryz.func112 rfl rfl (Valid_ok gl M s.lab)) ?_
  rintro r M' ⟨rfl, hgr⟩
  simp (dsimp := false) (implicitDefEqProofs := false) [namedS, c1, c2, hgr]
theorem plain1_ok (s : Step) : ACalls (WC gl) 216 [s.v] M (fun v M' => v = B (!namedS s) ∧ Grow M M') := by
  refine w_body hB Tryz.func216 rfl rfl rfl rfl rfl rfl ?_
  simp (dsimp := false) (implicitDefEqProofs := false) [Step.row]
  refine w_calls (inv_of Tryz.func217 rfl rfl (named_ok gl M s)) ?_
  rintro r M' ⟨rfl, hgr⟩
  simp (dsimp := false) (implicitDefEqProofs := false) [hgr]
end
end Go.Abs
end
section
/- Contracts: plain paths, the written words of a path. -/
set_option maxRecDepth 100000
set_option linter.unusedSimpArgs false
set_option linter.unusedVariables false
namespace Go.Abs
open Go.Proofs TryTypes

theorem Grow.refl (M : Mem) : Grow M M := KeepsBut.refl _ _
theorem Grow.trans {A B C : Mem} (h1 : Grow A B) (h2 : Grow B C) : Grow A C := KeepsBut.trans h1 h2
theorem rowsP_at {p : List Step} {i : Nat} (h : i < p.length) : (rowsP p)[i]?.getD [] = (p[i]).row := by simp [rowsP, h]
@[simp] theorem rowsP_get {p : List Step} {i : Nat} (h : i < (rowsP p).length) : (rowsP p)[i] = [I (p[i]'(by simpa using h)).k, S (p[i]'(by simpa using h)).lab] := by simp [rowsP, Step.row]
theorem take_succ_all {p : List Step} {f : Step → Bool} {i : Nat} (h : i < p.length) (ha : (p.take i).all f = true) (hf : f (p[i]) = true) : (p.take (i + 1)).all f = true := by
  rw [List.take_succ_eq_append_getElem h, List.all_append, ha]; simp [hf]
theorem any_of {p : List Step} {f : Step → Bool} {i : Nat} (h : i < p.length) (hf : f (p[i]) = true) : p.any f = true := List.any_eq_true.2 ⟨p[i], List.getElem_mem h, hf⟩

section
variable (gl : Nat → AV) (M : Mem)
theorem indexStep_ok (p : List Step) (o : Own) (hlen : p.length ≤ 1000000) : ACalls (WC gl) 270 [.list 2 (rowsP p) o, .func (.func 216) [] []] M (fun v M' => (∃ r, v = I r ∧ decide (0 ≤ r) = p.any (fun s => !namedS s)) ∧ Grow M M') := by
  refine w_body hB Tryz.func270 rfl rfl rfl rfl rfl rfl ?_
  simp (dsimp := false) (implicitDefEqProofs := false)
  refine w_looped hB (fun T M1 => ∃ i : Nat, i ≤ p.length ∧ Grow M M1 ∧ T 0 = .list 2 (rowsP p) o ∧ T 1 = .func (.func 216) [] [] ∧ T 7 = I p.length ∧ T 8 = I i ∧ (p.take i).all namedS = true)
    (fun T M1 => match T 8 with | .val (.int _ i) => p.length - i.toNat | _ => 0) (by kernel_rfl) ?_ ?_
  · refine ⟨0, ?_⟩
    simp (dsimp := false) (implicitDefEqProofs := false) [Grow.refl]
  · rintro T M1 ⟨i, h1, h2, h3, h4, h5, h6, h7⟩
    by_cases hi : i < p.length
    · have hi' : (i : Int) < p.length := by omega
      have hw : IntKind.i64.wrap ((i : Int) + 1) = (i + 1 : Nat) := by rw [wrap_in (by omega) (by omega)]; omega
      simp (dsimp := false) (implicitDefEqProofs := false) [h3, h4, h5, h6, hi, hi']
      refine w_calls (inv_of Tryz.func216 rfl rfl (plain1_ok gl M1 p[i])) ?_
      rintro r M' ⟨rfl, hgr⟩
      have hg := h2.trans hgr
      cases hb : namedS p[i]
      · simp (dsimp := false) (implicitDefEqProofs := false) [h3, h4, h5, h6]
        refine ⟨?_, hg⟩
        exact ⟨p[i], List.getElem_mem hi, hb⟩
      · simp (dsimp := false) (implicitDefEqProofs := false) [h3, h4, h5, h6, hw, hg]
        refine ⟨⟨i + 1, ?_⟩, ?_⟩
        · have := take_succ_all hi h7 hb
          simp only [List.all_eq_true] at this ⊢
          exact ⟨by clear hw; omega, by simp, this⟩
        · clear hw; omega
    · have hi' : ¬ (i : Int) < p.length := by omega
      rw [List.take_of_length_le (by omega), List.all_eq_true] at h7
      simp (dsimp := false) (implicitDefEqProofs := false) [h3, h4, h5, h6, hi']
      exact ⟨h7, h2⟩
theorem containsStep_ok (p : List Step) (o : Own) (hlen : p.length ≤ 1000000) : ACalls (WC gl) 215 [.list 2 (rowsP p) o, .func (.func 216) [] []] M (fun v M' => v = B (p.any (fun s => !namedS s)) ∧ Grow M M') := by
  refine w_body hB Tryz.func215 rfl rfl rfl rfl rfl rfl ?_
  simp (dsimp := false) (implicitDefEqProofs := false)
  refine w_calls (inv_of Tryz.func270 rfl rfl (indexStep_ok gl M p o hlen)) ?_
  rintro r M' ⟨⟨r, rfl, hr⟩, hgr⟩
  simp (dsimp := false) (implicitDefEqProofs := false) [hgr, hr]
/-- a path without the step of the book -/
def restP (p : List Step) : List Step := match p with
  | [] => []
  | s :: p' => if isBookS s then p' else s :: p'
def plainP (p : List Step) : Bool := decide (0 < (restP p).length) && (restP p).all namedS
theorem not_any {p : List Step} : (!p.any (fun s => !namedS s)) = p.all namedS := by
  induction p with
  | nil => rfl
  | cons a p ih => simp only [List.any_cons, List.all_cons, Bool.not_or, Bool.not_not, ih]
theorem plain_ok (p : List Step) (o : Own) (hlen : p.length ≤ 1000000) : ACalls (WC gl) 166 [.list 2 (rowsP p) o] M (fun v M' => v = B (plainP p) ∧ Grow M M') := by
  refine w_body hB Tryz.func166 rfl rfl rfl rfl rfl rfl ?_
  cases p with
  | nil => simp (dsimp := false) (implicitDefEqProofs := false) [rowsP, plainP, restP, Grow.refl]
  | cons s p' =>
    simp only [List.length_cons] at hlen
    simp (dsimp := false) (implicitDefEqProofs := false) [rowsP, Step.row]
    refine w_calls (inv_of Tryz.func214 rfl rfl (book_ok gl M s)) ?_
    rintro r M' ⟨rfl, rfl⟩
    cases hb : isBookS s
    · simp (dsimp := false) (implicitDefEqProofs := false)
      refine w_calls (inv_of Tryz.func215 rfl rfl (containsStep_ok gl M' (s :: p') o (by simpa using hlen))) ?_
      rintro r M2 ⟨rfl, hgr⟩
      have e : (s :: p').all namedS = plainP (s :: p') := by simp [plainP, restP, hb]
      rw [← e, ← not_any]
      simp (dsimp := false) (implicitDefEqProofs := false) [hgr]
    · have i1 : (1 : Int) ≤ p'.length + 1 := by omega
      by_cases c : 0 < p'.length
      · have e : p'.all namedS = plainP (s :: p') := by simp [plainP, restP, hb, c]
        rw [← e, ← not_any]
        simp (dsimp := false) (implicitDefEqProofs := false) [i1, c]
        refine w_calls (inv_of Tryz.func215 rfl rfl (containsStep_ok gl M' p' _ (by omega))) ?_
        rintro r M2 ⟨rfl, hgr⟩
        simp (dsimp := false) (implicitDefEqProofs := false) [hgr]
      · have e : plainP (s :: p') = false := by simp [plainP, restP, hb, c]
        simp (dsimp := false) (implicitDefEqProofs := false) [i1, c, e, Grow.refl]
end
end Go.Abs
end
section
/- Contracts: citation.Valid of a plain citation, told, words, WordsOf. -/
set_option maxRecDepth 100000
set_option linter.unusedSimpArgs false
set_option linter.unusedVariables false
namespace Go.Abs
open Go.Proofs TryTypes

abbrev citeP (p : List Step) (o : Own) : AV := .agg [I 0, .list 2 (rowsP p) o, S ⟨#[]⟩, I 0, I 0]
def addrOk (p : List Step) : Bool := decide (p.length ≤ 9) && plainP p
def kindWords : List ByteArray := [⟨#[]⟩, ⟨#[112, 97, 114, 116]⟩, ⟨#[115, 101, 99, 116, 105, 111, 110]⟩, ⟨#[112, 97, 114, 97, 103, 114, 97, 112, 104]⟩, ⟨#[116, 97, 98, 108, 101]⟩, ⟨#[114, 111, 119]⟩, ⟨#[99, 101, 108, 108]⟩, ⟨#[110, 111, 116, 101]⟩]
def bookWord : ByteArray := ⟨#[98, 111, 111, 107]⟩
def stepWords (s : Step) : List ByteArray := if isBookS s then [bookWord] else [kindWords.getD s.k.toNat ⟨#[]⟩, s.lab]
def toldW (p : List Step) : List ByteArray := p.flatMap stepWords

/-- the appends' slices are arrays, the others data -/
def hT : Hint := ⟨fun _ => true, fun _ => false, fun d => d == 27 || d == 39 || d == 21⟩
@[simp] theorem hT_imm : hT.imm = fun _ => true := rfl
@[simp] theorem hT_own : hT.own = fun _ => false := rfl
@[simp] theorem hT_vec : hT.vec = fun d => d == 27 || d == 39 || d == 21 := rfl
def goodStep (s : Step) : Bool := isBookS s || namedS s
theorem label_ne {s : ByteArray} (h : labelOk s = true) : ¬ s = ⟨#[]⟩ := by
  rintro rfl
  revert h
  decide +kernel
theorem fresh_push {M M1 M' X : Mem} {l news : List ByteArray} {out v' : AV} (h : FreshS M l out M1) (h1 : Own1 9 M' v' (l.map S ++ news.map S)) (h2 : KeepsBut (obj out) (M1 ++ X) M') (h3 : obj v' = obj out ∨ Later (M1 ++ X).length v') : FreshS M (l ++ news) v' M' := by
  refine ⟨by simpa using h1, ⟨?_, fun i hi _ => ?_⟩, ?_⟩
  · have a := h.2.1.1; have b := h2.1; simp at b; omega
  · have hl := h.2.1.1
    rw [h2.2 i (by simp; omega) fun e => by have := h.2.2 i e; omega, List.getElem?_append_left (by omega)]
    exact h.2.1.2 i hi (by simp)
  · intro f hf
    rcases h3 with e | e
    · exact h.2.2 f (by rw [← e]; exact hf)
    · have a := h.2.1.1; have b := e f hf; simp at b; omega
theorem toldW_succ {p : List Step} {i : Nat} (h : i < p.length) : toldW (p.take (i + 1)) = toldW (p.take i) ++ stepWords p[i] := by
  rw [List.take_succ_eq_append_getElem h, toldW, toldW, List.flatMap_append]; simp
theorem stepWords_len (s : Step) : (stepWords s).length ≤ 2 := by unfold stepWords; split <;> simp
theorem toldW_len (p : List Step) : (toldW p).length ≤ 2 * p.length := by
  induction p with
  | nil => simp [toldW]
  | cons a p ih => have := stepWords_len a; simp only [toldW, List.flatMap_cons, List.length_append, List.length_cons] at *; omega
section
variable (gl : Nat → AV) (M : Mem)
theorem citeValid_ok (p : List Step) (o : Own) (hlen : p.length ≤ 1000000) : ACalls (WC gl) 116 [citeP p o] M (fun v M' => v = B (addrOk p) ∧ Grow M M') := by
  refine w_body hB Tryz.func116 rfl rfl rfl rfl rfl rfl ?_
  by_cases c : p.length ≤ 9
  · have i1 : ¬ (p.length : Int) > 9 := by omega
    have i2 : ¬ (9 : Int) < p.length := by omega
    simp (dsimp := false) (implicitDefEqProofs := false) [i1, i2]
    refine w_calls (inv_of Tryz.func166 rfl rfl (plain_ok gl M p o hlen)) ?_
    rintro r M2 ⟨rfl, hgr⟩
    simp (dsimp := false) (implicitDefEqProofs := false) [addrOk, c, hgr]
  · have i2 : (9 : Int) < p.length := by omega
    simp (dsimp := false) (implicitDefEqProofs := false) [i2, addrOk, c, Grow.refl]
theorem single_ok : ACalls (WC gl) 219 [] M (fun v M' => v = .list 1 (rowsS kindWords) .full ∧ M' = M) := by
  refine w_body hB Tryz.func219 rfl rfl rfl rfl rfl rfl ?_
  simp (dsimp := false) (implicitDefEqProofs := false) [buildSliceAV, rowsGo, rowsS, kindWords]
theorem told_ok (p : List Step) (o : Own) (hlen : p.length ≤ 1000000) (hgood : p.all goodStep = true) : ACalls (WC gl) 168 [.list 2 (rowsP p) o] M (FreshS M (toldW p)) := by
  refine w_body hT Tryz.func168 rfl rfl rfl rfl rfl rfl ?_
  simp (dsimp := false) (implicitDefEqProofs := false)
  refine w_looped hT (fun T M1 => ∃ i : Nat, i ≤ p.length ∧ FreshS M (toldW (p.take i)) (T 3) M1 ∧ T 6 = .list 2 (rowsP p) o ∧ T 7 = I p.length ∧ T 8 = I i)
    (fun T M1 => match T 8 with | .val (.int _ i) => p.length - i.toNat | _ => 0) (by kernel_rfl) ?_ ?_
  · refine ⟨0, ?_⟩
    simp (dsimp := false) (implicitDefEqProofs := false) [FreshS, Own1, KeepsBut.refl, Later, toldW]
  · rintro T M1 ⟨i, h1, h2, h3, h4, h5⟩
    generalize hT3 : T 3 = out at h2
    by_cases hi : i < p.length
    · have hi' : (i : Int) < p.length := by omega
      have hw : IntKind.i64.wrap ((i : Int) + 1) = (i + 1 : Nat) := by rw [wrap_in (by omega) (by omega)]; omega
      have hM2 : (M1 ++ [AObj.cells 159 [I p[i].k, S p[i].lab]])[M1.length]? = some (.cells 159 [I p[i].k, S p[i].lab]) := by simp
      have hg := List.all_eq_true.1 hgood p[i] (List.getElem_mem hi)
      have ho2 : Own1 9 (M1 ++ [AObj.cells 159 [I p[i].k, S p[i].lab]]) out ((toldW (p.take i)).map S) := h2.1.keep (.app none _ _) (by simp)
      have hlen2 := toldW_len (p.take i)
      have hlen3 : (p.take i).length ≤ p.length := by simp; omega
      simp (dsimp := false) (implicitDefEqProofs := false) [h3, h4, h5, hi, hi', allocAV, storeAV, overwrite, loadAV_ptr hM2]
      refine w_calls (inv_of Tryz.func214 rfl rfl (book_ok gl _ p[i])) ?_
      rintro r M2 ⟨rfl, rfl⟩
      cases hb : isBookS p[i]
      · have hn : namedS p[i] = true := by simpa [goodStep, hb] using hg
        simp only [namedS, Bool.and_eq_true, decide_eq_true_eq] at hn
        obtain ⟨⟨n1, n2⟩, n3⟩ := hn
        have hl := label_ne n3
        have n1' : 0 ≤ p[i].k := by omega
        have n2' : p[i].k < 8 := by omega
        have n2n : p[i].k.toNat < 8 := by omega
        have hkw : (rowsS kindWords)[p[i].k.toNat]?.getD [] = [S (kindWords.getD p[i].k.toNat ⟨#[]⟩)] := by
          have : p[i].k.toNat < kindWords.length := n2n
          simp [rowsS, this]
        have hkw2 : ∀ h : p[i].k.toNat < (rowsS kindWords).length, (rowsS kindWords)[p[i].k.toNat]'h = [S (kindWords.getD p[i].k.toNat ⟨#[]⟩)] := by
          intro h
          have : p[i].k.toNat < kindWords.length := n2n
          simp [rowsS, this]
        have hsw : stepWords p[i] = [kindWords.getD p[i].k.toNat ⟨#[]⟩, p[i].lab] := by simp only [stepWords, hb]; rfl
        have hlk : kindWords.length = 8 := rfl
        generalize kindWords.getD p[i].k.toNat ⟨#[]⟩ = kw at hkw hkw2 hsw
        simp (dsimp := false) (implicitDefEqProofs := false) [hl, loadAV_ptr hM2]
        refine w_drawn hT (cfollows gl) (fun k => if k = 3 ∨ k = 7 then 1 else if k = 9 then 2 else 0) (fun _ => M1.length) (by rfl) (by kernel_rfl) ?_
        simp (dsimp := false) (implicitDefEqProofs := false)
        refine w_call0 (fun M => inv_of Tryz.func219 rfl rfl (single_ok gl M)) ?_
        simp (dsimp := false) (implicitDefEqProofs := false) [loadAV_ptr hM2, n1', hkw, hkw2, n2', hlk, buildSliceAV, rowsGo, hT3]
        refine push (C := WC gl) (e := 9) elem37 src37 eok9 ho2 (news := [kw, p[i].lab].map S) (m := 2) rfl rfl (by simp; omega) rfl ?_
        intro v' M' q1 q2 q3 _
        have hf := fresh_push h2 q1 q2 q3
        rw [← hsw, ← toldW_succ hi] at hf
        simp (dsimp := false) (implicitDefEqProofs := false) [h3, h4, h5, hw]
        refine ⟨⟨i + 1, ?_⟩, ?_⟩
        · exact ⟨by clear hw; omega, hf, by simp⟩
        · clear hw; omega
      · have hsw : stepWords p[i] = [bookWord] := by simp [stepWords, hb]
        simp (dsimp := false) (implicitDefEqProofs := false) [buildSliceAV, rowsGo, hT3]
        refine push (C := WC gl) (e := 9) elem37 src37 eok9 ho2 (news := [bookWord].map S) (m := 1) rfl rfl (by simp; omega) rfl ?_
        intro v' M' q1 q2 q3 _
        have hf := fresh_push h2 q1 q2 q3
        rw [← hsw, ← toldW_succ hi] at hf
        simp (dsimp := false) (implicitDefEqProofs := false) [h3, h4, h5, hw]
        refine ⟨⟨i + 1, ?_⟩, ?_⟩
        · exact ⟨by clear hw; omega, hf, by simp⟩
        · clear hw; omega
    · have hi' : ¬ (i : Int) < p.length := by omega
      rw [List.take_of_length_le (by omega)] at h2
      simp (dsimp := false) (implicitDefEqProofs := false) [h3, h4, h5, hi', hT3, h2]
theorem words_ok (p : List Step) (o : Own) (hlen : p.length ≤ 1000000) (hgood : p.all goodStep = true) : ACalls (WC gl) 117 [citeP p o] M (FreshS M (toldW p)) := by
  refine w_body hB Tryz.func117 rfl rfl rfl rfl rfl rfl ?_
  simp (dsimp := false) (implicitDefEqProofs := false)
  refine w_calls (inv_of Tryz.func168 rfl rfl (told_ok gl M p o hlen hgood)) ?_
  intro v M' h
  simp (dsimp := false) (implicitDefEqProofs := false) [h]
def addrW (p : List Step) : List ByteArray := if addrOk p then toldW p else []
theorem addr_good {p : List Step} (h : addrOk p = true) : p.all goodStep = true := by
  simp only [addrOk, plainP, Bool.and_eq_true] at h
  have h2 := h.2.2
  cases p with
  | nil => rfl
  | cons s p' =>
    simp only [restP] at h2
    cases hb : isBookS s
    · simp only [hb, Bool.false_eq_true, if_false, List.all_cons, Bool.and_eq_true] at h2
      simp only [List.all_cons, Bool.and_eq_true, goodStep, hb, h2.1, Bool.or_true, true_and, Bool.false_or]
      exact List.all_eq_true.2 fun x hx => by have := List.all_eq_true.1 h2.2 x hx; show (isBookS x || namedS x) = true; rw [this, Bool.or_true]
    · simp only [hb, if_true] at h2
      simp only [List.all_cons, Bool.and_eq_true, goodStep, hb, Bool.true_or, true_and]
      exact List.all_eq_true.2 fun x hx => by have := List.all_eq_true.1 h2 x hx; show (isBookS x || namedS x) = true; rw [this, Bool.or_true]
theorem addrW_ne {p : List Step} (h : addrOk p = true) : addrW p ≠ [] := by
  rw [addrW, if_pos h]
  simp only [addrOk, plainP, Bool.and_eq_true] at h
  cases p with
  | nil => simp [restP] at h
  | cons s p' => simp only [toldW, List.flatMap_cons]; unfold stepWords; split <;> simp
theorem addrW_len (p : List Step) : (addrW p).length ≤ 18 := by
  unfold addrW
  split
  · rename_i h
    simp only [addrOk, Bool.and_eq_true, decide_eq_true_eq] at h
    have := toldW_len p; omega
  · simp
theorem grow_fresh {M M1 M' : Mem} {l : List ByteArray} {v : AV} (hg : Grow M M1) (h : FreshS M1 l v M') : FreshS M l v M' :=
  ⟨h.1, hg.trans h.2.1, fun f hf => Nat.le_trans hg.1 (h.2.2 f hf)⟩
theorem WordsOf_ok (p : List Step) (o : Own) (hlen : p.length ≤ 1000000) : ACalls (WC gl) 60 [.list 2 (rowsP p) o] M (FreshS M (addrW p)) := by
  refine w_body hB Tryz.func60 rfl rfl rfl rfl rfl rfl ?_
  have hcs : ∀ M : Mem, (M ++ [AObj.cells 110 [I 0, .list 2 (rowsP p) o, S ⟨#[]⟩, I 0, I 0]])[M.length]? = some (.cells 110 [I 0, .list 2 (rowsP p) o, S ⟨#[]⟩, I 0, I 0]) := by simp
  simp (dsimp := false) (implicitDefEqProofs := false) [buildAV, buildGo, putCells, allocAV, storeAV, overwrite, loadAV_ptr (hcs _)]
  refine w_calls (inv_of Tryz.func116 rfl rfl (citeValid_ok gl _ p o hlen)) ?_
  rintro r M' ⟨rfl, hgr⟩
  have hg : Grow M M' := Grow.trans (.app none M _) hgr
  have hc := hgr.get (hcs M) (by simp)
  cases hb : addrOk p
  · simp (dsimp := false) (implicitDefEqProofs := false) [addrW, hb]
    exact ⟨.inl ⟨rfl, rfl⟩, hg, by simp [Later]⟩
  · simp (dsimp := false) (implicitDefEqProofs := false) [loadAV_ptr hc]
    refine w_calls (inv_of Tryz.func117 rfl rfl (words_ok gl M' p o hlen (addr_good hb))) ?_
    intro v M2 h
    simp (dsimp := false) (implicitDefEqProofs := false) [addrW, hb]
    exact grow_fresh hg h
end
end Go.Abs
end
section
/- Contracts: the reference's labels. -/
set_option maxRecDepth 100000
set_option linter.unusedSimpArgs false
set_option linter.unusedVariables false
namespace Go.Abs
open Go.Proofs TryTypes

section
variable (gl : Nat → AV) (M : Mem)
theorem scanB_succ (p : Int → Bool) (s : ByteArray) {i : Nat} (h : i < s.size) : scanB p s (s.size - i) i = if p (byteAt s i) then (i : Int) else scanB p s (s.size - (i + 1)) (i + 1) := by
  have : s.size - i = (s.size - (i + 1)) + 1 := by omega
  rw [this]; rfl
theorem digitsN_of {s : ByteArray} {i : Nat} (h : scanB (outOf 48 57) s s.size 0 = (i : Int)) : digitsN s = i := by
  simp only [digitsN, h]; split <;> omega
theorem digitsN_none {s : ByteArray} (h : scanB (outOf 48 57) s s.size 0 = -1) : digitsN s = s.size := by
  simp only [digitsN, h]; rfl
theorem digits_ok (s : ByteArray) (hs : s.size ≤ maxLen) : ACalls (WC gl) 155 [S s] M (fun v M' => v = I (digitsN s) ∧ M' = M) := by
  refine w_body hB Tryz.func155 rfl rfl rfl rfl rfl rfl ?_
  simp (dsimp := false) (implicitDefEqProofs := false)
  refine w_looped hB (fun T M1 => ∃ i : Nat, i ≤ s.size ∧ M1 = M ∧ T 0 = S s ∧ T 3 = I i ∧ scanB (outOf 48 57) s s.size 0 = scanB (outOf 48 57) s (s.size - i) i)
    (fun T M1 => match T 3 with | .val (.int _ i) => s.size - i.toNat | _ => 0) (by kernel_rfl) ?_ ?_
  · refine ⟨0, ?_⟩
    simp (dsimp := false) (implicitDefEqProofs := false)
  · rintro T M1 ⟨i, h1, rfl, h3, h4, h5⟩
    by_cases hi : i < s.size
    · have hi' : (i : Int) < s.size := by omega
      have hw : IntKind.i64.wrap ((i : Int) + 1) = (i + 1 : Nat) := by rw [wrap_in (by omega) (by simp only [maxLen] at hs; omega)]; omega
      rw [scanB_succ _ _ hi] at h5
      by_cases c1 : byteAt s i ≥ 48
      · by_cases c2 : byteAt s i ≤ 57
        · have ho : outOf 48 57 (byteAt s i) = false := by simp [outOf]; omega
          rw [ho] at h5
          have c1' : (48 : Int) ≤ byteAt s i := c1
          simp (dsimp := false) (implicitDefEqProofs := false) [h3, h4, hi, hi', c1, c1', c2, hw]
          refine ⟨⟨i + 1, by clear hw; omega, by simp, by simpa using h5⟩, by clear hw; omega⟩
        · have ho : outOf 48 57 (byteAt s i) = true := by simp [outOf]; omega
          rw [ho] at h5
          have c1' : (48 : Int) ≤ byteAt s i := c1
          have hd := digitsN_of (by simpa using h5)
          simp (dsimp := false) (implicitDefEqProofs := false) [h3, h4, hi, hi', c1, c1', c2, hd]
      · have ho : outOf 48 57 (byteAt s i) = true := by simp [outOf]; omega
        rw [ho] at h5
        have c1' : ¬ (48 : Int) ≤ byteAt s i := c1
        have hd := digitsN_of (by simpa using h5)
        simp (dsimp := false) (implicitDefEqProofs := false) [h3, h4, hi, hi', c1, c1', hd]
    · have hi' : ¬ (i : Int) < s.size := by omega
      rw [show s.size - i = 0 by omega] at h5
      have hd := digitsN_none (by rw [h5]; rfl)
      have hii : (i : Int) = s.size := by omega
      simp (dsimp := false) (implicitDefEqProofs := false) [h3, h4, hi', hd, hii]
theorem labelMay_ok (s : ByteArray) (hs : s.size ≤ maxLen) : ACalls (WC gl) 105 [S s] M (fun v M' => v = B (labelOk s) ∧ M' = M) := by
  refine w_body hB Tryz.func105 rfl rfl rfl rfl rfl rfl ?_
  simp (dsimp := false) (implicitDefEqProofs := false)
  refine w_calls (inv_of Tryz.func155 rfl rfl (digits_ok gl M s hs)) ?_
  rintro r M' ⟨rfl, rfl⟩
  have hle := digitsN_le s
  generalize hd : digitsN s = d at *
  by_cases c1 : 1 ≤ d
  case neg =>
    have : (d : Int) < 1 := by omega
    simp (dsimp := false) (implicitDefEqProofs := false) [this, labelOk, hd, c1]
  have i1 : ¬ (d : Int) < 1 := by omega
  by_cases c2 : d ≤ 4
  case neg =>
    have : (4 : Int) < d := by omega
    simp (dsimp := false) (implicitDefEqProofs := false) [this, labelOk, hd, c1, i1, c2]
  have i2 : ¬ (4 : Int) < d := by omega
  have hpos : 0 < s.size := by omega
  by_cases c3 : byteAt s 0 = 48
  · simp (dsimp := false) (implicitDefEqProofs := false) [labelOk, hd, c1, i1, c2, i2, c3, hpos]
  have hw : IntKind.i64.wrap ((s.size : Int) - d) = (s.size - d : Nat) := by rw [wrap_in (by omega) (by simp only [maxLen] at hs; omega)]; omega
  by_cases c4 : s.size - d ≤ 3
  case neg =>
    have : (3 : Int) < (s.size - d : Nat) := by omega
    have c4' : ¬ s.size ≤ 3 + d := by omega
    simp (dsimp := false) (implicitDefEqProofs := false) [labelOk, hd, c1, i1, c2, i2, c3, hpos, hw, this, c4']
  have i4 : ¬ (3 : Int) < (s.size - d : Nat) := by omega
  simp (dsimp := false) (implicitDefEqProofs := false) [labelOk, hd, c1, i1, c2, i2, c3, hpos, hw, i4]
  have hlo : labelOk s = decide (scanB (outOf 65 90) s (s.size - d) d < 0) := by simp [labelOk, hd, c1, c2, c3]; omega
  rw [hlo]
  clear hlo
  refine w_looped hB (fun T M1 => ∃ i : Nat, i ≤ s.size ∧ M1 = M' ∧ T 0 = S s ∧ T 4 = I i ∧ decide (scanB (outOf 65 90) s (s.size - d) d < 0) = decide (scanB (outOf 65 90) s (s.size - i) i < 0))
    (fun T M1 => match T 4 with | .val (.int _ i) => s.size - i.toNat | _ => 0) (by kernel_rfl) ?_ ?_
  · refine ⟨d, ?_⟩
    simp (dsimp := false) (implicitDefEqProofs := false) [hle]
  · rintro T M1 ⟨i, h1, rfl, h3, h4, h5⟩
    rw [h5]
    by_cases hi : i < s.size
    · have hi' : (i : Int) < s.size := by omega
      have hw : IntKind.i64.wrap ((i : Int) + 1) = (i + 1 : Nat) := by rw [wrap_in (by omega) (by simp only [maxLen] at hs; omega)]; omega
      rw [scanB_succ _ _ hi] at h5 ⊢
      by_cases c1 : byteAt s i < 65
      · have ho : outOf 65 90 (byteAt s i) = true := by simp [outOf]; omega
        rw [ho] at h5 ⊢
        simp (dsimp := false) (implicitDefEqProofs := false) [h3, h4, hi, hi', c1]
      · by_cases c2 : byteAt s i > 90
        · have ho : outOf 65 90 (byteAt s i) = true := by simp [outOf]; omega
          rw [ho] at h5 ⊢
          have c2' : 90 < byteAt s i := c2
          simp (dsimp := false) (implicitDefEqProofs := false) [h3, h4, hi, hi', c1, c2, c2']
        · have ho : outOf 65 90 (byteAt s i) = false := by simp [outOf]; omega
          rw [ho] at h5 ⊢
          have c2' : ¬ 90 < byteAt s i := c2
          simp (dsimp := false) (implicitDefEqProofs := false) [h3, h4, hi, hi', c1, c2, c2', hw]
          refine ⟨⟨i + 1, by clear hw; omega, by simp, Iff.rfl⟩, by clear hw; omega⟩
    · have hi' : ¬ (i : Int) < s.size := by omega
      rw [show s.size - i = 0 by omega] at h5 ⊢
      simp (dsimp := false) (implicitDefEqProofs := false) [h3, h4, hi', scanB]
end
end Go.Abs
end
section
/- Contracts: the reference's paths. -/
set_option maxRecDepth 100000
set_option linter.unusedSimpArgs false
set_option linter.unusedVariables false
namespace Go.Abs
open Go.Proofs TryTypes

def smallP (p : List Step) : Prop := p.length ≤ 1000000 ∧ ∀ s ∈ p, s.lab.size ≤ maxLen
section
variable (gl : Nat → AV) (M : Mem)
theorem refStep_ok (s : Step) (hs : s.lab.size ≤ maxLen) : ACalls (WC gl) 221 [s.v] M (fun v M' => v = B (namedS s) ∧ M' = M) := by
  refine w_body hB Tryz.func221 rfl rfl rfl rfl rfl rfl ?_
  by_cases c1 : 1 ≤ s.k
  case neg => simp (dsimp := false) (implicitDefEqProofs := false) [Step.row, namedS, c1]
  by_cases c2 : s.k ≤ 7
  case neg => simp (dsimp := false) (implicitDefEqProofs := false) [Step.row, namedS, c1, c2]
  simp (dsimp := false) (implicitDefEqProofs := false) [Step.row, namedS, c1, c2]
  refine w_calls (inv_of Tryz.func105 rfl rfl (labelMay_ok gl M s.lab hs)) ?_
  rintro r M' ⟨rfl, rfl⟩
  simp (dsimp := false) (implicitDefEqProofs := false) [namedS, c1, c2]
theorem refSteps_ok (p : List Step) (o : Own) (hp : smallP p) : ACalls (WC gl) 174 [.list 2 (rowsP p) o] M (fun v M' => v = B (p.all namedS) ∧ M' = M) := by
  refine w_body hB Tryz.func174 rfl rfl rfl rfl rfl rfl ?_
  have hlen := hp.1
  simp (dsimp := false) (implicitDefEqProofs := false)
  refine w_looped hB (fun T M1 => ∃ i : Nat, i ≤ p.length ∧ M1 = M ∧ T 0 = .list 2 (rowsP p) o ∧ T 3 = I i ∧ (p.take i).all namedS = true)
    (fun T M1 => match T 3 with | .val (.int _ i) => p.length - i.toNat | _ => 0) (by kernel_rfl) ?_ ?_
  · refine ⟨0, ?_⟩
    simp (dsimp := false) (implicitDefEqProofs := false)
  · rintro T M1 ⟨i, h1, rfl, h3, h4, h5⟩
    by_cases hi : i < p.length
    · have hi' : (i : Int) < p.length := by omega
      have hw : IntKind.i64.wrap ((i : Int) + 1) = (i + 1 : Nat) := by rw [wrap_in (by omega) (by omega)]; omega
      simp (dsimp := false) (implicitDefEqProofs := false) [h3, h4, hi, hi']
      refine w_calls (inv_of Tryz.func221 rfl rfl (refStep_ok gl M1 p[i] (hp.2 _ (List.getElem_mem hi)))) ?_
      rintro r M' ⟨rfl, rfl⟩
      cases hb : namedS p[i]
      · simp (dsimp := false) (implicitDefEqProofs := false) [h3, h4]
        exact ⟨p[i], List.getElem_mem hi, hb⟩
      · simp (dsimp := false) (implicitDefEqProofs := false) [h3, h4, hw]
        refine ⟨⟨i + 1, ?_⟩, by clear hw; omega⟩
        have := take_succ_all hi h5 hb
        simp only [List.all_eq_true] at this
        exact ⟨by clear hw; omega, by simp, this⟩
    · have hi' : ¬ (i : Int) < p.length := by omega
      rw [List.take_of_length_le (by omega), List.all_eq_true] at h5
      simp (dsimp := false) (implicitDefEqProofs := false) [h3, h4, hi']
      exact h5
theorem refPlain_ok (p : List Step) (o : Own) (hp : smallP p) : ACalls (WC gl) 172 [.list 2 (rowsP p) o] M (fun v M' => v = B (plainP p) ∧ M' = M) := by
  refine w_body hB Tryz.func172 rfl rfl rfl rfl rfl rfl ?_
  cases p with
  | nil => simp (dsimp := false) (implicitDefEqProofs := false) [rowsP, plainP, restP]
  | cons s p' =>
    have hlen := hp.1
    simp only [List.length_cons] at hlen
    have hp' : smallP p' := ⟨by omega, fun x hx => hp.2 x (by simp [hx])⟩
    by_cases c1 : s.k = 0
    · by_cases c2 : s.lab = ⟨#[]⟩
      · have hb : isBookS s = true := by simp [isBookS, c1, c2]
        have i1 : (1 : Int) ≤ p'.length + 1 := by omega
        by_cases c : 0 < p'.length
        · have e : p'.all namedS = plainP (s :: p') := by simp [plainP, restP, hb, c]
          rw [← e]
          simp (dsimp := false) (implicitDefEqProofs := false) [rowsP, Step.row, c1, c2, i1, c]
          refine w_calls (inv_of Tryz.func174 rfl rfl (refSteps_ok gl M p' _ hp')) ?_
          rintro r M2 ⟨rfl, rfl⟩
          simp (dsimp := false) (implicitDefEqProofs := false)
        · have e : plainP (s :: p') = false := by simp [plainP, restP, hb, c]
          simp (dsimp := false) (implicitDefEqProofs := false) [rowsP, Step.row, c1, c2, i1, c, e]
      · have hb : isBookS s = false := by simp [isBookS, c1, c2]
        have e : (s :: p').all namedS = plainP (s :: p') := by simp [plainP, restP, hb]
        rw [← e]
        obtain ⟨k, lab⟩ := s
        simp only at c1 c2
        subst c1
        simp (dsimp := false) (implicitDefEqProofs := false) [rowsP, Step.row, c2]
        refine w_calls (inv_of Tryz.func174 rfl rfl (refSteps_ok gl M (⟨0, lab⟩ :: p') _ hp)) ?_
        rintro r M2 ⟨rfl, rfl⟩
        simp (dsimp := false) (implicitDefEqProofs := false)
    · have hb : isBookS s = false := by simp [isBookS, c1]
      have e : (s :: p').all namedS = plainP (s :: p') := by simp [plainP, restP, hb]
      rw [← e]
      simp (dsimp := false) (implicitDefEqProofs := false) [rowsP, Step.row, c1]
      refine w_calls (inv_of Tryz.func174 rfl rfl (refSteps_ok gl M (s :: p') _ hp)) ?_
      rintro r M2 ⟨rfl, rfl⟩
      simp (dsimp := false) (implicitDefEqProofs := false)
end
end Go.Abs
end
section
/- Contracts: the reference's written words of a path. -/
set_option maxRecDepth 100000
set_option linter.unusedSimpArgs false
set_option linter.unusedVariables false
namespace Go.Abs
open Go.Proofs TryTypes

def hR : Hint := ⟨fun _ => true, fun _ => false, fun d => d == 6 || d == 41 || d == 74 || d == 82⟩
@[simp] theorem hR_imm : hR.imm = fun _ => true := rfl
@[simp] theorem hR_own : hR.own = fun _ => false := rfl
@[simp] theorem hR_vec : hR.vec = fun d => d == 6 || d == 41 || d == 74 || d == 82 := rfl
def refWordsL : List ByteArray := kindWords.drop 1
section
variable (gl : Nat → AV) (M : Mem)
theorem refMay_ok (p : List Step) (o : Own) (hp : smallP p) : ACalls (WC gl) 120 [citeP p o] M (fun v M' => v = B (addrOk p) ∧ M' = M) := by
  refine w_body hB Tryz.func120 rfl rfl rfl rfl rfl rfl ?_
  by_cases c0 : p = []
  · subst c0
    simp (dsimp := false) (implicitDefEqProofs := false) [rowsP]
    rfl
  have h0 : ¬ p.length = 0 := fun e => c0 (List.eq_nil_of_length_eq_zero e)
  by_cases c : p.length ≤ 9
  · have i1 : ¬ (p.length : Int) > 9 := by omega
    have i2 : ¬ (9 : Int) < p.length := by omega
    have i0 : ¬ (p.length : Int) = 0 := by omega
    simp (dsimp := false) (implicitDefEqProofs := false) [i1, i2, i0, c0]
    refine w_calls (inv_of Tryz.func172 rfl rfl (refPlain_ok gl M p o hp)) ?_
    rintro r M2 ⟨rfl, rfl⟩
    simp (dsimp := false) (implicitDefEqProofs := false) [addrOk, c]
  · have i2 : (9 : Int) < p.length := by omega
    simp (dsimp := false) (implicitDefEqProofs := false) [i2, addrOk, c]
theorem Singles_ok : ACalls (WC gl) 175 [] M (fun v M' => v = .list 1 (rowsS refWordsL) .full ∧ M' = M) := by
  refine w_body hB Tryz.func175 rfl rfl rfl rfl rfl rfl ?_
  simp (dsimp := false) (implicitDefEqProofs := false) [buildSliceAV, rowsGo, rowsS, refWordsL, kindWords]
theorem refWords_ok (p : List Step) (o : Own) (hlen : p.length ≤ 1000000) (hgood : p.all goodStep = true) : ACalls (WC gl) 121 [citeP p o] M (FreshS M (toldW p)) := by
  refine w_body hR Tryz.func121 rfl rfl rfl rfl rfl rfl ?_
  simp (dsimp := false) (implicitDefEqProofs := false)
  refine w_looped hR (fun T M1 => ∃ i : Nat, i ≤ p.length ∧ FreshS M (toldW (p.take i)) (T 3) M1 ∧ T 1 = .cptr [I 0, .list 2 (rowsP p) o, S ⟨#[]⟩, I 0, I 0] ∧ T 4 = I i)
    (fun T M1 => match T 4 with | .val (.int _ i) => p.length - i.toNat | _ => 0) (by kernel_rfl) ?_ ?_
  · refine ⟨0, ?_⟩
    simp (dsimp := false) (implicitDefEqProofs := false)
    exact ⟨own_empty M, .app _ _ _, fun f hf => by simp at hf; omega⟩
  · rintro T M1 ⟨i, h1, h2, h3, h4⟩
    generalize hT3 : T 3 = out at h2
    by_cases hi : i < p.length
    · have hi' : (i : Int) < p.length := by omega
      have hw : IntKind.i64.wrap ((i : Int) + 1) = (i + 1 : Nat) := by rw [wrap_in (by omega) (by omega)]; omega
      have hM2 : (M1 ++ [AObj.cells 159 [I p[i].k, S p[i].lab]])[M1.length]? = some (.cells 159 [I p[i].k, S p[i].lab]) := by simp
      have hg := List.all_eq_true.1 hgood p[i] (List.getElem_mem hi)
      have ho2 : Own1 9 (M1 ++ [AObj.cells 159 [I p[i].k, S p[i].lab]]) out ((toldW (p.take i)).map S) := h2.1.keep (.app none _ _) (by simp)
      have hlen2 := toldW_len (p.take i)
      have hlen3 : (p.take i).length ≤ p.length := by simp; omega
      cases hb : isBookS p[i]
      · have hn : namedS p[i] = true := by simpa [goodStep, hb] using hg
        simp only [namedS, Bool.and_eq_true, decide_eq_true_eq] at hn
        obtain ⟨⟨n1, n2⟩, n3⟩ := hn
        have hl := label_ne n3
        have hk0 : ¬ p[i].k = 0 := by omega
        have hwk : IntKind.i64.wrap (p[i].k - 1) = p[i].k - 1 := wrap_in (by omega) (by omega)
        have n1' : 1 ≤ p[i].k := by omega
        have n2' : p[i].k - 1 < 7 := by omega
        have n2n : p[i].k.toNat - 1 < 7 := by omega
        have hlk : refWordsL.length = 7 := rfl
        have hkk : refWordsL.getD (p[i].k.toNat - 1) ⟨#[]⟩ = kindWords.getD p[i].k.toNat ⟨#[]⟩ := by
          have e : p[i].k.toNat = (p[i].k.toNat - 1) + 1 := by omega
          generalize p[i].k.toNat - 1 = j at e
          rw [e, refWordsL]; simp [Nat.add_comm]
        have hkw2 : ∀ h : p[i].k.toNat - 1 < (rowsS refWordsL).length, (rowsS refWordsL)[p[i].k.toNat - 1]'h = [S (kindWords.getD p[i].k.toNat ⟨#[]⟩)] := by
          intro h
          rw [← hkk]
          have : p[i].k.toNat - 1 < refWordsL.length := n2n
          simp [rowsS, this]
        have hkw : (rowsS refWordsL)[p[i].k.toNat - 1]?.getD [] = [S (kindWords.getD p[i].k.toNat ⟨#[]⟩)] := by
          have h : p[i].k.toNat - 1 < (rowsS refWordsL).length := by rw [rowsS_len]; exact n2n
          rw [List.getElem?_eq_getElem h, Option.getD_some, hkw2 h]
        have hsw : stepWords p[i] = [kindWords.getD p[i].k.toNat ⟨#[]⟩, p[i].lab] := by simp only [stepWords, hb]; rfl
        generalize kindWords.getD p[i].k.toNat ⟨#[]⟩ = kw at hkw hkw2 hsw
        simp (dsimp := false) (implicitDefEqProofs := false) [h3, h4, hi, hi', allocAV, storeAV, overwrite, loadAV_ptr hM2, hk0]
        refine w_drawn hR (cfollows gl) (fun k => if k = 3 then 1 else if k = 8 then 2 else 0) (fun _ => M1.length) (by rfl) (by kernel_rfl) ?_
        simp (dsimp := false) (implicitDefEqProofs := false)
        refine w_call0 (fun M => inv_of Tryz.func175 rfl rfl (Singles_ok gl M)) ?_
        simp (dsimp := false) (implicitDefEqProofs := false) [loadAV_ptr hM2, hwk, n1', hkw, hkw2, n2', hlk, buildSliceAV, rowsGo, hT3]
        refine push (C := WC gl) (e := 9) elem37 src37 eok9 ho2 (news := [kw].map S) (m := 1) rfl rfl (by simp; omega) rfl ?_
        intro v' M' q1 q2 q3 _
        have hf := fresh_push h2 q1 q2 q3
        have hM3 := q2.get hM2 fun e => by have := h2.1.lt e; omega
        simp (dsimp := false) (implicitDefEqProofs := false) [h3, h4, loadAV_ptr hM3, hl, buildSliceAV, rowsGo]
        refine push (C := WC gl) (e := 9) elem37 src37 eok9 hf.1 (news := [p[i].lab].map S) (m := 1) rfl rfl (by simp; omega) rfl ?_
        intro v2 M2 r1 r2 r3 _
        have hf2 := fresh_push (X := []) hf r1 (by simpa using r2) (by simpa using r3)
        rw [List.append_assoc, List.cons_append, List.nil_append, ← hsw, ← toldW_succ hi] at hf2
        simp (dsimp := false) (implicitDefEqProofs := false) [h3, h4, hw]
        exact ⟨⟨i + 1, by clear hw; omega, hf2, by simp⟩, by clear hw; omega⟩
      · have hsw : stepWords p[i] = [bookWord] := by simp [stepWords, hb]
        have hk0 : p[i].k = 0 := by simp only [isBookS, Bool.and_eq_true, decide_eq_true_eq] at hb; exact hb.1
        rw [hk0] at hM2 ho2
        simp (dsimp := false) (implicitDefEqProofs := false) [h3, h4, hi, hi', allocAV, storeAV, overwrite, loadAV_ptr hM2, hk0, buildSliceAV, rowsGo, hT3]
        refine push (C := WC gl) (e := 9) elem37 src37 eok9 ho2 (news := [bookWord].map S) (m := 1) rfl rfl (by simp; omega) rfl ?_
        intro v' M' q1 q2 q3 _
        have hf := fresh_push h2 q1 q2 q3
        rw [← hsw, ← toldW_succ hi] at hf
        simp (dsimp := false) (implicitDefEqProofs := false) [h3, h4, hw]
        exact ⟨⟨i + 1, by clear hw; omega, hf, by simp⟩, by clear hw; omega⟩
    · have hi' : ¬ (i : Int) < p.length := by omega
      rw [List.take_of_length_le (by omega)] at h2
      simp (dsimp := false) (implicitDefEqProofs := false) [h3, h4, hi', hT3, h2]
theorem refWrite_ok (p : List Step) (o : Own) (hp : smallP p) : ACalls (WC gl) 65 [.list 2 (rowsP p) o] M (FreshS M (addrW p)) := by
  refine w_body hB Tryz.func65 rfl rfl rfl rfl rfl rfl ?_
  have hcs : ∀ M : Mem, (M ++ [AObj.cells 110 [I 0, .list 2 (rowsP p) o, S ⟨#[]⟩, I 0, I 0]])[M.length]? = some (.cells 110 [I 0, .list 2 (rowsP p) o, S ⟨#[]⟩, I 0, I 0]) := by simp
  simp (dsimp := false) (implicitDefEqProofs := false) [buildAV, buildGo, putCells, allocAV, storeAV, overwrite, loadAV_ptr (hcs _)]
  refine w_calls (inv_of Tryz.func120 rfl rfl (refMay_ok gl _ p o hp)) ?_
  rintro r M' ⟨rfl, rfl⟩
  have hg : Grow M (M ++ [AObj.cells 110 [I 0, .list 2 (rowsP p) o, S ⟨#[]⟩, I 0, I 0]]) := .app none M _
  cases hb : addrOk p
  · simp (dsimp := false) (implicitDefEqProofs := false) [addrW, hb]
    exact ⟨.inl ⟨rfl, rfl⟩, hg, by simp [Later]⟩
  · simp (dsimp := false) (implicitDefEqProofs := false) [loadAV_ptr (hcs _)]
    refine w_calls (inv_of Tryz.func121 rfl rfl (refWords_ok gl _ p o hp.1 (addr_good hb))) ?_
    intro v M2 h
    simp (dsimp := false) (implicitDefEqProofs := false) [addrW, hb]
    exact grow_fresh hg h
end
end Go.Abs
end
