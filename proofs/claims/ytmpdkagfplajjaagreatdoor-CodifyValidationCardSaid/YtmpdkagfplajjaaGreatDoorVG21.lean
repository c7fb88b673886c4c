/- Contracts: labels. -/
import Derived.Test.YtmpdkagfplajjaaGreatDoorVG20
import Derived.Laws.RangeAny
import Derived.Laws.RangeString
set_option maxRecDepth 100000
set_option linter.unusedSimpArgs false
set_option linter.unusedVariables false
namespace Go.Abs
open Go.Proofs TryTypes

/-- the first place from i on whose byte passes -/
def scanB (p : Int → Bool) (s : ByteArray) : Nat → Nat → Int
  | 0, _ => -1
  | n + 1, i => if p (byteAt s i) then i else scanB p s n (i + 1)
def outOf (lo hi : Int) (c : Int) : Bool := decide (c < lo) || decide (c > hi)
theorem byteAt_get (s : ByteArray) (i : Nat) (h : i < s.size) : byteAt s i = ((s[i]'h).toNat : Int) := by
  have h' : i < s.data.size := h
  simp only [byteAt, Array.getD_eq_getD_getElem?, Array.getElem?_eq_getElem h', Option.getD_some]
  rfl

theorem decode_out {lo hi : Int} (hlo : 0 < lo) (hhi : hi < 128) (s : ByteArray) (pos : Nat) (hp : pos < s.size) :
    outOf lo hi ((Utf8.decode s pos).1 : Int) = outOf lo hi (byteAt s pos) ∧ (outOf lo hi (byteAt s pos) = false → (Utf8.decode s pos).2 = 1) := by
  rw [byteAt_get s pos hp]
  by_cases ha : (s[pos]'hp).toNat < 128
  · rw [decode_ascii s pos hp ha]; exact ⟨rfl, fun _ => rfl⟩
  · have := decode_high s pos hp (by omega)
    have e1 : outOf lo hi ((Utf8.decode s pos).1 : Int) = true := by
      have : ((Utf8.decode s pos).1 : Int) > hi := by omega
      simp [outOf, this]
    have e2 : outOf lo hi ((s[pos]'hp).toNat : Int) = true := by
      have : ((s[pos]'hp).toNat : Int) > hi := by omega
      simp [outOf, this]
    rw [e1, e2]; exact ⟨rfl, fun e => by simp at e⟩
section
variable (gl : Nat → AV) (M : Mem)
theorem odd211 (c : Int) : ACalls (WC gl) 211 [.val (.int .i32 c)] M (fun v M' => v = B (outOf 48 57 c) ∧ M' = M) := by
  refine w_body hB Tryz.func211 rfl rfl rfl rfl rfl rfl ?_
  by_cases h1 : c < 48
  · simp (dsimp := false) (implicitDefEqProofs := false) [outOf, h1]
  · simp (dsimp := false) (implicitDefEqProofs := false) [outOf, h1]
theorem odd162 (c : Int) : ACalls (WC gl) 162 [.val (.int .i32 c)] M (fun v M' => v = B (outOf 65 90 c) ∧ M' = M) := by
  refine w_body hB Tryz.func162 rfl rfl rfl rfl rfl rfl ?_
  by_cases h1 : c < 65
  · simp (dsimp := false) (implicitDefEqProofs := false) [outOf, h1]
  · simp (dsimp := false) (implicitDefEqProofs := false) [outOf, h1]

theorem indexFunc_ok (g : FuncId) (lo hi : Int) (hlo : 0 < lo) (hhi : hi < 128) (s : ByteArray) (hg : ∀ M c, Invk (WC gl) g [.val (.int .i32 c)] M (fun v M' => v = B (outOf lo hi c) ∧ M' = M)) :
    ACalls (WC gl) 264 [S s, .func (.func g) [] [], B true] M (fun v M' => v = I (scanB (outOf lo hi) s s.size 0) ∧ Grow M M') := by
  refine w_body hB Tryz.func264 rfl rfl rfl rfl rfl rfl ?_
  simp (dsimp := false) (implicitDefEqProofs := false) [rangeAV]
  refine w_looped hB (fun T M1 => ∃ pos, pos ≤ s.size ∧ M1 = M ++ [.siter s pos] ∧ T 1 = .func (.func g) [] [] ∧ T 2 = B true ∧ T 10 = .ptr M.length 0 ∧ scanB (outOf lo hi) s s.size 0 = scanB (outOf lo hi) s (s.size - pos) pos)
    (fun T M1 => match M1[M.length]? with | some (.siter _ pos) => s.size - pos | _ => 0) (by kernel_rfl) ?_ ?_
  · refine ⟨0, ?_⟩
    simp (dsimp := false) (implicitDefEqProofs := false)
  · rintro T M1 ⟨pos, h1, rfl, h2, h3, h4, h5⟩
    by_cases hp : pos < s.size
    · have hn : nextAV (.ptr M.length 0) (M ++ [.siter s pos]) = some (.tuple [.val (.bool true), .val (goInt pos), .val (.int .i32 (Utf8.decode s pos).1)], M ++ [.siter s (pos + (Utf8.decode s pos).2)]) := by
        simp [nextAV, hp]
      have hsc : scanB (outOf lo hi) s (s.size - pos) pos = if outOf lo hi (byteAt s pos) then (pos : Int) else scanB (outOf lo hi) s (s.size - (pos + 1)) (pos + 1) := by
        have : s.size - pos = (s.size - (pos + 1)) + 1 := by omega
        rw [this]; rfl
      obtain ⟨hd1, hd2⟩ := decode_out hlo hhi s pos hp
      have hpn : ((Utf8.decode s pos).1 : Int) = ((Utf8.decode s pos).1 : Nat) := rfl
      simp (dsimp := false) (implicitDefEqProofs := false) [h2, h3, h4, hn]
      refine w_calls (hg _ _) ?_
      rintro r M' ⟨rfl, rfl⟩
      cases hb : outOf lo hi ((Utf8.decode s pos).1 : Int)
      · rw [hd1] at hb
        have hd := hd2 hb
        simp (dsimp := false) (implicitDefEqProofs := false) [h2, h3, h4, hd]
        refine ⟨⟨pos + 1, by omega, rfl, by rw [h5, hsc, hb]; rfl⟩, ?_⟩
        omega
      · rw [hd1] at hb
        simp (dsimp := false) (implicitDefEqProofs := false) [h2, h3, h4]
        refine ⟨?_, .app _ _ _⟩
        rw [h5, hsc, hb]
        rfl
    · have hn : nextAV (.ptr M.length 0) (M ++ [.siter s pos]) = some (.tuple [.val (.bool false)], M ++ [.siter s pos]) := by
        simp [nextAV, hp]
      simp (dsimp := false) (implicitDefEqProofs := false) [h2, h3, h4, hn]
      refine ⟨?_, .app _ _ _⟩
      rw [h5, show s.size - pos = 0 by omega]
      rfl

theorem IndexFunc_ok (g : FuncId) (lo hi : Int) (hlo : 0 < lo) (hhi : hi < 128) (s : ByteArray) (hg : ∀ M c, Invk (WC gl) g [.val (.int .i32 c)] M (fun v M' => v = B (outOf lo hi c) ∧ M' = M)) :
    ACalls (WC gl) 210 [S s, .func (.func g) [] []] M (fun v M' => v = I (scanB (outOf lo hi) s s.size 0) ∧ Grow M M') := by
  refine w_body hB Tryz.func210 rfl rfl rfl rfl rfl rfl ?_
  simp (dsimp := false) (implicitDefEqProofs := false)
  refine w_calls (inv_of Tryz.func264 rfl rfl (indexFunc_ok gl M g lo hi hlo hhi s hg)) ?_
  rintro r M' ⟨rfl, hgr⟩
  simp (dsimp := false) (implicitDefEqProofs := false) [hgr]
theorem ContainsFunc_ok (g : FuncId) (lo hi : Int) (hlo : 0 < lo) (hhi : hi < 128) (s : ByteArray) (hg : ∀ M c, Invk (WC gl) g [.val (.int .i32 c)] M (fun v M' => v = B (outOf lo hi c) ∧ M' = M)) :
    ACalls (WC gl) 163 [S s, .func (.func g) [] []] M (fun v M' => v = B (decide (0 ≤ scanB (outOf lo hi) s s.size 0)) ∧ Grow M M') := by
  refine w_body hB Tryz.func163 rfl rfl rfl rfl rfl rfl ?_
  simp (dsimp := false) (implicitDefEqProofs := false)
  refine w_calls (inv_of Tryz.func210 rfl rfl (IndexFunc_ok gl M g lo hi hlo hhi s hg)) ?_
  rintro r M' ⟨rfl, hgr⟩
  simp (dsimp := false) (implicitDefEqProofs := false) [hgr]
theorem scanB_range (p : Int → Bool) (s : ByteArray) : ∀ n i, scanB p s n i = -1 ∨ ((i : Int) ≤ scanB p s n i ∧ scanB p s n i < i + n)
  | 0, i => .inl rfl
  | n + 1, i => by
    simp only [scanB]
    split
    · right; omega
    · rcases scanB_range p s n (i + 1) with h | h
      · exact .inl h
      · right; push_cast at h; omega
/-- the digits that a label begins with, and the rest -/
def digitsN (s : ByteArray) : Nat := let k := scanB (outOf 48 57) s s.size 0; if k < 0 then s.size else k.toNat
theorem parted_ok (s : ByteArray) : ACalls (WC gl) 161 [S s] M (fun v M' => v = .tuple [S (s.extract 0 (digitsN s)), S (s.extract (digitsN s) s.size)] ∧ Grow M M') := by
  refine w_body hB Tryz.func161 rfl rfl rfl rfl rfl rfl ?_
  simp (dsimp := false) (implicitDefEqProofs := false)
  refine w_calls (inv_of Tryz.func210 rfl rfl (IndexFunc_ok gl M 211 48 57 (by decide) (by decide) s fun M c => inv_of Tryz.func211 rfl rfl (odd211 gl M c))) ?_
  rintro r M' ⟨rfl, hgr⟩
  have hr := scanB_range (outOf 48 57) s s.size 0
  generalize hk : scanB (outOf 48 57) s s.size 0 = k at hr
  by_cases h0 : k < 0
  · have hd : digitsN s = s.size := by simp [digitsN, hk, h0]
    simp (dsimp := false) (implicitDefEqProofs := false) [h0, hgr, hd]
    rfl
  · have hd : digitsN s = k.toNat := by simp [digitsN, hk, h0]
    have h1 : 0 ≤ k := by omega
    have h2 : k ≤ s.size := by omega
    simp (dsimp := false) (implicitDefEqProofs := false) [h0]
    refine w_drawn hB (cfollows gl) (fun _ => 0) (fun _ => 0) (by rfl) (by kernel_rfl) ?_
    simp (dsimp := false) (implicitDefEqProofs := false) [hgr, hd, h1, h2]

theorem digitsN_le (s : ByteArray) : digitsN s ≤ s.size := by
  have hr := scanB_range (outOf 48 57) s s.size 0
  simp only [digitsN]
  split <;> omega
theorem scanB_neg_extract (p : Int → Bool) (s : ByteArray) (d : Nat) : ∀ n i, d + i + n ≤ s.size → (scanB p (s.extract d s.size) n i < 0 ↔ scanB p s n (d + i) < 0)
  | 0, i, h => by simp [scanB]
  | n + 1, i, h => by
    simp only [scanB]
    rw [byteAt_extract (by omega) (by omega)]
    split
    · constructor <;> intro h <;> omega
    · exact scanB_neg_extract p s d n (i + 1) (by omega)
def labelOk (s : ByteArray) : Bool := decide (1 ≤ digitsN s) && decide (digitsN s ≤ 4) && !decide (byteAt s 0 = 48) && decide (s.size - digitsN s ≤ 3) && decide (scanB (outOf 65 90) s (s.size - digitsN s) (digitsN s) < 0)
theorem Valid_ok (s : ByteArray) : ACalls (WC gl) 112 [S s] M (fun v M' => v = B (labelOk s) ∧ Grow M M') := by
  refine w_body hB Tryz.func112 rfl rfl rfl rfl rfl rfl ?_
  simp (dsimp := false) (implicitDefEqProofs := false)
  refine w_calls (inv_of Tryz.func161 rfl rfl (parted_ok gl M s)) ?_
  rintro r M' ⟨rfl, hgr⟩
  have hle := digitsN_le s
  have hsz1 : (s.extract 0 (digitsN s)).size = digitsN s := by simp; omega
  have hsz2 : (s.extract (digitsN s) s.size).size = s.size - digitsN s := by simp
  have hb0 : 1 ≤ digitsN s → byteAt (s.extract 0 (digitsN s)) 0 = byteAt s 0 := fun h => by rw [byteAt_extract (by omega) hle]
  generalize hd : digitsN s = d at *
  by_cases c1 : 1 ≤ d
  case neg =>
    have : ¬ (1 : Int) ≤ d := by omega
    simp (dsimp := false) (implicitDefEqProofs := false) [hsz1, this, labelOk, hd, c1, hgr]
  have i1 : (1 : Int) ≤ d := by omega
  have hb0 := hb0 c1
  by_cases c2 : d ≤ 4
  case neg =>
    have : ¬ (d : Int) ≤ 4 := by omega
    simp (dsimp := false) (implicitDefEqProofs := false) [hsz1, this, labelOk, hd, c1, i1, c2, hgr]
  have i2 : (d : Int) ≤ 4 := by omega
  have hpos : 0 < d := c1
  by_cases c3 : byteAt s 0 = 48
  · simp (dsimp := false) (implicitDefEqProofs := false) [hsz1, labelOk, hd, c1, i1, c2, i2, c3, hb0, hpos, hgr]
  by_cases c4 : s.size - d ≤ 3
  case neg =>
    have : ¬ ((s.size - d : Nat) : Int) ≤ 3 := by omega
    have c4' : ¬ s.size ≤ 3 + d := by omega
    simp (dsimp := false) (implicitDefEqProofs := false) [hsz1, hsz2, labelOk, hd, c1, i1, c2, i2, c3, hb0, hpos, this, c4, c4', hgr]
  have i4 : ((s.size - d : Nat) : Int) ≤ 3 := by omega
  simp (dsimp := false) (implicitDefEqProofs := false) [hsz1, hsz2, labelOk, hd, c1, i1, c2, i2, c3, hb0, hpos, i4, c4, hgr]
  refine w_calls (inv_of Tryz.func163 rfl rfl (ContainsFunc_ok gl M' 162 65 90 (by decide) (by decide) _ fun M c => inv_of Tryz.func162 rfl rfl (odd162 gl M c))) ?_
  rintro r M2 ⟨rfl, hgr2⟩
  have hg3 : Grow M M2 := KeepsBut.trans hgr hgr2
  have hx := scanB_neg_extract (outOf 65 90) s d (s.size - d) 0 (by omega)
  rw [hsz2]
  by_cases c5 : 0 ≤ scanB (outOf 65 90) (s.extract d s.size) (s.size - d) 0
  · have : ¬ scanB (outOf 65 90) s (s.size - d) d < 0 := fun h => by have := hx.2 (by simpa using h); omega
    simp (dsimp := false) (implicitDefEqProofs := false) [c5, labelOk, hd, c1, c2, c3, c4, this, hg3]
  · have : scanB (outOf 65 90) s (s.size - d) d < 0 := by have := hx.1 (by omega); simpa using this
    simp (dsimp := false) (implicitDefEqProofs := false) [c5, labelOk, hd, c1, c2, c3, c4, this, hg3]
end
end Go.Abs
