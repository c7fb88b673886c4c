/- The texts TrE, TrF: what each proves stands at its head. -/
import Derived.Test.YtlihfpfgogncbaaGreatDoorG25
import Derived.Laws.RangeAny
import Derived.Laws.RangeString
section
/- Contracts: labels; what slices of strings the run makes. -/
set_option maxRecDepth 100000
set_option linter.unusedSimpArgs false
set_option linter.unusedVariables false
namespace Go.Abs
open Go.Proofs TryTypes

theorem ba_empty {s : ByteArray} : s = ⟨#[]⟩ ↔ s.size = 0 := by
  constructor
  · rintro rfl; rfl
  · intro h
    refine ba_inj ?_
    have : s.data.size = 0 := h
    simp [Array.eq_empty_of_size_eq_zero this]
theorem wrap_in {n : Int} (h1 : -9223372036854775808 ≤ n) (h2 : n ≤ 9223372036854775807) : IntKind.i64.wrap n = n := IntWalk.i64_in _ ⟨h1, h2⟩

/-- variables that are never written again are data; slices that are made are arrays -/
def hW : Hint := ⟨fun _ => true, fun _ => false, fun _ => true⟩
@[simp] theorem hW_imm : hW.imm = fun _ => true := rfl
@[simp] theorem hW_own : hW.own = fun _ => false := rfl
@[simp] theorem hW_vec : hW.vec = fun _ => true := rfl
/-- a new slice of strings -/
def FreshS (M : Mem) (l : List ByteArray) (v : AV) (M' : Mem) : Prop := Own1 9 M' v (l.map S) ∧ KeepsBut none M M' ∧ Later M.length v
theorem rowsS_flat (l : List ByteArray) : (rowsS l).flatten = l.map S := by
  induction l with
  | nil => rfl
  | cons a l ih => simp only [rowsS, List.map_cons, List.flatten_cons] at ih ⊢; rw [ih]; rfl
theorem srcS (M : Mem) (l : List ByteArray) (o : Own) : srcCells M 1 (.list 1 (rowsS l) o) = some (l.map S, l.length) := by simp [srcCells, rowsS_flat]

theorem own_empty (M : Mem) : Own1 9 (M ++ [.vec 9 1 [] 0 [(0, 0)]]) (.vref M.length 0 1 0 0) [] := .inr ⟨M.length, 0, [(0, 0)], rfl, by simp, by simp [List.lookup]⟩
theorem fresh_of_app {M M' : Mem} {X : AObj} {v' : AV} {l : List ByteArray} (h1 : Own1 9 M' v' (l.map S)) (h2 : KeepsBut (some M.length) (M ++ [X]) M') (h3 : obj v' = some M.length ∨ Later (M ++ [X]).length v') : FreshS M l v' M' := by
  refine ⟨h1, ⟨by have := h2.1; simp at this; omega, fun i hi _ => ?_⟩, ?_⟩
  · rw [h2.2 i (by simp; omega) (by simp; omega), List.getElem?_append_left hi]
  · intro f hf
    rcases h3 with h | h
    · rw [h] at hf; simp at hf; omega
    · have := h f hf; simp at this; omega

theorem byteAt_extract {s : ByteArray} {i j k : Nat} (h : i + k < j) (hj : j ≤ s.size) : byteAt (s.extract i j) k = byteAt s (i + k) := by
  have h1 : k < (s.extract i j).size := by simp; omega
  have h2 : i + k < s.size := by omega
  have e : (s.extract i j)[k] = s[i + k] := ByteArray.getElem_extract h1
  have g : ∀ (t : ByteArray) (n : Nat) (h : n < t.size), byteAt t n = (t[n].toNat : Int) := by
    intro t n h
    have h' : n < t.data.size := h
    simp only [byteAt, Array.getD_eq_getD_getElem?, Array.getElem?_eq_getElem h', Option.getD_some]
    rfl
  rw [g _ _ h1, g _ _ h2, e]

/-- the first place from i on whose byte passes -/
def scanB (p : Int → Bool) (s : ByteArray) : Nat → Nat → Int
  | 0, _ => -1
  | n + 1, i => if p (byteAt s i) then i else scanB p s n (i + 1)
def outOf (lo hi : Int) (c : Int) : Bool := decide (c < lo) || decide (c > hi)
theorem byteAt_get (s : ByteArray) (i : Nat) (h : i < s.size) : byteAt s i = ((s[i]'h).toNat : Int) := by
  have h' : i < s.data.size := h
  simp only [byteAt, Array.getD_eq_getD_getElem?, Array.getElem?_eq_getElem h', Option.getD_some]
  rfl

theorem decode_out {lo hi : Int} (hlo : 0 < lo) (hhi : hi < 128) (s : ByteArray) (pos : Nat) (hp : pos < s.size) :
    outOf lo hi ((Utf8.decode s pos).1 : Int) = outOf lo hi (byteAt s pos) ∧ (outOf lo hi (byteAt s pos) = false → (Utf8.decode s pos).2 = 1) := by
  rw [byteAt_get s pos hp]
  by_cases ha : (s[pos]'hp).toNat < 128
  · rw [decode_ascii s pos hp ha]; exact ⟨rfl, fun _ => rfl⟩
  · have := decode_high s pos hp (by omega)
    have e1 : outOf lo hi ((Utf8.decode s pos).1 : Int) = true := by
      have : ((Utf8.decode s pos).1 : Int) > hi := by omega
      simp [outOf, this]
    have e2 : outOf lo hi ((s[pos]'hp).toNat : Int) = true := by
      have : ((s[pos]'hp).toNat : Int) > hi := by omega
      simp [outOf, this]
    rw [e1, e2]; exact ⟨rfl, fun e => by simp at e⟩
section
variable (gl : Nat → AV) (M : Mem)
theorem odd211 (c : Int) : ACalls (WC gl) 81 [.val (.int .i32 c)] M (fun v M' => v = B (outOf 48 57 c) ∧ M' = M) := by
  refine w_body hB Tryz.func81 rfl rfl rfl rfl rfl rfl ?_
  by_cases h1 : c < 48
  · simp (dsimp := false) (implicitDefEqProofs := false) [outOf, h1]
  · simp (dsimp := false) (implicitDefEqProofs := false) [outOf, h1]
theorem odd162 (c : Int) : ACalls (WC gl) 59 [.val (.int .i32 c)] M (fun v M' => v = B (outOf 65 90 c) ∧ M' = M) := by
  refine w_body hB Tryz.func59 rfl rfl rfl rfl rfl rfl ?_
  by_cases h1 : c < 65
  · simp (dsimp := false) (implicitDefEqProofs := false) [outOf, h1]
  · simp (dsimp := false) (implicitDefEqProofs := false) [outOf, h1]
def Grow (M M' : Mem) : Prop := KeepsBut none M M'

theorem indexFunc_ok (g : FuncId) (lo hi : Int) (hlo : 0 < lo) (hhi : hi < 128) (s : ByteArray) (hg : ∀ M c, Invk (WC gl) g [.val (.int .i32 c)] M (fun v M' => v = B (outOf lo hi c) ∧ M' = M)) :
    ACalls (WC gl) 128 [S s, .func (.func g) [] [], B true] M (fun v M' => v = I (scanB (outOf lo hi) s s.size 0) ∧ Grow M M') := by
  refine w_body hB Tryz.func128 rfl rfl rfl rfl rfl rfl ?_
  simp (dsimp := false) (implicitDefEqProofs := false) [rangeAV]
  refine w_looped hB (fun T M1 => ∃ pos, pos ≤ s.size ∧ M1 = M ++ [.siter s pos] ∧ T 1 = .func (.func g) [] [] ∧ T 2 = B true ∧ T 10 = .ptr M.length 0 ∧ scanB (outOf lo hi) s s.size 0 = scanB (outOf lo hi) s (s.size - pos) pos)
    (fun T M1 => match M1[M.length]? with | some (.siter _ pos) => s.size - pos | _ => 0) (by kernel_rfl) ?_ ?_
  · refine ⟨0, ?_⟩
    simp (dsimp := false) (implicitDefEqProofs := false)
  · rintro T M1 ⟨pos, h1, rfl, h2, h3, h4, h5⟩
    by_cases hp : pos < s.size
    · have hn : nextAV (.ptr M.length 0) (M ++ [.siter s pos]) = some (.tuple [.val (.bool true), .val (goInt pos), .val (.int .i32 (Utf8.decode s pos).1)], M ++ [.siter s (pos + (Utf8.decode s pos).2)]) := by
        simp [nextAV, hp]
      have hsc : scanB (outOf lo hi) s (s.size - pos) pos = if outOf lo hi (byteAt s pos) then (pos : Int) else scanB (outOf lo hi) s (s.size - (pos + 1)) (pos + 1) := by
        have : s.size - pos = (s.size - (pos + 1)) + 1 := by omega
        rw [this]; rfl
      obtain ⟨hd1, hd2⟩ := decode_out hlo hhi s pos hp
      have hpn : ((Utf8.decode s pos).1 : Int) = ((Utf8.decode s pos).1 : Nat) := rfl
      simp (dsimp := false) (implicitDefEqProofs := false) [h2, h3, h4, hn]
      refine w_calls (hg _ _) ?_
      rintro r M' ⟨rfl, rfl⟩
      cases hb : outOf lo hi ((Utf8.decode s pos).1 : Int)
      · rw [hd1] at hb
        have hd := hd2 hb
        simp (dsimp := false) (implicitDefEqProofs := false) [h2, h3, h4, hd]
        refine ⟨⟨pos + 1, by omega, rfl, by rw [h5, hsc, hb]; rfl⟩, ?_⟩
        omega
      · rw [hd1] at hb
        simp (dsimp := false) (implicitDefEqProofs := false) [h2, h3, h4]
        refine ⟨?_, .app _ _ _⟩
        rw [h5, hsc, hb]
        rfl
    · have hn : nextAV (.ptr M.length 0) (M ++ [.siter s pos]) = some (.tuple [.val (.bool false)], M ++ [.siter s pos]) := by
        simp [nextAV, hp]
      simp (dsimp := false) (implicitDefEqProofs := false) [h2, h3, h4, hn]
      refine ⟨?_, .app _ _ _⟩
      rw [h5, show s.size - pos = 0 by omega]
      rfl

theorem IndexFunc_ok (g : FuncId) (lo hi : Int) (hlo : 0 < lo) (hhi : hi < 128) (s : ByteArray) (hg : ∀ M c, Invk (WC gl) g [.val (.int .i32 c)] M (fun v M' => v = B (outOf lo hi c) ∧ M' = M)) :
    ACalls (WC gl) 80 [S s, .func (.func g) [] []] M (fun v M' => v = I (scanB (outOf lo hi) s s.size 0) ∧ Grow M M') := by
  refine w_body hB Tryz.func80 rfl rfl rfl rfl rfl rfl ?_
  simp (dsimp := false) (implicitDefEqProofs := false)
  refine w_calls (inv_of Tryz.func128 rfl rfl (indexFunc_ok gl M g lo hi hlo hhi s hg)) ?_
  rintro r M' ⟨rfl, hgr⟩
  simp (dsimp := false) (implicitDefEqProofs := false) [hgr]
theorem ContainsFunc_ok (g : FuncId) (lo hi : Int) (hlo : 0 < lo) (hhi : hi < 128) (s : ByteArray) (hg : ∀ M c, Invk (WC gl) g [.val (.int .i32 c)] M (fun v M' => v = B (outOf lo hi c) ∧ M' = M)) :
    ACalls (WC gl) 60 [S s, .func (.func g) [] []] M (fun v M' => v = B (decide (0 ≤ scanB (outOf lo hi) s s.size 0)) ∧ Grow M M') := by
  refine w_body hB Tryz.func60 rfl rfl rfl rfl rfl rfl ?_
  simp (dsimp := false) (implicitDefEqProofs := false)
  refine w_calls (inv_of Tryz.func80 rfl rfl (IndexFunc_ok gl M g lo hi hlo hhi s hg)) ?_
  rintro r M' ⟨rfl, hgr⟩
  simp (dsimp := false) (implicitDefEqProofs := false) [hgr]
theorem scanB_range (p : Int → Bool) (s : ByteArray) : ∀ n i, scanB p s n i = -1 ∨ ((i : Int) ≤ scanB p s n i ∧ scanB p s n i < i + n)
  | 0, i => .inl rfl
  | n + 1, i => by
    simp only [scanB]
    split
    · right; omega
    · rcases scanB_range p s n (i + 1) with h | h
      · exact .inl h
      · right; push_cast at h; omega
/-- the digits that a label begins with, and the rest -/
def digitsN (s : ByteArray) : Nat := let k := scanB (outOf 48 57) s s.size 0; if k < 0 then s.size else k.toNat
theorem parted_ok (s : ByteArray) : ACalls (WC gl) 58 [S s] M (fun v M' => v = .tuple [S (s.extract 0 (digitsN s)), S (s.extract (digitsN s) s.size)] ∧ Grow M M') := by
  refine w_body hB Tryz.func58 rfl rfl rfl rfl rfl rfl ?_
  simp (dsimp := false) (implicitDefEqProofs := false)
  refine w_calls (inv_of Tryz.func80 rfl rfl (IndexFunc_ok gl M 81 48 57 (by decide) (by decide) s fun M c => inv_of Tryz.func81 rfl rfl (odd211 gl M c))) ?_
  rintro r M' ⟨rfl, hgr⟩
  have hr := scanB_range (outOf 48 57) s s.size 0
  generalize hk : scanB (outOf 48 57) s s.size 0 = k at hr
  by_cases h0 : k < 0
  · have hd : digitsN s = s.size := by simp [digitsN, hk, h0]
    simp (dsimp := false) (implicitDefEqProofs := false) [h0, hgr, hd]
    rfl
  · have hd : digitsN s = k.toNat := by simp [digitsN, hk, h0]
    have h1 : 0 ≤ k := by omega
    have h2 : k ≤ s.size := by omega
    simp (dsimp := false) (implicitDefEqProofs := false) [h0]
    refine w_drawn hB (cfollows gl) (fun _ => 0) (fun _ => 0) (by rfl) (by kernel_rfl) ?_
    simp (dsimp := false) (implicitDefEqProofs := false) [hgr, hd, h1, h2]

theorem digitsN_le (s : ByteArray) : digitsN s ≤ s.size := by
  have hr := scanB_range (outOf 48 57) s s.size 0
  simp only [digitsN]
  split <;> omega
theorem scanB_neg_extract (p : Int → Bool) (s : ByteArray) (d : Nat) : ∀ n i, d + i + n ≤ s.size → (scanB p (s.extract d s.size) n i < 0 ↔ scanB p s n (d + i) < 0)
  | 0, i, h => by simp [scanB]
  | n + 1, i, h => by
    simp only [scanB]
    rw [byteAt_extract (by omega) (by omega)]
    split
    · constructor <;> intro h <;> omega
    · exact scanB_neg_extract p s d n (i + 1) (by omega)
def labelOk (s : ByteArray) : Bool := decide (1 ≤ digitsN s) && decide (digitsN s ≤ 4) && !decide (byteAt s 0 = 48) && decide (s.size - digitsN s ≤ 3) && decide (scanB (outOf 65 90) s (s.size - digitsN s) (digitsN s) < 0)
theorem Valid_ok (s : ByteArray) : ACalls (WC gl) 42 [S s] M (fun v M' => v = B (labelOk s) ∧ Grow M M') := by
  refine w_body hB Tryz.func42 rfl rfl rfl rfl rfl rfl ?_
  simp (dsimp := false) (implicitDefEqProofs := false)
  refine w_calls (inv_of Tryz.func58 rfl rfl (parted_ok gl M s)) ?_
  rintro r M' ⟨rfl, hgr⟩
  have hle := digitsN_le s
  have hsz1 : (s.extract 0 (digitsN s)).size = digitsN s := by simp; omega
  have hsz2 : (s.extract (digitsN s) s.size).size = s.size - digitsN s := by simp
  have hb0 : 1 ≤ digitsN s → byteAt (s.extract 0 (digitsN s)) 0 = byteAt s 0 := fun h => by rw [byteAt_extract (by omega) hle]
  generalize hd : digitsN s = d at *
  by_cases c1 : 1 ≤ d
  case neg =>
    have : ¬ (1 : Int) ≤ d := by omega
    simp (dsimp := false) (implicitDefEqProofs := false) [hsz1, this, labelOk, hd, c1, hgr]
  have i1 : (1 : Int) ≤ d := by omega
  have hb0 := hb0 c1
  by_cases c2 : d ≤ 4
  case neg =>
    have : ¬ (d : Int) ≤ 4 := by omega
    simp (dsimp := false) (implicitDefEqProofs := false) [hsz1, this, labelOk, hd, c1, i1, c2, hgr]
  have i2 : (d : Int) ≤ 4 := by omega
  have hpos : 0 < d := c1
  by_cases c3 : byteAt s 0 = 48
  · simp (dsimp := false) (implicitDefEqProofs := false) [hsz1, labelOk, hd, c1, i1, c2, i2, c3, hb0, hpos, hgr]
  by_cases c4 : s.size - d ≤ 3
  case neg =>
    have : ¬ ((s.size - d : Nat) : Int) ≤ 3 := by omega
    have c4' : ¬ s.size ≤ 3 + d := by omega
    simp (dsimp := false) (implicitDefEqProofs := false) [hsz1, hsz2, labelOk, hd, c1, i1, c2, i2, c3, hb0, hpos, this, c4, c4', hgr]
  have i4 : ((s.size - d : Nat) : Int) ≤ 3 := by omega
  simp (dsimp := false) (implicitDefEqProofs := false) [hsz1, hsz2, labelOk, hd, c1, i1, c2, i2, c3, hb0, hpos, i4, c4, hgr]
  refine w_calls (inv_of Tryz.func60 rfl rfl (ContainsFunc_ok gl M' 59 65 90 (by decide) (by decide) _ fun M c => inv_of Tryz.func59 rfl rfl (odd162 gl M c))) ?_
  rintro r M2 ⟨rfl, hgr2⟩
  have hg3 : Grow M M2 := KeepsBut.trans hgr hgr2
  have hx := scanB_neg_extract (outOf 65 90) s d (s.size - d) 0 (by omega)
  rw [hsz2]
  by_cases c5 : 0 ≤ scanB (outOf 65 90) (s.extract d s.size) (s.size - d) 0
  · have : ¬ scanB (outOf 65 90) s (s.size - d) d < 0 := fun h => by have := hx.2 (by simpa using h); omega
    simp (dsimp := false) (implicitDefEqProofs := false) [c5, labelOk, hd, c1, c2, c3, c4, this, hg3]
  · have : scanB (outOf 65 90) s (s.size - d) d < 0 := by have := hx.1 (by omega); simpa using this
    simp (dsimp := false) (implicitDefEqProofs := false) [c5, labelOk, hd, c1, c2, c3, c4, this, hg3]
end
end Go.Abs
end
section
/- Contracts: addresses (the program's and the reference's). -/
set_option maxRecDepth 100000
set_option linter.unusedSimpArgs false
set_option linter.unusedVariables false
namespace Go.Abs
open Go.Proofs TryTypes

abbrev Step.v (s : Step) : AV := .agg s.row
def rowsP (p : List Step) : List (List AV) := p.map Step.row
@[simp] theorem rowsP_len (p : List Step) : (rowsP p).length = p.length := by simp [rowsP]
def isBookS (s : Step) : Bool := decide (s.k = 0) && decide (s.lab = ⟨#[]⟩)
def namedS (s : Step) : Bool := decide (1 ≤ s.k) && decide (s.k ≤ 7) && labelOk s.lab
theorem Grow.refl (M : Mem) : Grow M M := KeepsBut.refl _ _
theorem Grow.trans {A B C : Mem} (h1 : Grow A B) (h2 : Grow B C) : Grow A C := KeepsBut.trans h1 h2
theorem rowsP_at {p : List Step} {i : Nat} (h : i < p.length) : (rowsP p)[i]?.getD [] = (p[i]).row := by simp [rowsP, h]
@[simp] theorem rowsP_get {p : List Step} {i : Nat} (h : i < (rowsP p).length) : (rowsP p)[i] = [I (p[i]'(by simpa using h)).k, S (p[i]'(by simpa using h)).lab] := by simp [rowsP, Step.row]
def kindWords : List ByteArray := [⟨#[]⟩, ⟨#[112, 97, 114, 116]⟩, ⟨#[115, 101, 99, 116, 105, 111, 110]⟩, ⟨#[112, 97, 114, 97, 103, 114, 97, 112, 104]⟩, ⟨#[116, 97, 98, 108, 101]⟩, ⟨#[114, 111, 119]⟩, ⟨#[99, 101, 108, 108]⟩, ⟨#[110, 111, 116, 101]⟩]
def bookWord : ByteArray := ⟨#[98, 111, 111, 107]⟩
def stepWords (s : Step) : List ByteArray := if isBookS s then [bookWord] else [kindWords.getD s.k.toNat ⟨#[]⟩, s.lab]
def toldW (p : List Step) : List ByteArray := p.flatMap stepWords

/-- the appends' slices are arrays, the others data -/
def hT : Hint := ⟨fun _ => true, fun _ => false, fun d => d == 27 || d == 39 || d == 21⟩
@[simp] theorem hT_imm : hT.imm = fun _ => true := rfl
@[simp] theorem hT_own : hT.own = fun _ => false := rfl
@[simp] theorem hT_vec : hT.vec = fun d => d == 27 || d == 39 || d == 21 := rfl
def goodStep (s : Step) : Bool := isBookS s || namedS s
theorem label_ne {s : ByteArray} (h : labelOk s = true) : ¬ s = ⟨#[]⟩ := by
  rintro rfl
  revert h
  decide +kernel
theorem fresh_push {M M1 M' X : Mem} {l news : List ByteArray} {out v' : AV} (h : FreshS M l out M1) (h1 : Own1 9 M' v' (l.map S ++ news.map S)) (h2 : KeepsBut (obj out) (M1 ++ X) M') (h3 : obj v' = obj out ∨ Later (M1 ++ X).length v') : FreshS M (l ++ news) v' M' := by
  refine ⟨by simpa using h1, ⟨?_, fun i hi _ => ?_⟩, ?_⟩
  · have a := h.2.1.1; have b := h2.1; simp at b; omega
  · have hl := h.2.1.1
    rw [h2.2 i (by simp; omega) fun e => by have := h.2.2 i e; omega, List.getElem?_append_left (by omega)]
    exact h.2.1.2 i hi (by simp)
  · intro f hf
    rcases h3 with e | e
    · exact h.2.2 f (by rw [← e]; exact hf)
    · have a := h.2.1.1; have b := e f hf; simp at b; omega
theorem toldW_succ {p : List Step} {i : Nat} (h : i < p.length) : toldW (p.take (i + 1)) = toldW (p.take i) ++ stepWords p[i] := by
  rw [List.take_succ_eq_append_getElem h, toldW, toldW, List.flatMap_append]; simp
theorem stepWords_len (s : Step) : (stepWords s).length ≤ 2 := by unfold stepWords; split <;> simp
theorem toldW_len (p : List Step) : (toldW p).length ≤ 2 * p.length := by
  induction p with
  | nil => simp [toldW]
  | cons a p ih => have := stepWords_len a; simp only [toldW, List.flatMap_cons, List.length_append, List.length_cons] at *; omega

section
variable (gl : Nat → AV) (M : Mem)
theorem scanB_succ (p : Int → Bool) (s : ByteArray) {i : Nat} (h : i < s.size) : scanB p s (s.size - i) i = if p (byteAt s i) then (i : Int) else scanB p s (s.size - (i + 1)) (i + 1) := by
  have : s.size - i = (s.size - (i + 1)) + 1 := by omega
  rw [this]; rfl
theorem digitsN_of {s : ByteArray} {i : Nat} (h : scanB (outOf 48 57) s s.size 0 = (i : Int)) : digitsN s = i := by
  simp only [digitsN, h]; split <;> omega
theorem digitsN_none {s : ByteArray} (h : scanB (outOf 48 57) s s.size 0 = -1) : digitsN s = s.size := by
  simp only [digitsN, h]; rfl
theorem digits_ok (s : ByteArray) (hs : s.size ≤ maxLen) : ACalls (WC gl) 47 [S s] M (fun v M' => v = I (digitsN s) ∧ M' = M) := by
  refine w_body hB Tryz.func47 rfl rfl rfl rfl rfl rfl ?_
  simp (dsimp := false) (implicitDefEqProofs := false)
  refine w_looped hB (fun T M1 => ∃ i : Nat, i ≤ s.size ∧ M1 = M ∧ T 0 = S s ∧ T 3 = I i ∧ scanB (outOf 48 57) s s.size 0 = scanB (outOf 48 57) s (s.size - i) i)
    (fun T M1 => match T 3 with | .val (.int _ i) => s.size - i.toNat | _ => 0) (by kernel_rfl) ?_ ?_
  · refine ⟨0, ?_⟩
    simp (dsimp := false) (implicitDefEqProofs := false)
  · rintro T M1 ⟨i, h1, rfl, h3, h4, h5⟩
    by_cases hi : i < s.size
    · have hi' : (i : Int) < s.size := by omega
      have hw : IntKind.i64.wrap ((i : Int) + 1) = (i + 1 : Nat) := by rw [wrap_in (by omega) (by simp only [maxLen] at hs; omega)]; omega
      rw [scanB_succ _ _ hi] at h5
      by_cases c1 : byteAt s i ≥ 48
      · by_cases c2 : byteAt s i ≤ 57
        · have ho : outOf 48 57 (byteAt s i) = false := by simp [outOf]; omega
          rw [ho] at h5
          have c1' : (48 : Int) ≤ byteAt s i := c1
          simp (dsimp := false) (implicitDefEqProofs := false) [h3, h4, hi, hi', c1, c1', c2, hw]
          refine ⟨⟨i + 1, by clear hw; omega, by simp, by simpa using h5⟩, by clear hw; omega⟩
        · have ho : outOf 48 57 (byteAt s i) = true := by simp [outOf]; omega
          rw [ho] at h5
          have c1' : (48 : Int) ≤ byteAt s i := c1
          have hd := digitsN_of (by simpa using h5)
          simp (dsimp := false) (implicitDefEqProofs := false) [h3, h4, hi, hi', c1, c1', c2, hd]
      · have ho : outOf 48 57 (byteAt s i) = true := by simp [outOf]; omega
        rw [ho] at h5
        have c1' : ¬ (48 : Int) ≤ byteAt s i := c1
        have hd := digitsN_of (by simpa using h5)
        simp (dsimp := false) (implicitDefEqProofs := false) [h3, h4, hi, hi', c1, c1', hd]
    · have hi' : ¬ (i : Int) < s.size := by omega
      rw [show s.size - i = 0 by omega] at h5
      have hd := digitsN_none (by rw [h5]; rfl)
      have hii : (i : Int) = s.size := by omega
      simp (dsimp := false) (implicitDefEqProofs := false) [h3, h4, hi', hd, hii]
theorem labelMay_ok (s : ByteArray) (hs : s.size ≤ maxLen) : ACalls (WC gl) 35 [S s] M (fun v M' => v = B (labelOk s) ∧ M' = M) := by
  refine w_body hB Tryz.func35 rfl rfl rfl rfl rfl rfl ?_
  simp (dsimp := false) (implicitDefEqProofs := false)
  refine w_calls (inv_of Tryz.func47 rfl rfl (digits_ok gl M s hs)) ?_
  rintro r M' ⟨rfl, rfl⟩
  have hle := digitsN_le s
  generalize hd : digitsN s = d at *
  by_cases c1 : 1 ≤ d
  case neg =>
    have : (d : Int) < 1 := by omega
    simp (dsimp := false) (implicitDefEqProofs := false) [this, labelOk, hd, c1]
  have i1 : ¬ (d : Int) < 1 := by omega
  by_cases c2 : d ≤ 4
  case neg =>
    have : (4 : Int) < d := by omega
    simp (dsimp := false) (implicitDefEqProofs := false) [this, labelOk, hd, c1, i1, c2]
  have i2 : ¬ (4 : Int) < d := by omega
  have hpos : 0 < s.size := by omega
  by_cases c3 : byteAt s 0 = 48
  · simp (dsimp := false) (implicitDefEqProofs := false) [labelOk, hd, c1, i1, c2, i2, c3, hpos]
  have hw : IntKind.i64.wrap ((s.size : Int) - d) = (s.size - d : Nat) := by rw [wrap_in (by omega) (by simp only [maxLen] at hs; omega)]; omega
  by_cases c4 : s.size - d ≤ 3
  case neg =>
    have : (3 : Int) < (s.size - d : Nat) := by omega
    have c4' : ¬ s.size ≤ 3 + d := by omega
    simp (dsimp := false) (implicitDefEqProofs := false) [labelOk, hd, c1, i1, c2, i2, c3, hpos, hw, this, c4']
  have i4 : ¬ (3 : Int) < (s.size - d : Nat) := by omega
  simp (dsimp := false) (implicitDefEqProofs := false) [labelOk, hd, c1, i1, c2, i2, c3, hpos, hw, i4]
  have hlo : labelOk s = decide (scanB (outOf 65 90) s (s.size - d) d < 0) := by simp [labelOk, hd, c1, c2, c3]; omega
  rw [hlo]
  clear hlo
  refine w_looped hB (fun T M1 => ∃ i : Nat, i ≤ s.size ∧ M1 = M' ∧ T 0 = S s ∧ T 4 = I i ∧ decide (scanB (outOf 65 90) s (s.size - d) d < 0) = decide (scanB (outOf 65 90) s (s.size - i) i < 0))
    (fun T M1 => match T 4 with | .val (.int _ i) => s.size - i.toNat | _ => 0) (by kernel_rfl) ?_ ?_
  · refine ⟨d, ?_⟩
    simp (dsimp := false) (implicitDefEqProofs := false) [hle]
  · rintro T M1 ⟨i, h1, rfl, h3, h4, h5⟩
    rw [h5]
    by_cases hi : i < s.size
    · have hi' : (i : Int) < s.size := by omega
      have hw : IntKind.i64.wrap ((i : Int) + 1) = (i + 1 : Nat) := by rw [wrap_in (by omega) (by simp only [maxLen] at hs; omega)]; omega
      rw [scanB_succ _ _ hi] at h5 ⊢
      by_cases c1 : byteAt s i < 65
      · have ho : outOf 65 90 (byteAt s i) = true := by simp [outOf]; omega
        rw [ho] at h5 ⊢
        simp (dsimp := false) (implicitDefEqProofs := false) [h3, h4, hi, hi', c1]
      · by_cases c2 : byteAt s i > 90
        · have ho : outOf 65 90 (byteAt s i) = true := by simp [outOf]; omega
          rw [ho] at h5 ⊢
          have c2' : 90 < byteAt s i := c2
          simp (dsimp := false) (implicitDefEqProofs := false) [h3, h4, hi, hi', c1, c2, c2']
        · have ho : outOf 65 90 (byteAt s i) = false := by simp [outOf]; omega
          rw [ho] at h5 ⊢
          have c2' : ¬ 90 < byteAt s i := c2
          simp (dsimp := false) (implicitDefEqProofs := false) [h3, h4, hi, hi', c1, c2, c2', hw]
          refine ⟨⟨i + 1, by clear hw; omega, by simp, Iff.rfl⟩, by clear hw; omega⟩
    · have hi' : ¬ (i : Int) < s.size := by omega
      rw [show s.size - i = 0 by omega] at h5 ⊢
      simp (dsimp := false) (implicitDefEqProofs := false) [h3, h4, hi', scanB]
end
def smallP (p : List Step) : Prop := p.length ≤ 1000000 ∧ ∀ s ∈ p, s.lab.size ≤ maxLen

def pathOk : List Step → Bool
  | [] => true
  | s :: r => (isBookS s || namedS s) && r.all namedS
theorem pathOk_take {p : List Step} : ∀ {i : Nat} (h : i < p.length), pathOk (p.take (i + 1)) = (pathOk (p.take i) && ((decide (i = 0) && isBookS p[i]) || namedS p[i])) := by
  intro i h
  cases p with
  | nil => simp at h
  | cons s r =>
    cases i with
    | zero => simp [pathOk]
    | succ j =>
      have hj : j < r.length := by simpa using h
      simp only [List.take_succ_cons, pathOk, List.getElem_cons_succ]
      rw [List.take_succ_eq_append_getElem hj, List.all_append]
      simp [Bool.and_assoc]
theorem pathOk_of_take {p : List Step} (i : Nat) (h : pathOk p = true) : pathOk (p.take i) = true := by
  cases p with
  | nil => simp [pathOk]
  | cons s r =>
    cases i with
    | zero => rfl
    | succ j =>
      simp only [List.take_succ_cons, pathOk, Bool.and_eq_true] at h ⊢
      refine ⟨h.1, ?_⟩
      have h2 := h.2
      simp only [List.all_eq_true] at h2 ⊢
      exact fun x hx => h2 x (List.mem_of_mem_take hx)
theorem pathOk_bad {p : List Step} {i : Nat} (h : i < p.length) (h1 : (decide (i = 0) && isBookS p[i]) = false) (h2 : namedS p[i] = false) : pathOk p = false := by
  cases hp : pathOk p with
  | false => rfl
  | true =>
    have := pathOk_of_take (i + 1) hp
    rw [pathOk_take h, h1, h2] at this
    simp at this
theorem pathOk_next {p : List Step} {i : Nat} (h : i < p.length) (h0 : pathOk (p.take i) = true) (h1 : ((decide (i = 0) && isBookS p[i]) || namedS p[i]) = true) : pathOk (p.take (i + 1)) = true := by
  rw [pathOk_take h, h0, h1]; rfl
section
variable (gl : Nat → AV) (M : Mem)
theorem aBook_ok (s : Step) : ACalls (WC gl) 32 [s.v] M (fun v M' => v = B (isBookS s) ∧ M' = M) := by
  refine w_body hB Tryz.func32 rfl rfl rfl rfl rfl rfl ?_
  by_cases c1 : s.k = 0
  · by_cases c2 : s.lab = ⟨#[]⟩
    · simp (dsimp := false) (implicitDefEqProofs := false) [Step.row, isBookS, c1, c2]
    · simp (dsimp := false) (implicitDefEqProofs := false) [Step.row, isBookS, c1, c2]
  · simp (dsimp := false) (implicitDefEqProofs := false) [Step.row, isBookS, c1]
theorem rBook_ok (s : Step) : ACalls (WC gl) 24 [s.v] M (fun v M' => v = B (isBookS s) ∧ M' = M) := by
  refine w_body hB Tryz.func24 rfl rfl rfl rfl rfl rfl ?_
  by_cases c1 : s.k = 0
  · by_cases c2 : s.lab = ⟨#[]⟩
    · simp (dsimp := false) (implicitDefEqProofs := false) [Step.row, isBookS, c1, c2]
    · simp (dsimp := false) (implicitDefEqProofs := false) [Step.row, isBookS, c1, c2]
  · simp (dsimp := false) (implicitDefEqProofs := false) [Step.row, isBookS, c1]
theorem aValid_ok (p : List Step) (o : Own) (hlen : p.length ≤ 1000000) : ACalls (WC gl) 30 [.list 2 (rowsP p) o] M (fun v M' => v = B (pathOk p && decide (p.length ≤ 9)) ∧ Grow M M') := by
  refine w_body hB Tryz.func30 rfl rfl rfl rfl rfl rfl ?_
  simp (dsimp := false) (implicitDefEqProofs := false)
  refine w_looped hB (fun T M1 => ∃ i : Nat, i ≤ p.length ∧ Grow M M1 ∧ T 0 = .list 2 (rowsP p) o ∧ T 5 = .list 2 (rowsP p) o ∧ T 6 = I p.length ∧ T 7 = I i ∧ pathOk (p.take i) = true)
    (fun T M1 => match T 7 with | .val (.int _ i) => p.length - i.toNat | _ => 0) (by kernel_rfl) ?_ ?_
  · refine ⟨0, ?_⟩
    simp (dsimp := false) (implicitDefEqProofs := false) [Grow.refl, pathOk]
  · rintro T M1 ⟨i, h1, h2, h3, h4, h5, h6, h7⟩
    by_cases hi : i < p.length
    · have hi' : (i : Int) < p.length := by omega
      have hw : IntKind.i64.wrap ((i : Int) + 1) = (i + 1 : Nat) := by rw [wrap_in (by omega) (by omega)]; omega
      have hM2 : (M1 ++ [AObj.cells 31 [I p[i].k, S p[i].lab]])[M1.length]? = some (.cells 31 [I p[i].k, S p[i].lab]) := by simp
      have h2' : Grow M (M1 ++ [AObj.cells 31 [I p[i].k, S p[i].lab]]) := h2.trans (.app none M1 _)
      by_cases c0 : i = 0
      · subst c0
        have hw1 : IntKind.i64.wrap 1 = 1 := by rfl
        simp (dsimp := false) (implicitDefEqProofs := false) [h3, h4, h5, h6, hi, hi', Step.row, allocAV, storeAV, overwrite, loadAV_ptr hM2]
        refine w_calls (inv_of Tryz.func32 rfl rfl (aBook_ok gl _ p[0])) ?_
        rintro r M' ⟨rfl, rfl⟩
        cases hb : isBookS p[0]
        · by_cases c1 : p[0].k ≤ 0
          · have hn : namedS p[0] = false := by simp [namedS]; intro h; omega
            have hbad := pathOk_bad hi (by simp [hb]) hn
            simp (dsimp := false) (implicitDefEqProofs := false) [h3, h4, h5, h6, loadAV_ptr hM2, c1, hbad]
            exact h2'
          by_cases c2 : 7 < p[0].k
          · have c2n : ¬ p[0].k ≤ 7 := by omega
            have c2g : p[0].k > 7 := c2
            have hn : namedS p[0] = false := by simp [namedS]; intro h h'; omega
            have hbad := pathOk_bad hi (by simp [hb]) hn
            simp (dsimp := false) (implicitDefEqProofs := false) [h3, h4, h5, h6, loadAV_ptr hM2, c1, c2, c2g, c2n, hbad]
            exact h2'
          have c2n : p[0].k ≤ 7 := by omega
          have c2h : ¬ p[0].k > 7 := c2
          simp (dsimp := false) (implicitDefEqProofs := false) [h3, h4, h5, h6, loadAV_ptr hM2, c1, c2n, c2h]
          refine w_calls (inv_of Tryz.func42 rfl rfl (Valid_ok gl _ p[0].lab)) ?_
          rintro r M2 ⟨rfl, hgr⟩
          have hg := h2'.trans hgr
          cases hl : labelOk p[0].lab
          · have hbad := pathOk_bad hi (by simp [hb]) (by simp [namedS, hl])
            simp (dsimp := false) (implicitDefEqProofs := false) [h3, h4, h5, h6, c1, c2n, c2h, hbad]
            exact hg
          · have hn := pathOk_next hi h7 (by simp [namedS, hl]; right; omega)
            simp (dsimp := false) (implicitDefEqProofs := false) [h3, h4, h5, h6, hw1, c1, c2n, c2h, hg]
            refine ⟨⟨1, by clear hw; omega, by simp, hn⟩, ?_⟩; clear hw; omega
        · have hn := pathOk_next hi h7 (by simp [hb])
          simp (dsimp := false) (implicitDefEqProofs := false) [h3, h4, h5, h6, hw1, h2']
          refine ⟨⟨1, by clear hw; omega, by simp, hn⟩, ?_⟩; clear hw; omega
      · have c0' : ¬ (i : Int) = 0 := by omega
        by_cases c1 : p[i].k ≤ 0
        · have hn : namedS p[i] = false := by simp [namedS]; intro h; omega
          have hbad := pathOk_bad hi (by simp [c0]) hn
          simp (dsimp := false) (implicitDefEqProofs := false) [h3, h4, h5, h6, hi, hi', Step.row, allocAV, storeAV, overwrite, loadAV_ptr hM2, c0, c0', c1, hbad]
          exact h2'
        by_cases c2 : 7 < p[i].k
        · have c2n : ¬ p[i].k ≤ 7 := by omega
          have c2g : p[i].k > 7 := c2
          have hn : namedS p[i] = false := by simp [namedS]; intro h h'; omega
          have hbad := pathOk_bad hi (by simp [c0]) hn
          simp (dsimp := false) (implicitDefEqProofs := false) [h3, h4, h5, h6, hi, hi', Step.row, allocAV, storeAV, overwrite, loadAV_ptr hM2, c0, c0', c1, c2, c2g, c2n, hbad]
          exact h2'
        have c2n : p[i].k ≤ 7 := by omega
        have c2h : ¬ p[i].k > 7 := c2
        simp (dsimp := false) (implicitDefEqProofs := false) [h3, h4, h5, h6, hi, hi', Step.row, allocAV, storeAV, overwrite, loadAV_ptr hM2, c0, c0', c1, c2n, c2h]
        refine w_calls (inv_of Tryz.func42 rfl rfl (Valid_ok gl _ p[i].lab)) ?_
        rintro r M2 ⟨rfl, hgr⟩
        have hg := h2'.trans hgr
        cases hl : labelOk p[i].lab
        · have hbad := pathOk_bad hi (by simp [c0]) (by simp [namedS, hl])
          simp (dsimp := false) (implicitDefEqProofs := false) [h3, h4, h5, h6, c1, c2n, c2h, hbad]
          exact hg
        · have hn := pathOk_next hi h7 (by simp [namedS, hl]; right; omega)
          simp (dsimp := false) (implicitDefEqProofs := false) [h3, h4, h5, h6, hw, c1, c2n, c2h, hg]
          exact ⟨⟨i + 1, by clear hw; omega, by simp, hn⟩, by clear hw; omega⟩
    · have hi' : ¬ (i : Int) < p.length := by omega
      rw [List.take_of_length_le (by omega)] at h7
      simp (dsimp := false) (implicitDefEqProofs := false) [h3, h4, h5, h6, hi', h7]
      exact ⟨by omega, h2⟩
theorem rMay_ok (p : List Step) (o : Own) (hp : smallP p) : ACalls (WC gl) 22 [.list 2 (rowsP p) o] M (fun v M' => v = B (pathOk p && decide (p.length ≤ 9)) ∧ M' = M) := by
  refine w_body hB Tryz.func22 rfl rfl rfl rfl rfl rfl ?_
  have hlen := hp.1
  by_cases h9 : p.length ≤ 9
  case neg =>
    have : (9 : Int) < p.length := by omega
    simp (dsimp := false) (implicitDefEqProofs := false) [this, h9]
  have h9' : ¬ (9 : Int) < p.length := by omega
  simp (dsimp := false) (implicitDefEqProofs := false) [h9', h9]
  refine w_looped hB (fun T M1 => ∃ i : Nat, i ≤ p.length ∧ M1 = M ∧ T 0 = .list 2 (rowsP p) o ∧ T 3 = I i ∧ pathOk (p.take i) = true)
    (fun T M1 => match T 3 with | .val (.int _ i) => p.length - i.toNat | _ => 0) (by kernel_rfl) ?_ ?_
  · refine ⟨0, ?_⟩
    simp (dsimp := false) (implicitDefEqProofs := false) [pathOk]
  · rintro T M1 ⟨i, h1, rfl, h3, h4, h7⟩
    by_cases hi : i < p.length
    · have hi' : (i : Int) < p.length := by omega
      have hw : IntKind.i64.wrap ((i : Int) + 1) = (i + 1 : Nat) := by rw [wrap_in (by omega) (by omega)]; omega
      have hs : p[i].lab.size ≤ maxLen := hp.2 _ (List.getElem_mem hi)
      by_cases c0 : i = 0
      · subst c0
        have hw1 : IntKind.i64.wrap 1 = 1 := by rfl
        simp (dsimp := false) (implicitDefEqProofs := false) [h3, h4, hi, hi', Step.row]
        refine w_calls (inv_of Tryz.func24 rfl rfl (rBook_ok gl _ p[0])) ?_
        rintro r M' ⟨rfl, rfl⟩
        cases hb : isBookS p[0]
        · by_cases c1 : p[0].k < 1
          · have hn : namedS p[0] = false := by simp [namedS]; intro h; omega
            have hbad := pathOk_bad hi (by simp [hb]) hn
            simp (dsimp := false) (implicitDefEqProofs := false) [h3, h4, hi, c1, hbad]
          by_cases c2 : 7 < p[0].k
          · have c2n : ¬ p[0].k ≤ 7 := by omega
            have c2g : p[0].k > 7 := c2
            have hn : namedS p[0] = false := by simp [namedS]; intro h h'; omega
            have hbad := pathOk_bad hi (by simp [hb]) hn
            simp (dsimp := false) (implicitDefEqProofs := false) [h3, h4, hi, c1, c2, c2g, c2n, hbad]
          have c2n : p[0].k ≤ 7 := by omega
          have c2h : ¬ p[0].k > 7 := c2
          simp (dsimp := false) (implicitDefEqProofs := false) [h3, h4, hi, c1, c2n, c2h]
          refine w_calls (inv_of Tryz.func35 rfl rfl (labelMay_ok gl _ p[0].lab hs)) ?_
          rintro r M2 ⟨rfl, rfl⟩
          cases hl : labelOk p[0].lab
          · have hbad := pathOk_bad hi (by simp [hb]) (by simp [namedS, hl])
            simp (dsimp := false) (implicitDefEqProofs := false) [h3, h4, c1, c2n, c2h, hbad]
          · have hn := pathOk_next hi h7 (by simp [namedS, hl]; right; omega)
            simp (dsimp := false) (implicitDefEqProofs := false) [h3, h4, hw1, c1, c2n, c2h]
            refine ⟨⟨1, by clear hw; omega, by simp, hn⟩, ?_⟩; clear hw; omega
        · have hn := pathOk_next hi h7 (by simp [hb])
          simp (dsimp := false) (implicitDefEqProofs := false) [h3, h4, hw1]
          refine ⟨⟨1, by clear hw; omega, by simp, hn⟩, ?_⟩; clear hw; omega
      · have c0' : ¬ (i : Int) = 0 := by omega
        by_cases c1 : p[i].k < 1
        · have hn : namedS p[i] = false := by simp [namedS]; intro h; omega
          have hbad := pathOk_bad hi (by simp [c0]) hn
          simp (dsimp := false) (implicitDefEqProofs := false) [h3, h4, hi, hi', Step.row, c0, c0', c1, hbad]
        by_cases c2 : 7 < p[i].k
        · have c2n : ¬ p[i].k ≤ 7 := by omega
          have c2g : p[i].k > 7 := c2
          have hn : namedS p[i] = false := by simp [namedS]; intro h h'; omega
          have hbad := pathOk_bad hi (by simp [c0]) hn
          simp (dsimp := false) (implicitDefEqProofs := false) [h3, h4, hi, hi', Step.row, c0, c0', c1, c2, c2g, c2n, hbad]
        have c2n : p[i].k ≤ 7 := by omega
        have c2h : ¬ p[i].k > 7 := c2
        simp (dsimp := false) (implicitDefEqProofs := false) [h3, h4, hi, hi', Step.row, c0, c0', c1, c2n, c2h]
        refine w_calls (inv_of Tryz.func35 rfl rfl (labelMay_ok gl _ p[i].lab hs)) ?_
        rintro r M2 ⟨rfl, rfl⟩
        cases hl : labelOk p[i].lab
        · have hbad := pathOk_bad hi (by simp [c0]) (by simp [namedS, hl])
          simp (dsimp := false) (implicitDefEqProofs := false) [h3, h4, c1, c2n, c2h, hbad]
        · have hn := pathOk_next hi h7 (by simp [namedS, hl]; right; omega)
          simp (dsimp := false) (implicitDefEqProofs := false) [h3, h4, hw, c1, c2n, c2h]
          exact ⟨⟨i + 1, by clear hw; omega, by simp, hn⟩, by clear hw; omega⟩
    · have hi' : ¬ (i : Int) < p.length := by omega
      rw [List.take_of_length_le (by omega)] at h7
      simp (dsimp := false) (implicitDefEqProofs := false) [h3, h4, hi', h7, h9]
end
end Go.Abs
end
