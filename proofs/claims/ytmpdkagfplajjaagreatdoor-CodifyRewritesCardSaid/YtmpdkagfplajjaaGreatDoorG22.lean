/- The texts CyL, CyM, CyN: what each proves stands at its head. -/
import Derived.Test.YtmpdkagfplajjaaGreatDoorG21
section
/- Contracts: are two slices of strings the same. -/
set_option maxRecDepth 100000
set_option linter.unusedSimpArgs false
set_option linter.unusedVariables false
namespace Go.Abs
open Go.Proofs TryTypes

/-- a slice of strings, as data or as an array -/
def StrsV (M : Mem) (v : AV) (l : List ByteArray) : Prop := (∃ o, v = .list 1 (rowsS l) o) ∨ Own1 9 M v (l.map S)
theorem StrsV.len {M : Mem} {v : AV} {l : List ByteArray} (h : StrsV M v l) : lenAV Tryz.prog 37 v = some l.length := by
  rcases h with ⟨o, rfl⟩ | h
  · simp [lenAV]
  · rw [h.len (e := 9) (by simp)]; simp
theorem StrsV.at {M : Mem} {v : AV} {l : List ByteArray} (h : StrsV M v l) {i : Nat} (hi : i < l.length) : ∃ p, idxAV (some (some 1)) v (I i) = some p ∧ ((p = .cptr [S l[i]]) ∨ ∃ f, obj v = some f ∧ obOf p = some f ∧ loadAV Tryz.prog 9 M p = some (S l[i])) := by
  rcases h with ⟨o, rfl⟩ | h
  · refine ⟨_, by simp [hi]; rfl, .inl ?_⟩
    simp [rowsS, hi]
  · rcases h with ⟨rfl, hn⟩ | ⟨f, g, hist, rfl, hf, hl⟩
    · have : l.length = 0 := by have := congrArg List.length hn; simpa using this
      omega
    · refine ⟨_, by simp [hi]; rfl, .inr ⟨f, rfl, rfl, ?_⟩⟩
      simp [loadAV, memOf, hf, hl, loadCells_row, hi]
      rw [List.take_of_length_le (by simp), List.drop_eq_getElem_cons (by simpa using hi)]
      simp
section
variable (gl : Nat → AV) (M : Mem)
theorem Same_ok (a b : AV) (x y : List ByteArray) (ha : StrsV M a x) (hb : StrsV M b y) (hx : x.length ≤ 1000000) : ACalls (WC gl) 17 [a, b] M (fun v M' => v = B (decide (x = y)) ∧ M' = M) := by
  refine w_body hB Tryz.func17 rfl rfl rfl rfl rfl rfl ?_
  by_cases hlen : x.length = y.length
  · have hl' : (x.length : Int) = y.length := by omega
    simp (dsimp := false) (implicitDefEqProofs := false) [ha.len, hb.len, hl', hlen]
    refine w_looped hB (fun T M1 => ∃ i : Nat, i ≤ x.length ∧ M1 = M ∧ T 0 = a ∧ T 1 = b ∧ T 5 = I i ∧ x.take i = y.take i)
      (fun T M1 => match T 5 with | .val (.int _ i) => x.length - i.toNat | _ => 0) (by kernel_rfl) ?_ ?_
    · refine ⟨0, ?_⟩
      simp (dsimp := false) (implicitDefEqProofs := false)
    · rintro T M1 ⟨i, h1, rfl, h2, h3, h4, h5⟩
      by_cases hi : i < x.length
      · have hi' : (i : Int) < x.length := by omega
        have hiy : i < y.length := by omega
        have hi2 : (i : Int) < y.length := by omega
        have hw : IntKind.i64.wrap ((i : Int) + 1) = (i + 1 : Nat) := by rw [wrap_in (by omega) (by omega)]; omega
        obtain ⟨pa, hpa, ca⟩ := ha.at hi
        obtain ⟨pb, hpb, cb⟩ := hb.at hiy
        have fin : x[i] ≠ y[i] → decide (x = y) = false := fun hne => decide_eq_false fun e => hne (by subst e; rfl)
        have nxt : x[i] = y[i] → x.take (i + 1) = y.take (i + 1) := fun he => by
          rw [List.take_succ_eq_append_getElem hi, List.take_succ_eq_append_getElem hiy, h5, he]
        simp (dsimp := false) (implicitDefEqProofs := false) [h2, h3, h4, ha.len, hb.len, hi']
        rcases ca with rfl | ⟨fa, oa, ra, la⟩
        · rcases cb with rfl | ⟨fb, ob, rb, lb⟩
          · refine w_drawn hB (cfollows gl) (fun _ => 0) (fun _ => 0) (by rfl) (by kernel_rfl) ?_
            by_cases he : x[i] = y[i]
            · simp (dsimp := false) (implicitDefEqProofs := false) [h2, h3, h4, hpa, hpb, he, hw]
              exact ⟨⟨i + 1, by clear hw; omega, by simp, nxt he⟩, by clear hw; omega⟩
            · simp (dsimp := false) (implicitDefEqProofs := false) [h2, h3, h4, hpa, hpb, he, fin he]
          · refine w_drawn hB (cfollows gl) (fun k => if k = 7 then 1 else 0) (fun _ => fb) (by rfl) (by kernel_rfl) ?_
            by_cases he : x[i] = y[i]
            · simp (dsimp := false) (implicitDefEqProofs := false) [h2, h3, h4, hpa, hpb, he, hw, rb, lb]
              exact ⟨⟨i + 1, by clear hw; omega, by simp, nxt he⟩, by clear hw; omega⟩
            · simp (dsimp := false) (implicitDefEqProofs := false) [h2, h3, h4, hpa, hpb, he, fin he, rb, lb]
        · rcases cb with rfl | ⟨fb, ob, rb, lb⟩
          · refine w_drawn hB (cfollows gl) (fun k => if k = 3 then 1 else 0) (fun _ => fa) (by rfl) (by kernel_rfl) ?_
            by_cases he : x[i] = y[i]
            · simp (dsimp := false) (implicitDefEqProofs := false) [h2, h3, h4, hpa, hpb, he, hw, ra, la]
              exact ⟨⟨i + 1, by clear hw; omega, by simp, nxt he⟩, by clear hw; omega⟩
            · simp (dsimp := false) (implicitDefEqProofs := false) [h2, h3, h4, hpa, hpb, he, fin he, ra, la]
          · refine w_drawn hB (cfollows gl) (fun k => if k = 3 ∨ k = 7 then 1 else 0) (fun k => if k = 3 then fa else fb) (by rfl) (by kernel_rfl) ?_
            by_cases he : x[i] = y[i]
            · simp (dsimp := false) (implicitDefEqProofs := false) [h2, h3, h4, hpa, hpb, he, hw, ra, la, rb, lb]
              exact ⟨⟨i + 1, by clear hw; omega, by simp, nxt he⟩, by clear hw; omega⟩
            · simp (dsimp := false) (implicitDefEqProofs := false) [h2, h3, h4, hpa, hpb, he, fin he, ra, la, rb, lb]
      · have hi' : ¬ (i : Int) < x.length := by omega
        rw [List.take_of_length_le (by omega), List.take_of_length_le (by omega)] at h5
        have hiy : ¬ i < y.length := by omega
        simp (dsimp := false) (implicitDefEqProofs := false) [h2, h3, h4, ha.len, hi', hiy, h5]
  · have hl' : ¬ (x.length : Int) = y.length := by omega
    have : ¬ x = y := fun e => hlen (by rw [e])
    simp (dsimp := false) (implicitDefEqProofs := false) [ha.len, hb.len, hl', hlen, this]
end
end Go.Abs
end
section
/- Codify's Rewrite: what it computes; lemmas for its simp (dsimp := false) (implicitDefEqProofs := false). -/
set_option maxRecDepth 100000
set_option linter.unusedSimpArgs false
set_option linter.unusedVariables false
namespace Go.Abs
open Go.Proofs TryTypes

def sameC (a b : CiteD) : Bool := decide (a.frm = b.frm ∧ a.at_ = b.at_)
def andW : ByteArray := ⟨#[97, 110, 100]⟩
/-- the last word with s behind it -/
def addLast (out : List ByteArray) (s : ByteArray) : List ByteArray := out.set (out.length - 1) (out.getD (out.length - 1) .empty ++ s)
section
variable (l : List ByteArray) (old : List CiteD) (names : List (List Step))
def againAt (i : Nat) : Bool := decide (0 < i) && (match old[i - 1]?, old[i]? with | some a, some b => sameC a b | _, _ => false)
def endsAt (i : Nat) : Bool := decide (i + 1 = old.length) || (match old[i + 1]?, old[i]? with | some a, some b => !sameC a b | _, _ => false)
def stepR (i : Nat) (out : List ByteArray) (e : Int) : Option (List ByteArray × Int) := match old[i]?, names[i]? with
  | some c, some p =>
    if addrW p = [] ∨ c.frm < 0 ∨ c.at_ ≤ c.frm ∨ c.at_ > l.length ∨ (againAt old i = false ∧ c.frm < e) then none else
    let out1 := (if againAt old i then out ++ [andW] else out ++ (l.take c.frm.toNat).drop e.toNat) ++ addrW p
    some (if endsAt old i then addLast out1 (markOf (l.getD (c.at_.toNat - 1) .empty)) else out1, c.at_)
  | _, _ => none
def runR : Nat → Nat → List ByteArray → Int → List ByteArray
  | 0, _, out, e => out ++ l.drop e.toNat
  | n + 1, i, out, e => match stepR l old names i out e with
    | none => l
    | some r => runR n (i + 1) r.1 r.2
def rewriteL : List ByteArray := if old.length = names.length then runR l old names old.length 0 [] 0 else l
end
def rowsC (p : List CiteD) : List (List AV) := p.map CiteD.row
def rowsN (p : List (List Step)) : List (List AV) := p.map fun x => [pathV x]
@[simp] theorem rowsC_len (p : List CiteD) : (rowsC p).length = p.length := by simp [rowsC]
@[simp] theorem rowsN_len (p : List (List Step)) : (rowsN p).length = p.length := by simp [rowsN]
@[simp] theorem rowsC_get {p : List CiteD} {i : Nat} (h : i < (rowsC p).length) : (rowsC p)[i] = (p[i]'(by simpa using h)).row := by simp [rowsC]
@[simp] theorem rowsN_get {p : List (List Step)} {i : Nat} (h : i < (rowsN p).length) : (rowsN p)[i] = [.list 2 (rowsP (p[i]'(by simpa using h))) .no] := by simp [rowsN, rowsP]
@[simp] theorem rowsS_get {p : List ByteArray} {i : Nat} (h : i < (rowsS p).length) : (rowsS p)[i] = [S (p[i]'(by simpa using h))] := by simp [rowsS]
theorem rowsS_take {p : List ByteArray} {n : Nat} : (rowsS p).take n = rowsS (p.take n) := by simp [rowsS, List.map_take]
theorem rowsS_drop {p : List ByteArray} {n : Nat} : (rowsS p).drop n = rowsS (p.drop n) := by simp [rowsS, List.map_drop]

theorem lookup_filter {g n : Nat} (q : Nat × Nat → Bool) : ∀ {hist : List (Nat × Nat)}, hist.lookup g = some n → (hist.filter fun x => x.1 == g || q x).lookup g = some n
  | [], h => by simp at h
  | a :: l, h => by
    by_cases c : a.1 = g
    · have e : (a.1 == g || q a) = true := by simp [c]
      rw [List.filter_cons, if_pos e]
      obtain ⟨a1, a2⟩ := a
      simp only at c
      subst c
      simpa [List.lookup] using h
    · have hl : l.lookup g = some n := by
        obtain ⟨a1, a2⟩ := a
        have : (g == a1) = false := by simpa using fun e => c e.symm
        simpa [List.lookup, this] using h
      have ih := lookup_filter q hl
      by_cases e : (a.1 == g || q a) = true
      · rw [List.filter_cons, if_pos e]
        obtain ⟨a1, a2⟩ := a
        have : (g == a1) = false := by simpa using fun e => c e.symm
        simpa [List.lookup, this] using ih
      · rw [List.filter_cons, if_neg e]; exact ih
theorem Own1.spot {e : TypeId} {M : Mem} {v : AV} {cs : List AV} (h : Own1 e M v cs) {t : TypeId} (ht : aggOf Tryz.prog t = some false) (hs : szOf Tryz.prog t = some 1) {i : Nat} (hi : i < cs.length) :
    ∃ p, idxAV (some (some 1)) v (I i) = some p ∧ loadAV Tryz.prog t M p = some cs[i] ∧ ∀ x : AV, x.storable = true → x.cells = [x] → ∃ M', storeAV (some 1) M p x = some M' ∧ Own1 e M' v (cs.set i x) ∧ KeepsBut (obj v) M M' := by
  rcases h with ⟨rfl, hn⟩ | ⟨f, g, hist, rfl, hf, hl⟩
  · subst hn; simp at hi
  · refine ⟨_, by simp [hi]; rfl, ?_, ?_⟩
    · simp [loadAV, memOf, hf, hl, loadCells_row, ht, hs]
      rw [List.drop_eq_getElem_cons hi, loadRow_one]
    · intro x h1 h2
      have hlt : f < M.length := (List.getElem?_eq_some_iff.1 hf).1
      refine ⟨_, by simp only [storeAV, hf, hl, h1, h2]; simp; exact ⟨by omega, rfl⟩, .inr ⟨f, g, keepHist 1 g i hist, by simp, ?_, ?_⟩, .set _ _ _⟩
      · simp [hlt, overwrite]
        rw [List.set_eq_take_append_cons_drop, if_pos hi]
      · simp only [List.length_set]
        unfold keepHist
        exact lookup_filter _ hl
/-- a region between two known states -/
theorem w_cutR {C : Ctx} {N : Nat} {c : Code} {Q : Post} {T : Env} {M : Mem} {tg : Tag (c, Q)} (I : Env → Mem → Prop) (h1 : wWp C N c (fun e T' M' => wThen (fun T M => I T M) (fun _ _ _ => False) e T' M' ⟨⟩) T M ⟨⟩) (h2 : ∀ T M, I T M → Q .normal T M) : wWp C N c Q T M tg :=
  AWp.mono h1 fun e T M h => by cases e <;> first | exact h2 T M h | exact h.elim
theorem newBld (M : Mem) : Bld M.length M.length (M ++ [.cells 116 [.val (.pointer none), .val (.slice none 0 0)]]) .empty :=
  ⟨Nat.le_refl _, _, _, by simp, .inl rfl, .inl ⟨rfl, rfl⟩, by simp, fun _ => rfl⟩
theorem label_small {s : ByteArray} (h : labelOk s = true) : s.size ≤ 7 := by
  simp only [labelOk, Bool.and_eq_true, decide_eq_true_eq] at h
  omega
theorem addrW_small {p : List Step} : ∀ w ∈ addrW p, w.size ≤ 16 := by
  intro w hw
  unfold addrW at hw
  split at hw
  · rename_i h
    have hg := List.all_eq_true.1 (addr_good h)
    simp only [toldW, List.mem_flatMap] at hw
    obtain ⟨s, hs, hw⟩ := hw
    unfold stepWords at hw
    split at hw
    · simp only [List.mem_singleton] at hw; subst hw; decide
    · rename_i hb
      have hn : namedS s = true := by have := hg s hs; simpa [goodStep, hb] using this
      simp only [namedS, Bool.and_eq_true, decide_eq_true_eq] at hn
      simp only [List.mem_cons, List.not_mem_nil, or_false] at hw
      rcases hw with rfl | rfl
      · have : ∀ k : Fin 8, (kindWords.getD k.val ⟨#[]⟩).size ≤ 16 := by decide
        exact this ⟨s.k.toNat, by omega⟩
      · have := label_small hn.2; omega
  · simp at hw
theorem markOf_small (s : ByteArray) : (markOf s).size ≤ 1 := by
  unfold markOf
  split
  · decide
  · split
    · simp; omega
    · decide
theorem Own1.keepLow {e : TypeId} {M M' : Mem} {v : AV} {cs : List AV} (h : Own1 e M v cs) {n : Nat} (hk : KeepsLow n M M') (hn : ∀ f, obj v = some f → f < n) : Own1 e M' v cs := by
  rcases h with ⟨rfl, h⟩ | ⟨f', g, hist, rfl, hm, hl⟩
  · exact .inl ⟨rfl, h⟩
  · exact .inr ⟨f', g, hist, rfl, hk.get (hn _ rfl) hm, hl⟩
theorem last_mem {xs ys : List ByteArray} (h : ys ≠ []) : (xs ++ ys).getD ((xs ++ ys).length - 1) .empty ∈ ys := by
  have hp : 0 < ys.length := List.length_pos_iff.2 h
  have hlt : (xs ++ ys).length - 1 < (xs ++ ys).length := by simp; omega
  simp only [List.getD_eq_getElem?_getD, List.getElem?_eq_getElem hlt, Option.getD_some]
  rw [List.getElem_append_right (by simp; omega)]
  exact List.getElem_mem _
theorem map_set_last {out : List ByteArray} {s : ByteArray} : (addLast out s).map S = (out.map S).set (out.length - 1) (S (out.getD (out.length - 1) .empty ++ s)) := by simp [addLast, List.map_set]
end Go.Abs
end
section
/- Contract of codify.Rewrite. -/
set_option maxRecDepth 100000
set_option linter.unusedSimpArgs false
set_option linter.unusedVariables false
namespace Go.Abs
open Go.Proofs TryTypes

def hX : Hint := ⟨fun _ => true, fun _ => false, fun d => d == 81 || d == 88 || d == 91 || d == 135⟩
@[simp] theorem hX_imm : hX.imm = fun _ => true := rfl
@[simp] theorem hX_own : hX.own = fun _ => false := rfl
@[simp] theorem hX_vec : hX.vec = fun d => d == 81 || d == 88 || d == 91 || d == 135 := rfl

section
variable (gl : Nat → AV) (M : Mem)
set_option maxHeartbeats 4000000 in
theorem rewrite_ok (l : List ByteArray) (old : List CiteD) (names : List (List Step)) (o1 o2 o3 : Own) (hl : l.length ≤ 100) (hls : ∀ s ∈ l, s.size ≤ maxLen) (ho : old.length ≤ 20) (hn : ∀ p ∈ names, smallP p) :
    ACalls (WC gl) 18 [.list 1 (rowsS l) o1, .list 5 (rowsC old) o2, .list 1 (rowsN names) o3] M (FreshS M (rewriteL l old names)) := by
  refine w_body hX Tryz.func18 rfl rfl rfl rfl rfl rfl ?_
  by_cases hlen : old.length = names.length
  case neg =>
    have hlen' : ¬ (old.length : Int) = names.length := by omega
    simp (dsimp := false) (implicitDefEqProofs := false) [hlen']
    refine w_calls (inv_of Tryz.func59 rfl rfl (clone_ok gl M l o1 (by omega))) ?_
    intro v M' h
    simp (dsimp := false) (implicitDefEqProofs := false) [rewriteL, hlen, h]
  have hlen' : (old.length : Int) = names.length := by omega
  have hrw : rewriteL l old names = runR l old names old.length 0 [] 0 := by rw [rewriteL, if_pos hlen]
  rw [hrw]
  simp (dsimp := false) (implicitDefEqProofs := false) [hlen', hlen]
  refine w_looped hX (fun T M1 => ∃ (i : Nat) (out : List ByteArray) (e : Int), i ≤ old.length ∧ FreshS M out (T 7) M1 ∧ T 0 = .list 1 (rowsS l) o1 ∧ T 1 = .list 5 (rowsC old) o2 ∧ T 2 = .list 1 (rowsN names) o3 ∧
      T 8 = I e ∧ 0 ≤ e ∧ e ≤ l.length ∧ T 21 = .list 5 (rowsC old) o2 ∧ T 22 = I old.length ∧ T 23 = I i ∧ out.length ≤ i * 200 ∧ runR l old names old.length 0 [] 0 = runR l old names (old.length - i) i out e)
    (fun T M1 => match T 23 with | .val (.int _ i) => old.length - i.toNat | _ => 0) (by kernel_rfl) ?_ ?_
  · refine ⟨0, [], 0, ?_⟩
    simp (dsimp := false) (implicitDefEqProofs := false) [FreshS, Own1, KeepsBut.refl, Later, hlen]
  · rintro T M1 ⟨i, out, e, h1, h2, h3, h4, h5, h6, h7, h8, h9, h10, h11, h12, h13⟩
    generalize hT7 : T 7 = ov at h2
    by_cases hi : i < old.length
    · have hi' : (i : Int) < old.length := by omega
      have hin : i < names.length := by omega
      have hin' : (i : Int) < names.length := by omega
      have hw : IntKind.i64.wrap ((i : Int) + 1) = (i + 1 : Nat) := by rw [wrap_in (by omega) (by omega)]; omega
      have hMX : (M1 ++ [AObj.cells 110 old[i].row])[M1.length]? = some (AObj.cells 110 old[i].row) := by simp
      have hp := hn names[i] (List.getElem_mem hin)
      have hstep : runR l old names (old.length - i) i out e = match stepR l old names i out e with | none => l | some r => runR l old names (old.length - (i + 1)) (i + 1) r.1 r.2 := by
        rw [show old.length - i = (old.length - (i + 1)) + 1 by omega]; rfl
      have hoi : old[i]? = some old[i] := List.getElem?_eq_getElem hi
      have hni : names[i]? = some names[i] := List.getElem?_eq_getElem hin
      simp (dsimp := false) (implicitDefEqProofs := false) [h3, h4, h5, h6, h9, h10, h11, hi, hi', hin, hin', allocAV, storeAV, overwrite, CiteD.row]
      refine w_calls (inv_of Tryz.func60 rfl rfl (WordsOf_ok gl _ names[i] .no hp.1)) ?_
      intro w M2 hf2
      have hM2 := hf2.2.1.get hMX (by simp)
      have hgM : Grow M M2 := (h2.2.1.trans (.app none M1 _)).trans hf2.2.1
      have hag : againAt old i = (decide (0 < i) && (match old[i - 1]?, old[i]? with | some a, some b => sameC a b | _, _ => false)) := rfl
      simp (dsimp := false) (implicitDefEqProofs := false)
      refine w_cutR (fun T M => M = M2 ∧ T 0 = .list 1 (rowsS l) o1 ∧ T 1 = .list 5 (rowsC old) o2 ∧ T 2 = .list 1 (rowsN names) o3 ∧ T 7 = ov ∧ T 8 = I e ∧ T 9 = I i ∧ T 10 = .ptr M1.length 0 ∧ T 11 = w ∧ T 12 = B (againAt old i) ∧ T 21 = .list 5 (rowsC old) o2 ∧ T 22 = I old.length ∧ T 23 = I i) ?_ ?_
      · refine w_drawn hX (cfollows gl) (fun k => if k = 8 then 1 else 0) (fun _ => M1.length) (by rfl) (by kernel_rfl) ?_
        by_cases i0 : i = 0
        · subst i0
          simp (dsimp := false) (implicitDefEqProofs := false) [h3, h4, h5, h6, h9, h10, h11, hT7, againAt]
        · have hip : (0 : Int) < i := by omega
          have hip2 : 0 < i := by omega
          have hwm : IntKind.i64.wrap ((i : Int) - 1) = (i - 1 : Nat) := by rw [wrap_in (by omega) (by omega)]; omega
          have hil : i - 1 < old.length := by omega
          have hil' : ((i - 1 : Nat) : Int) < old.length := by omega
          have hao : againAt old i = sameC old[i - 1] old[i] := by
            rw [hag, hoi, List.getElem?_eq_getElem hil]; simp [hip2]
          rw [hao]
          simp (dsimp := false) (implicitDefEqProofs := false) [h3, h4, h5, h6, h9, h10, h11, hT7, hip, hip2, hwm, hil, hil', loadAV_ptr hM2, CiteD.row]
          refine w_call0 (r := B (sameC old[i - 1] old[i])) (fun M => inv_of Tryz.func61 rfl rfl (same_ok gl M old[i - 1] old[i])) ?_
          simp (dsimp := false) (implicitDefEqProofs := false) [h3, h4, h5, h6, h9, h10, h11, hT7]
      · rintro T2 M2' ⟨rfl, k1, k2, k3, k4, k5, k6, k7, k8, k9, k10, k11, k12⟩
        have hwl : lenAV Tryz.prog 37 w = some (addrW names[i]).length := by rw [hf2.1.len (e := 9) (by simp)]; simp
        by_cases hbad : addrW names[i] = [] ∨ old[i].frm < 0 ∨ old[i].at_ ≤ old[i].frm ∨ old[i].at_ > l.length ∨ (againAt old i = false ∧ old[i].frm < e)
        · have hs0 : stepR l old names i out e = none := by simp only [stepR, hoi, hni]; rw [if_pos hbad]
          have hres : runR l old names old.length 0 [] 0 = l := by rw [h13, hstep, hs0]
          rw [hres]
          have ret : ∀ (K : AV → Mem → Prop) (tg : Tag K), (∀ v M', FreshS M l v M' → K v M') → wCalls (WC gl) 59 [.list 1 (rowsS l) o1] M2' K tg := by
            intro K tg hk
            exact w_calls (inv_of Tryz.func59 rfl rfl (clone_ok gl M2' l o1 (by omega))) fun v M' h => hk v M' (grow_fresh hgM h)
          by_cases b1 : addrW names[i] = []
          · simp (dsimp := false) (implicitDefEqProofs := false) [hwl, b1, k1, k2, k3, k4, k5, k6, k7, k8, k9, k10, k11, k12]
            refine ret _ _ fun v M' h => ?_
            simp (dsimp := false) (implicitDefEqProofs := false) [h]
          have b1' : ¬ (addrW names[i]).length = 0 := fun e => b1 (List.eq_nil_of_length_eq_zero e)
          have b1'' : ¬ ((addrW names[i]).length : Int) = 0 := by omega
          by_cases b2 : old[i].frm < 0
          · simp (dsimp := false) (implicitDefEqProofs := false) [hwl, b1, b2, k1, k2, k3, k4, k5, k6, k7, k8, k9, k10, k11, k12, loadAV_ptr hM2, CiteD.row]
            refine ret _ _ fun v M' h => ?_
            simp (dsimp := false) (implicitDefEqProofs := false) [h]
          by_cases b3 : old[i].at_ ≤ old[i].frm
          · simp (dsimp := false) (implicitDefEqProofs := false) [hwl, b1, b2, b3, k1, k2, k3, k4, k5, k6, k7, k8, k9, k10, k11, k12, loadAV_ptr hM2, CiteD.row]
            refine ret _ _ fun v M' h => ?_
            simp (dsimp := false) (implicitDefEqProofs := false) [h]
          by_cases b4 : old[i].at_ > l.length
          · have b4' : (l.length : Int) < old[i].at_ := b4
            simp (dsimp := false) (implicitDefEqProofs := false) [hwl, b1, b2, b3, b4, b4', k1, k2, k3, k4, k5, k6, k7, k8, k9, k10, k11, k12, loadAV_ptr hM2, CiteD.row]
            refine ret _ _ fun v M' h => ?_
            simp (dsimp := false) (implicitDefEqProofs := false) [h]
          have b5 : againAt old i = false ∧ old[i].frm < e := by
            rcases hbad with h | h | h | h | h
            · exact absurd h b1
            · exact absurd h b2
            · exact absurd h b3
            · exact absurd h b4
            · exact h
          have b4' : ¬ (l.length : Int) < old[i].at_ := b4
          simp (dsimp := false) (implicitDefEqProofs := false) [hwl, b1, b2, b3, b4, b4', b5.1, b5.2, k1, k2, k3, k4, k5, k6, k7, k8, k9, k10, k11, k12, loadAV_ptr hM2, CiteD.row]
          refine ret _ _ fun v M' h => ?_
          simp (dsimp := false) (implicitDefEqProofs := false) [h]
        · have hbad0 := hbad
          simp only [not_or, not_and] at hbad
          obtain ⟨b1, b2, b3, b4, b5⟩ := hbad
          have b1' : ¬ (addrW names[i]).length = 0 := fun e => b1 (List.eq_nil_of_length_eq_zero e)
          have b4' : ¬ (l.length : Int) < old[i].at_ := b4
          have g2 : 0 ≤ old[i].frm := by omega
          have g3 : old[i].frm ≤ l.length := by omega
          have g3' : old[i].frm.toNat ≤ l.length := by omega
          obtain ⟨mid, hmid⟩ : ∃ mid, mid = if againAt old i = true then [andW] else (l.take old[i].frm.toNat).drop e.toNat := ⟨_, rfl⟩
          have hst : stepR l old names i out e = some (if endsAt old i = true then addLast (out ++ mid ++ addrW names[i]) (markOf (l.getD (old[i].at_.toNat - 1) .empty)) else out ++ mid ++ addrW names[i], old[i].at_) := by
            have hm : (if againAt old i = true then out ++ [andW] else out ++ (l.take old[i].frm.toNat).drop e.toNat) = out ++ mid := by rw [hmid]; split <;> rfl
            simp only [stepR, hoi, hni]
            rw [if_neg hbad0, hm]
          rw [hst] at hstep
          simp only at hstep
          have g1 : 1 ≤ old[i].at_ := by omega
          have g4 : 0 ≤ old[i].at_ := by omega
          have g7 : old[i].at_ ≤ l.length := by omega
          have hmlen : mid.length ≤ 100 := by
            rw [hmid]; split
            · simp
            · simp; omega
          have hw2 : Own1 9 M2' w ((addrW names[i]).map S) := hf2.1
          have ho2 : Own1 9 M2' ov (out.map S) := h2.1.keep ((KeepsBut.app none M1 _).trans hf2.2.1) (by simp)
          have hlow : M1.length < M2'.length := by have := hf2.2.1.1; simp at this; omega
          have hovb : obj ov ≠ some M1.length := fun e => by have := h2.1.lt e; omega
          have hwb : obj w ≠ some M1.length := fun e => by have := hf2.2.2 _ e; simp at this; omega
          have how : ∀ f, obj w = some f → obj ov ≠ some f := fun f e1 e2 => by have := hf2.2.2 _ e1; have := h2.1.lt e2; simp at *; omega
          have hwlt : ∀ f, obj w = some f → f < M2'.length := fun f e1 => hw2.lt e1
          -- after the first append
          have mk : ∀ v3 M3, Own1 9 M3 v3 (out.map S ++ mid.map S) → KeepsBut (obj ov) M2' M3 → (obj v3 = obj ov ∨ Later M2'.length v3) →
              FreshS M (out ++ mid) v3 M3 ∧ Own1 9 M3 w ((addrW names[i]).map S) ∧ M3[M1.length]? = some (AObj.cells 110 old[i].row) ∧ obj v3 ≠ some M1.length ∧ (∀ f, obj w = some f → obj v3 ≠ some f) := by
            intro v3 M3 q1 q2 q3
            refine ⟨?_, hw2.keep q2 how, q2.get hM2 hovb, ?_, ?_⟩
            · refine ⟨by simpa using q1, ⟨by have := hgM.1; have := q2.1; omega, fun j hj _ => ?_⟩, fun f hf => ?_⟩
              · rw [q2.2 j (by have := hgM.1; omega) fun e => by have := h2.2.2 _ e; omega]; exact hgM.2 j hj (by simp)
              · rcases q3 with e | e
                · exact h2.2.2 f (by rw [← e]; exact hf)
                · have := e f hf; have := hgM.1; omega
            · intro e1
              rcases q3 with e | e
              · exact hovb (by rw [← e]; exact e1)
              · have := e _ e1; omega
            · intro f e1 e2
              rcases q3 with e | e
              · exact how f e1 (by rw [← e]; exact e2)
              · have := e _ e2; have := hwlt f e1; omega
          cases hA : againAt old i
          case' false =>
            have g5 : e ≤ old[i].frm := by have := b5 hA; omega
            have g5' : 0 ≤ e ∧ e ≤ old[i].frm ∧ old[i].frm ≤ l.length := ⟨h7, g5, g3⟩
            have g6 : ¬ old[i].frm < e := by omega
            have hm : mid = (l.take old[i].frm.toNat).drop e.toNat := by rw [hmid, hA]; rfl
            rw [hA] at k9
            simp (dsimp := false) (implicitDefEqProofs := false) [hwl, b1, b1', b2, b3, b4, b4', g6, k1, k2, k3, k4, k5, k6, k7, k8, k9, k10, k11, k12, loadAV_ptr hM2, CiteD.row, h7, g5, g3]
            have hsl : List.drop e.toNat (List.take old[i].frm.toNat (rowsS l)) = rowsS mid := by rw [rowsS_take, rowsS_drop, hm]
            rw [hsl]
            refine push (C := WC gl) (e := 9) elem37 src37 eok9 ho2 (news := mid.map S) (m := mid.length) (srcS _ _ _) (by simp) (by simp; omega) rfl ?_
            intro v3 M3 q1 q2 q3 _
            obtain ⟨hf3, hw3, hX3, hb3, hwv3⟩ := mk v3 M3 q1 q2 q3
            simp (dsimp := false) (implicitDefEqProofs := false)
          case' true =>
            have hm : mid = [andW] := by rw [hmid, hA]; rfl
            rw [hA] at k9
            simp (dsimp := false) (implicitDefEqProofs := false) [hwl, b1, b1', b2, b3, b4, b4', k1, k2, k3, k4, k5, k6, k7, k8, k9, k10, k11, k12, loadAV_ptr hM2, CiteD.row, buildSliceAV, rowsGo]
            refine push (C := WC gl) (e := 9) elem37 src37 eok9 ho2 (news := [andW].map S) (m := 1) rfl rfl (by simp; omega) rfl ?_
            rw [← hm]
            intro v3 M3 q1 q2 q3 _
            obtain ⟨hf3, hw3, hX3, hb3, hwv3⟩ := mk v3 M3 q1 q2 q3
            simp (dsimp := false) (implicitDefEqProofs := false)
          all_goals
            refine w_drawnQ hX (cfollows gl) (fun k => if k = 2 then 2 else if k = 4 then 1 else 0) M1.length (by rfl) (by kernel_rfl) ?_
            have hal := addrW_len names[i]
            have hws : srcCells M3 1 w = some ((addrW names[i]).map S, (addrW names[i]).length) := by rw [hw3.src]; simp
            simp (dsimp := false) (implicitDefEqProofs := false) [k1, k2, k3, k4, k5, k6, k7, k8, k9, k10, k11, k12]
            refine push (C := WC gl) (e := 9) elem37 src37 eok9 hf3.1 (news := (addrW names[i]).map S) (m := (addrW names[i]).length) hws (by simp) (by simp; omega) rfl ?_
            intro v4 M4 r1 r2 r3 _
            have hf4 := fresh_push (X := []) hf3 r1 (by simpa using r2) (by simpa using r3)
            have hX4 := r2.get hX3 hb3
            refine ⟨by rw [hX4, hX3], ?_⟩
            simp (dsimp := false) (implicitDefEqProofs := false) [loadAV_ptr hX4, CiteD.row, k1, k2, k3, k4, k5, k6, k7, k8, k9, k10, k11, k12]
            refine w_cutR (fun T M => M = M4 ∧ T 0 = .list 1 (rowsS l) o1 ∧ T 1 = .list 5 (rowsC old) o2 ∧ T 2 = .list 1 (rowsN names) o3 ∧ T 7 = v4 ∧ T 8 = I old[i].at_ ∧ T 10 = .ptr M1.length 0 ∧ T 108 = B (endsAt old i) ∧ T 21 = .list 5 (rowsC old) o2 ∧ T 22 = I old.length ∧ T 23 = I i) ?_ ?_
            · refine w_drawn hX (cfollows gl) (fun k => if k = 11 then 1 else 0) (fun _ => M1.length) (by rfl) (by kernel_rfl) ?_
              by_cases il : i + 1 = old.length
              · have il' : ((i + 1 : Nat) : Int) = old.length := by omega
                have hen : endsAt old i = true := by simp [endsAt, il]
                simp (dsimp := false) (implicitDefEqProofs := false) [k1, k2, k3, k4, k5, k6, k7, k8, k9, k10, k11, k12, hw, il', hen]
              · have il' : ¬ ((i + 1 : Nat) : Int) = old.length := by omega
                have il2 : i + 1 < old.length := by omega
                have il3 : ((i + 1 : Nat) : Int) < old.length := by omega
                have il4 : (0 : Int) ≤ ((i + 1 : Nat) : Int) := by omega
                have il5 : ((i + 1 : Nat) : Int).toNat = i + 1 := by omega
                have hen : endsAt old i = !sameC old[i + 1] old[i] := by simp [endsAt, il, hoi, List.getElem?_eq_getElem il2]
                rw [hen]
                generalize hj : ((i + 1 : Nat) : Int) = j at *
                simp (dsimp := false) (implicitDefEqProofs := false) [k1, k2, k3, k4, k5, k6, k7, k8, k9, k10, k11, k12, hw, il', il2, il3, il4, il5, loadAV_ptr hX4, CiteD.row]
                refine w_call0 (r := B (sameC old[i + 1] old[i])) (fun M => inv_of Tryz.func61 rfl rfl (same_ok gl M old[i + 1] old[i])) ?_
                simp (dsimp := false) (implicitDefEqProofs := false) [k1, k2, k3, k4, k5, k6, k7, k8, k9, k10, k11, k12, il']
            · rintro T3 M4' ⟨rfl, j1, j2, j3, j4, j5, j6, j7, j8, j9, j10⟩
              have hrun := h13.trans hstep
              have hol : (out ++ mid ++ addrW names[i]).length ≤ (i + 1) * 200 := by simp; omega
              cases hE : endsAt old i
              · rw [hE] at j7 hrun
                simp (dsimp := false) (implicitDefEqProofs := false) [j1, j2, j3, j4, j5, j6, j7, j8, j9, j10, hw, h11, loadAV_ptr hX4]
                exact ⟨⟨i + 1, by clear hw; omega, _, hf4, g4, g7, by simp, hol, by simpa using hrun⟩, by clear hw; omega⟩
              · rw [hE] at j7 hrun
                simp only [if_true] at hrun
                have hsmall : ((out ++ mid ++ addrW names[i]).getD ((out ++ mid ++ addrW names[i]).length - 1) .empty).size ≤ 16 := addrW_small _ (last_mem b1)
                have hne : 0 < (out ++ mid ++ addrW names[i]).length := by simp; omega
                generalize out ++ mid ++ addrW names[i] = out2 at *
                have hlv4 : lenAV Tryz.prog 37 v4 = some out2.length := by rw [hf4.1.len (e := 9) (by simp)]; simp
                have hlow4 : M1.length < M4'.length := (List.getElem?_eq_some_iff.1 hX4).1
                have hv4 : ∀ f, obj v4 = some f → f < M4'.length := fun f hf => hf4.1.lt hf
                have hol2 : out2.length ≤ 10000 := by omega
                have hwl2 : IntKind.i64.wrap ((out2.length : Int) - 1) = (out2.length - 1 : Nat) := by rw [wrap_in (by omega) (by omega)]; omega
                have hB5 := newBld M4'
                have hk45 : KeepsLow M4'.length M4' (M4' ++ [AObj.cells 116 [AV.val (Value.pointer none), AV.val (Value.slice none 0 0)]]) := ⟨by simp, fun j hj => List.getElem?_append_left hj⟩
                have hlt1 : out2.length - 1 < out2.length := by omega
                obtain ⟨sp, s1, s2, -⟩ := (hf4.1.keepLow hk45 hv4).spot (t := 9) agg9 sz9 (i := out2.length - 1) (by simp; omega)
                have hlast : out2.getD (out2.length - 1) .empty = out2[out2.length - 1] := by simp [hlt1]
                simp only [List.getElem_map, ← hlast] at s2
                generalize hla : out2.getD (out2.length - 1) .empty = last at *
                simp (dsimp := false) (implicitDefEqProofs := false) [j1, j2, j3, j4, j5, j6, j7, j8, j9, j10, hw, allocAV, hlv4, hwl2, s1, s2]
                refine w_calls (inv_of Tryz.func62 rfl rfl (write_ok gl _ M4'.length M4'.length .empty last hB5 (by simp; omega) (by simp))) ?_
                rintro r6 M6 ⟨hB6, hk6⟩
                have hk46 := hk45.trans hk6
                have hX6 := hk46.get hlow4 hX4
                have g8 : old[i].at_.toNat - 1 < l.length := by omega
                have g9 : old[i].at_ - 1 < l.length := by omega
                have hwa : IntKind.i64.wrap (old[i].at_ - 1) = old[i].at_ - 1 := wrap_in (by omega) (by omega)
                have hgl : l.getD (old[i].at_.toNat - 1) .empty = l[old[i].at_.toNat - 1] := by simp [g8]
                simp (dsimp := false) (implicitDefEqProofs := false) [j1, j2, j3, j4, j5, j6, j7, j8, j9, j10, loadAV_ptr hX6, CiteD.row, hwa, g1, g9, g8]
                refine w_calls (inv_of Tryz.func63 rfl rfl (mark_ok gl M6 l[old[i].at_.toNat - 1] (hls _ (List.getElem_mem g8)))) ?_
                rintro r7 M6' ⟨rfl, rfl⟩
                rw [hgl] at hrun
                have hms := markOf_small l[old[i].at_.toNat - 1]
                generalize markOf l[old[i].at_.toNat - 1] = mk7 at *
                simp (dsimp := false) (implicitDefEqProofs := false)
                refine w_calls (inv_of Tryz.func62 rfl rfl (write_ok gl _ M4'.length M4'.length (.empty ++ last) mk7 hB6 (by simp; omega) hk46.1)) ?_
                rintro r7 M7 ⟨hB7, hk7⟩
                have hk47 := hk46.trans hk7
                simp (dsimp := false) (implicitDefEqProofs := false) [j1, j2, j3, j4, j5, j6, j7, j8, j9, j10, hlv4, hwl2]
                refine w_calls (inv_of Tryz.func64 rfl rfl (string_ok gl _ M4'.length M4'.length (.empty ++ last ++ mk7) hB7 (by simp; omega) hk47.1)) ?_
                rintro r8 M8 ⟨rfl, hk8⟩
                have hk48 := hk47.trans hk8
                obtain ⟨sp2, t1, -, t3⟩ := (hf4.1.keepLow hk48 hv4).spot (t := 9) agg9 sz9 (i := out2.length - 1) (by simp; omega)
                obtain ⟨M9, t4, t5, t6⟩ := t3 (S (last ++ mk7)) rfl rfl
                have hf9 : FreshS M (addLast out2 mk7) v4 M9 := by
                  refine ⟨by rw [map_set_last, hla]; simpa using t5, ⟨?_, fun j hj _ => ?_⟩, hf4.2.2⟩
                  · have := hf4.2.1.1; have := hk48.1; have := t6.1; omega
                  · have := hf4.2.1.1
                    rw [t6.2 j (by have := hk48.1; omega) fun e => by have := hf4.2.2 _ e; omega, hk48.2 j (by omega)]
                    exact hf4.2.1.2 j hj (by simp)
                have hol3 : (addLast out2 mk7).length ≤ (i + 1) * 200 := by simp [addLast]; omega
                simp (dsimp := false) (implicitDefEqProofs := false) [t1, t4, j1, j2, j3, j4, j5, j6, j7, j8, j9, j10, hw, h11]
                exact ⟨⟨i + 1, by clear hw; omega, _, hf9, g4, g7, by simp, hol3, by simpa using hrun⟩, by clear hw; omega⟩
    · have hi' : ¬ (i : Int) < old.length := by omega
      rw [h13, show old.length - i = 0 by omega]
      simp (dsimp := false) (implicitDefEqProofs := false) [h3, h6, h10, h11, hi', hT7, h7, h8]
      have hsl : List.drop e.toNat (rowsS l) = rowsS (l.drop e.toNat) := rowsS_drop
      rw [hsl]
      refine push (C := WC gl) (e := 9) elem37 src37 eok9 h2.1 (news := (l.drop e.toNat).map S) (m := (l.drop e.toNat).length) (srcS _ _ _) (by simp) (by simp; omega) rfl ?_
      intro v' M' q1 q2 q3 _
      have hf := fresh_push (X := []) h2 q1 (by simpa using q2) (by simpa using q3)
      simp (dsimp := false) (implicitDefEqProofs := false) [runR, hf]
end
end Go.Abs
end
