/- The text of a path and of a number, in plain words. -/
import Derived.Test.YtlihfpfgogncbaaGreatDoorG28
import Derived.Laws.Concat
set_option maxRecDepth 100000
set_option linter.unusedSimpArgs false
set_option linter.unusedVariables false
namespace Go.Abs
open Go.Proofs

abbrev bl (a : ByteArray) : List UInt8 := a.data.toList
theorem bl_eq (a : ByteArray) : bytesL (bl a) = a := by cases a; simp [bytesL, bl]
theorem bl_bytesL (x : List UInt8) : bl (bytesL x) = x := by simp [bytesL, bl]
theorem bytesL_app (x y : List UInt8) : bytesL x ++ bytesL y = bytesL (x ++ y) := ByteArray.mk_append_mk x y
theorem bl_app (a b : ByteArray) : bl (a ++ b) = bl a ++ bl b := by
  have : a ++ b = bytesL (bl a ++ bl b) := by rw [← bytesL_app, bl_eq, bl_eq]
  rw [this, bl_bytesL]
theorem bl_inj {a b : ByteArray} (h : bl a = bl b) : a = b := by rw [← bl_eq a, ← bl_eq b, h]
def sp : ByteArray := ⟨#[32]⟩
def stepText (s : Step) : ByteArray := if isBookS s then bookWord else kindWords.getD s.k.toNat ⟨#[]⟩ ++ sp ++ s.lab
def pathTxt : List Step → ByteArray
  | [] => ⟨#[]⟩
  | s :: r => r.foldl (fun a t => a ++ sp ++ stepText t) (stepText s)
theorem pathTxt_snoc {p : List Step} (s : Step) (h : p ≠ []) : pathTxt (p ++ [s]) = pathTxt p ++ sp ++ stepText s := by
  cases p with
  | nil => exact absurd rfl h
  | cons a r => simp only [pathTxt, List.cons_append, List.foldl_append, List.foldl_cons, List.foldl_nil]
theorem joinTail_app (sep : List UInt8) (a b : List (List UInt8)) : Lib.joinTail sep (a ++ b) = Lib.joinTail sep a ++ Lib.joinTail sep b := by simp [Lib.joinTail]
theorem joinTail_step (t : Step) : Lib.joinTail (bl sp) ((stepWords t).map bl) = bl sp ++ bl (stepText t) := by
  unfold stepWords stepText
  split
  · simp [Lib.joinTail]
  · rw [bl_app, bl_app]; simp [Lib.joinTail]
theorem toldW_cons (t : Step) (r : List Step) : toldW (t :: r) = stepWords t ++ toldW r := by simp [toldW]
theorem fold_told (r : List Step) : ∀ acc : ByteArray, bl (r.foldl (fun a t => a ++ sp ++ stepText t) acc) = bl acc ++ Lib.joinTail (bl sp) ((toldW r).map bl) := by
  induction r with
  | nil => intro acc; simp [toldW, Lib.joinTail]
  | cons t r ih =>
    intro acc
    rw [List.foldl_cons, ih, bl_app, bl_app, toldW_cons, List.map_append, joinTail_app, joinTail_step]
    simp
theorem join_toldW (p : List Step) : joinB (toldW p) sp = pathTxt p := by
  refine bl_inj ?_
  rw [joinB, bl_bytesL]
  cases p with
  | nil => rfl
  | cons s r =>
    show Lib.join _ (bl sp) = bl (r.foldl (fun a t => a ++ sp ++ stepText t) (stepText s))
    rw [fold_told, toldW_cons, List.map_append]
    have hs : (stepWords s).map bl = if isBookS s then [bl bookWord] else [bl (kindWords.getD s.k.toNat ⟨#[]⟩), bl s.lab] := by unfold stepWords; split <;> rfl
    have ht : bl (stepText s) = if isBookS s then bl bookWord else bl (kindWords.getD s.k.toNat ⟨#[]⟩) ++ bl sp ++ bl s.lab := by
      unfold stepText
      by_cases h : isBookS s = true
      · rw [if_pos h, if_pos h]
      · rw [if_neg h, if_neg h, bl_app, bl_app]
    rw [hs, ht]
    split
    · simp only [List.singleton_append, List.cons_append, List.nil_append, Lib.join_cons]
    · simp only [List.cons_append, List.nil_append, Lib.join_cons]
      show _ ++ Lib.joinTail (bl sp) ([bl s.lab] ++ _) = _
      rw [joinTail_app]
      simp [Lib.joinTail, toldW]
/-- the text of an address, or nothing -/
def addrText (p : List Step) : ByteArray := if pathOk p && decide (p.length ≤ 9) then pathTxt p else ⟨#[]⟩

theorem digits_step {u : Nat} (h : 9 < u) : Lib.decDigits u = Lib.decDigits (u / 10) ++ [UInt8.ofNat (48 + u % 10)] := by rw [Lib.decDigits, dif_neg (by omega)]
theorem digits_last {u : Nat} (h : u ≤ 9) : Lib.decDigits u = [UInt8.ofNat (48 + u)] := by rw [Lib.decDigits, dif_pos (by omega)]
theorem strOf_one (n : Int) : strOfBytes [n] = bytesL [UInt8.ofNat n.toNat] := by
  simp [strOfBytes, bytesL]; rfl
end Go.Abs
