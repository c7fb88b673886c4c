/- The functions that a call can reach: the form's search, over a table. -/
import Derived.ProofKit
import Derived.JoinedOf
set_option linter.unusedVariables false
namespace Go.Abs
open Go

noncomputable def nthR (T : List (List Nat)) : Nat → List Nat :=
  List.rec (motive := fun _ => Nat → List Nat) (fun _ => []) (fun a _ ih n => Nat.rec (motive := fun _ => List Nat) a (fun k _ => ih k) n) T
noncomputable def cloT (T : List (List Nat)) (n : Nat) : List Nat → Nat → List Nat → List Nat :=
  Nat.rec (motive := fun _ => List Nat → Nat → List Nat → List Nat) (fun _ _ seen => seen)
    (fun _ ih todo m seen => List.rec (motive := fun _ => List Nat) seen (fun f todo _ =>
      Bool.rec (motive := fun _ => List Nat) (ih todo m seen) (ih (List.append (nthR T f) todo) (Nat.lor m (Nat.pow 2 f)) (f :: seen)) (Nat.beq (Nat.land (Nat.shiftRight m f) 1) 0)) todo) n
theorem nthR_nil (n : Nat) : nthR [] n = [] := rfl
theorem nthR_zero (a : List Nat) (T : List (List Nat)) : nthR (a :: T) 0 = a := rfl
theorem nthR_succ (a : List Nat) (T : List (List Nat)) (n : Nat) : nthR (a :: T) (n + 1) = nthR T n := rfl
theorem nthR_eq (T : List (List Nat)) : ∀ n, nthR T n = (T[n]?).getD [] := by
  induction T with
  | nil => intro n; rfl
  | cons a T ih => intro n; cases n with
    | zero => rfl
    | succ n => rw [nthR_succ, ih]; simp
theorem seen_beq (m f : Nat) : Nat.beq (Nat.land (Nat.shiftRight m f) 1) 0 = !m.testBit f := by
  have h : m.testBit f = (1 &&& (m >>> f) != 0) := rfl
  rw [h]
  have e : Nat.land (Nat.shiftRight m f) 1 = 1 &&& (m >>> f) := Nat.and_comm _ _
  rw [e]
  cases hx : (1 &&& (m >>> f)) with
  | zero => rfl
  | succ k => rfl
theorem closureVia_cloT (P : Program) (T : List (List Nat)) (h : ∀ f, (P.funcs[f]?).elim [] P.leadsTo = nthR T f) :
    ∀ (n : Nat) (todo : List Nat) (m : Nat) (seen : List Nat), (∀ f, m.testBit f = seen.contains f) → P.closureVia n todo seen = (cloT T n todo m seen).reverse
  | 0, todo, m, seen, hm => by cases todo <;> rfl
  | n + 1, [], m, seen, hm => rfl
  | n + 1, f :: todo, m, seen, hm => by
    have e : cloT T (n + 1) (f :: todo) m seen = Bool.rec (motive := fun _ => List Nat) (cloT T n todo m seen) (cloT T n (List.append (nthR T f) todo) (Nat.lor m (Nat.pow 2 f)) (f :: seen)) (Nat.beq (Nat.land (Nat.shiftRight m f) 1) 0) := rfl
    rw [e, seen_beq, hm f]
    unfold Program.closureVia
    cases hc : seen.contains f with
    | true =>
      simp only [if_true, Bool.not_true]
      exact closureVia_cloT P T h n todo m seen hm
    | false =>
      simp only [Bool.false_eq_true, if_false, Bool.not_false, h f]
      refine closureVia_cloT P T h n _ _ _ fun g => ?_
      show (m ||| 2 ^ f).testBit g = _
      rw [Nat.testBit_or, hm g, Nat.testBit_two_pow, List.contains_cons]
      by_cases hg : g = f
      · subst hg; simp
      · have : ¬ f = g := fun e => hg e.symm
        simp [hg, this]
theorem closure_of {P : Program} {f : Nat} (T : List (List Nat)) (n : Nat) (L : List Nat) (hT : P.funcs.toList.map P.leadsTo = T)
    (hn : Nat.succ (T.map fun l => l.length + 1).sum = n) (hL : cloT T n [f] 0 [] = L) : P.closure f = L.reverse := by
  subst hT hn hL
  unfold Program.closure
  have e : (P.funcs.toList.map fun g => (P.leadsTo g).length + 1) = ((P.funcs.toList.map P.leadsTo).map fun l => l.length + 1) := by simp [List.map_map, Function.comp_def]
  rw [e, Nat.add_comm 1]
  refine closureVia_cloT P _ (fun g => ?_) _ _ 0 [] (fun g => by simp)
  rw [nthR_eq, List.getElem?_map]
  cases hg : P.funcs[g]? with
  | none => simp [Array.getElem?_toList, hg]
  | some fn => simp [Array.getElem?_toList, hg]
end Go.Abs
