/- A region drawn in its order that looks at some variables, which its writers leave alone, and at others ahead of its writers. -/
import Derived.Test.YtmpdkagfplajjaaGreatDoorVG18
set_option maxRecDepth 100000
set_option linter.unusedVariables false
namespace Go.Abs
section
variable {C : Ctx} {M : Mem}
def wsDrawR (C : Ctx) (h : Hint) (ops : Array Oper) (cls rob : Nat → Nat) (qs : List Nat) : Nat → List Oper → Env → Mem → (Env → Mem → Prop) → Prop
  | _, [], T, M, K => K T M
  | k, o :: rest, T, M, K => vcGuard ops o T (wsD C h (cls k) (rob k) o (T.ev C) M (fun v M' => (∀ r ∈ qs, M'[r]? = M[r]?) ∧ wsDrawR C h ops cls rob qs (k + 1) rest (T.put o.dst v) M' K)) (wsDrawR C h ops cls rob qs (k + 1) rest (T.put o.dst (.val undef)) M K)
def planR (cls rob : Nat → Nat) (hot : Nat → Bool) : Plan := { cls := fun k => if cls k = 5 then 3 else cls k, rob := rob, aff := fun i _ => hot i }
theorem wsDrawR_sound {h : Hint} {ops : Array Oper} {cls rob : Nat → Nat} {hot : Nat → Bool} {qs : List Nat} {K : Env → Mem → Prop} (hq : ∀ i, cls i = 1 → hot i = false → rob i ∈ qs) : ∀ (l : List Oper) (k : Nat) (T : Env) (M : Mem), wsDrawR C h ops cls rob qs k l T M K → drawRun C h ops (planR cls rob hot) k l T M K
  | [], k, T, M, hw => hw
  | o :: rest, k, T, M, hw => by
    simp only [wsDrawR] at hw
    simp only [drawRun]
    refine vcGuard_mono (fun h1 => dOp_mono0 (fun v m (h2 : (∀ r ∈ qs, m[r]? = M[r]?) ∧ wsDrawR C h ops cls rob qs (k + 1) rest (T.put o.dst v) m K) => ⟨fun i hi ha => ?_, wsDrawR_sound hq rest _ _ _ h2.2⟩) (by
      have hd := wsD_sound h1
      by_cases e : cls k = 5
      · rw [e] at h1; exact h1.elim
      · simpa only [planR, if_neg e] using hd)) (fun h1 => wsDrawR_sound hq rest _ _ _ h1) hw
    refine h2.1 _ (hq i ?_ ha)
    simp only [planR] at hi
    split at hi
    · omega
    · exact hi
theorem awp_wsDrawR {N : Nat} {h : Hint} {id : Nat} {ops : Array Oper} {Q : Exit → Env → Mem → Prop} {T : Env} (hmix : C.P.follows .mixedOrders = true) (cls rob : Nat → Nat) (hot : Nat → Bool) (qs : List Nat) (hq : ∀ i, cls i = 1 → hot i = false → rob i ∈ qs) (hin : opsInside N ops ops.toList = true) (hok : okDraw ops (planR cls (fun _ => 0) hot) = true)
    (hr : wsDrawR C h ops cls rob qs 0 ops.toList T M (fun T M => Q .normal T M)) : AWp C N (.region id ops true) Q T M := by
  have h4 : ∀ i o, ops[i]? = some o → (planR cls rob hot).cls i ≠ 4 := by
    intro i o ho e
    have := (okDraw_at hok ho).2.1 e
    simp [planR] at this
  have h5 : ∀ k, (planR cls rob hot).cls k ≠ 5 := by
    intro k
    simp only [planR]
    split <;> omega
  have hok' : okDraw ops (planR cls rob hot) = true := by
    have hp : ∀ i, i < ops.size → isPut ((planR cls rob hot).cls i) = false := fun i hi => by
      cases e : isPut ((planR cls rob hot).cls i) with
      | false => rfl
      | true => rcases isPut_iff.1 e with h | h
                · exact absurd h (h4 i _ (Array.getElem?_eq_getElem hi))
                · exact absurd h (h5 i)
    have : ∀ i j, i < ops.size → j < ops.size → memConf (planR cls rob hot) j i = memConf (planR cls (fun _ => 0) hot) j i := by
      intro i j hi hj
      have b1 := hp i hi
      have b2 := hp j hj
      have c1 : (planR cls (fun _ => 0) hot).cls = (planR cls rob hot).cls := rfl
      have c2 : (planR cls (fun _ => 0) hot).aff = (planR cls rob hot).aff := rfl
      simp only [memConf, c1, c2, b1, b2, Bool.and_false, Bool.false_and, Bool.or_false]
    refine List.all_eq_true.2 fun i hi => ?_
    have h0 := List.all_eq_true.1 hok i hi
    have hi' := List.mem_range.1 hi
    cases ho : ops[i]? with
    | none => rfl
    | some o =>
      rw [ho] at h0
      simp only [Bool.and_eq_true] at h0 ⊢
      refine ⟨h0.1, List.all_eq_true.2 fun j hj => ?_⟩
      have h1 := List.all_eq_true.1 h0.2 j hj
      have hj' := List.mem_range.1 hj
      cases hx : ops[j]? with
      | none => rfl
      | some x =>
        rw [hx] at h1
        simp only at h1 ⊢
        rw [this i j hi' (by omega)]
        exact h1
  refine awp_draw (h := h) hmix (planR cls rob hot) hin hok' (fun k hk hc => ?_) (wsDrawR_sound hq _ _ _ _ hr)
  exact absurd hc (h4 k _ (Array.getElem?_eq_getElem hk))
def wDrawR (C : Ctx) (h : Hint) (ops : Array Oper) (cls rob : Nat → Nat) (qs : List Nat) (k : Nat) (l : List Oper) (T : Env) (M : Mem) (K : Env → Mem → Prop) (_ : Tag (ops, l, K)) : Prop := wsDrawR C h ops cls rob qs k l T M K
variable {cls rob : Nat → Nat} {qs : List Nat} {N : Nat} {Q : Post} {T : Env} {h : Hint}
@[simp] theorem wDrawR_nil {ops : Array Oper} {k : Nat} {K : Env → Mem → Prop} {tg : Tag (ops, ([] : List Oper), K)} : wDrawR C h ops cls rob qs k [] T M K tg = K T M := rfl
@[simp] theorem wDrawR_cons {ops : Array Oper} {k : Nat} {o : Oper} {rest : List Oper} {K : Env → Mem → Prop} {tg : Tag (ops, o :: rest, K)} : wDrawR C h ops cls rob qs k (o :: rest) T M K tg =
    wGuard ops o T (wD C h (cls k) (rob k) o (T.ev C) M (fun v M' => (∀ r ∈ qs, M'[r]? = M[r]?) ∧ wDrawR C h ops cls rob qs (k + 1) rest (T.put o.dst v) M' K ⟨⟩) ⟨⟩) (wDrawR C h ops cls rob qs (k + 1) rest (T.put o.dst (.val undef)) M K ⟨⟩) ⟨⟩ := rfl
theorem w_drawnR {id : Nat} {l : List Oper} {tg : Tag (Code.region id l.toArray true, Q)} (h : Hint) (hmix : C.P.follows .mixedOrders = true) (cls rob : Nat → Nat) (hot : Nat → Bool) (qs : List Nat) (hq : ∀ i, cls i = 1 → hot i = false → rob i ∈ qs) (hin : opsInside N l.toArray l = true) (hok : okDraw l.toArray (planR cls (fun _ => 0) hot) = true)
    (hr : wDrawR C h l.toArray cls rob qs 0 l T M (fun T M => Q .normal T M) ⟨⟩) : wWp C N (.region id l.toArray true) Q T M tg := awp_wsDrawR hmix cls rob hot qs hq hin hok hr
end
end Go.Abs
