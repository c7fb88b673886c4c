/- A cut in a walk: what comes behind a piece of code may be proved from an invariant. -/
import Derived.Test.YtiipcnbedgamdaaGreatDoorVG16
set_option linter.unusedVariables false
namespace Go.Abs
theorem onSome_imp {α : Type} {o : Option α} {f g : α → Prop} (h : ∀ x, f x → g x) (k : onSome o f) : onSome o g := by
  cases o with
  | none => exact k
  | some v => exact h v k
theorem wsOp_mono {C : Ctx} {h : Hint} {o : Oper} {K K' : AV → Mem → Prop} {ρ : Operand → AV} {M : Mem} (hk : ∀ v m, K v m → K' v m) (hw : wsOp C h o K ρ M) : wsOp C h o K' ρ M := by
  unfold wsOp at hw ⊢
  split at hw
  · rename_i bop bt x y yt heq
    unfold binK2 at hw ⊢
    split at hw
    · exact onSome_imp (fun v => hk v M) hw
    · rename_i hne
      unfold binK at hw ⊢
      cases hb : binAV C.P bop bt (ρ x) (ρ y) with
      | some v => rw [hb] at hw; exact hk _ _ hw
      | none => rw [hb] at hw; exact ⟨hw.1, fun b => hk _ _ (hw.2 b)⟩
  · unfold callK at hw ⊢
    split at hw
    · exact Invk.mono hw hk
    · exact hw
  · split at hw
    · obtain ⟨e, sz, bytes, h1, h2⟩ := hw
      exact ⟨e, sz, bytes, h1, onSome_imp (fun r => hk r.1 r.2) h2⟩
    · exact hw
  · exact onSome_imp (fun r => hk r.1 r.2) hw
theorem wsOps_mono {C : Ctx} {h : Hint} {ops : Array Oper} {K K' : Env → Mem → Prop} (hk : ∀ T M, K T M → K' T M) : ∀ (l : List Oper) (T : Env) (M : Mem), wsOps C h ops l K T M → wsOps C h ops l K' T M
  | [], T, M, hw => hk _ _ hw
  | o :: rest, T, M, hw => by
    simp only [wsOps] at hw ⊢
    exact vcGuard_mono (wsOp_mono fun v m h2 => wsOps_mono hk rest _ _ h2) (wsOps_mono hk rest _ _) hw
theorem wsCode_mono {C : Ctx} {h : Hint} {N : Nat} : ∀ (c : Code) (Q Q' : Exit → Env → Mem → Prop) (T : Env) (M : Mem), (∀ e T M, Q e T M → Q' e T M) → wsCode C h N c Q T M → wsCode C h N c Q' T M
  | .skip, Q, Q', T, M, hq, hv => hq _ _ _ hv
  | .label _, Q, Q', T, M, hq, hv => hq _ _ _ hv
  | .region id ops draw, Q, Q', T, M, hq, hv => by
    simp only [wsCode] at hv ⊢
    cases draw with
    | true => exact AWp.mono (by simpa using hv) hq
    | false => simpa using wsOps_mono (fun T M => hq _ T M) _ _ _ (by simpa using hv)
  | .seq x y, Q, Q', T, M, hq, hv => by
    simp only [wsCode] at hv ⊢
    refine wsCode_mono x _ _ T M (fun e T M hx => ?_) hv
    cases e with
    | normal => exact wsCode_mono y _ _ T M hq hx
    | _ => exact hq _ _ _ hx
  | .cond c x y, Q, Q', T, M, hq, hv => by
    simp only [wsCode] at hv ⊢
    unfold condV at hv ⊢
    split at hv
    · split at hv
      · rename_i e; rw [if_pos e]; exact wsCode_mono x _ _ T M hq hv
      · rename_i e; rw [if_neg e]; exact wsCode_mono y _ _ T M hq hv
    · exact hv
  | .block id c, Q, Q', T, M, hq, hv => by
    simp only [wsCode] at hv ⊢
    refine wsCode_mono c _ _ T M (fun e T M hx => ?_) hv
    cases e with
    | exit i =>
      simp only [inBlockK] at hx ⊢
      split at hx
      · rename_i e; rw [if_pos e]; exact hq _ _ _ hx
      · rename_i e; rw [if_neg e]; exact hq _ _ _ hx
    | _ => exact hq _ _ _ hx
  | .exit id, Q, Q', T, M, hq, hv => hq _ _ _ hv
  | .ret, Q, Q', T, M, hq, hv => hq _ _ _ hv
  | .loop c, Q, Q', T, M, hq, hv => AWp.mono (show AWp C N (.loop c) Q T M from hv) hq
  | .rangeFunc .., Q, Q', T, M, hq, hv => AWp.mono (show AWp C N _ Q T M from hv) hq
  | .scope .., Q, Q', T, M, hq, hv => AWp.mono (show AWp C N _ Q T M from hv) hq
  | .goto .., Q, Q', T, M, hq, hv => AWp.mono (show AWp C N _ Q T M from hv) hq
  | .refuse .., Q, Q', T, M, hq, hv => AWp.mono (show AWp C N _ Q T M from hv) hq
/-- a piece of code between two known states -/
theorem w_cutC {C : Ctx} {h : Hint} {N : Nat} {c : Code} {Q : Post} {T : Env} {M : Mem} {tg : Tag (c, Q)} (I : Env → Mem → Prop) (h1 : wCode C h N c (fun e T' M' => wThen (fun T M => I T M) (fun _ _ _ => False) e T' M' ⟨⟩) T M ⟨⟩)
    (h2 : ∀ T M, I T M → Q .normal T M) : wCode C h N c Q T M tg :=
  wsCode_mono c _ _ T M (fun e T M hx => by cases e <;> first | exact h2 T M hx | exact hx.elim) h1
def wStop (x : Exit) (I : Env → Mem → Prop) (e : Exit) (T : Env) (M : Mem) (_ : Tag I) : Prop := e = x ∧ I T M
@[simp] theorem wStop_eq {x e : Exit} {I : Env → Mem → Prop} {T : Env} {M : Mem} {t : Tag I} : wStop x I e T M t = (e = x ∧ I T M) := rfl
/-- a loop left at one place alone -/
theorem w_cutE {C : Ctx} {N : Nat} {c : Code} {Q : Post} {T : Env} {M : Mem} {tg : Tag (c, Q)} (x : Exit) (I : Env → Mem → Prop) (h1 : wWp C N c (fun e T' M' => wStop x I e T' M' ⟨⟩) T M ⟨⟩) (h2 : ∀ T M, I T M → Q x T M) : wWp C N c Q T M tg :=
  AWp.mono h1 fun e T M h => by obtain ⟨rfl, h⟩ := h; exact h2 T M h
end Go.Abs
