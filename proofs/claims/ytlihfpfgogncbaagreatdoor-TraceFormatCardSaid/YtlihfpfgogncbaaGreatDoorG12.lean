/- A function's body gives its contract. -/
import Derived.Test.YtlihfpfgogncbaaGreatDoorG11
set_option linter.unusedVariables false
namespace Go.Abs

def resAV (C : Ctx) (T : Env) (M : Mem) : ResultVar → Option AV
  | .tmp t => some (T t)
  | .cell a ty => (memOf M (T a)).bind (loadCells? C.P ty)

def resList (C : Ctx) (T : Env) (M : Mem) : List ResultVar → Option (List AV)
  | [] => some []
  | r :: rs => match resAV C T M r, resList C T M rs with
    | some v, some vs => some (v :: vs)
    | _, _ => none

def resultAV (C : Ctx) (rs : List ResultVar) (T : Env) (M : Mem) : Option AV :=
  match resList C T M rs with
  | some [v] => some v
  | some vs => some (.tuple vs)
  | none => none

def resInside (N : Nat) : List ResultVar → Bool
  | [] => true
  | .tmp t :: rs => decide (t < N) && resInside N rs
  | .cell a _ :: rs => decide (a < N) && resInside N rs

def bodyQ (C : Ctx) (rs : List ResultVar) (Q : AV → Mem → Prop) : Exit → Env → Mem → Prop
  | .normal, T, M | .ret, T, M => match resultAV C rs T M with
    | some r => Q r M
    | none => False
  | _, _, _ => False

def oneRes (tmps : Array Value) : ResultVar → Sem Value
  | .tmp t => pure (tmps.getD t undef)
  | .cell b t => do loadVar t (← asAddr (tmps.getD b undef))
theorem results_eq (fn : Func) (tmps : Array Value) : results fn tmps = (do
    let vs ← fn.results.mapM (oneRes tmps)
    pure (if h : vs.size = 1 then vs[0] else .tuple vs)) := by
  unfold results
  congr 1

theorem resList_sound {C : Ctx} {G : Ghost} {M : Mem} {w : World} {N : Nat} {T : Env} {a : Act} (hi : Inv C G M w) (he : RepEnv G N T a) : ∀ (rs : List ResultVar) (vs : List AV), resInside N rs = true → resList C T M rs = some vs →
    ∃ xs, (rs.mapM (oneRes a.tmps)).run C.P w = .ok xs w ∧ RepL G vs xs
  | [], vs, _, h => by
    simp [resList] at h
    subst h
    exact ⟨[], by simp, by simp [RepL]⟩
  | r :: rs, vs, hin, h => by
    simp only [resList] at h
    split at h
    case h_2 => simp at h
    rename_i v vs' h1 h2
    simp only [Option.some.injEq] at h
    subst h
    cases r with
    | tmp t =>
      simp only [resInside, Bool.and_eq_true, decide_eq_true_eq] at hin
      obtain ⟨xs, q1, q2⟩ := resList_sound hi he rs vs' hin.2 h2
      simp only [resAV, Option.some.injEq] at h1
      subst h1
      refine ⟨a.tmps.getD t undef :: xs, ?_, by simp only [RepL]; exact ⟨_, _, rfl, he.at_ t hin.1, q2⟩⟩
      simp only [List.mapM_cons, oneRes, Sem.run_bind, Sem.run_pure, Result.andThen_ok, q1]
    | cell b ty =>
      simp only [resInside, Bool.and_eq_true, decide_eq_true_eq] at hin
      obtain ⟨xs, q1, q2⟩ := resList_sound hi he rs vs' hin.2 h2
      simp only [resAV, Option.bind_eq_some_iff] at h1
      obtain ⟨cs, hcs, hl⟩ := h1
      have hr := he.at_ b hin.1
      obtain ⟨u, hu, hru⟩ := load_sound hi hr hcs hl
      obtain ⟨bb, ii, _, hp, _⟩ := memOf_rep hi hr hcs
      refine ⟨u :: xs, ?_, by simp only [RepL]; exact ⟨_, _, rfl, hru, q2⟩⟩
      rw [hp] at hu
      simp only [Instr.loadAt, Instr.sureAddr, Sem.run_bind, Sem.run_pure, Result.andThen_ok] at hu
      simp only [List.mapM_cons, oneRes, Sem.run_bind, Sem.run_pure, Result.andThen_ok, hp, asAddr, hu, q1]

theorem acalls_of_body {C : Ctx} {f : FuncId} {fn : Func} {c : Code} {args : List AV} {M : Mem} {Q : AV → Mem → Prop} {N : Nat} {rs : List ResultVar} (hf : C.P.funcs[f]? = some fn) (hb : fn.body = some c) (hN : fn.ntmps = N) (hrs : fn.results = rs.toArray)
    (hn : decide (args.length ≤ N) = true) (hin : resInside N rs = true) (h : AWp C N c (bodyQ C rs Q) (Env.of args) M) : ACalls C f args M Q := by
  intro G w vs hi hr
  have hlen := hr.length
  simp only [decide_eq_true_eq] at hn
  refine calls_of_wp hf hb ?_
  have he := RepEnv.of (G := G) (N - vs.length) hr
  rw [show vs.length + (N - vs.length) = N from by omega] at he
  have hw := h G w _ hi he
  rw [hN]
  refine wp_mono (by simpa using hw) ?_
  rintro e a' w' ⟨T', M', G', h1, h2, h3, h4, h5⟩
  have key : bodyQ C rs Q .ret T' M' → a'.defers = [] ∧ ∃ v, (results fn a'.tmps).run C.P w' = .ok v w' ∧ ∃ r M' G' v', Ending.returned v = .returned v' ∧ Q r M' ∧ G.le G' ∧ Inv C G' M' w' ∧ Rep G' r v' ∧ Ext w w' := by
    intro hq
    refine ⟨h4.defers, ?_⟩
    simp only [bodyQ] at hq
    split at hq
    case h_2 => exact hq.elim
    rename_i r hres
    unfold resultAV at hres
    have run_of : ∀ vs', resList C T' M' rs = some vs' → ∃ xs, (fn.results.mapM (oneRes a'.tmps)).run C.P w' = .ok xs.toArray w' ∧ RepL G' vs' xs := by
      intro vs' hvs
      obtain ⟨xs, q1, q2⟩ := resList_sound h3 h4 rs vs' hin hvs
      refine ⟨xs, ?_, q2⟩
      rw [hrs]
      simp only [Array.mapM_eq_mapM_toList, Sem.run_map, q1, Result.andThen_ok]
    cases hrl : resList C T' M' rs with
    | none => rw [hrl] at hres; simp at hres
    | some vs' =>
      rw [hrl] at hres
      obtain ⟨xs, q1, q2⟩ := run_of vs' hrl
      have hl := q2.length
      by_cases h1' : vs'.length = 1
      · match vs', h1' with
        | [v], _ =>
          simp only [Option.some.injEq] at hres
          subst hres
          simp only [RepL] at q2
          obtain ⟨x, _, rfl, hx, rfl⟩ := q2
          exact ⟨x, by simp only [results_eq, Sem.run_bind, q1, Result.andThen_ok, Sem.run_pure]; simp, v, M', G', x, rfl, hq, h2, h3, hx, h5⟩
      · have hr' : r = .tuple vs' := by
          split at hres
          · rename_i v hv; simp only [Option.some.injEq] at hv; subst hv; simp at h1'
          · rename_i vs'' _ hv; simp only [Option.some.injEq] at hv hres; subst hv; exact hres.symm
          · rename_i hv; simp at hv
        subst hr'
        refine ⟨.tuple xs.toArray, by simp only [results_eq, Sem.run_bind, q1, Result.andThen_ok, Sem.run_pure]; simp [hl, h1'], _, M', G', _, rfl, hq, h2, h3, by simp only [Rep]; exact ⟨_, rfl, by simpa using q2⟩, h5⟩
  cases e with
  | normal => exact key h1
  | ret => exact key h1
  | exit id => exact h1.elim
  | goto l => exact h1.elim
  | panic ch => exact h1.elim
  | outgrown => exact h1.elim
end Go.Abs
