/- The quick evaluator: code and calls. -/
import Derived.Test.YtmpdkagfplajjaaGreatDoorVG31
set_option linter.unusedVariables false
namespace Go.Abs

abbrev YC := Exit × BT × HT × Nat × List Nat
noncomputable def yLoop (f : BT → HT → Nat → List Nat → Option YC) : Nat → BT → HT → Nat → List Nat → Option YC
  | 0, _, _, _, _ => none
  | k + 1, t, h, n, ws => match f t h n ws with
    | some (.normal, t, h, n, ws) => yLoop f k t h n ws
    | r => r
noncomputable def slotsH : Nat → HT → Nat → HT
  | 0, h, _ => h
  | k + 1, h, n => slotsH k (h.put n blank) (n + 1)
noncomputable def yCode (yc : YCallF) (C : Ctx) (fuel base : Nat) (c : Code) : BT → HT → Nat → List Nat → Option YC :=
  Code.rec (motive := fun _ => BT → HT → Nat → List Nat → Option YC)
    (fun t h n ws => some (.normal, t, h, n, ws))
    (fun _ ops draw t h n ws => match draw with
      | true => match yDraw yc C ops (fos C ops.toList) t (slotsH (allocsOf ops.toList) h n) (n + allocsOf ops.toList) n with
        | some (t', h', n', fs) => match okF ops fs with
          | true => some (.normal, t', h', n', wsFeet base fs ws)
          | false => none
        | none => none
      | false => match yOps yc C base ops (fos C ops.toList) t h n ws with
        | some s => some (.normal, s)
        | none => none)
    (fun _ _ x y t h n ws => match x t h n ws with
      | some (.normal, t, h, n, ws) => y t h n ws
      | r => r)
    (fun c _ _ x y t h n ws => match rd t (argOf C c) with
      | .val (.bool true) => x t h n ws
      | .val (.bool false) => y t h n ws
      | _ => none)
    (fun id _ c t h n ws => match c t h n ws with
      | some (.exit i, s) => match Nat.beq i id with
        | true => some (.normal, s)
        | false => some (.exit i, s)
      | r => r)
    (fun _ c t h n ws => yLoop c fuel t h n ws)
    (fun _ _ _ _ _ _ _ _ _ _ => none)
    (fun id t h n ws => some (.exit id, t, h, n, ws))
    (fun _ _ _ _ _ _ => none)
    (fun _ t h n ws => some (.normal, t, h, n, ws))
    (fun _ _ _ _ _ => none)
    (fun t h n ws => some (.ret, t, h, n, ws))
    (fun _ _ _ _ _ => none) c
section
variable {yc : YCallF} {C : Ctx} {fuel base : Nat} {t : BT} {h : HT} {n : Nat} {ws : List Nat}
theorem yCode_skip : yCode yc C fuel base .skip t h n ws = some (.normal, t, h, n, ws) := rfl
theorem yCode_label {l : Nat} : yCode yc C fuel base (.label l) t h n ws = some (.normal, t, h, n, ws) := rfl
theorem yCode_ret : yCode yc C fuel base .ret t h n ws = some (.ret, t, h, n, ws) := rfl
theorem yCode_exit {id : Nat} : yCode yc C fuel base (.exit id) t h n ws = some (.exit id, t, h, n, ws) := rfl
theorem yCode_region {id : Nat} {ops : Array Oper} {draw : Bool} : yCode yc C fuel base (.region id ops draw) t h n ws = match draw with
    | true => match yDraw yc C ops (fos C ops.toList) t (slotsH (allocsOf ops.toList) h n) (n + allocsOf ops.toList) n with
      | some (t', h', n', fs) => match okF ops fs with
        | true => some (.normal, t', h', n', wsFeet base fs ws)
        | false => none
      | none => none
    | false => match yOps yc C base ops (fos C ops.toList) t h n ws with
      | some s => some (.normal, s)
      | none => none := rfl
theorem yCode_seq {x y : Code} : yCode yc C fuel base (.seq x y) t h n ws = match yCode yc C fuel base x t h n ws with
    | some (.normal, t, h, n, ws) => yCode yc C fuel base y t h n ws
    | r => r := rfl
theorem yCode_cond {c : Operand} {x y : Code} : yCode yc C fuel base (.cond c x y) t h n ws = match rd t (argOf C c) with
    | .val (.bool true) => yCode yc C fuel base x t h n ws
    | .val (.bool false) => yCode yc C fuel base y t h n ws
    | _ => none := rfl
theorem yCode_block {id : Nat} {c : Code} : yCode yc C fuel base (.block id c) t h n ws = match yCode yc C fuel base c t h n ws with
    | some (.exit i, s) => match Nat.beq i id with
      | true => some (.normal, s)
      | false => some (.exit i, s)
    | r => r := rfl
theorem yCode_loop {c : Code} : yCode yc C fuel base (.loop c) t h n ws = yLoop (yCode yc C fuel base c) fuel t h n ws := rfl
theorem yCode_rangeFunc {f : Operand} {p : Array Tmp} {a b : Code} : yCode yc C fuel base (.rangeFunc f p a b) t h n ws = none := rfl
theorem yCode_scope {c : Code} : yCode yc C fuel base (.scope c) t h n ws = none := rfl
theorem yCode_goto {l : Nat} : yCode yc C fuel base (.goto l) t h n ws = none := rfl
theorem yCode_refuse {s : String} : yCode yc C fuel base (.refuse s) t h n ws = none := rfl
end
theorem slotsH_ok : ∀ (k : Nat) (h : HT) (n : Nat) (M : Mem), Hp h n M → Hp (slotsH k h n) (n + k) (withSlots k M)
  | 0, h, n, M, hp => hp
  | k + 1, h, n, M, hp => by
    have ih := slotsH_ok k (h.put n blank) (n + 1) (M ++ [blank]) hp.push
    rw [withSlots_eq] at ih ⊢
    rw [show n + (k + 1) = n + 1 + k from by omega]
    simp only [slotsH]
    rw [List.replicate_succ, ← List.append_cons] at *
    exact ih

theorem yLoop_ok {f : BT → HT → Nat → List Nat → Option YC} {fx : BT → Mem → List Nat → Option XC} (hf : ∀ t h n M ws e t' h' n' ws', Hp h n M → f t h n ws = some (e, t', h', n', ws') → ∃ M', fx t M ws = some (e, t', M', ws') ∧ Hp h' n' M') :
    ∀ (k : Nat) (t : BT) (h : HT) (n : Nat) (M : Mem) (ws : List Nat) (e : Exit) (t' : BT) (h' : HT) (n' : Nat) (ws' : List Nat), Hp h n M → yLoop f k t h n ws = some (e, t', h', n', ws') → ∃ M', xLoop fx k t M ws = some (e, t', M', ws') ∧ Hp h' n' M'
  | 0, t, h, n, M, ws, e, t', h', n', ws', hp, hy => by simp [yLoop] at hy
  | k + 1, t, h, n, M, ws, e, t', h', n', ws', hp, hy => by
    simp only [yLoop] at hy
    simp only [xLoop]
    split at hy
    · rename_i t1 h1 n1 ws1 hr
      obtain ⟨M1, q1, q2⟩ := hf _ _ _ _ _ _ _ _ _ _ hp hr
      obtain ⟨M2, q3, q4⟩ := yLoop_ok hf k t1 h1 n1 M1 ws1 e t' h' n' ws' q2 hy
      exact ⟨M2, by simp only [q1, q3], q4⟩
    · rename_i hne
      obtain ⟨M1, q1, q2⟩ := hf _ _ _ _ _ _ _ _ _ _ hp hy
      refine ⟨M1, ?_, q2⟩
      rw [q1]
      cases e with
      | normal => exact absurd hy (hne _ _ _ _)
      | _ => rfl

theorem yCode_ok {call : CallF} {yc : YCallF} {C : Ctx} (hc : YOK call yc) {fuel base : Nat} : ∀ (c : Code) (t : BT) (h : HT) (n : Nat) (M : Mem) (ws : List Nat) (e : Exit) (t' : BT) (h' : HT) (n' : Nat) (ws' : List Nat), Hp h n M → yCode yc C fuel base c t h n ws = some (e, t', h', n', ws') →
    ∃ M', xCode call C fuel base c t M ws = some (e, t', M', ws') ∧ Hp h' n' M'
  | .skip, t, h, n, M, ws, e, t', h', n', ws', hp, hy => by
    rw [yCode_skip] at hy
    simp only [Option.some.injEq, Prod.mk.injEq] at hy
    obtain ⟨rfl, rfl, rfl, rfl, rfl⟩ := hy
    exact ⟨M, by simp only [xCode], hp⟩
  | .label l, t, h, n, M, ws, e, t', h', n', ws', hp, hy => by
    rw [yCode_label] at hy
    simp only [Option.some.injEq, Prod.mk.injEq] at hy
    obtain ⟨rfl, rfl, rfl, rfl, rfl⟩ := hy
    exact ⟨M, by simp only [xCode], hp⟩
  | .region id ops draw, t, h, n, M, ws, e, t', h', n', ws', hp, hy => by
    rw [yCode_region] at hy
    simp only [xCode]
    cases draw with
    | true =>
      simp only at hy ⊢
      split at hy
      case h_2 => simp at hy
      rename_i t1 h1 n1 fs hd
      split at hy
      case h_2 => simp at hy
      rename_i hok
      simp only [Option.some.injEq, Prod.mk.injEq] at hy
      obtain ⟨rfl, rfl, rfl, rfl, rfl⟩ := hy
      obtain ⟨M1, q1, q2⟩ := yDraw_ok hc ops.toList t _ _ _ _ _ _ _ _ (slotsH_ok (allocsOf ops.toList) h n M hp) hd
      exact ⟨M1, by rw [hp.len]; simp only [q1, hok], q2⟩
    | false =>
      simp only at hy ⊢
      split at hy
      case h_2 => simp at hy
      rename_i s hd
      simp only [Option.some.injEq, Prod.mk.injEq] at hy
      obtain ⟨rfl, rfl⟩ := hy
      obtain ⟨M1, q1, q2⟩ := yOps_ok hc ops.toList t h n M ws _ _ _ _ hp hd
      exact ⟨M1, by simp only [q1], q2⟩
  | .seq x y, t, h, n, M, ws, e, t', h', n', ws', hp, hy => by
    rw [yCode_seq] at hy
    simp only [xCode]
    split at hy
    · rename_i t1 h1 n1 ws1 hr
      obtain ⟨M1, q1, q2⟩ := yCode_ok hc x t h n M ws _ _ _ _ _ hp hr
      obtain ⟨M2, q3, q4⟩ := yCode_ok hc y t1 h1 n1 M1 ws1 e t' h' n' ws' q2 hy
      exact ⟨M2, by simp only [q1, q3], q4⟩
    · rename_i hne
      obtain ⟨M1, q1, q2⟩ := yCode_ok hc x t h n M ws _ _ _ _ _ hp hy
      refine ⟨M1, ?_, q2⟩
      rw [q1]
      cases e with
      | normal => exact absurd hy (hne _ _ _ _)
      | _ => rfl
  | .cond c x y, t, h, n, M, ws, e, t', h', n', ws', hp, hy => by
    rw [yCode_cond] at hy
    simp only [rd_ev] at hy
    simp only [xCode]
    split at hy
    · rename_i hv
      obtain ⟨M1, q1, q2⟩ := yCode_ok hc x t h n M ws _ _ _ _ _ hp hy
      exact ⟨M1, by simp only [hv, q1], q2⟩
    · rename_i hv
      obtain ⟨M1, q1, q2⟩ := yCode_ok hc y t h n M ws _ _ _ _ _ hp hy
      exact ⟨M1, by simp only [hv, q1], q2⟩
    · simp at hy
  | .block id c, t, h, n, M, ws, e, t', h', n', ws', hp, hy => by
    rw [yCode_block] at hy
    simp only [xCode]
    split at hy
    · rename_i i s hr
      obtain ⟨t1, h1, n1, ws1⟩ := s
      obtain ⟨M1, q1, q2⟩ := yCode_ok hc c t h n M ws _ _ _ _ _ hp hr
      split at hy
      · rename_i hi
        simp only [Option.some.injEq, Prod.mk.injEq] at hy
        obtain ⟨rfl, rfl, rfl, rfl, rfl⟩ := hy
        exact ⟨M1, by simp only [q1, hi], q2⟩
      · rename_i hi
        simp only [Option.some.injEq, Prod.mk.injEq] at hy
        obtain ⟨rfl, rfl, rfl, rfl, rfl⟩ := hy
        exact ⟨M1, by simp only [q1, hi], q2⟩
    · rename_i hne
      obtain ⟨M1, q1, q2⟩ := yCode_ok hc c t h n M ws _ _ _ _ _ hp hy
      refine ⟨M1, ?_, q2⟩
      rw [q1]
      cases e with
      | exit i => exact absurd hy (hne _ _)
      | _ => rfl
  | .loop c, t, h, n, M, ws, e, t', h', n', ws', hp, hy => by
    rw [yCode_loop] at hy
    simp only [xCode]
    exact yLoop_ok (fun t h n M ws e t' h' n' ws' hp hy => yCode_ok hc c t h n M ws e t' h' n' ws' hp hy) fuel t h n M ws e t' h' n' ws' hp hy
  | .exit id, t, h, n, M, ws, e, t', h', n', ws', hp, hy => by
    rw [yCode_exit] at hy
    simp only [Option.some.injEq, Prod.mk.injEq] at hy
    obtain ⟨rfl, rfl, rfl, rfl, rfl⟩ := hy
    exact ⟨M, by simp only [xCode], hp⟩
  | .ret, t, h, n, M, ws, e, t', h', n', ws', hp, hy => by
    rw [yCode_ret] at hy
    simp only [Option.some.injEq, Prod.mk.injEq] at hy
    obtain ⟨rfl, rfl, rfl, rfl, rfl⟩ := hy
    exact ⟨M, by simp only [xCode], hp⟩
  | .rangeFunc _ _ _ _, t, h, n, M, ws, e, t', h', n', ws', hp, hy => by rw [yCode_rangeFunc] at hy; simp at hy
  | .scope _, t, h, n, M, ws, e, t', h', n', ws', hp, hy => by rw [yCode_scope] at hy; simp at hy
  | .goto _, t, h, n, M, ws, e, t', h', n', ws', hp, hy => by rw [yCode_goto] at hy; simp at hy
  | .refuse _, t, h, n, M, ws, e, t', h', n', ws', hp, hy => by rw [yCode_refuse] at hy; simp at hy

/-! ### calls -/
noncomputable def resAVG (C : Ctx) (t : BT) (g : GT) : ResultVar → Option AV
  | .tmp i => some (t.get i)
  | .cell a ty => (memOfG g (t.get a)).bind (loadCells? C.P ty)
noncomputable def resListG (C : Ctx) (t : BT) (g : GT) : List ResultVar → Option (List AV)
  | [] => some []
  | r :: rs => match resAVG C t g r, resListG C t g rs with
    | some v, some vs => some (v :: vs)
    | _, _ => none
noncomputable def resultG (C : Ctx) (rs : List ResultVar) (t : BT) (g : GT) : Option AV := match resListG C t g rs with
  | some [v] => some v
  | some vs => some (.tuple vs)
  | none => none
theorem resList_G {C : Ctx} {t : BT} {M : Mem} : ∀ rs : List ResultVar, resList C t.fn M rs = resListG C t (fun i => M[i]?) rs
  | [] => rfl
  | r :: rs => by
    simp only [resList, resListG, resList_G rs]
    have : resAV C t.fn M r = resAVG C t (fun i => M[i]?) r := by
      cases r with
      | tmp i => rfl
      | cell a ty => simp only [resAV, resAVG, memOf_G]; rfl
    rw [this]
    rfl
theorem result_G {C : Ctx} {t : BT} {M : Mem} (rs : List ResultVar) : resultAV C rs t.fn M = resultG C rs t (fun i => M[i]?) := by
  unfold resultAV resultG
  rw [resList_G]
  rfl

/-- functions that are answered by their contracts: the arguments and a look at the memory give the result -/
abbrev YIntr := FuncId → Option (List AV → (Nat → Option AObj) → Option AV)
def intrOf (yi : YIntr) : Intr := fun f => match yi f with
  | some g => some (fun args M => match g args (fun i => M[i]?) with | some v => some (v, M, []) | none => none)
  | none => none
noncomputable def yRet (C : Ctx) (fn : Func) (t : BT) (h0 : HT) (n0 : Nat) (h : HT) (n : Nat) (ws : List Nat) : Option YR := match resultG C fn.results.toList t h.get with
  | some v => match ws, flat v with
    | [], true => some (v, h0, n0, [])
    | _, _ => some (v, h, n, ws)
  | none => none
noncomputable def yCall (C : Ctx) (yi : YIntr) (fuel : Nat) : Nat → YCallF
  | 0, _, _, _, _ => none
  | k + 1, f, args, h, n => match yi f with
    | some g => match g args h.get with
      | some v => some (v, h, n, [])
      | none => none
    | none => match C.P.funcs[f]? with
      | some fn => match fn.body with
        | some c => match Nat.ble args.length fn.ntmps, BT.args args 0 (BT.mk (Nat.log2 fn.ntmps + 1)) with
          | true, some t => match yCode (yCall C yi fuel k) C fuel n c t h n [] with
            | some (.normal, t, h', n', ws) => yRet C fn t h n h' n' ws
            | some (.ret, t, h', n', ws) => yRet C fn t h n h' n' ws
            | _ => none
          | _, _ => none
        | none => none
      | none => none

theorem yRet_ok {C : Ctx} {fn : Func} {t : BT} {h0 h h' : HT} {n0 n n' : Nat} {M0 M : Mem} {ws ws' : List Nat} {v : AV} (hp0 : Hp h0 n0 M0) (hp : Hp h n M) (hy : yRet C fn t h0 n0 h n ws = some (v, h', n', ws')) : ∃ M', xRet C fn t M0 M ws = some (v, M', ws') ∧ Hp h' n' M' := by
  unfold yRet at hy
  unfold xRet
  rw [result_G, ← hp.fn]
  split at hy
  case h_2 => simp at hy
  rename_i v0 hv
  rw [hv]
  simp only
  split at hy
  · rename_i hfl
    simp only [Option.some.injEq, Prod.mk.injEq] at hy
    obtain ⟨rfl, rfl, rfl, rfl⟩ := hy
    exact ⟨M0, by simp only [hfl], hp0⟩
  · rename_i hne
    simp only [Option.some.injEq, Prod.mk.injEq] at hy
    obtain ⟨rfl, rfl, rfl, rfl⟩ := hy
    refine ⟨M, ?_, hp⟩
    split
    · rename_i hfl; exact (hne rfl hfl).elim
    · rfl

theorem yCall_ok {C : Ctx} {yi : YIntr} {fuel : Nat} : ∀ k, YOK (xCall C (intrOf yi) fuel k) (yCall C yi fuel k)
  | 0 => by
    intro g args h n M v h' n' ws hp hy
    simp [yCall] at hy
  | k + 1 => by
    intro g args h n M v h' n' ws hp hy
    simp only [yCall] at hy
    simp only [xCall]
    split at hy
    · rename_i gi hg
      split at hy
      case h_2 => simp at hy
      rename_i u hu
      rw [hp.fn] at hu
      simp only [Option.some.injEq, Prod.mk.injEq] at hy
      obtain ⟨rfl, rfl, rfl, rfl⟩ := hy
      exact ⟨M, by simp only [intrOf, hg, hu], hp⟩
    rename_i hg
    have hi : intrOf yi g = none := by simp only [intrOf, hg]
    rw [hi]
    simp only
    split at hy
    case h_2 => simp at hy
    rename_i fn hf
    rw [hf]
    simp only
    split at hy
    case h_2 => simp at hy
    rename_i c hb
    rw [hb]
    simp only
    split at hy
    case h_2 => simp at hy
    rename_i t hlen ht
    rw [hlen, ht]
    simp only
    split at hy
    · rename_i t1 h1 n1 ws1 hc
      obtain ⟨M1, q1, q2⟩ := yCode_ok (yCall_ok k) c t h n M [] _ _ _ _ _ hp hc
      obtain ⟨M2, q3, q4⟩ := yRet_ok hp q2 hy
      exact ⟨M2, by rw [hp.len, q1]; exact q3, q4⟩
    · rename_i t1 h1 n1 ws1 hc
      obtain ⟨M1, q1, q2⟩ := yCode_ok (yCall_ok k) c t h n M [] _ _ _ _ _ hp hc
      obtain ⟨M2, q3, q4⟩ := yRet_ok hp q2 hy
      exact ⟨M2, by rw [hp.len, q1]; exact q3, q4⟩
    · simp at hy

/-- a call without arguments answers true and leaves nothing -/
noncomputable def yTrue (C : Ctx) (yi : YIntr) (fuel k : Nat) (f : FuncId) : Bool := match yCall C yi fuel k f [] .nil 0 with
  | some (.val (.bool true), _, 0, _) => true
  | _ => false
theorem yTrue_calls {C : Ctx} (hmix : C.P.follows .mixedOrders = true) {yi : YIntr} (hintr : IntrOK C (intrOf yi)) (hfn : ∀ (f : Nat) (fn : Func), C.P.funcs[f]? = some fn → okFunc fn = true) {fuel k : Nat} {f : FuncId} (h : yTrue C yi fuel k f = true) :
    Invk C f [] [] (fun r m => r = .val (.bool true) ∧ m = []) := by
  unfold yTrue at h
  split at h
  case h_2 => simp at h
  rename_i h' ws hr
  obtain ⟨M', q1, q2⟩ := yCall_ok k f [] .nil 0 [] _ _ _ _ ⟨rfl, fun i => by simp [HT.get]⟩ hr
  have : M' = [] := List.eq_nil_of_length_eq_zero q2.len
  subst this
  exact (xCall_ok hmix hintr hfn fuel k _ _ _ _ _ _ q1).1
end Go.Abs
