/- awake answers true. -/
import Derived.Test.YtiipcnbedgamdaaGreatDoorVG40
import Derived.Test.YtiipcnbedgamdaaGreatDoorVG42
import Derived.Test.YtiipcnbedgamdaaGreatDoorVG15
set_option maxRecDepth 1000000
set_option linter.unusedVariables false
open Go Go.Abs Go.Proofs TryTypes
namespace K1
theorem okEach (f : Nat) (fn : Func) (h : Tryz.prog.funcs[f]? = some fn) : okFunc fn = true := by
  have hm : fn ∈ Tryz.prog.funcs.toList := by
    obtain ⟨h1, h2⟩ := Array.getElem?_eq_some_iff.1 h
    rw [← h2]; simp
  exact List.all_eq_true.1 okAll fn hm
theorem hmix : C0.P.follows .mixedOrders = true := by kernel_rfl
theorem xi_eq : (fun (args : List AV) (M : Mem) => match yIndexByte args (fun i => M[i]?) with | some v => some (v, M, ([] : List Nat)) | none => none) = xIndexByte := by
  funext args M
  rcases args with _ | ⟨a, _ | ⟨b, _ | ⟨c, t⟩⟩⟩
  · rfl
  · cases a <;> first | rfl | (rename_i v; cases v <;> rfl)
  · cases a <;> first | rfl | (rename_i v; cases v <;> first | rfl | (cases b <;> first | rfl | (rename_i u; cases u <;> first | rfl | (rename_i k n; cases k <;> rfl))))
  · cases a <;> first | rfl | (rename_i v; cases v <;> first | rfl | (cases b <;> first | rfl | (rename_i u; cases u <;> first | rfl | (rename_i k n; cases k <;> rfl))))
def I0 : Intr := fun f => match Nat.beq f 307 with
  | true => some (fun args M => match yIndexByte args (fun i => M[i]?) with | some v => some (v, M, []) | none => none)
  | false => none
theorem eok0 : EOK I0 Y0 := by
  intro f
  unfold I0 Y0
  cases Nat.beq f 307 with
  | false => exact .inl ⟨rfl, rfl⟩
  | true => exact .inr ⟨_, _, rfl, rfl, lookI_ok⟩
theorem intr0 : IntrOK C0 I0 := by
  intro f g h
  unfold I0 at h
  cases h1 : Nat.beq f 307 with
  | false => rw [h1] at h; simp at h
  | true =>
    rw [h1] at h
    have e := Nat.eq_of_beq_eq_true h1
    subst e
    simp only [Option.some.injEq] at h
    rw [← h]
    have := xIndexByte_ok (C := C0) Tryz.func307 rfl rfl (by kernel_rfl) (by kernel_rfl)
    exact xi_eq ▸ this
/-! ### slices.Insert -/
noncomputable def insX (args : List AV) (M : Mem) : Option XR := match midB args with
  | true => match insG (fun i => M[i]?) args with
    | some (v, f, o) => some (v, M.set f o, [f])
    | none => none
  | false => xCall C0 I0 4000 3 226 args M
noncomputable def I1 : Intr := fun f => match Nat.beq f 226 with
  | true => some insX
  | false => I0 f
/-- what a found insertion is -/
theorem insG_some {g : Nat → Option AObj} {args : List AV} {r : AV × Nat × AObj} (h : insG g args = some r) : ∃ f t lo len i f2 t2 lo2 m cs tm hist n news, args = [.vref f t 8 lo len, .val (.int .i64 (.ofNat i)), .vref f2 t2 8 lo2 m] ∧
    g f = some (.vec 65 8 cs tm hist) ∧ hist.lookup t = some n ∧ srcCellsG g 8 (.vref f2 t2 8 lo2 m) = some (news, m) ∧ f ≠ f2 ∧ lo + len ≤ n ∧ i < len ∧ 0 < m ∧ (len + m) * 120 ≤ 140737488355328 ∧
    r = (.vref f (tm + 1) 8 0 (len + m), f, .vec 65 8 (((cs.drop (lo * 8)).take (len * 8)).take (i * 8) ++ news ++ ((cs.drop (lo * 8)).take (len * 8)).drop (i * 8)) (tm + 1) [(tm + 1, len + m)]) := by
  unfold insG at h
  split at h
  case h_2 => simp at h
  rename_i f t s lo len i f2 t2 s2 lo2 m
  split at h
  case h_2 => simp at h
  rename_i e sz cs tm hist hM
  split at h
  case h_2 => simp at h
  rename_i n news m' hn hsrc
  split at h
  case h_2 => simp at h
  rename_i c1 c2 c3 c4 c5 c6 c7 c8 c9
  have q1 := Nat.eq_of_beq_eq_true c1
  have q2 := Nat.eq_of_beq_eq_true c2
  have q3 := Nat.eq_of_beq_eq_true c3
  have q4 := Nat.eq_of_beq_eq_true c4
  subst q1 q2 q3 q4
  have q5 : f ≠ f2 := fun e => by subst e; rw [Nat.beq_refl] at c5; simp at c5
  have q6 := Nat.le_of_ble_eq_true c6
  have q7 : i + 1 ≤ len := Nat.le_of_ble_eq_true c7
  have q8 : 0 + 1 ≤ m := Nat.le_of_ble_eq_true c8
  have q9 := Nat.le_of_ble_eq_true c9
  have hs2 : s2 = 8 := by
    simp only [srcCellsG] at hsrc
    split at hsrc
    · split at hsrc
      · split at hsrc
        · rename_i hc; exact hc.1
        · simp at hsrc
      · simp at hsrc
    · simp at hsrc
  subst hs2
  simp only [Option.some.injEq] at h
  exact ⟨f, t, lo, len, i, f2, t2, lo2, m, cs, tm, hist, n, news, rfl, hM, hn, hsrc, q5, q6, by omega, by omega, q9, h.symm⟩
theorem eok1 : EOK I1 Y1 := by
  intro f
  unfold I1 Y1
  cases Nat.beq f 226 with
  | false => exact eok0 f
  | true =>
    refine .inr ⟨_, _, rfl, rfl, ?_⟩
    intro args h n M v h' n' ws hp hy
    unfold insE at hy
    unfold insX
    cases hb : midB args with
    | false =>
      rw [hb] at hy
      exact eCall_ok eok0 3 _ _ _ _ _ _ _ _ _ hp hy
    | true =>
      rw [hb] at hy
      simp only at hy ⊢
      rw [hp.fn] at hy
      split at hy
      case h_2 => simp at hy
      rename_i v0 f0 o0 hi
      simp only [Option.some.injEq, Prod.mk.injEq] at hy
      obtain ⟨rfl, rfl, rfl, rfl⟩ := hy
      rw [hi]
      refine ⟨_, rfl, hp.put ?_⟩
      obtain ⟨f, t, lo, len, i, f2, t2, lo2, m, cs, tm, hist, n1, news, _, hM, _, _, _, _, _, _, _, hr⟩ := insG_some hi
      simp only [Prod.mk.injEq] at hr
      obtain ⟨_, rfl, _⟩ := hr
      have := getElem?_lt hM
      rw [hp.len] at this
      exact this
theorem intr1 : IntrOK C0 I1 := by
  intro f g h
  unfold I1 at h
  cases h1 : Nat.beq f 226 with
  | false => rw [h1] at h; exact intr0 f g h
  | true =>
    rw [h1] at h
    have e := Nat.eq_of_beq_eq_true h1
    subst e
    simp only [Option.some.injEq] at h
    rw [← h]
    intro args M v M1 ws hx
    cases hb : midB args with
    | false =>
      have hx' : xCall C0 I0 4000 3 226 args M = some (v, M1, ws) := by unfold insX at hx; rw [hb] at hx; exact hx
      obtain ⟨r1, r2⟩ := xCall_ok hmix intr0 okEach 4000 3 _ _ _ _ _ _ hx'
      exact ⟨r1, r2.grow, r2.old, r2.keep, fun s X hs => by unfold insX; rw [hb]; exact r2.fill s X hs⟩
    | true =>
      have hx' := hx
      unfold insX at hx'
      rw [hb] at hx'
      simp only at hx'
      split at hx'
      case h_2 => simp at hx'
      rename_i v0 f0 o0 hi
      simp only [Option.some.injEq, Prod.mk.injEq] at hx'
      obtain ⟨rfl, rfl, rfl⟩ := hx'
      obtain ⟨f', t, lo, len, i, f2, t2, lo2, m, cs, tm, hist, n1, news, rfl, hM, hn, hsrc, hne, hlen, hilt, hm, hbig, hr⟩ := insG_some hi
      simp only [Prod.mk.injEq] at hr
      obtain ⟨rfl, hfe, rfl⟩ := hr
      subst hfe
      have hsrc' : srcCells M 8 (.vref f2 t2 8 lo2 m) = some (news, m) := hsrc
      have hnb := vec_ne_blank (e := 65) (sz := 8) (cs := cs) (g := tm) hn
      refine ⟨.inl ⟨Go.Abs.enters_of Tryz.func226 rfl rfl, ?_⟩, by simp, fun j hj hne' => ?_, fun s hs => ?_, fun s X hs => ?_⟩
      · have hsrc2 := hsrc'
        simp only [srcCells] at hsrc2
        split at hsrc2
        case h_2 => simp at hsrc2
        rename_i ty2 sz2 cs2 tm2 hist2 hM2
        split at hsrc2
        case h_2 => simp at hsrc2
        rename_i n2 hn2
        split at hsrc2
        case isFalse => simp at hsrc2
        rename_i hc
        simp only [Option.some.injEq, Prod.mk.injEq] at hsrc2
        obtain ⟨rfl, _⟩ := hsrc2
        obtain ⟨_, rfl, hl2⟩ := hc
        exact insert_ok (C := C0) rfl hM hn hM2 hn2 hl2 hne hlen hilt hm hbig
      · rw [List.getElem?_set_ne (by simpa using fun e => hne' (by simp [e]))]
      · have : s ≠ f0 := fun e => by subst e; rw [hM] at hs; simp only [Option.some.injEq] at hs; exact hnb hs
        rw [List.getElem?_set_ne (fun e => this e.symm)]; exact hs
      · have hsf : s ≠ f0 := fun e => by subst e; rw [hM] at hs; simp only [Option.some.injEq] at hs; exact hnb hs
        have hM' := fill_get1 (X := X) hs hM hnb
        have hs' := srcCells_fill (X := X) hs hsrc'
        have hs'' : srcCellsG (fun i => (M.set s X)[i]?) 8 (.vref f2 t2 8 lo2 m) = some (news, m) := hs'
        unfold insX
        rw [hb]
        simp only
        have hi2 : insG (fun i => (M.set s X)[i]?) [.vref f0 t 8 lo len, .val (.int .i64 (.ofNat i)), .vref f2 t2 8 lo2 m] = insG (fun i => M[i]?) [.vref f0 t 8 lo len, .val (.int .i64 (.ofNat i)), .vref f2 t2 8 lo2 m] := by
          simp only [insG, hM, hM', hn, hs'', hsrc]
        rw [hi2, hi]
        simp only
        rw [List.set_comm _ _ (fun e => hsf e.symm)]
/-! ### the layers -/
noncomputable def I2 : Intr := memoX C0 I1 4000 60 S1
noncomputable def I3 : Intr := memoX C0 I2 4000 60 S2
theorem eok2 : EOK I2 Y2 := memo_ok eok1 (l := ents1) (by
  intro e he
  simp only [ents1, List.mem_cons, List.not_mem_nil, or_false] at he
  rcases he with rfl | rfl | rfl | rfl | rfl | rfl | rfl | rfl | rfl | rfl
  · exact entOK_of eok1 run0
  · exact entOK_of eok1 run1
  · exact entOK_of eok1 run3
  · exact entOK_of eok1 run4
  · exact entOK_of eok1 run5
  · exact entOK_of eok1 run7
  · exact entOK_of eok1 run8
  · exact entOK_of eok1 run9
  · exact entOK_of eok1 run10
  · exact entOK_of eok1 run12)
theorem intr2 : IntrOK C0 I2 := memo_intr hmix intr1 okEach
theorem eok3 : EOK I3 Y3 := memo_ok eok2 (l := ents2) (by
  intro e he
  simp only [ents2, List.mem_cons, List.not_mem_nil, or_false] at he
  rcases he with rfl | rfl | rfl
  · exact entOK_of eok2 run2
  · exact entOK_of eok2 run6
  · exact entOK_of eok2 run11)
theorem intr3 : IntrOK C0 I3 := memo_intr hmix intr2 okEach
theorem awake42 : Invk C0 4 [] [] (fun r m => r = .val (.bool true) ∧ m = []) := eTrue_calls hmix eok3 intr3 okEach awakeRun
end K1
