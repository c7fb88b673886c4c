/- The texts AnSc, AnSd, AnSe, AnA, AnB, AoP: what each proves stands at its head. -/
import Derived.Test.YtiipcnbedgamdaaGreatDoorVG23
import Derived.Test.YtiipcnbedgamdaaGreatDoorVG24
section
/- Contracts of slices' stable sort over an array of rows: the merge. -/
set_option maxRecDepth 100000
set_option linter.unusedSimpArgs false
set_option linter.unusedVariables false
namespace Go.Abs
open Go.Proofs TryTypes

theorem whalf {i j h : Nat} (hh : h = (i + j) / 2) (hl : i + j ≤ 1000000) : IntKind.i64.wrap ((i : Int) + (j : Int)) = (i : Int) + j ∧ IntKind.u64.wrap ((i : Int) + (j : Int)) = (i : Int) + j ∧ IntKind.i64.wrap (((i : Int) + (j : Int)).fdiv (2 ^ min 1 IntKind.u64.bits)) = (h : Int) := by
  refine ⟨wrap_in (by omega) (by omega), IntWalk.u64_in _ ⟨by omega, by omega⟩, ?_⟩
  have e : ((i : Int) + (j : Int)).fdiv (2 ^ min 1 IntKind.u64.bits) = (h : Int) := by
    have : (2 : Int) ^ min 1 IntKind.u64.bits = 2 := by decide
    rw [this, Int.fdiv_eq_ediv_of_nonneg _ (by omega)]
    omega
  rw [e]; exact wrap_in (by omega) (by omega)
section
variable (gl : Nat → AV) {α : Type} {enc : α → List AV} {c : α → α → Int} {fid : FuncId} {first cap : List AV} {f g n : Nat} {M0 : Mem}
theorem symm_one (he : ∀ x, (enc x).length = 7) (hc : CmpOK (WC gl) enc c fid first cap) (hf : f < M0.length) (hn : n ≤ 1000) (a m b : Nat) (h1 : a < m) (h2 : m < b) (h3 : b ≤ n) (D : Nat → α) (M : Mem) (hM : AtA 84 7 f g n enc M0 D M) (c1 : m - a = 1) :
    ACalls (WC gl) 128 [.vref f g 7 0 n, I a, I m, I b, .func (.func fid) first cap] M (fun _ M' => ∃ E, AtA 84 7 f g n enc M0 E M' ∧ Mix n a b D E ∧ (Ord3 c → Srt c a m D → Srt c m b D → Srt c a b E)) := by
  refine w_body hW Tryz.func128 rfl rfl rfl rfl rfl rfl ?_
  have w1 := wsub (i := m) (j := a) (by omega) (by omega)
  have wb := wsub (i := b) (j := m) (by omega) (by omega)
  have L : ∀ {E : Nat → α} {M : Mem} {i : Nat}, AtA 84 7 f g n enc M0 E M → i < n → loadAV Tryz.prog 84 M (.vptr f g (i * 7)) = some (.agg (enc (E i))) := fun h hi => h.load (P := Tryz.prog) (t := 84) hf he (by simp) (by simp) hi
  obtain rfl : m = a + 1 := by omega
  have w1' : IntKind.i64.wrap ((a : Int) + 1 - (a : Int)) = 1 := by rw [wrap_in (by omega) (by omega)]; omega
  simp (dsimp := false) (implicitDefEqProofs := false) [w1']
  refine w_looped hW (fun T M1 => ∃ i : Nat, a + 1 ≤ i ∧ i ≤ b ∧ T 0 = .vref f g 7 0 n ∧ T 1 = I a ∧ T 4 = .func (.func fid) first cap ∧ T 10 = I i ∧ (a + 1 < i → c (D (i - 1)) (D a) < 0) ∧
      M1 = M ∧ ∃ j : Nat, T 11 = I j ∧ i ≤ j ∧ j ≤ b ∧ (j < b → ¬ c (D j) (D a) < 0))
    (fun T _ => match T 10, T 11 with | .val (.int _ i), .val (.int _ j) => j.toNat - i.toNat | _, _ => 0) (by kernel_rfl) ?_ ?_
  · exact ⟨a + 1, by omega, by omega, by simp, by simp, by simp, by simp, fun h => by omega, rfl, b, by simp, by omega, by omega, fun h => by omega⟩
  · rintro T M1 ⟨i, i1, i2, t0, t1, t4, t10, hl, rfl, j, t11, ij, jb, hr⟩
    by_cases hij : i < j
    · have hij' : (i : Int) < j := by omega
      obtain ⟨h, hh⟩ : ∃ h, h = (i + j) / 2 := ⟨_, rfl⟩
      have w2 := whalf hh (by omega)
      have k1 : h < n := by omega
      have k1' : (h : Int) < n := by omega
      have k2 : a < n := by omega
      have k2' : (a : Int) < n := by omega
      have w3 := wadd1 (i := h) (by omega)
      simp (dsimp := false) (implicitDefEqProofs := false) [t0, t1, t4, t10, t11, hij', w2.1, w2.2.1, w2.2.2, convAV]
      refine w_drawn hW (cfollows gl) (fun k => if k = 4 ∨ k = 8 then 1 else 0) (fun _ => f) (by rfl) (by kernel_rfl) ?_
      simp (dsimp := false) (implicitDefEqProofs := false) [t0, t1, t4, t10, t11, w2.2.2, k1, k1', k2, k2', L hM k1, L hM k2]
      refine w_call0 (r := I (c (D h) (D a))) (fun M => hc _ _ M) ?_
      by_cases hlt : c (D h) (D a) < 0
      · simp (dsimp := false) (implicitDefEqProofs := false) [t0, t1, t4, t10, t11, w2.2.2, hlt, w3]
        exact ⟨⟨h + 1, by clear w3; omega, by clear w3; omega, by simp, fun _ => hlt, j, rfl, by clear w3; omega, by clear w3; omega, fun q => Int.not_lt.1 (hr q)⟩, by clear w3 w2; omega⟩
      · simp (dsimp := false) (implicitDefEqProofs := false) [t0, t1, t4, t10, t11, w2.2.2, hlt]
        exact ⟨⟨i, by clear w2; omega, by clear w2; omega, rfl, hl, h, rfl, by clear w2; omega, by clear w2; omega, fun _ => Int.not_lt.1 hlt⟩, by clear w2; omega⟩
    · obtain rfl : i = j := by omega
      have hS : ∀ {E : Nat → α}, E = shUp D a (i - 1) → Mix n a b D E ∧ (Ord3 c → Srt c a (a + 1) D → Srt c (a + 1) b D → Srt c a b E) := by
        rintro E rfl
        refine ⟨?_, fun o _ s2 => shUp_srt o s2 (by omega) i2 hl hr⟩
        have := shUp_mix D (n := n) (lo := a) (hi := b) (a := a) (by omega) h3 (i - 1 - a) (by omega)
        rwa [show a + (i - 1 - a) = i - 1 by omega] at this
      simp (dsimp := false) (implicitDefEqProofs := false) [t0, t1, t4, t10, t11]
      refine w_looped hW (fun T M1 => ∃ k : Nat, a ≤ k ∧ k ≤ i - 1 ∧ T 0 = .vref f g 7 0 n ∧ T 10 = I i ∧ T 13 = I k ∧ AtA 84 7 f g n enc M0 (shUp D a k) M1)
        (fun T _ => match T 13 with | .val (.int _ k) => i - k.toNat | _ => 0) (by kernel_rfl) ?_ ?_
      · exact ⟨a, by omega, by omega, by simp [t0], by simp [t10], by simp, by rw [shUp_zero]; exact hM⟩
      · rintro T2 M2 ⟨k, k1, k2, u0, u10, u13, hA⟩
        have w4 := wsub1 (i := i) (by omega) (by omega)
        by_cases hk : k < i - 1
        · have hk' : (k : Int) < ((i - 1 : Nat) : Int) := by omega
          have w5 := wadd1 (i := k) (by omega)
          have g1 : k < n := by omega
          have g2 : k + 1 < n := by omega
          have g1' : (k : Int) < n := by omega
          have g2' : ((k + 1 : Nat) : Int) < n := by omega
          have p2 : 0 ≤ ((k + 1 : Nat) : Int) := by omega
          have q2 : ((k + 1 : Nat) : Int).toNat = k + 1 := by omega
          obtain ⟨M2, s1, hA2⟩ := hA.store hf he g1 (shUp D a k (k + 1))
          obtain ⟨M3, s2, hA3⟩ := hA2.store hf he g2 (shUp D a k k)
          have hx : AtA 84 7 f g n enc M0 (shUp D a (k + 1)) M3 := by rw [← shUp_step D k1]; exact hA3
          have l1 := L hA g1
          have l2 := L hA g2
          generalize ((k + 1 : Nat) : Int) = kk at *
          simp (dsimp := false) (implicitDefEqProofs := false) [u0, u10, u13, w4, hk']
          refine w_drawn hW (cfollows gl) (fun k => if k = 9 ∨ k = 13 then 1 else if k = 15 ∨ k = 17 then 2 else 0) (fun _ => f) (by rfl) (by kernel_rfl) ?_
          simp (dsimp := false) (implicitDefEqProofs := false) [u0, u10, u13, w5, g1, g2, g1', g2', p2, q2, l1, l2, s1, s2]
          exact ⟨⟨k + 1, by clear w5; omega, by clear w5; omega, by clear w5; omega, hx⟩, by clear w5; omega⟩
        · obtain rfl : k = i - 1 := by omega
          have hk' : ¬ ((i - 1 : Nat) : Int) < ((i - 1 : Nat) : Int) := by omega
          simp (dsimp := false) (implicitDefEqProofs := false) [u0, u10, u13, w4, hk']
          exact ⟨_, hA, hS rfl⟩
theorem symm_two (he : ∀ x, (enc x).length = 7) (hc : CmpOK (WC gl) enc c fid first cap) (hf : f < M0.length) (hn : n ≤ 1000) (a m b : Nat) (h1 : a < m) (h2 : m < b) (h3 : b ≤ n) (D : Nat → α) (M : Mem) (hM : AtA 84 7 f g n enc M0 D M) (c1 : ¬ m - a = 1) (c2 : b - m = 1) :
    ACalls (WC gl) 128 [.vref f g 7 0 n, I a, I m, I b, .func (.func fid) first cap] M (fun _ M' => ∃ E, AtA 84 7 f g n enc M0 E M' ∧ Mix n a b D E ∧ (Ord3 c → Srt c a m D → Srt c m b D → Srt c a b E)) := by
  refine w_body hW Tryz.func128 rfl rfl rfl rfl rfl rfl ?_
  have w1 := wsub (i := m) (j := a) (by omega) (by omega)
  have wb := wsub (i := b) (j := m) (by omega) (by omega)
  have L : ∀ {E : Nat → α} {M : Mem} {i : Nat}, AtA 84 7 f g n enc M0 E M → i < n → loadAV Tryz.prog 84 M (.vptr f g (i * 7)) = some (.agg (enc (E i))) := fun h hi => h.load (P := Tryz.prog) (t := 84) hf he (by simp) (by simp) hi
  have c1' : ¬ ((m - a : Nat) : Int) = 1 := by omega
  obtain rfl : b = m + 1 := by omega
  have w2' : IntKind.i64.wrap ((m : Int) + 1 - (m : Int)) = 1 := by rw [wrap_in (by omega) (by omega)]; omega
  simp (dsimp := false) (implicitDefEqProofs := false) [w1, c1', w2']
  refine w_looped hW (fun T M1 => ∃ i : Nat, a ≤ i ∧ T 0 = .vref f g 7 0 n ∧ T 2 = I m ∧ T 4 = .func (.func fid) first cap ∧ T 14 = I i ∧ (a < i → ¬ c (D m) (D (i - 1)) < 0) ∧
      M1 = M ∧ ∃ j : Nat, T 15 = I j ∧ i ≤ j ∧ j ≤ m ∧ (j < m → c (D m) (D j) < 0))
    (fun T _ => match T 14, T 15 with | .val (.int _ i), .val (.int _ j) => j.toNat - i.toNat | _, _ => 0) (by kernel_rfl) ?_ ?_
  · exact ⟨a, by omega, by simp, by simp, by simp, by simp, fun h => by omega, rfl, m, by simp, by omega, by omega, fun h => by omega⟩
  · rintro T M1 ⟨i, i1, t0, t2, t4, t14, hl, rfl, j, t15, ij, jb, hr⟩
    by_cases hij : i < j
    · have hij' : (i : Int) < j := by omega
      obtain ⟨h, hh⟩ : ∃ h, h = (i + j) / 2 := ⟨_, rfl⟩
      have w2 := whalf hh (by omega)
      have k1 : h < n := by omega
      have k1' : (h : Int) < n := by omega
      have k2 : m < n := by omega
      have k2' : (m : Int) < n := by omega
      have w3 := wadd1 (i := h) (by omega)
      simp (dsimp := false) (implicitDefEqProofs := false) [t0, t2, t4, t14, t15, hij', w2.1, w2.2.1, w2.2.2, convAV]
      refine w_drawn hW (cfollows gl) (fun k => if k = 4 ∨ k = 8 then 1 else 0) (fun _ => f) (by rfl) (by kernel_rfl) ?_
      simp (dsimp := false) (implicitDefEqProofs := false) [t0, t2, t4, t14, t15, w2.2.2, k1, k1', k2, k2', L hM k1, L hM k2]
      refine w_call0 (r := I (c (D m) (D h))) (fun M => hc _ _ M) ?_
      by_cases hlt : c (D m) (D h) < 0
      · simp (dsimp := false) (implicitDefEqProofs := false) [t0, t2, t4, t14, t15, w2.2.2, hlt]
        exact ⟨⟨i, by clear w2; omega, rfl, fun q => Int.not_lt.1 (hl q), h, rfl, by clear w2; omega, by clear w2; omega, fun _ => hlt⟩, by clear w2; omega⟩
      · simp (dsimp := false) (implicitDefEqProofs := false) [t0, t2, t4, t14, t15, w2.2.2, hlt, w3]
        exact ⟨⟨h + 1, by clear w3; omega, by simp, fun _ => Int.not_lt.1 hlt, j, rfl, by clear w3; omega, by clear w3; omega, hr⟩, by clear w3 w2; omega⟩
    · obtain rfl : i = j := by omega
      have hS : ∀ {E : Nat → α}, E = shDown D i m → Mix n a (m + 1) D E ∧ (Ord3 c → Srt c a m D → Srt c m (m + 1) D → Srt c a (m + 1) E) := by
        rintro E rfl
        refine ⟨?_, fun o s1 _ => shDown_srt o s1 (by omega) jb hl hr⟩
        have := shDown_mix D (n := n) (lo := a) (hi := m + 1) (m := m) (by omega) h3 (m - i) (by omega) (by omega)
        rwa [show m - (m - i) = i by omega] at this
      simp (dsimp := false) (implicitDefEqProofs := false) [t0, t2, t4, t14, t15]
      refine w_looped hW (fun T M1 => ∃ k : Nat, i ≤ k ∧ k ≤ m ∧ T 0 = .vref f g 7 0 n ∧ T 14 = I i ∧ T 17 = I k ∧ AtA 84 7 f g n enc M0 (shDown D k m) M1)
        (fun T _ => match T 17 with | .val (.int _ k) => k.toNat | _ => 0) (by kernel_rfl) ?_ ?_
      · exact ⟨m, by omega, by omega, by simp [t0], by simp [t14], by simp, by rw [shDown_zero]; exact hM⟩
      · rintro T2 M2 ⟨k, k1, k2, u0, u14, u17, hA⟩
        by_cases hk : i < k
        · have hk' : (i : Int) < k := by omega
          have hk2 : (k : Int) > i := hk'
          have w5 := wsub1 (i := k) (by omega) (by omega)
          have g1 : k < n := by omega
          have g2 : k - 1 < n := by omega
          have g1' : (k : Int) < n := by omega
          have g2' : ((k - 1 : Nat) : Int) < n := by omega
          obtain ⟨M2, s1, hA2⟩ := hA.store hf he g1 (shDown D k m (k - 1))
          obtain ⟨M3, s2, hA3⟩ := hA2.store hf he g2 (shDown D k m k)
          have hx : AtA 84 7 f g n enc M0 (shDown D (k - 1) m) M3 := by rw [← shDown_step D k2 (by omega)]; exact hA3
          have l1 := L hA g1
          have l2 := L hA g2
          simp (dsimp := false) (implicitDefEqProofs := false) [u0, u14, u17, hk', hk2]
          refine w_drawn hW (cfollows gl) (fun k => if k = 9 ∨ k = 13 then 1 else if k = 15 ∨ k = 17 then 2 else 0) (fun _ => f) (by rfl) (by kernel_rfl) ?_
          simp (dsimp := false) (implicitDefEqProofs := false) [u0, u14, u17, w5, g1, g2, g1', g2', l1, l2, s1, s2]
          exact ⟨⟨k - 1, by clear w5; omega, by clear w5; omega, rfl, hx⟩, by clear w5; omega⟩
        · obtain rfl : k = i := by omega
          simp (dsimp := false) (implicitDefEqProofs := false) [u0, u14, u17]
          exact ⟨_, hA, hS rfl⟩
end
end Go.Abs
end
section
/- Contracts of slices' stable sort over an array of rows: the merge as a whole. -/
set_option maxRecDepth 100000
set_option linter.unusedSimpArgs false
set_option linter.unusedVariables false
namespace Go.Abs
open Go.Proofs TryTypes

section
variable (gl : Nat → AV) {α : Type} {enc : α → List AV} {c : α → α → Int} {fid : FuncId} {first cap : List AV} {f g n : Nat} {M0 : Mem}
set_option maxHeartbeats 4000000 in
theorem symm_gen (he : ∀ x, (enc x).length = 7) (hc : CmpOK (WC gl) enc c fid first cap) (hf : f < M0.length) (hn : n ≤ 1000) (a m b : Nat) (h1 : a < m) (h2 : m < b) (h3 : b ≤ n) (D : Nat → α) (M : Mem) (hM : AtA 84 7 f g n enc M0 D M) (c1 : ¬ m - a = 1) (c2 : ¬ b - m = 1)
    (ih : ∀ (a' m' b' : Nat), b' - a' < b - a → a' < m' → m' < b' → b' ≤ n → ∀ (D : Nat → α) (M : Mem), AtA 84 7 f g n enc M0 D M → ACalls (WC gl) 128 [.vref f g 7 0 n, I a', I m', I b', .func (.func fid) first cap] M (fun _ M' => ∃ E, AtA 84 7 f g n enc M0 E M' ∧ Mix n a' b' D E ∧ (Ord3 c → Srt c a' m' D → Srt c m' b' D → Srt c a' b' E))) :
    ACalls (WC gl) 128 [.vref f g 7 0 n, I a, I m, I b, .func (.func fid) first cap] M (fun _ M' => ∃ E, AtA 84 7 f g n enc M0 E M' ∧ Mix n a b D E ∧ (Ord3 c → Srt c a m D → Srt c m b D → Srt c a b E)) := by
  refine w_body hW Tryz.func128 rfl rfl rfl rfl rfl rfl ?_
  have w1 := wsub (i := m) (j := a) (by omega) (by omega)
  have wb := wsub (i := b) (j := m) (by omega) (by omega)
  have L : ∀ {E : Nat → α} {M : Mem} {i : Nat}, AtA 84 7 f g n enc M0 E M → i < n → loadAV Tryz.prog 84 M (.vptr f g (i * 7)) = some (.agg (enc (E i))) := fun h hi => h.load (P := Tryz.prog) (t := 84) hf he (by simp) (by simp) hi
  have c1' : ¬ ((m - a : Nat) : Int) = 1 := by omega
  have c2' : ¬ ((b - m : Nat) : Int) = 1 := by omega
  obtain ⟨mid, hmid⟩ : ∃ mid, mid = (a + b) / 2 := ⟨_, rfl⟩
  have wm := whalf hmid (by omega)
  have wn : IntKind.i64.wrap ((mid : Int) + (m : Int)) = ((mid + m : Nat) : Int) := wadd (by omega)
  have wp : IntKind.i64.wrap (((mid + m : Nat) : Int) - 1) = ((mid + m - 1 : Nat) : Int) := wsub1 (by omega) (by omega)
  obtain ⟨nn, hnn⟩ : ∃ nn, nn = mid + m := ⟨_, rfl⟩
  rw [← hnn] at wn wp
  obtain ⟨s0, r0, hsr⟩ : ∃ s0 r0, (mid < m ∧ s0 = nn - b ∧ r0 = mid) ∨ (¬ mid < m ∧ s0 = a ∧ r0 = m) := by
    by_cases q : mid < m
    · exact ⟨_, _, .inl ⟨q, rfl, rfl⟩⟩
    · exact ⟨_, _, .inr ⟨q, rfl, rfl⟩⟩
  have hsr' := hsr
  rcases hsr with ⟨q1, q2, q3⟩ | ⟨q1, q2, q3⟩
  case' inl =>
    have q1' : (mid : Int) < m := by omega
    have q1g : (m : Int) > mid := q1'
    have q4 : IntKind.i64.wrap ((nn : Int) - (b : Int)) = (s0 : Int) := by rw [q2]; exact wsub (by omega) (by omega)
    simp (dsimp := false) (implicitDefEqProofs := false) [w1, wb, c1', c2', wm.1, wm.2.1, wm.2.2, convAV, wn, wp, q1', q1g, q4]
  case' inr =>
    have q1' : ¬ (mid : Int) < m := by omega
    have q1g : ¬ (m : Int) > mid := q1'
    simp (dsimp := false) (implicitDefEqProofs := false) [w1, wb, c1', c2', wm.1, wm.2.1, wm.2.2, convAV, wn, wp, q1', q1g]
  all_goals
    have hs0 : s0 ≤ r0 ∧ a ≤ s0 ∧ r0 ≤ m ∧ r0 ≤ mid + m ∧ m ≤ nn - r0 ∧ nn - s0 ≤ b ∧ a < mid ∧ mid < b := by omega
    refine w_cutE (.exit 8) (fun T M1 => ∃ s : Nat, s0 ≤ s ∧ s ≤ r0 ∧ T 0 = .vref f g 7 0 n ∧ T 1 = I a ∧ T 2 = I m ∧ T 3 = I b ∧ T 4 = .func (.func fid) first cap ∧ T 18 = I mid ∧ T 19 = I nn ∧ T 20 = I s ∧ M1 = M ∧
        (s0 < s → ¬ c (D (nn - s)) (D (s - 1)) < 0) ∧ (s < r0 → c (D (nn - 1 - s)) (D s) < 0)) ?_ ?_
  case' inl.refine_1 =>
    refine w_looped hW (fun T M1 => ∃ s : Nat, s0 ≤ s ∧ T 0 = .vref f g 7 0 n ∧ T 1 = I a ∧ T 2 = I m ∧ T 3 = I b ∧ T 4 = .func (.func fid) first cap ∧ T 18 = I mid ∧ T 19 = I nn ∧ T 22 = I (nn - 1 : Nat) ∧ T 20 = I s ∧
        (s0 < s → ¬ c (D (nn - s)) (D (s - 1)) < 0) ∧ M1 = M ∧ ∃ r : Nat, T 21 = I r ∧ s ≤ r ∧ r ≤ r0 ∧ (r < r0 → c (D (nn - 1 - r)) (D r) < 0))
      (fun T _ => match T 20, T 21 with | .val (.int _ i), .val (.int _ j) => j.toNat - i.toNat | _, _ => 0) (by kernel_rfl) ?_ ?_
    · exact ⟨s0, by omega, by simp, by simp, by simp, by simp, by simp, by simp, by simp, by simp, by simp, fun q => by omega, rfl, r0, by simp [q3], by omega, by omega, fun q => by omega⟩
  case' inr.refine_1 =>
    refine w_looped hW (fun T M1 => ∃ s : Nat, s0 ≤ s ∧ T 0 = .vref f g 7 0 n ∧ T 1 = I a ∧ T 2 = I m ∧ T 3 = I b ∧ T 4 = .func (.func fid) first cap ∧ T 18 = I mid ∧ T 19 = I nn ∧ T 22 = I (nn - 1 : Nat) ∧ T 20 = I s ∧
        (s0 < s → ¬ c (D (nn - s)) (D (s - 1)) < 0) ∧ M1 = M ∧ ∃ r : Nat, T 21 = I r ∧ s ≤ r ∧ r ≤ r0 ∧ (r < r0 → c (D (nn - 1 - r)) (D r) < 0))
      (fun T _ => match T 20, T 21 with | .val (.int _ i), .val (.int _ j) => j.toNat - i.toNat | _, _ => 0) (by kernel_rfl) ?_ ?_
    · exact ⟨s0, by omega, by simp, by simp, by simp, by simp, by simp, by simp, by simp, by simp, by simp [q2], fun q => by omega, rfl, r0, by simp [q3], by omega, by omega, fun q => by omega⟩
  case inl.refine_1 | inr.refine_1 =>
    rintro T M1 ⟨x, x1, t0, t1, t2, t3, t4, t18, t19, t22, t20, hl, rfl, y, t21, xy, yr, hr⟩
    by_cases hxy : x < y
    case pos =>
      have hxy' : (x : Int) < y := by omega
      obtain ⟨h, hh⟩ : ∃ h, h = (x + y) / 2 := ⟨_, rfl⟩
      have w2 := whalf hh (by omega)
      have w3 := wadd1 (i := h) (by omega)
      have w4 := wsub (i := nn - 1) (j := h) (by omega) (by omega)
      have k1 : h < n := by omega
      have k1' : (h : Int) < n := by omega
      have k2 : nn - 1 - h < n := by omega
      have k2' : ((nn - 1 - h : Nat) : Int) < n := by omega
      simp (dsimp := false) (implicitDefEqProofs := false) [t0, t1, t2, t3, t4, t18, t19, t22, t20, t21, hxy', w2.1, w2.2.1, w2.2.2, convAV]
      refine w_drawn hW (cfollows gl) (fun k => if k = 6 ∨ k = 10 then 1 else 0) (fun _ => f) (by rfl) (by kernel_rfl) ?_
      simp (dsimp := false) (implicitDefEqProofs := false) [t0, t1, t2, t3, t4, t18, t19, t22, t20, t21, w2.2.2, w4, k1, k1', k2, k2', L hM k1, L hM k2]
      refine w_call0 (r := I (c (D (nn - 1 - h)) (D h))) (fun M => hc _ _ M) ?_
      by_cases hlt : c (D (nn - 1 - h)) (D h) < 0
      · simp (dsimp := false) (implicitDefEqProofs := false) [t0, t1, t2, t3, t4, t18, t19, t22, t20, t21, w2.2.2, hlt]
        exact ⟨⟨x, by clear w2; omega, rfl, fun q => Int.not_lt.1 (hl q), h, rfl, by clear w2; omega, by clear w2; omega, fun _ => hlt⟩, by clear w2; omega⟩
      · have e1 : nn - (h + 1) = nn - 1 - h := by omega
        simp (dsimp := false) (implicitDefEqProofs := false) [t0, t1, t2, t3, t4, t18, t19, t22, t20, t21, w2.2.2, hlt, w3]
        exact ⟨⟨h + 1, by clear w3; omega, by simp, fun _ => by rw [e1]; exact Int.not_lt.1 hlt, y, rfl, by clear w3; omega, by clear w3; omega, hr⟩, by clear w3 w2; omega⟩
    case neg =>
      obtain rfl : x = y := by omega
      simp (dsimp := false) (implicitDefEqProofs := false) [t0, t1, t2, t3, t4, t18, t19, t22, t20, t21]
      exact ⟨x, by omega, by omega, rfl, fun q => Int.not_lt.1 (hl q), hr⟩
  all_goals
    rintro T M1 ⟨x, x1, x2, t0, t1, t2, t3, t4, t18, t19, t20, rfl, hl, hr⟩
    have we := wsub (i := nn) (j := x) (by omega) (by omega)
    obtain ⟨e, he'⟩ : ∃ e, e = nn - x := ⟨_, rfl⟩
    rw [← he'] at we
    simp (dsimp := false) (implicitDefEqProofs := false) [-w_seq]
    rw [w_seq]
    simp (dsimp := false) (implicitDefEqProofs := false) [-w_seq, t0, t1, t2, t3, t4, t18, t19, t20, we]
    rw [w_seq]
    have hen : x ≤ m ∧ m ≤ e ∧ e ≤ b ∧ a ≤ x ∧ e + x = mid + m ∧ (a < x ∧ e < b → s0 < x) ∧ (x < m ∧ m < e → x < r0) := by omega
    have hpt := fun (o : Ord3 c) (s1 : Srt c a m D) (s2 : Srt c m b D) => rot_parts (mid := mid) (s := x) (e := e) s1 s2 hen.2.2.2.1 hen.1 hen.2.1 hen.2.2.1 hen.2.2.2.2.1
    have hcx := fun (o : Ord3 c) (s1 : Srt c a m D) (s2 : Srt c m b D) => merge_cross (mid := mid) (s := x) (e := e) o s1 s2 hen.2.2.2.1 hen.1 hen.2.1 hen.2.2.1 hen.2.2.2.2.1
      (fun q => by rw [he']; exact hl (hen.2.2.2.2.2.1 q)) (fun q => by have := hr (hen.2.2.2.2.2.2 q); rwa [show nn - 1 - x = e - 1 by omega] at this)
    refine w_cutC (fun T M1 => T 0 = .vref f g 7 0 n ∧ T 1 = I a ∧ T 3 = I b ∧ T 4 = .func (.func fid) first cap ∧ T 18 = I mid ∧ T 20 = I x ∧ T 24 = I e ∧ AtA 84 7 f g n enc M0 (rot D x m e) M1 ∧ Mix n a b D (rot D x m e)) ?_ ?_
    · by_cases r1 : x < m
      · have r1' : (x : Int) < m := by omega
        by_cases r2 : m < e
        · have r2' : (m : Int) < e := by omega
          simp (dsimp := false) (implicitDefEqProofs := false) [t0, t1, t2, t3, t4, t18, t19, t20, r1', r2']
          refine w_calls (inv_of Tryz.func164 rfl rfl (rotate_ok gl he hf hn x m e r1 r2 (by omega) D _ hM _)) ?_
          rintro r M2 ⟨hA, hX⟩
          simp (dsimp := false) (implicitDefEqProofs := false) [t0, t1, t2, t3, t4, t18, t19, t20]
          exact ⟨hA, hX.wide (by omega) (by omega)⟩
        · have r2' : ¬ (m : Int) < e := by omega
          simp (dsimp := false) (implicitDefEqProofs := false) [t0, t1, t2, t3, t4, t18, t19, t20, r1', r2']
          rw [rot_none D hen.1 hen.2.1 (by omega)]
          exact ⟨hM, .refl ..⟩
      · have r1' : ¬ (x : Int) < m := by omega
        simp (dsimp := false) (implicitDefEqProofs := false) [t0, t1, t2, t3, t4, t18, t19, t20, r1']
        rw [rot_none D hen.1 hen.2.1 (by omega)]
        exact ⟨hM, .refl ..⟩
    clear t0 t1 t2 t3 t4 t18 t19 t20
    generalize rot D x m e = R at *
    rintro T M1 ⟨t0, t1, t3, t4, t18, t20, t24, hA, hX⟩
    simp (dsimp := false) (implicitDefEqProofs := false) [-w_seq]
    rw [w_seq]
    refine w_cutC (fun T M1 => T 0 = .vref f g 7 0 n ∧ T 3 = I b ∧ T 4 = .func (.func fid) first cap ∧ T 18 = I mid ∧ T 24 = I e ∧ ∃ E, AtA 84 7 f g n enc M0 E M1 ∧ Mix n a mid R E ∧ (Ord3 c → Srt c a m D → Srt c m b D → Srt c a mid E)) ?_ ?_
    · by_cases r1 : a < x
      · have r1' : (a : Int) < x := by omega
        by_cases r2 : x < mid
        · have r2' : (x : Int) < mid := by omega
          simp (dsimp := false) (implicitDefEqProofs := false) [t0, t1, t3, t4, t18, t20, t24, r1', r2']
          refine w_calls (inv_of Tryz.func128 rfl rfl (ih a x mid (by omega) r1 r2 (by omega) R _ hA)) ?_
          rintro r M2 ⟨E, hA2, hX2, hS2⟩
          simp (dsimp := false) (implicitDefEqProofs := false) [t0, t1, t3, t4, t18, t20, t24]
          exact ⟨E, hA2, hX2, fun o s1 s2 => hS2 o (hpt o s1 s2).1 (hpt o s1 s2).2.1⟩
        · have r2' : ¬ (x : Int) < mid := by omega
          simp (dsimp := false) (implicitDefEqProofs := false) [t0, t1, t3, t4, t18, t20, t24, r1', r2']
          exact ⟨R, hA, .refl .., fun o s1 s2 => (hpt o s1 s2).1.part (Nat.le_refl _) (by omega)⟩
      · have r1' : ¬ (a : Int) < x := by omega
        simp (dsimp := false) (implicitDefEqProofs := false) [t0, t1, t3, t4, t18, t20, t24, r1']
        exact ⟨R, hA, .refl .., fun o s1 s2 => (hpt o s1 s2).2.1.part (by omega) (Nat.le_refl _)⟩
    clear t0 t1 t3 t4 t18 t20 t24
    rintro T M1 ⟨t0, t3, t4, t18, t24, E, hA, hX2, hS2⟩
    have fin : ∀ {F : Nat → α} {M : Mem}, AtA 84 7 f g n enc M0 F M → Mix n mid b E F → (Ord3 c → Srt c a m D → Srt c m b D → Srt c mid b F) → ∃ E, AtA 84 7 f g n enc M0 E M ∧ Mix n a b D E ∧ (Ord3 c → Srt c a m D → Srt c m b D → Srt c a b E) := by
      intro F M hF hXF hSF
      refine ⟨F, hF, (hX.trans (hX2.wide (Nat.le_refl _) (by omega))).trans (hXF.wide (by omega) (Nat.le_refl _)), fun o s1 s2 => ?_⟩
      exact merge_join (by omega) (by omega) (hcx o s1 s2) hX2 hXF (hS2 o s1 s2) (hSF o s1 s2)
    have hup : ∀ {p q : Nat}, mid ≤ p → Srt c p q R → Srt c p q E := fun hp hs => hs.congr fun k k1 _ => hX2.out k (.inr (by omega))
    by_cases r1 : mid < e
    · have r1' : (mid : Int) < e := by omega
      by_cases r2 : e < b
      · have r2' : (e : Int) < b := by omega
        simp (dsimp := false) (implicitDefEqProofs := false) [t0, t3, t4, t18, t24, r1', r2']
        refine w_calls (inv_of Tryz.func128 rfl rfl (ih mid e b (by omega) r1 r2 (by omega) E _ hA)) ?_
        rintro r M2 ⟨F, hA3, hX3, hS3⟩
        simp (dsimp := false) (implicitDefEqProofs := false) [t0, t3, t4, t18, t24]
        exact fin hA3 hX3 fun o s1 s2 => hS3 o (hup (Nat.le_refl _) (hpt o s1 s2).2.2.1) (hup (by omega) (hpt o s1 s2).2.2.2)
      · have r2' : ¬ (e : Int) < b := by omega
        simp (dsimp := false) (implicitDefEqProofs := false) [t0, t3, t4, t18, t24, r1', r2']
        exact fin hA (.refl ..) fun o s1 s2 => (hup (Nat.le_refl _) (hpt o s1 s2).2.2.1).part (Nat.le_refl _) (by omega)
    · have r1' : ¬ (mid : Int) < e := by omega
      simp (dsimp := false) (implicitDefEqProofs := false) [t0, t3, t4, t18, t24, r1']
      exact fin hA (.refl ..) fun o s1 s2 => (hup (by omega) (hpt o s1 s2).2.2.2).part (by omega) (Nat.le_refl _)
/-- the merge -/
theorem symm_ok (he : ∀ x, (enc x).length = 7) (hc : CmpOK (WC gl) enc c fid first cap) (hf : f < M0.length) (hn : n ≤ 1000) : ∀ (N a m b : Nat), b - a < N → a < m → m < b → b ≤ n → ∀ (D : Nat → α) (M : Mem), AtA 84 7 f g n enc M0 D M →
    ACalls (WC gl) 128 [.vref f g 7 0 n, I a, I m, I b, .func (.func fid) first cap] M (fun _ M' => ∃ E, AtA 84 7 f g n enc M0 E M' ∧ Mix n a b D E ∧ (Ord3 c → Srt c a m D → Srt c m b D → Srt c a b E))
  | 0, a, m, b, hN, _, _, _, D, M, hM => by omega
  | N + 1, a, m, b, hN, h1, h2, h3, D, M, hM => by
    by_cases c1 : m - a = 1
    · exact symm_one gl he hc hf hn a m b h1 h2 h3 D M hM c1
    · by_cases c2 : b - m = 1
      · exact symm_two gl he hc hf hn a m b h1 h2 h3 D M hM c1 c2
      · exact symm_gen gl he hc hf hn a m b h1 h2 h3 D M hM c1 c2 fun a' m' b' hN' k1 k2 k3 D M hM => symm_ok he hc hf hn N a' m' b' (by omega) k1 k2 k3 D M hM
end
end Go.Abs
end
section
/- Contract of slices.SortStableFunc over an array of fewer than 40 rows: the rows in an order that the comparison allows. -/
set_option maxRecDepth 100000
set_option linter.unusedSimpArgs false
set_option linter.unusedVariables false
namespace Go.Abs
open Go.Proofs TryTypes

section
variable (gl : Nat → AV) {α : Type} {enc : α → List AV} {c : α → α → Int} {fid : FuncId} {first cap : List AV} {f g n : Nat} {M0 : Mem}
theorem stable_ok (he : ∀ x, (enc x).length = 7) (hc : CmpOK (WC gl) enc c fid first cap) (hf : f < M0.length) (hn : n < 40) (D : Nat → α) (M : Mem) (hM : AtA 84 7 f g n enc M0 D M) :
    ACalls (WC gl) 86 [.vref f g 7 0 n, I n, .func (.func fid) first cap] M (fun _ M' => ∃ E, AtA 84 7 f g n enc M0 E M' ∧ Mix n 0 n D E ∧ (Ord3 c → Srt c 0 n E)) := by
  refine w_body hW Tryz.func86 rfl rfl rfl rfl rfl rfl ?_
  simp (dsimp := false) (implicitDefEqProofs := false)
  refine w_looped hW (fun T M1 => ∃ a : Nat, T 0 = .vref f g 7 0 n ∧ T 1 = I n ∧ T 2 = .func (.func fid) first cap ∧ T 6 = I 20 ∧ T 7 = I a ∧ T 8 = I (a + 20 : Nat) ∧ (a = 0 ∨ a = 20) ∧ a ≤ n ∧
      ∃ E, AtA 84 7 f g n enc M0 E M1 ∧ Mix n 0 n D E ∧ (Ord3 c → Srt c 0 a E)) (fun T _ => match T 7 with | .val (.int _ i) => 40 - i.toNat | _ => 0) (by kernel_rfl) ?_ ?_
  · exact ⟨0, by simp, by simp, by simp, by simp, by simp, by simp, .inl rfl, by omega, D, hM, .refl .., fun _ => .short (by omega)⟩
  · rintro T M1 ⟨a, t0, t1, t2, t6, t7, t8, ha, han, E, hA, hX, hS⟩
    have w1 : IntKind.i64.wrap (((a + 20 : Nat) : Int) + 20) = ((a + 20 + 20 : Nat) : Int) := by rw [wrap_in (by omega) (by omega)]; omega
    obtain ⟨a2, ha2⟩ : ∃ a2, a2 = a + 20 := ⟨_, rfl⟩
    rw [← ha2] at t8 w1
    by_cases hb : a2 ≤ n
    · have hb' : (a2 : Int) ≤ n := by omega
      obtain rfl : a = 0 := by omega
      simp (dsimp := false) (implicitDefEqProofs := false) [t0, t1, t2, t6, t7, t8, hb']
      refine w_calls (inv_of Tryz.func127 rfl rfl (isort_ok gl he hc hf (by omega) 0 a2 (by omega) (by omega) E _ hA)) ?_
      rintro r M2 ⟨F, hA2, hX2, hS2⟩
      simp (dsimp := false) (implicitDefEqProofs := false) [t0, t1, t2, t6, t7, t8, w1]
      exact ⟨⟨a2, rfl, by omega, by omega, F, hA2, hX.trans (hX2.wide (by omega) (by omega)), hS2⟩, by omega⟩
    · have hb' : ¬ (a2 : Int) ≤ n := by omega
      simp (dsimp := false) (implicitDefEqProofs := false) [t0, t1, t2, t6, t7, t8, hb']
      refine w_calls (inv_of Tryz.func127 rfl rfl (isort_ok gl he hc hf (by omega) a n (by omega) (by omega) E _ hA)) ?_
      rintro r M2 ⟨F, hA2, hX2, hS2⟩
      have hlow : Ord3 c → Srt c 0 a F := fun o => (hS o).congr fun k _ k2 => hX2.out k (.inl k2)
      have hXF := hX.trans (hX2.wide (Nat.zero_le _) (Nat.le_refl _))
      clear hX2 hA hS hX
      simp (dsimp := false) (implicitDefEqProofs := false)
      refine w_looped hW (fun T M1 => ∃ bs : Nat, T 0 = .vref f g 7 0 n ∧ T 1 = I n ∧ T 2 = .func (.func fid) first cap ∧ T 6 = I bs ∧
          ∃ E, AtA 84 7 f g n enc M0 E M1 ∧ Mix n 0 n D E ∧ (bs = 20 ∧ (Ord3 c → Srt c 0 a E ∧ Srt c a n E) ∨ bs = 40 ∧ (Ord3 c → Srt c 0 n E))) (fun T _ => match T 6 with | .val (.int _ i) => 40 - i.toNat | _ => 0) (by kernel_rfl) ?_ ?_
      · exact ⟨20, by simp [t0], by simp [t1], by simp [t2], by simp [t6], F, hA2, hXF, .inl ⟨rfl, fun o => ⟨hlow o, hS2 o⟩⟩⟩
      · clear t0 t1 t2 t6 t7 t8
        rintro T M3 ⟨bs, t0, t1, t2, t6, E, hA, hX, hS⟩
        by_cases hbs : bs < n
        · have hbs' : (bs : Int) < n := by omega
          rcases hS with ⟨rfl, hS⟩ | ⟨rfl, hS⟩
          case inr => omega
          obtain rfl : a = 20 := by omega
          have w2 : IntKind.i64.wrap 40 = 40 := by decide
          have w3 : IntKind.i64.wrap 20 = 20 := by decide
          have h20 : (20 : Int) < n := by omega
          have t6' : T 6 = I 20 := t6
          simp (dsimp := false) (implicitDefEqProofs := false) [t0, t1, t2, t6', h20, w2]
          refine w_looped hW (fun T M4 => M4 = M3 ∧ T 0 = .vref f g 7 0 n ∧ T 1 = I n ∧ T 2 = .func (.func fid) first cap ∧ T 6 = I (20 : Nat) ∧ T 7 = I 0 ∧ T 8 = I 40) (fun _ _ => 0) (by kernel_rfl) ?_ ?_
          · exact ⟨rfl, by simp [t0], by simp [t1], by simp [t2], by simp [t6], by simp, by simp⟩
          · rintro T4 M4 ⟨rfl, u0, u1, u2, u6, u7, u8⟩
            have h40 : ¬ (40 : Int) ≤ n := by omega
            have u6' : T4 6 = I 20 := u6
            simp (dsimp := false) (implicitDefEqProofs := false) [u0, u1, u2, u6', u7, u8, h40, h20, w3, w2]
            refine w_calls (inv_of Tryz.func128 rfl rfl (symm_ok gl he hc hf (by omega) (n + 1) 0 20 n (by omega) (by omega) (by omega) (by omega) E _ hA)) ?_
            rintro r M5 ⟨F, hA2, hX2, hS2⟩
            simp (dsimp := false) (implicitDefEqProofs := false) [u0, u1, u2, u6', u7, u8, w2, t6']
            exact ⟨40, rfl, F, hA2, hX.trans hX2, .inr ⟨rfl, fun o => hS2 o (hS o).1 (hS o).2⟩⟩
        · have hbs' : ¬ (bs : Int) < n := by omega
          simp (dsimp := false) (implicitDefEqProofs := false) [t0, t1, t2, t6, hbs']
          refine ⟨E, hA, hX, fun o => ?_⟩
          rcases hS with ⟨rfl, hS⟩ | ⟨rfl, hS⟩
          · rcases ha with rfl | rfl
            · exact (hS o).2
            · exact (hS o).1.part (Nat.le_refl _) (by omega)
          · exact hS o
/-- an array as SortStableFunc takes and leaves it -/
theorem sortStable_ok (he : ∀ x, (enc x).length = 7) (hc : CmpOK (WC gl) enc c fid first cap) (hf : f < M0.length) (hn : n < 40) (D : Nat → α) (M : Mem) (hM : AtA 84 7 f g n enc M0 D M) :
    ACalls (WC gl) 60 [.vref f g 7 0 n, .func (.func fid) first cap] M (fun _ M' => ∃ E, AtA 84 7 f g n enc M0 E M' ∧ Mix n 0 n D E ∧ (Ord3 c → Srt c 0 n E)) := by
  refine w_body hW Tryz.func60 rfl rfl rfl rfl rfl rfl ?_
  simp (dsimp := false) (implicitDefEqProofs := false)
  refine w_calls (inv_of Tryz.func86 rfl rfl (stable_ok gl he hc hf hn D M hM)) ?_
  rintro r M2 h
  simp (dsimp := false) (implicitDefEqProofs := false) [h]
theorem isort_nil (M : Mem) (cf : AV) : ACalls (WC gl) 127 [.val (.slice none 0 0), I 0, I 0, cf] M (fun _ M' => M' = M) := by
  refine w_body hW Tryz.func127 rfl rfl rfl rfl rfl rfl ?_
  have w1 : IntKind.i64.wrap 1 = 1 := by decide
  simp (dsimp := false) (implicitDefEqProofs := false) [w1]
  refine w_looped hW (fun T M1 => M1 = M ∧ T 2 = I 0 ∧ T 8 = I 1) (fun _ _ => 0) (by kernel_rfl) ?_ ?_
  · exact ⟨rfl, by simp, by simp⟩
  · rintro T M1 ⟨rfl, t2, t8⟩
    simp (dsimp := false) (implicitDefEqProofs := false) [t2, t8]
theorem stable_nil (M : Mem) (cf : AV) : ACalls (WC gl) 86 [.val (.slice none 0 0), I 0, cf] M (fun _ M' => M' = M) := by
  refine w_body hW Tryz.func86 rfl rfl rfl rfl rfl rfl ?_
  simp (dsimp := false) (implicitDefEqProofs := false)
  refine w_looped hW (fun T M1 => M1 = M ∧ T 0 = .val (.slice none 0 0) ∧ T 1 = I 0 ∧ T 2 = cf ∧ T 6 = I 20 ∧ T 7 = I 0 ∧ T 8 = I 20) (fun _ _ => 0) (by kernel_rfl) ?_ ?_
  · exact ⟨rfl, by simp, by simp, by simp, by simp, by simp, by simp⟩
  · rintro T M1 ⟨rfl, t0, t1, t2, t6, t7, t8⟩
    simp (dsimp := false) (implicitDefEqProofs := false) [t0, t1, t2, t6, t7, t8]
    refine w_calls (inv_of Tryz.func127 rfl rfl (isort_nil gl _ cf)) ?_
    rintro r M2 rfl
    simp (dsimp := false) (implicitDefEqProofs := false)
    refine w_looped hW (fun T M1 => M1 = M2 ∧ T 1 = I 0 ∧ T 6 = I 20) (fun _ _ => 0) (by kernel_rfl) ?_ ?_
    · exact ⟨rfl, by simp [t1], by simp [t6]⟩
    · rintro T M1 ⟨rfl, t1, t6⟩
      simp (dsimp := false) (implicitDefEqProofs := false) [t1, t6]
theorem sortStable_nil (M : Mem) (cf : AV) : ACalls (WC gl) 60 [.val (.slice none 0 0), cf] M (fun _ M' => M' = M) := by
  refine w_body hW Tryz.func60 rfl rfl rfl rfl rfl rfl ?_
  simp (dsimp := false) (implicitDefEqProofs := false)
  refine w_calls (inv_of Tryz.func86 rfl rfl (stable_nil gl M cf)) ?_
  rintro r M2 rfl
  simp (dsimp := false) (implicitDefEqProofs := false)
end
end Go.Abs
end
section
/- Contracts: cmp's functions, the comparison of acts. -/
set_option maxRecDepth 100000
set_option linter.unusedSimpArgs false
set_option linter.unusedVariables false
namespace Go.Abs
open Go.Proofs TryTypes

def cmpI (x y : Int) : Int := if x < y then -1 else if y < x then 1 else 0
def orL : List Int → Int
  | [] => 0
  | x :: l => if x = 0 then orL l else x
def rowsN (l : List Int) : List (List AV) := l.map fun x => [I x]
@[simp] theorem rowsN_len (l : List Int) : (rowsN l).length = l.length := by simp [rowsN]
@[simp] theorem rowsN_get {p : List Int} {i : Nat} (h : i < (rowsN p).length) : (rowsN p)[i] = [I (p[i]'(by simpa using h))] := by simp [rowsN]
section
variable (gl : Nat → AV) (M : Mem)
theorem isNaN_ok (x : Int) : ACalls (WC gl) 34 [I x] M (fun v M' => v = B false ∧ M' = M) := by
  refine w_body hB Tryz.func34 rfl rfl rfl rfl rfl rfl ?_
  simp (dsimp := false) (implicitDefEqProofs := false)
theorem cmp_ok (x y : Int) : ACalls (WC gl) 18 [I x, I y] M (fun v M' => v = I (cmpI x y) ∧ M' = M) := by
  refine w_body hB Tryz.func18 rfl rfl rfl rfl rfl rfl ?_
  simp (dsimp := false) (implicitDefEqProofs := false)
  refine w_calls (inv_of Tryz.func34 rfl rfl (isNaN_ok gl M x)) ?_
  rintro _ _ ⟨rfl, rfl⟩
  simp (dsimp := false) (implicitDefEqProofs := false)
  refine w_calls (inv_of Tryz.func34 rfl rfl (isNaN_ok gl _ y)) ?_
  rintro _ _ ⟨rfl, rfl⟩
  by_cases h1 : x < y
  · simp (dsimp := false) (implicitDefEqProofs := false) [h1, cmpI]
  · by_cases h2 : y < x
    · have h2' : x > y := h2
      simp (dsimp := false) (implicitDefEqProofs := false) [h1, h2, h2', cmpI]
    · have h2' : ¬ x > y := h2
      simp (dsimp := false) (implicitDefEqProofs := false) [h1, h2, h2', cmpI]
theorem or_ok (l : List Int) (hl : l.length ≤ 1000) : ACalls (WC gl) 17 [.list 1 (rowsN l) .full] M (fun v M' => v = I (orL l) ∧ M' = M) := by
  refine w_body hB Tryz.func17 rfl rfl rfl rfl rfl rfl ?_
  simp (dsimp := false) (implicitDefEqProofs := false)
  refine w_looped hB (fun T M1 => ∃ i : Nat, i ≤ l.length ∧ T 3 = I 0 ∧ T 6 = .list 1 (rowsN l) .full ∧ T 7 = I l.length ∧ T 8 = I i ∧ M1 = M ∧ orL l = orL (l.drop i)) (fun T _ => match T 8 with | .val (.int _ i) => l.length - i.toNat | _ => 0) (by kernel_rfl) ?_ ?_
  · exact ⟨0, by omega, by simp, by simp, by simp, by simp, rfl, by simp⟩
  · rintro T M1 ⟨i, i1, t3, t6, t7, t8, rfl, ho⟩
    by_cases hi : i < l.length
    · have hi' : (i : Int) < l.length := by omega
      have w1 := wadd1 (i := i) (by omega)
      have hd : l.drop i = l[i] :: l.drop (i + 1) := List.drop_eq_getElem_cons hi
      by_cases h0 : l[i] = 0
      · rw [hd, orL, if_pos h0] at ho
        simp (dsimp := false) (implicitDefEqProofs := false) [t3, t6, t7, t8, hi, hi', h0, w1]
        exact ⟨⟨i + 1, by clear w1; omega, rfl, ho⟩, by clear w1; omega⟩
      · rw [hd, orL, if_neg h0] at ho
        simp (dsimp := false) (implicitDefEqProofs := false) [t3, t6, t7, t8, hi, hi', h0, ho]
    · have hi' : ¬ (i : Int) < l.length := by omega
      rw [show l.drop i = [] from List.drop_eq_nil_of_le (by omega)] at ho
      simp (dsimp := false) (implicitDefEqProofs := false) [t3, t6, t7, t8, hi', ho, orL]
/-- the legal order of acts -/
def cmpA (a b : ActD) : Int := orL [cmpI a.day b.day, cmpI a.number b.number]
theorem cmpA_ok (a b : ActD) : ACalls (WC gl) 61 [.agg a.row, .agg b.row] M (fun v M' => v = I (cmpA a b) ∧ M' = M) := by
  refine w_body hB Tryz.func61 rfl rfl rfl rfl rfl rfl ?_
  simp (dsimp := false) (implicitDefEqProofs := false) [ActD.row]
  refine w_drawn hB (cfollows gl) (fun _ => 0) (fun _ => 0) (by rfl) (by kernel_rfl) ?_
  simp (dsimp := false) (implicitDefEqProofs := false)
  refine w_call0 (fun M => inv_of Tryz.func18 rfl rfl (cmp_ok gl M _ _)) ?_
  simp (dsimp := false) (implicitDefEqProofs := false)
  refine w_call0 (fun M => inv_of Tryz.func18 rfl rfl (cmp_ok gl M _ _)) ?_
  simp (dsimp := false) (implicitDefEqProofs := false) [buildSliceAV, rowsGo]
  refine w_call0 (fun M => inv_of Tryz.func17 rfl rfl (or_ok gl M [cmpI a.day b.day, cmpI a.number b.number] (by simp))) ?_
  simp (dsimp := false) (implicitDefEqProofs := false) [cmpA]
end
end Go.Abs
end
section
/- Contracts: how small a tree is (the reference's Few). -/
set_option maxRecDepth 100000
set_option linter.unusedSimpArgs false
set_option linter.unusedVariables false
namespace Go.Abs
open Go.Proofs TryTypes

def shortW (l : List WordD) : Bool := l.all (fun w => decide (w.text.size ≤ 100)) && decide (l.length ≤ 300)
mutual
def wordsU : UnitD → Bool
  | .mk _ _ l h w ks => decide (l.size ≤ 30) && shortW h && shortW w && wordsL ks
def wordsL : List UnitD → Bool
  | [] => true
  | k :: ks => wordsU k && wordsL ks
end
mutual
def sizeU : UnitD → Int → Int → Int
  | .mk _ _ _ _ _ ks, deep, most => if 20 < deep then most + 1 else sizeL ks deep most 1
def sizeL : List UnitD → Int → Int → Int → Int
  | [], _, _, n => n
  | k :: ks, deep, most, n => if n ≤ most then sizeL ks deep most (n + sizeU k (deep + 1) (most - n)) else n
end
mutual
theorem sizeU_in : ∀ (u : UnitD) (deep most : Int), 0 ≤ most → 1 ≤ sizeU u deep most ∧ sizeU u deep most ≤ most + 1
  | .mk _ _ _ _ _ ks, deep, most, h => by
    rw [sizeU]
    split
    · omega
    · exact sizeL_in ks deep most 1 h (by omega) (by omega)
theorem sizeL_in : ∀ (ks : List UnitD) (deep most n : Int), 0 ≤ most → 1 ≤ n → n ≤ most + 1 → 1 ≤ sizeL ks deep most n ∧ sizeL ks deep most n ≤ most + 1
  | [], deep, most, n, h, h1, h2 => by rw [sizeL]; exact ⟨h1, h2⟩
  | k :: ks, deep, most, n, h, h1, h2 => by
    rw [sizeL]
    split
    · have := sizeU_in k (deep + 1) (most - n) (by omega)
      exact sizeL_in ks deep most _ h (by omega) (by omega)
    · exact ⟨h1, h2⟩
end
def few06 (u : UnitD) (most : Int) : Bool := decide (sizeU u 0 most ≤ most) && wordsU u
section
variable (gl : Nat → AV) (M : Mem)
theorem short_ok (l : List WordD) (o : Own) (hl : l.length ≤ maxLen) : ACalls (WC gl) 126 [.list 4 (rowsW l) o] M (fun v M' => v = B (shortW l) ∧ M' = M) := by
  refine w_body hB Tryz.func126 rfl rfl rfl rfl rfl rfl ?_
  have hl' : l.length ≤ 9223372036854775807 := by simpa [maxLen] using hl
  simp (dsimp := false) (implicitDefEqProofs := false)
  refine w_looped hB (fun T M1 => ∃ i : Nat, i ≤ l.length ∧ T 0 = .list 4 (rowsW l) o ∧ T 3 = I i ∧ M1 = M ∧ shortW l = ((l.drop i).all (fun w => decide (w.text.size ≤ 100)) && decide (l.length ≤ 300))) (fun T _ => match T 3 with | .val (.int _ i) => l.length - i.toNat | _ => 0) (by kernel_rfl) ?_ ?_
  · exact ⟨0, by omega, by simp, by simp, rfl, by simp [shortW]⟩
  · rintro T M1 ⟨i, i1, t0, t3, rfl, ho⟩
    by_cases hi : i < l.length
    · have hi' : (i : Int) < l.length := by omega
      have w1 : IntKind.i64.wrap ((i : Int) + 1) = (i + 1 : Nat) := by rw [wrap_in (by omega) (by omega)]; omega
      have hd : l.drop i = l[i] :: l.drop (i + 1) := List.drop_eq_getElem_cons hi
      rw [hd, List.all_cons] at ho
      by_cases h0 : l[i].text.size ≤ 100
      · have h0' : ¬ (100 : Int) < l[i].text.size := by omega
        have h0g : ¬ (l[i].text.size : Int) > 100 := h0'
        rw [decide_eq_true h0, Bool.true_and] at ho
        simp (dsimp := false) (implicitDefEqProofs := false) [t0, t3, hi, hi', h0', h0g, w1, WordD.row]
        exact ⟨⟨i + 1, by clear w1; omega, rfl, ho⟩, by clear w1; omega⟩
      · have h0' : (100 : Int) < l[i].text.size := by omega
        have h0g : (l[i].text.size : Int) > 100 := h0'
        rw [decide_eq_false h0, Bool.false_and, Bool.false_and] at ho
        simp (dsimp := false) (implicitDefEqProofs := false) [t0, t3, hi, hi', h0', h0g, WordD.row, ho]
    · have hi' : ¬ (i : Int) < l.length := by omega
      rw [show l.drop i = [] from List.drop_eq_nil_of_le (by omega), List.all_nil, Bool.true_and] at ho
      simp (dsimp := false) (implicitDefEqProofs := false) [t0, t3, hi', ho]
      by_cases h3 : l.length ≤ 300
      · have h3' : (l.length : Int) ≤ 300 := by omega
        simp [h3, h3']
      · have h3' : ¬ (l.length : Int) ≤ 300 := by omega
        simp [h3, h3']
end
section
variable (gl : Nat → AV)
theorem words_ok : ∀ (u : UnitD) (M : Mem), u.good → ACalls (WC gl) 85 [.agg u.row] M (fun v M' => v = B (wordsU u) ∧ M' = M)
  | .mk id kind lab hd ws ks, M, hg => by
    obtain ⟨_, _, _, hh, _, hw, _, hk, hkg⟩ := (UnitD.good_iff _).1 hg
    have hk' : ks.length ≤ 9223372036854775807 := hk
    refine w_body hB Tryz.func85 rfl rfl rfl rfl rfl rfl ?_
    have hwu : wordsU (.mk id kind lab hd ws ks) = (decide (lab.size ≤ 30) && shortW hd && shortW ws && wordsL ks) := by rw [wordsU]
    by_cases h1 : lab.size ≤ 30
    case neg =>
      have h1' : (30 : Int) < lab.size := by omega
      have h1g : (lab.size : Int) > 30 := h1'
      rw [decide_eq_false h1] at hwu
      simp only [Bool.false_and] at hwu
      simp (dsimp := false) (implicitDefEqProofs := false) [UnitD.row, h1', h1g, hwu]
    have h1' : ¬ (30 : Int) < lab.size := by omega
    have h1g : ¬ (lab.size : Int) > 30 := h1'
    rw [decide_eq_true h1, Bool.true_and] at hwu
    simp (dsimp := false) (implicitDefEqProofs := false) [UnitD.row, h1', h1g]
    refine w_calls (inv_of Tryz.func126 rfl rfl (short_ok gl M hd .no hh)) ?_
    rintro _ _ ⟨rfl, rfl⟩
    cases h2 : shortW hd
    case false =>
      rw [h2, Bool.false_and, Bool.false_and] at hwu
      simp (dsimp := false) (implicitDefEqProofs := false) [hwu]
    rw [h2, Bool.true_and] at hwu
    simp (dsimp := false) (implicitDefEqProofs := false)
    refine w_calls (inv_of Tryz.func126 rfl rfl (short_ok gl _ ws .no hw)) ?_
    rintro _ M ⟨rfl, rfl⟩
    cases h3 : shortW ws
    case false =>
      rw [h3, Bool.false_and] at hwu
      simp (dsimp := false) (implicitDefEqProofs := false) [hwu]
    rw [h3, Bool.true_and] at hwu
    simp (dsimp := false) (implicitDefEqProofs := false)
    refine w_looped hB (fun T M1 => ∃ i : Nat, i ≤ ks.length ∧ T 1 = .cptr [I id.act, I id.item, I id.n, I kind, S lab, .list 4 (rowsW hd) .no, .list 4 (rowsW ws) .no, .list 8 (rowsU ks) .no] ∧ T 3 = I i ∧ M1 = M ∧ wordsL ks = wordsL (ks.drop i)) (fun T _ => match T 3 with | .val (.int _ i) => ks.length - i.toNat | _ => 0) (by kernel_rfl) ?_ ?_
    · exact ⟨0, by omega, by simp, by simp, rfl, by simp⟩
    · rintro T M1 ⟨i, i1, t1, t3, rfl, ho⟩
      by_cases hi : i < ks.length
      · have hi' : (i : Int) < ks.length := by omega
        have w1 : IntKind.i64.wrap ((i : Int) + 1) = (i + 1 : Nat) := by rw [wrap_in (by omega) (by omega)]; omega
        have hd2 : ks.drop i = ks[i] :: ks.drop (i + 1) := List.drop_eq_getElem_cons hi
        have hmem : ks[i] ∈ ks := List.getElem_mem hi
        rw [hd2, wordsL] at ho
        simp (dsimp := false) (implicitDefEqProofs := false) [t1, t3, hi, hi']
        have := UnitD.kid_lt (u := .mk id kind lab hd ws ks) hmem
        refine w_calls (inv_of Tryz.func85 rfl rfl (words_ok ks[i] M1 (hkg _ hmem))) ?_
        rintro _ _ ⟨rfl, rfl⟩
        cases h4 : wordsU ks[i]
        · rw [h4, Bool.false_and] at ho
          simp (dsimp := false) (implicitDefEqProofs := false) [t1, t3, hwu, ho]
        · rw [h4, Bool.true_and] at ho
          simp (dsimp := false) (implicitDefEqProofs := false) [t1, t3, w1]
          exact ⟨⟨i + 1, by clear w1; omega, rfl, ho⟩, by clear w1; omega⟩
      · have hi' : ¬ (i : Int) < ks.length := by omega
        rw [show ks.drop i = [] from List.drop_eq_nil_of_le (by omega), wordsL] at ho
        simp (dsimp := false) (implicitDefEqProofs := false) [t1, t3, hi', hwu, ho]
termination_by u => SizeOf.sizeOf u
theorem size_ok : ∀ (u : UnitD) (deep most : Int) (M : Mem), u.good → 0 ≤ deep → deep ≤ 30 → 0 ≤ most → most ≤ 1000 → ACalls (WC gl) 84 [.agg u.row, I deep, I most] M (fun v M' => v = I (sizeU u deep most) ∧ M' = M)
  | .mk id kind lab hd ws ks, deep, most, M, hg, d0, d1, m0, m1 => by
    obtain ⟨_, _, _, hh, _, hw, _, hk, hkg⟩ := (UnitD.good_iff _).1 hg
    have hk' : ks.length ≤ 9223372036854775807 := hk
    refine w_body hB Tryz.func84 rfl rfl rfl rfl rfl rfl ?_
    have hsz : sizeU (.mk id kind lab hd ws ks) deep most = if 20 < deep then most + 1 else sizeL ks deep most 1 := by rw [sizeU]
    by_cases h1 : 20 < deep
    · have h1g : deep > 20 := h1
      have w1 : IntKind.i64.wrap (most + 1) = most + 1 := wrap_in (by omega) (by omega)
      rw [if_pos h1] at hsz
      simp (dsimp := false) (implicitDefEqProofs := false) [UnitD.row, h1, h1g, w1, hsz]
    have h1g : ¬ deep > 20 := h1
    rw [if_neg h1] at hsz
    simp (dsimp := false) (implicitDefEqProofs := false) [UnitD.row, h1, h1g]
    refine w_looped hB (fun T M1 => ∃ i : Nat, i ≤ ks.length ∧ T 1 = I deep ∧ T 2 = I most ∧ T 3 = .cptr [I id.act, I id.item, I id.n, I kind, S lab, .list 4 (rowsW hd) .no, .list 4 (rowsW ws) .no, .list 8 (rowsU ks) .no] ∧ T 8 = I i ∧ M1 = M ∧
      ∃ n : Int, T 7 = I n ∧ 1 ≤ n ∧ n ≤ most + 1 ∧ sizeL ks deep most 1 = sizeL (ks.drop i) deep most n) (fun T _ => match T 8 with | .val (.int _ i) => ks.length - i.toNat | _ => 0) (by kernel_rfl) ?_ ?_
    · exact ⟨0, by omega, by simp, by simp, by simp, by simp, rfl, 1, by simp, by omega, by omega, by simp⟩
    · rintro T M1 ⟨i, i1, t1, t2, t3, t8, rfl, n, t7, n1, n2, ho⟩
      by_cases hi : i < ks.length
      · have hi' : (i : Int) < ks.length := by omega
        have w1 : IntKind.i64.wrap ((i : Int) + 1) = (i + 1 : Nat) := by rw [wrap_in (by omega) (by omega)]; omega
        have hd2 : ks.drop i = ks[i] :: ks.drop (i + 1) := List.drop_eq_getElem_cons hi
        have hmem : ks[i] ∈ ks := List.getElem_mem hi
        rw [hd2, sizeL] at ho
        by_cases hn : n ≤ most
        · rw [if_pos hn] at ho
          have w2 : IntKind.i64.wrap (deep + 1) = deep + 1 := wrap_in (by omega) (by omega)
          have w3 : IntKind.i64.wrap (most - n) = most - n := wrap_in (by omega) (by omega)
          simp (dsimp := false) (implicitDefEqProofs := false) [t1, t2, t3, t7, t8, hi, hi', hn, w2, w3]
          have := UnitD.kid_lt (u := .mk id kind lab hd ws ks) hmem
          refine w_calls (inv_of Tryz.func84 rfl rfl (size_ok ks[i] (deep + 1) (most - n) M1 (hkg _ hmem) (by omega) (by omega) (by omega) (by omega))) ?_
          rintro _ _ ⟨rfl, rfl⟩
          have hs := sizeU_in ks[i] (deep + 1) (most - n) (by omega)
          generalize sizeU ks[i] (deep + 1) (most - n) = z at *
          have w4 : IntKind.i64.wrap (n + z) = n + z := wrap_in (by omega) (by omega)
          simp (dsimp := false) (implicitDefEqProofs := false) [t1, t2, t3, t7, t8, w1, w4]
          exact ⟨⟨i + 1, by clear w1; omega, rfl, by omega, by omega, ho⟩, by clear w1; omega⟩
        · rw [if_neg hn] at ho
          simp (dsimp := false) (implicitDefEqProofs := false) [t1, t2, t3, t7, t8, hi, hi', hn, hsz, ho]
      · have hi' : ¬ (i : Int) < ks.length := by omega
        rw [show ks.drop i = [] from List.drop_eq_nil_of_le (by omega), sizeL] at ho
        simp (dsimp := false) (implicitDefEqProofs := false) [t1, t2, t3, t7, t8, hi', hsz, ho]
termination_by u => SizeOf.sizeOf u
theorem few06_ok (u : UnitD) (most : Int) (M : Mem) (hg : u.good) (m0 : 0 ≤ most) (m1 : most ≤ 1000) : ACalls (WC gl) 57 [.agg u.row, I most] M (fun v M' => v = B (few06 u most) ∧ M' = M) := by
  refine w_body hB Tryz.func57 rfl rfl rfl rfl rfl rfl ?_
  simp (dsimp := false) (implicitDefEqProofs := false)
  refine w_calls (inv_of Tryz.func84 rfl rfl (size_ok gl u 0 most M hg (by omega) (by omega) m0 m1)) ?_
  rintro _ _ ⟨rfl, rfl⟩
  by_cases h1 : sizeU u 0 most ≤ most
  · simp (dsimp := false) (implicitDefEqProofs := false) [h1]
    refine w_calls (inv_of Tryz.func85 rfl rfl (words_ok gl u _ hg)) ?_
    rintro _ _ ⟨rfl, rfl⟩
    simp (dsimp := false) (implicitDefEqProofs := false) [few06, h1]
  · simp (dsimp := false) (implicitDefEqProofs := false) [h1, few06]
end
end Go.Abs
end
section
/- The acts that count, by the first act of each number; which of two places is later (plain law). -/
set_option linter.unusedVariables false
namespace Go.Abs

def stepF (acc : List ActD) (a : ActD) : List ActD := if a.number ∈ acc.map (·.number) then acc else acc ++ [a]
def firstA (l : List ActD) : List ActD := l.foldl stepF []
theorem firstA_snoc (l : List ActD) (a : ActD) : firstA (l ++ [a]) = stepF (firstA l) a := by simp [firstA, List.foldl_append]
theorem firstA_next (l : List ActD) {i : Nat} (h : i < l.length) : firstA (l.take (i + 1)) = stepF (firstA (l.take i)) l[i] := by
  rw [List.take_add_one, List.getElem?_eq_getElem h, Option.toList_some, firstA_snoc]
/-- what is kept, built up from the front -/
theorem snoc_ind {α : Type} {P : List α → Prop} (h0 : P []) (h1 : ∀ l a, P l → P (l ++ [a])) : ∀ l, P l := by
  intro l
  have : ∀ n (l : List α), l.length = n → P l := by
    intro n
    induction n with
    | zero => intro l h; rw [List.eq_nil_of_length_eq_zero h]; exact h0
    | succ n ih =>
      intro l h
      have hne : l ≠ [] := by intro e; rw [e] at h; simp at h
      rw [← List.dropLast_concat_getLast hne]
      exact h1 _ _ (ih _ (by rw [List.length_dropLast]; omega))
  exact this _ l rfl
theorem firstA_nums (l : List ActD) : ∀ n, n ∈ (firstA l).map (·.number) ↔ n ∈ l.map (·.number) := by
  refine snoc_ind (P := fun l => ∀ n, n ∈ (firstA l).map (·.number) ↔ n ∈ l.map (·.number)) (by simp [firstA]) (fun l a ih n => ?_) l
  rw [firstA_snoc, stepF]
  by_cases h : a.number ∈ (firstA l).map (·.number)
  · rw [if_pos h, ih, List.map_append, List.mem_append]
    have := (ih a.number).1 h
    constructor
    · exact fun h => .inl h
    · rintro (h2 | h2)
      · exact h2
      · simp only [List.map_cons, List.map_nil, List.mem_cons, List.not_mem_nil, or_false] at h2
        rw [h2]; exact this
  · rw [if_neg h, List.map_append, List.map_append, List.mem_append, List.mem_append, ih]
theorem firstA_nodup (l : List ActD) : ((firstA l).map (·.number)).Nodup := by
  refine snoc_ind (P := fun l => ((firstA l).map (·.number)).Nodup) (by simp [firstA]) (fun l a ih => ?_) l
  rw [firstA_snoc, stepF]
  by_cases h : a.number ∈ (firstA l).map (·.number)
  · rw [if_pos h]; exact ih
  · rw [if_neg h, List.map_append, List.nodup_append]
    refine ⟨ih, by simp, fun x hx y hy e => ?_⟩
    simp only [List.map_cons, List.map_nil, List.mem_cons, List.not_mem_nil, or_false] at hy
    subst hy; subst e; exact h hx
theorem firstA_sub (l : List ActD) : ∀ a ∈ firstA l, a ∈ l := by
  refine snoc_ind (P := fun l => ∀ a ∈ firstA l, a ∈ l) (by simp [firstA]) (fun l a ih x hx => ?_) l
  rw [firstA_snoc, stepF] at hx
  split at hx
  · exact List.mem_append_left _ (ih x hx)
  · rcases List.mem_append.1 hx with hx | hx
    · exact List.mem_append_left _ (ih x hx)
    · exact List.mem_append_right _ hx
theorem firstA_len (l : List ActD) : (firstA l).length ≤ l.length := by
  refine snoc_ind (P := fun l => (firstA l).length ≤ l.length) (by simp [firstA]) (fun l a ih => ?_) l
  rw [firstA_snoc, stepF]
  split
  · simp; omega
  · simp; omega
/-- the day of the first act of a number -/
def dayL (l : List ActD) (n : Int) : Option Int := match l with
  | [] => none
  | a :: l => if a.number = n then some a.day else dayL l n
theorem dayL_none : ∀ (l : List ActD) (n : Int), n ∉ l.map (·.number) → dayL l n = none
  | [], n, _ => rfl
  | a :: l, n, h => by
    simp only [List.map_cons, List.mem_cons, not_or] at h
    rw [dayL, if_neg (fun e => h.1 e.symm)]; exact dayL_none l n h.2
theorem dayL_perm {l m : List ActD} (hp : l.Perm m) (hn : (l.map (·.number)).Nodup) (n : Int) : dayL l n = dayL m n := by
  induction hp with
  | nil => rfl
  | cons x _ ih =>
    simp only [List.map_cons, List.nodup_cons] at hn
    rw [dayL, dayL, ih hn.2]
  | swap x y l =>
    simp only [List.map_cons, List.nodup_cons, List.mem_cons, not_or] at hn
    simp only [dayL]
    by_cases h1 : x.number = n <;> by_cases h2 : y.number = n
    · exact absurd (h2.trans h1.symm) hn.1.1
    · simp [h1, h2]
    · simp [h1, h2]
    · simp [h1, h2]
  | trans h1 _ ih1 ih2 => exact (ih1 hn).trans (ih2 ((h1.map _).nodup_iff.1 hn))
theorem dayL_snoc (l : List ActD) (a : ActD) (n : Int) : dayL (l ++ [a]) n = match dayL l n with | some d => some d | none => if a.number = n then some a.day else none := by
  induction l with
  | nil => simp [dayL]
  | cons b l ih =>
    rw [List.cons_append, dayL, dayL]
    by_cases h : b.number = n
    · simp [h]
    · rw [if_neg h, if_neg h, ih]
/-- the last act of a number tells its day: the same where the numbers are distinct -/
theorem dayL_drop (l : List ActD) (hn : (l.map (·.number)).Nodup) {i : Nat} (hi : i < l.length) (n : Int) : dayL (l.take (i + 1)) n = if n = l[i].number then some l[i].day else dayL (l.take i) n := by
  rw [List.take_add_one, List.getElem?_eq_getElem hi, Option.toList_some, dayL_snoc]
  by_cases h : l[i].number = n
  · have : dayL (l.take i) n = none := by
      apply dayL_none
      intro hm
      obtain ⟨a, ha, e⟩ := List.mem_map.1 hm
      obtain ⟨j, hj, e2⟩ := List.mem_iff_getElem.1 ha
      have hj' : j < i := by simp at hj; omega
      rw [List.getElem_take] at e2
      have hlt : j < (l.map (·.number)).length := by simp; omega
      have h2 : i < (l.map (·.number)).length := by simp; omega
      have := (List.pairwise_iff_getElem.1 hn) j i hlt h2 hj'
      simp only [List.getElem_map] at this
      exact this (by rw [e2, e, h])
    rw [this, if_pos h.symm]; simp [h]
  · have h' : ¬ n = l[i].number := fun e => h e.symm
    rw [if_neg h']
    cases dayL (l.take i) n <;> simp [h]

/-- which place is later -/
def cmpR (D : Int → Option Int) (a b : Int × Int) : Int := if (D a.1).isSome = (D b.1).isSome then orL [cmpI ((D a.1).getD 0) ((D b.1).getD 0), cmpI a.1 b.1, cmpI a.2 b.2] else if (D b.1).isSome then -1 else 1
def behB (D : Int → Option Int) (a b : Int × Int) : Bool :=
  if (D a.1).isSome = (D b.1).isSome then (if (D a.1).getD 0 = (D b.1).getD 0 then (if a.1 = b.1 then decide (b.2 < a.2) else decide (b.1 < a.1)) else decide ((D b.1).getD 0 < (D a.1).getD 0)) else (D a.1).isSome
theorem cmpI_pos (x y : Int) : 0 < cmpI x y ↔ y < x := by unfold cmpI; split <;> (try split) <;> omega
theorem cmpI_zero (x y : Int) : cmpI x y = 0 ↔ x = y := by unfold cmpI; split <;> (try split) <;> omega
theorem beh_iff (D : Int → Option Int) (a b : Int × Int) : 0 < cmpR D a b ↔ behB D a b = true := by
  unfold cmpR behB
  by_cases h : (D a.1).isSome = (D b.1).isSome
  · rw [if_pos h, if_pos h]
    simp only [orL]
    by_cases h1 : (D a.1).getD 0 = (D b.1).getD 0
    · rw [if_pos ((cmpI_zero _ _).2 h1), if_pos h1]
      by_cases h2 : a.1 = b.1
      · rw [if_pos ((cmpI_zero _ _).2 h2), if_pos h2]
        by_cases h3 : a.2 = b.2
        · rw [if_pos ((cmpI_zero _ _).2 h3)]; simp [h3]
        · rw [if_neg (fun e => h3 ((cmpI_zero _ _).1 e))]; simp [cmpI_pos]
      · rw [if_neg (fun e => h2 ((cmpI_zero _ _).1 e)), if_neg h2]; simp [cmpI_pos]
    · rw [if_neg (fun e => h1 ((cmpI_zero _ _).1 e)), if_neg h1]; simp [cmpI_pos]
  · rw [if_neg h, if_neg h]
    cases h1 : (D a.1).isSome <;> cases h2 : (D b.1).isSome <;> simp_all
theorem beh_cmp (D : Int → Option Int) (a b : Int × Int) : decide (0 < cmpR D a b) = behB D a b := by
  rw [Bool.eq_iff_iff, decide_eq_true_eq]; exact beh_iff D a b
def laterR (D : Int → Option Int) (m x : Int × Int) : Int × Int := if behB D x m then x else m
def maxR (D : Int → Option Int) (m : Int × Int) (l : List (Int × Int)) : Int × Int := l.foldl (laterR D) m
theorem maxR_next (D : Int → Option Int) (m : Int × Int) (l : List (Int × Int)) {i : Nat} (h : i < l.length) : maxR D m (l.take (i + 1)) = laterR D (maxR D m (l.take i)) l[i] := by
  rw [List.take_add_one, List.getElem?_eq_getElem h, Option.toList_some, maxR, List.foldl_append]; rfl
end Go.Abs
end
