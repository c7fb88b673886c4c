/- The texts AnBase, AnSa, AnSb: what each proves stands at its head. -/
import Derived.Test.YtiipcnbedgamdaaGreatDoorVG17
import Derived.Test.YtiipcnbedgamdaaGreatDoorVG18
import Derived.Test.YtiipcnbedgamdaaGreatDoorVG21
import Derived.Test.YtiipcnbedgamdaaGreatDoorVG22
section
/- The contexts in which the walks of the seat run; its types. -/
set_option maxRecDepth 100000
namespace Go.Abs
open Go.Proofs

/-- gazettes, their acts and acts' items are made as data -/
def dataT (t : TypeId) : Bool := decide (t = 85) || decide (t = 69) || decide (t = 26)
@[simp] theorem dataT_eq (t : TypeId) : dataT t = (decide (t = 85) || decide (t = 69) || decide (t = 26)) := rfl
noncomputable def WC (gl : Nat → AV) : Ctx := ⟨Tryz.prog, gl, fun _ => none, dataT⟩
@[simp] theorem WC_data (gl : Nat → AV) : (WC gl).data = dataT := rfl
@[simp] theorem WC_P (gl : Nat → AV) : (WC gl).P = Tryz.prog := rfl
@[simp] theorem WC_gl (gl : Nat → AV) : (WC gl).gl = gl := rfl
/-- variables that are never written again are kept as data; slices as data -/
def hB : Hint := ⟨fun _ => true, fun _ => true, fun _ => false⟩
/-- variables as objects, slices as arrays -/
def hV : Hint := ⟨fun _ => false, fun _ => false, fun _ => true⟩
/-- variables as data, slices as arrays -/
def hW : Hint := ⟨fun _ => true, fun _ => false, fun _ => true⟩
@[simp] theorem hB_imm : hB.imm = fun _ => true := rfl
@[simp] theorem hB_own : hB.own = fun _ => true := rfl
@[simp] theorem hB_vec : hB.vec = fun _ => false := rfl
@[simp] theorem hV_imm : hV.imm = fun _ => false := rfl
@[simp] theorem hV_own : hV.own = fun _ => false := rfl
@[simp] theorem hV_vec : hV.vec = fun _ => true := rfl
@[simp] theorem hW_imm : hW.imm = fun _ => true := rfl
@[simp] theorem hW_own : hW.own = fun _ => false := rfl
@[simp] theorem hW_vec : hW.vec = fun _ => true := rfl
theorem cfollows (gl : Nat → AV) : (WC gl).P.follows .mixedOrders = true := by kernel_rfl
attribute [simp] Tryz.underlying3 Tryz.underlying4 Tryz.underlying9 Tryz.underlying22 Tryz.underlying23 Tryz.underlying25 Tryz.underlying26 Tryz.underlying31 Tryz.underlying43 Tryz.underlying51 Tryz.underlying53 Tryz.underlying54 Tryz.underlying60 Tryz.underlying63 Tryz.underlying65 Tryz.underlying66 Tryz.underlying68 Tryz.underlying69 Tryz.underlying71 Tryz.underlying77 Tryz.underlying81 Tryz.underlying84 Tryz.underlying85 Tryz.underlying87 Tryz.underlying155 Tryz.underlying173
attribute [simp] Env.of

section
variable {P : Program} {t e : TypeId} {s : ByteArray} {k k2 : IntKind} {i j : Int}
@[simp] theorem slice2_str_lo (h : P.underlying t = some .string) : slice2 P t (.val (.string s)) (some (.val (.int k i))) none none = if 0 ≤ i ∧ i ≤ s.size then some (.val (.string (s.extract i.toNat s.size))) else none := by
  by_cases hc : 0 ≤ i ∧ i ≤ s.size
  · simp [slice2, sliceAV, h, sliceIdx, hc]
  · simp [slice2, sliceAV, h, sliceIdx, hc]
@[simp] theorem slice2_str_hi (h : P.underlying t = some .string) : slice2 P t (.val (.string s)) none (some (.val (.int k i))) none = if 0 ≤ i ∧ i ≤ s.size then some (.val (.string (s.extract 0 i.toNat))) else none := by
  by_cases hc : 0 ≤ i ∧ i ≤ s.size
  · simp [slice2, sliceAV, h, sliceIdx, hc]
  · simp [slice2, sliceAV, h, sliceIdx, hc]
variable {sz : Nat} {rows : List (List AV)} {own : Own}
@[simp] theorem slice2_list_lo (h : elemOf? P t = some e) (hs : szOf P e = some sz) : slice2 P t (.list sz rows own) (some (.val (.int k i))) none none = if 0 ≤ i ∧ i ≤ rows.length then some (.list sz (rows.drop i.toNat) (sliceOwn rows.length i.toNat rows.length none own)) else none := by
  by_cases hc : 0 ≤ i ∧ i ≤ rows.length
  · simp [slice2, sliceAV, sliceListAV, h, hs, sliceIdx, hc]
  · simp [slice2, sliceAV, sliceListAV, h, hs, sliceIdx, hc]
@[simp] theorem slice2_list_hi (h : elemOf? P t = some e) (hs : szOf P e = some sz) : slice2 P t (.list sz rows own) none (some (.val (.int k i))) none = if 0 ≤ i ∧ i ≤ rows.length then some (.list sz (rows.take i.toNat) (sliceOwn rows.length 0 i.toNat none own)) else none := by
  by_cases hc : 0 ≤ i ∧ i ≤ rows.length
  · simp [slice2, sliceAV, sliceListAV, h, hs, sliceIdx, hc]
  · simp [slice2, sliceAV, sliceListAV, h, hs, sliceIdx, hc]
@[simp] theorem slice2_list_both (h : elemOf? P t = some e) (hs : szOf P e = some sz) : slice2 P t (.list sz rows own) (some (.val (.int k i))) (some (.val (.int k2 j))) none = if 0 ≤ i ∧ i ≤ j ∧ j ≤ rows.length then some (.list sz ((rows.take j.toNat).drop i.toNat) (sliceOwn rows.length i.toNat j.toNat none own)) else none := by
  by_cases hj : 0 ≤ j ∧ j ≤ rows.length
  · by_cases hc : 0 ≤ i ∧ i ≤ (j.toNat : Int)
    · have : 0 ≤ i ∧ i ≤ j ∧ j ≤ rows.length := by omega
      simp [slice2, sliceAV, sliceListAV, h, hs, sliceIdx, hj, hc.1, show i ≤ max j 0 from by omega]; omega
    · have : ¬ (0 ≤ i ∧ i ≤ j ∧ j ≤ rows.length) := by omega
      rw [if_neg this]
      simp only [slice2, sliceAV, sliceListAV, h, hs, sliceIdx, Option.getD_none, if_pos hj, if_neg hc, Option.isSome_some, Bool.true_or, if_true]
  · have : ¬ (0 ≤ i ∧ i ≤ j ∧ j ≤ rows.length) := by omega
    simp only [slice2, sliceAV, sliceListAV, h, hs, sliceIdx, Option.getD_none, if_neg hj, if_neg this]
    simp
end
/-- a call that is entered -/
theorem inv_of {C : Ctx} {f : FuncId} {fn : Func} {c : Code} {args : List AV} {M : Mem} {Q : AV → Mem → Prop} (hf : C.P.funcs[f]? = some fn) (hb : fn.body = some c) (hn : (fn.name == "runtime.NumGoroutine") = false) (h : ACalls C f args M Q) : Invk C f args M Q :=
  .inl ⟨enters_of hf hb hn, h⟩

theorem wrap_in {n : Int} (h1 : -9223372036854775808 ≤ n) (h2 : n ≤ 9223372036854775807) : IntKind.i64.wrap n = n := IntWalk.i64_in _ ⟨h1, h2⟩
end Go.Abs
end
section
/- Contracts of slices' stable sort over an array of rows: insertion. -/
set_option maxRecDepth 100000
set_option linter.unusedSimpArgs false
set_option linter.unusedVariables false
namespace Go.Abs
open Go.Proofs TryTypes

/-- a func value that compares the rows of two things, and changes nothing -/
def CmpOK (C : Ctx) {α : Type} (enc : α → List AV) (c : α → α → Int) (fid : FuncId) (first cap : List AV) : Prop :=
  ∀ x y M, Invk C fid (first ++ .agg (enc x) :: .agg (enc y) :: cap) M (fun v M' => v = I (c x y) ∧ M' = M)

section
variable (gl : Nat → AV) {α : Type} {enc : α → List AV} {c : α → α → Int} {fid : FuncId} {first cap : List AV} {f g n : Nat} {M0 : Mem}
theorem isort_ok (he : ∀ x, (enc x).length = 7) (hc : CmpOK (WC gl) enc c fid first cap) (hf : f < M0.length) (hn : n ≤ 1000) (a b : Nat) (hab : a ≤ b) (hb : b ≤ n) (D : Nat → α) (M : Mem) (hM : AtA 84 7 f g n enc M0 D M) :
    ACalls (WC gl) 127 [.vref f g 7 0 n, I a, I b, .func (.func fid) first cap] M (fun _ M' => ∃ E, AtA 84 7 f g n enc M0 E M' ∧ Mix n a b D E ∧ (Ord3 c → Srt c a b E)) := by
  refine w_body hW Tryz.func127 rfl rfl rfl rfl rfl rfl ?_
  have hwa : IntKind.i64.wrap ((a : Int) + 1) = (a + 1 : Nat) := by rw [wrap_in (by omega) (by omega)]; omega
  simp (dsimp := false) (implicitDefEqProofs := false) [hwa]
  refine w_looped hW (fun T M1 => ∃ i : Nat, a + 1 ≤ i ∧ i ≤ max b (a + 1) ∧ T 0 = .vref f g 7 0 n ∧ T 1 = I a ∧ T 2 = I b ∧ T 3 = .func (.func fid) first cap ∧ T 8 = I i ∧
      ∃ E, AtA 84 7 f g n enc M0 E M1 ∧ Mix n a b D E ∧ (Ord3 c → Srt c a i E)) (fun T _ => match T 8 with | .val (.int _ i) => b - i.toNat | _ => 0) (by kernel_rfl) ?_ ?_
  · exact ⟨a + 1, by omega, by omega, by simp, by simp, by simp, by simp, by simp, D, hM, .refl .., fun _ => .short (by omega)⟩
  · rintro T M1 ⟨i, h1, h2, t0, t1, t2, t3, t8, E, hA, hX, hS⟩
    by_cases hi : i < b
    · have hi' : (i : Int) < b := by omega
      have hw : IntKind.i64.wrap ((i : Int) + 1) = (i + 1 : Nat) := by rw [wrap_in (by omega) (by omega)]; omega
      simp (dsimp := false) (implicitDefEqProofs := false) [t0, t1, t2, t3, t8, hi, hi']
      refine w_looped hW (fun T M1 => ∃ j : Nat, a ≤ j ∧ j ≤ i ∧ T 0 = .vref f g 7 0 n ∧ T 1 = I a ∧ T 2 = I b ∧ T 3 = .func (.func fid) first cap ∧ T 8 = I i ∧ T 9 = I j ∧
        ∃ E, AtA 84 7 f g n enc M0 E M1 ∧ Mix n a b D E ∧ (Ord3 c → SrtBut c a i j E)) (fun T _ => match T 9 with | .val (.int _ i) => i.toNat | _ => 0) (by kernel_rfl) ?_ ?_
      · exact ⟨i, by omega, by omega, by simp [t0], by simp [t1], by simp [t2], by simp [t3], by simp [t8], by simp, E, hA, hX, fun o => .start (hS o)⟩
      · rintro T2 M1 ⟨j, k1, k2, u0, u1, u2, u3, u8, u9, E, hA, hX, hS⟩
        by_cases hj : a < j
        · have hj' : (a : Int) < j := by omega
          have hj2 : (j : Int) > a := hj'
          have hwj : IntKind.i64.wrap ((j : Int) - 1) = (j - 1 : Nat) := by rw [wrap_in (by omega) (by omega)]; omega
          have g1 : j < n := by omega
          have g2 : j - 1 < n := by omega
          have g1' : (j : Int) < n := by omega
          have g2' : ((j - 1 : Nat) : Int) < n := by omega
          have l1 := hA.load (P := Tryz.prog) (t := 84) hf he (by simp) (by simp) g1
          have l2 := hA.load (P := Tryz.prog) (t := 84) hf he (by simp) (by simp) g2
          simp (dsimp := false) (implicitDefEqProofs := false)
          refine w_drawn hW (cfollows gl) (fun k => if k = 8 ∨ k = 13 then 1 else 0) (fun _ => f) (by rfl) (by kernel_rfl) ?_
          simp (dsimp := false) (implicitDefEqProofs := false) [u0, u1, u2, u3, u8, u9, hj', hj2, hwj, g1, g2, g1', g2', l1, l2]
          refine w_call0 (r := I (c (E j) (E (j - 1)))) (fun M => hc _ _ M) ?_
          by_cases hlt : c (E j) (E (j - 1)) < 0
          · simp (dsimp := false) (implicitDefEqProofs := false) [u0, u1, u2, u3, u8, u9, hlt]
            refine w_drawn hW (cfollows gl) (fun k => if k = 9 ∨ k = 13 then 1 else if k = 15 ∨ k = 17 then 2 else 0) (fun _ => f) (by rfl) (by kernel_rfl) ?_
            obtain ⟨M2, s1, hA2⟩ := hA.store hf he g1 (E (j - 1))
            obtain ⟨M3, s2, hA3⟩ := hA2.store hf he g2 (E j)
            simp (dsimp := false) (implicitDefEqProofs := false) [u0, u1, u2, u3, u8, u9, hj', hj2, hwj, g1, g2, g1', g2', l1, l2, s1, s2]
            exact ⟨⟨j - 1, by clear hwj; omega, by clear hwj; omega, rfl, swp E j (j - 1), hA3, hX.trans (.swap E hb (by omega) (by omega) (by omega) (by omega)), fun o => (hS o).step o hj k2 hlt⟩, by clear hwj; omega⟩
          · simp (dsimp := false) (implicitDefEqProofs := false) [u0, u1, u2, u3, u8, u9, hlt, hw, t8]
            exact ⟨⟨i + 1, by clear hw; omega, by clear hw; omega, rfl, E, hA, hX, fun o => (hS o).stop o k2 (.inr hlt)⟩, by clear hw; omega⟩
        · have hj' : ¬ (a : Int) < j := by omega
          have hj2 : ¬ (j : Int) > a := hj'
          simp (dsimp := false) (implicitDefEqProofs := false)
          refine w_drawn hW (cfollows gl) (fun k => if k = 8 ∨ k = 13 then 1 else 0) (fun _ => f) (by rfl) (by kernel_rfl) ?_
          simp (dsimp := false) (implicitDefEqProofs := false) [u0, u1, u2, u3, u8, u9, hj', hj2, hw, t8]
          exact ⟨⟨i + 1, by clear hw; omega, by clear hw; omega, rfl, E, hA, hX, fun o => (hS o).stop o k2 (.inl (by omega))⟩, by clear hw; omega⟩
    · have hi' : ¬ (i : Int) < b := by omega
      simp (dsimp := false) (implicitDefEqProofs := false) [t0, t1, t2, t3, t8, hi']
      exact ⟨E, hA, hX, fun o => (hS o).part (Nat.le_refl _) (by omega)⟩
end
end Go.Abs
end
section
/- Contracts of slices' stable sort over an array of rows: exchange of ranges, rotation. -/
set_option maxRecDepth 100000
set_option linter.unusedSimpArgs false
set_option linter.unusedVariables false
namespace Go.Abs
open Go.Proofs TryTypes

theorem wadd {i j : Nat} (h : i + j ≤ 1000000) : IntKind.i64.wrap ((i : Int) + (j : Int)) = ((i + j : Nat) : Int) := by rw [wrap_in (by omega) (by omega)]; omega
theorem wsub {i j : Nat} (h : i ≤ 1000000) (hj : j ≤ i) : IntKind.i64.wrap ((i : Int) - (j : Int)) = ((i - j : Nat) : Int) := by rw [wrap_in (by omega) (by omega)]; omega
theorem wadd1 {i : Nat} (h : i ≤ 1000000) : IntKind.i64.wrap ((i : Int) + 1) = ((i + 1 : Nat) : Int) := by rw [wrap_in (by omega) (by omega)]; omega
theorem wsub1 {i : Nat} (h : i ≤ 1000000) (hj : 1 ≤ i) : IntKind.i64.wrap ((i : Int) - 1) = ((i - 1 : Nat) : Int) := by rw [wrap_in (by omega) (by omega)]; omega
section
variable (gl : Nat → AV) {α : Type} {enc : α → List AV} {c : α → α → Int} {fid : FuncId} {first cap : List AV} {f g n : Nat} {M0 : Mem}
theorem swapr_ok (he : ∀ x, (enc x).length = 7) (hf : f < M0.length) (hn : n ≤ 1000) (i j l : Nat) (hij : i + l ≤ j) (hj : j + l ≤ n) (D : Nat → α) (M : Mem) (hM : AtA 84 7 f g n enc M0 D M) (cf : AV) :
    ACalls (WC gl) 208 [.vref f g 7 0 n, I i, I j, I l, cf] M (fun _ M' => AtA 84 7 f g n enc M0 (xch D i j l) M') := by
  refine w_body hW Tryz.func208 rfl rfl rfl rfl rfl rfl ?_
  simp (dsimp := false) (implicitDefEqProofs := false)
  refine w_looped hW (fun T M1 => ∃ k : Nat, k ≤ l ∧ T 0 = .vref f g 7 0 n ∧ T 1 = I i ∧ T 2 = I j ∧ T 3 = I l ∧ T 10 = I k ∧ AtA 84 7 f g n enc M0 (xch D i j k) M1)
    (fun T _ => match T 10 with | .val (.int _ i) => l - i.toNat | _ => 0) (by kernel_rfl) ?_ ?_
  · exact ⟨0, by omega, by simp, by simp, by simp, by simp, by simp, by rw [xch_zero]; exact hM⟩
  · rintro T M1 ⟨k, h1, t0, t1, t2, t3, t10, hA⟩
    by_cases hk : k < l
    · have hk' : (k : Int) < l := by omega
      have w1 := wadd (i := i) (j := k) (by omega)
      have w2 := wadd (i := j) (j := k) (by omega)
      have w3 := wadd1 (i := k) (by omega)
      have g1 : i + k < n := by omega
      have g2 : j + k < n := by omega
      have g1' : ((i + k : Nat) : Int) < n := by omega
      have g2' : ((j + k : Nat) : Int) < n := by omega
      have p1 : 0 ≤ ((i + k : Nat) : Int) := by omega
      have p2 : 0 ≤ ((j + k : Nat) : Int) := by omega
      have q1 : ((i + k : Nat) : Int).toNat = i + k := by omega
      have q2 : ((j + k : Nat) : Int).toNat = j + k := by omega
      have l1 := hA.load (P := Tryz.prog) (t := 84) hf he (by simp) (by simp) g1
      have l2 := hA.load (P := Tryz.prog) (t := 84) hf he (by simp) (by simp) g2
      obtain ⟨M2, s1, hA2⟩ := hA.store hf he g1 (xch D i j k (j + k))
      obtain ⟨M3, s2, hA3⟩ := hA2.store hf he g2 (xch D i j k (i + k))
      have hx : AtA 84 7 f g n enc M0 (xch D i j (k + 1)) M3 := by rw [← xch_step D (show i + k < j by omega)]; exact hA3
      generalize ((i + k : Nat) : Int) = ik at *
      generalize ((j + k : Nat) : Int) = jk at *
      simp (dsimp := false) (implicitDefEqProofs := false) [t0, t1, t2, t3, t10, hk']
      refine w_drawn hW (cfollows gl) (fun k => if k = 13 ∨ k = 19 then 1 else if k = 21 ∨ k = 23 then 2 else 0) (fun _ => f) (by rfl) (by kernel_rfl) ?_
      simp (dsimp := false) (implicitDefEqProofs := false) [t0, t1, t2, t3, t10, w1, w2, w3, g1, g2, g1', g2', p1, p2, q1, q2, l1, l2, s1, s2]
      exact ⟨⟨k + 1, by clear w3; omega, rfl, hx⟩, by clear w3; omega⟩
    · have hk' : ¬ (k : Int) < l := by omega
      obtain rfl : k = l := by omega
      simp (dsimp := false) (implicitDefEqProofs := false) [t0, t1, t2, t3, t10, hA]
theorem rotate_ok (he : ∀ x, (enc x).length = 7) (hf : f < M0.length) (hn : n ≤ 1000) (s m e : Nat) (h1 : s < m) (h2 : m < e) (h3 : e ≤ n) (D : Nat → α) (M : Mem) (hM : AtA 84 7 f g n enc M0 D M) (cf : AV) :
    ACalls (WC gl) 164 [.vref f g 7 0 n, I s, I m, I e, cf] M (fun _ M' => AtA 84 7 f g n enc M0 (rot D s m e) M' ∧ Mix n s e D (rot D s m e)) := by
  refine w_body hW Tryz.func164 rfl rfl rfl rfl rfl rfl ?_
  have w1 := wsub (i := m) (j := s) (by omega) (by omega)
  have w2 := wsub (i := e) (j := m) (by omega) (by omega)
  simp (dsimp := false) (implicitDefEqProofs := false) [w1, w2]
  refine w_looped hW (fun T M1 => ∃ i : Nat, 0 < i ∧ s + i ≤ m ∧ T 0 = .vref f g 7 0 n ∧ T 2 = I m ∧ T 4 = cf ∧ T 10 = I i ∧ ∃ j : Nat, T 11 = I j ∧ 0 < j ∧ m + j ≤ e ∧
      ∃ E, AtA 84 7 f g n enc M0 E M1 ∧ Mix n s e D E ∧ rot E (m - i) m (m + j) = rot D s m e)
    (fun T _ => match T 10, T 11 with | .val (.int _ i), .val (.int _ j) => i.toNat + j.toNat | _, _ => 0) (by kernel_rfl) ?_ ?_
  · refine ⟨m - s, by omega, by omega, by simp, by simp, by simp, by simp, e - m, by simp, by omega, by omega, D, hM, .refl .., by congr 1 <;> omega⟩
  · rintro T M1 ⟨i, i0, i1, t0, t2, t4, t10, j, t11, j0, j1, E, hA, hX, hr⟩
    have w3 := wsub (i := m) (j := i) (by omega) (by omega)
    by_cases hij : i = j
    · subst hij
      simp (dsimp := false) (implicitDefEqProofs := false) [t0, t2, t4, t10, t11, w3]
      refine w_calls (inv_of Tryz.func208 rfl rfl (swapr_ok gl he hf hn (m - i) m i (by omega) (by omega) E _ hA cf)) ?_
      intro r M2 hA2
      have hx := xch_mix E (n := n) (lo := s) (hi := e) (i := m - i) (j := m) (by omega) h3 i (by omega) (by omega)
      rw [rot_same E (by omega), hr] at hA2 hx
      simp (dsimp := false) (implicitDefEqProofs := false)
      exact ⟨hA2, hX.trans hx⟩
    · have hij' : ¬ (i : Int) = j := by omega
      by_cases hgt : j < i
      · have hgt' : (j : Int) < i := by omega
        have hgt2 : (i : Int) > j := hgt'
        have w4 := wsub (i := i) (j := j) (by omega) (by omega)
        simp (dsimp := false) (implicitDefEqProofs := false) [t0, t2, t4, t10, t11, w3, hij', hgt', hgt2]
        refine w_calls (inv_of Tryz.func208 rfl rfl (swapr_ok gl he hf hn (m - i) m j (by omega) (by omega) E _ hA cf)) ?_
        intro r M2 hA2
        have hx := xch_mix E (n := n) (lo := s) (hi := e) (i := m - i) (j := m) (by omega) h3 j (by omega) (by omega)
        simp (dsimp := false) (implicitDefEqProofs := false) [t0, t2, t4, t10, t11, w4]
        refine ⟨⟨i - j, by clear w4; omega, by clear w4; omega, rfl, j, rfl, by clear w4; omega, by clear w4; omega, _, hA2, hX.trans hx, ?_⟩, by clear w4; omega⟩
        rw [rot_more E (by omega) hgt j0, hr]
      · have hgt' : ¬ (j : Int) < i := by omega
        have hgt2 : ¬ (i : Int) > j := hgt'
        have w4 := wsub (i := j) (j := i) (by omega) (by omega)
        have w5 := wadd (i := m) (j := j) (by omega)
        have w6 : IntKind.i64.wrap ((m : Int) + (j : Int) - (i : Int)) = ((m + j - i : Nat) : Int) := by rw [wrap_in (by omega) (by omega)]; omega
        simp (dsimp := false) (implicitDefEqProofs := false) [t0, t2, t4, t10, t11, w3, hij', hgt', hgt2, w5, w6]
        refine w_calls (inv_of Tryz.func208 rfl rfl (swapr_ok gl he hf hn (m - i) (m + j - i) i (by omega) (by omega) E _ hA cf)) ?_
        intro r M2 hA2
        have hx := xch_mix E (n := n) (lo := s) (hi := e) (i := m - i) (j := m + j - i) (by omega) h3 i (by omega) (by omega)
        simp (dsimp := false) (implicitDefEqProofs := false) [t0, t2, t4, t10, t11, w4]
        refine ⟨⟨i, by clear w4; omega, by clear w4; omega, rfl, j - i, rfl, by clear w4; omega, by clear w4; omega, _, hA2, hX.trans hx, ?_⟩, by clear w4; omega⟩
        rw [rot_less E (by omega) (by omega) i0, hr]
end
end Go.Abs
end
