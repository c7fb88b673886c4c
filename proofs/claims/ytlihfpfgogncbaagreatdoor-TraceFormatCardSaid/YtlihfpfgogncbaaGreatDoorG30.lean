/- The texts TrI, TrJ, TrK: what each proves stands at its head. -/
import Derived.Test.YtlihfpfgogncbaaGreatDoorG29
import Derived.Lib.ItoaLen
section
/- Contracts: numbers in decimal (the reference's). -/
set_option maxRecDepth 100000
set_option linter.unusedSimpArgs false
set_option linter.unusedVariables false
namespace Go.Abs
open Go.Proofs TryTypes

section
variable (gl : Nat → AV) (M : Mem)
theorem conv_b2s {h : Hint} {d : Option Tmp} {x : Operand} {t : TypeId} {p : String} {af : Array Edge} {g : Option (Nat × Bool)} {ρ : Operand → AV} {M : Mem} {n : Int} {own : Own} (hx : ρ x = .list 1 [[.val (.int .u8 n)]] own) :
    evalOp (WC gl) h ⟨d, .convert 64 9 x, t, p, af, g⟩ ρ M = some (S (bytesL [UInt8.ofNat n.toNat]), M) := by
  simp [evalOp, evalPure, evalMem, evalMore, evalPure1, hx, convAV, u8Rows, strOf_one]
@[simp] theorem bytesL_size (l : List UInt8) : (bytesL l).size = l.length := by simp [bytesL, ByteArray.size]
theorem digs_len {u : Nat} (hu : u ≤ 9223372036854775808) : (Lib.decDigits u).length ≤ 22 := by
  rcases Nat.lt_or_ge 9223372036854775807 u with h | h
  · have : u = 9223372036854775808 := by omega
    subst this
    decide +kernel
  · have := Lib.itoa_length_le u (by omega) (by omega)
    rw [Lib.itoa_nonneg] at this; omega
theorem tmod_nat (k : Nat) : ((k : Int)).tmod 10 = (k : Int) % 10 := Int.tmod_eq_emod_of_nonneg (Int.natCast_nonneg k)
theorem tdiv_nat (k : Nat) : ((k : Int)).tdiv 10 = (k : Int) / 10 := Int.tdiv_eq_ediv_of_nonneg (Int.natCast_nonneg k)
theorem u8_in {n : Int} (h0 : 0 ≤ n) (h1 : n ≤ 255) : IntKind.u8.wrap n = n := by
  have e : IntKind.u8.wrap n = n % 256 := by simp [IntKind.wrap, IntKind.signed, IntKind.bits]
  rw [e]; omega
@[simp] theorem build64 {kk : IntKind} {n : Int} : buildSliceAV Tryz.prog 64 1 [(0, .val (.int kk n))] = some (.list 1 [[.val (.int kk n)]] .full) := by
  simp [buildSliceAV, rowsGo]
theorem Digits_ok (u : Nat) (hu : u ≤ 9223372036854775807) : ACalls (WC gl) 25 [I u] M (fun v M' => v = S (bytesL (Lib.decDigits u)) ∧ M' = M) := by
  refine w_body hB Tryz.func25 rfl rfl rfl rfl rfl rfl ?_
  simp (dsimp := false) (implicitDefEqProofs := false)
  refine w_looped hB (fun T M1 => ∃ (k : Nat) (s : List UInt8), k ≤ u ∧ M1 = M ∧ T 0 = I k ∧ T 3 = S (bytesL s) ∧ Lib.decDigits u = Lib.decDigits k ++ s)
    (fun T M1 => match T 0 with | .val (.int _ i) => i.toNat | _ => 0) (by kernel_rfl) ?_ ?_
  · refine ⟨u, [], ?_⟩
    simp (dsimp := false) (implicitDefEqProofs := false)
    rfl
  · rintro T M1 ⟨k, s, h1, rfl, h3, h4, h5⟩
    by_cases hk : 9 < k
    · have hk' : (9 : Int) < k := by omega
      have e1 := tmod_nat k
      have e2 := tdiv_nat k
      have e3 : IntKind.i64.wrap (48 + (k : Int) % 10) = 48 + (k : Int) % 10 := wrap_in (by omega) (by omega)
      have e4 : IntKind.u8.wrap (48 + (k : Int) % 10) = 48 + (k : Int) % 10 := u8_in (by omega) (by omega)
      have e5 : IntKind.i64.wrap ((k : Int) / 10) = (k : Int) / 10 := wrap_in (by omega) (by omega)
      have e6 : (48 + (k : Int) % 10).toNat = 48 + k % 10 := by omega
      have hl := digs_len (u := u) (by omega)
      have hlen : (Lib.decDigits k).length + s.length ≤ 22 := by rw [h5, List.length_append] at hl; exact hl
      have hz : ¬ (9223372036854775807 : Int) < 1 + (s.length : Int) := by omega
      simp (dsimp := false) (implicitDefEqProofs := false) [h3, h4, hk', e1, e3, e4, convAV]
      rw [conv_b2s gl (by rfl)]
      simp (dsimp := false) (implicitDefEqProofs := false) [h3, h4, hk', e2, e5, e6, hz, bytesL_app]
      refine ⟨⟨k / 10, by omega, by simp, _, rfl, ?_⟩, by omega⟩
      rw [h5, digits_step hk]; simp
    · have hk' : ¬ (9 : Int) < k := by omega
      have e3 : IntKind.i64.wrap (48 + (k : Int)) = 48 + (k : Int) := wrap_in (by omega) (by omega)
      have e4 : IntKind.u8.wrap (48 + (k : Int)) = 48 + (k : Int) := u8_in (by omega) (by omega)
      have e6 : (48 + (k : Int)).toNat = 48 + k := by omega
      have hl := digs_len (u := u) (by omega)
      have hlen : (Lib.decDigits k).length + s.length ≤ 22 := by rw [h5, List.length_append] at hl; exact hl
      have hz : ¬ (9223372036854775807 : Int) < 1 + (s.length : Int) := by omega
      simp (dsimp := false) (implicitDefEqProofs := false) [h3, h4, hk', e3, e4, convAV]
      rw [conv_b2s gl (by rfl)]
      simp (dsimp := false) (implicitDefEqProofs := false) [h3, h4, hk', e6, hz, bytesL_app]
      rw [h5, digits_last (by omega)]; simp
theorem rdigits_ok (n : Int) (h0 : -9223372036854775808 ≤ n) (h1 : n ≤ 9223372036854775807) : ACalls (WC gl) 11 [I n] M (fun v M' => v = S (bytesL (Lib.itoa n)) ∧ M' = M) := by
  refine w_body hB Tryz.func11 rfl rfl rfl rfl rfl rfl ?_
  by_cases hn : 0 ≤ n
  · obtain ⟨u, rfl⟩ : ∃ u : Nat, n = u := ⟨n.toNat, by omega⟩
    rw [Lib.itoa_nonneg]
    simp (dsimp := false) (implicitDefEqProofs := false) [hn]
    refine w_calls (inv_of Tryz.func25 rfl rfl (Digits_ok gl M u (by omega))) ?_
    rintro r M' ⟨rfl, rfl⟩
    simp (dsimp := false) (implicitDefEqProofs := false)
  · obtain ⟨u, rfl⟩ : ∃ u : Nat, n = -(u : Int) := ⟨n.natAbs, by omega⟩
    have hu1 : 1 ≤ u := by omega
    have hn' : ¬ (0 : Int) ≤ -(u : Int) := hn
    rw [Lib.itoa_neg u hu1]
    have hn2 : ¬ u = 0 := by omega
    simp (dsimp := false) (implicitDefEqProofs := false) [hn', hn2]
    refine w_looped hB (fun T M1 => ∃ (k : Nat) (s : List UInt8), k ≤ u ∧ 1 ≤ k ∧ M1 = M ∧ T 0 = I (-(k : Int)) ∧ T 3 = S (bytesL s) ∧ Lib.decDigits u = Lib.decDigits k ++ s)
      (fun T M1 => match T 0 with | .val (.int _ i) => i.natAbs | _ => 0) (by kernel_rfl) ?_ ?_
    · refine ⟨u, [], ?_⟩
      simp (dsimp := false) (implicitDefEqProofs := false) [hu1]
      rfl
    · rintro T M1 ⟨k, s, q1, q2, rfl, h3, h4, h5⟩
      have hl := digs_len (u := u) (by omega)
      have hlen : (Lib.decDigits k).length + s.length ≤ 22 := by rw [h5, List.length_append] at hl; exact hl
      have hz : ¬ (9223372036854775807 : Int) < 1 + (s.length : Int) := by omega
      by_cases hk : 9 < k
      · have hk' : -(k : Int) < -9 := by omega
        have e1 : (-(k : Int)).tmod 10 = -((k : Int) % 10) := by rw [Int.neg_tmod, tmod_nat]
        have e2 : (-(k : Int)).tdiv 10 = -((k : Int) / 10) := by rw [Int.neg_tdiv, tdiv_nat]
        have e3 : IntKind.i64.wrap (48 - -((k : Int) % 10)) = 48 + (k : Int) % 10 := by rw [wrap_in (by omega) (by omega)]; omega
        have e3' : IntKind.i64.wrap (48 + (k : Int) % 10) = 48 + (k : Int) % 10 := wrap_in (by omega) (by omega)
        have e4 : IntKind.u8.wrap (48 + (k : Int) % 10) = 48 + (k : Int) % 10 := u8_in (by omega) (by omega)
        have e5 : IntKind.i64.wrap (-((k : Int) / 10)) = -((k : Int) / 10) := wrap_in (by omega) (by omega)
        have e6 : (48 + (k : Int) % 10).toNat = 48 + k % 10 := by omega
        simp (dsimp := false) (implicitDefEqProofs := false) [h3, h4, hk', e1, e3, e3', e4, convAV]
        rw [conv_b2s gl (by rfl)]
        simp (dsimp := false) (implicitDefEqProofs := false) [h3, h4, hk', e2, e5, e6, hz, bytesL_app]
        refine ⟨⟨k / 10, by omega, by omega, by omega, _, rfl, ?_⟩, by omega⟩
        rw [h5, digits_step hk]; simp
      · have hk' : ¬ -(k : Int) < -9 := by omega
        have e3 : IntKind.i64.wrap (48 - -(k : Int)) = 48 + (k : Int) := by rw [wrap_in (by omega) (by omega)]; omega
        have e3' : IntKind.i64.wrap (48 + (k : Int)) = 48 + (k : Int) := wrap_in (by omega) (by omega)
        have e4 : IntKind.u8.wrap (48 + (k : Int)) = 48 + (k : Int) := u8_in (by omega) (by omega)
        have e6 : (48 + (k : Int)).toNat = 48 + k := by omega
        have hd : (⟨#[45]⟩ : ByteArray) = bytesL [45] := rfl
        have hz2 : ¬ (9223372036854775807 : Int) < 2 + (s.length : Int) := by omega
        simp (dsimp := false) (implicitDefEqProofs := false) [h3, h4, hk', e3, e3', e4, convAV]
        rw [conv_b2s gl (by rfl)]
        simp (dsimp := false) (implicitDefEqProofs := false) [h3, h4, hk', e6, hz, hz2, hd, bytesL_app]
        rw [h5, digits_last (by omega)]; simp
end
end Go.Abs
end
section
/- Contracts: the texts of addresses. -/
set_option maxRecDepth 100000
set_option linter.unusedSimpArgs false
set_option linter.unusedVariables false
namespace Go.Abs
open Go.Proofs TryTypes

def nameWords : List ByteArray := [⟨#[98, 111, 111, 107]⟩, ⟨#[112, 97, 114, 116]⟩, ⟨#[115, 101, 99, 116, 105, 111, 110]⟩, ⟨#[112, 97, 114, 97, 103, 114, 97, 112, 104]⟩, ⟨#[116, 97, 98, 108, 101]⟩, ⟨#[114, 111, 119]⟩, ⟨#[99, 101, 108, 108]⟩, ⟨#[110, 111, 116, 101]⟩]
def nameParts : List (Nat × AV) := [(0, S ⟨#[98, 111, 111, 107]⟩), (1, S ⟨#[112, 97, 114, 116]⟩), (2, S ⟨#[115, 101, 99, 116, 105, 111, 110]⟩), (3, S ⟨#[112, 97, 114, 97, 103, 114, 97, 112, 104]⟩), (4, S ⟨#[116, 97, 98, 108, 101]⟩), (5, S ⟨#[114, 111, 119]⟩), (6, S ⟨#[99, 101, 108, 108]⟩), (7, S ⟨#[110, 111, 116, 101]⟩)]
theorem buildAV89 (ps : List (Nat × AV)) : buildAV Tryz.prog 89 ps = none := by
  have h : ∃ n e, Tryz.prog.underlying 89 = some (.array n e) := ⟨8, 9, by kernel_rfl⟩
  obtain ⟨n, e, h⟩ := h
  unfold buildAV
  rw [h]
  cases zeroCells? Tryz.prog 89 <;> rfl
theorem elem89 : elemOf? Tryz.prog 89 = none := by kernel_rfl
theorem arr89 : arrBuild Tryz.prog 89 nameParts = some (.agg (nameWords.map S)) := by kernel_rfl
theorem arrq89 : arr? Tryz.prog 89 = some (8, 9) := by kernel_rfl
section
variable (gl : Nat → AV) (M : Mem)
theorem ev_build89 {h : Hint} {d : Option Tmp} {ps : Array (Nat × Operand)} {t : TypeId} {p : String} {af : Array Edge} {g : Option (Nat × Bool)} {ρ : Operand → AV} {M : Mem} (hp : ps.toList.map (fun x => (x.1, ρ x.2)) = nameParts) :
    evalOp (WC gl) h ⟨d, .build 89 ps, t, p, af, g⟩ ρ M = some (.agg (nameWords.map S), M) := by
  have e : evalPure (WC gl) h ⟨d, .build 89 ps, t, p, af, g⟩ ρ = none := by
    show buildAV Tryz.prog 89 (ps.toList.map fun x => (x.1, ρ x.2)) = none
    exact buildAV89 _
  simp only [evalOp, e, evalMem, evalMore, evalPure1, WC_P, hp, arr89]
theorem ev_idx89 {h : Hint} {d : Option Tmp} {x i : Operand} {t : TypeId} {p : String} {af : Array Edge} {g : Option (Nat × Bool)} {ρ : Operand → AV} {M : Mem} {b : Nat} {k : Int} (hx : ρ x = .ptr b 0) (hi : ρ i = I k) (h0 : 0 ≤ k) (h1 : k < 8) :
    evalOp (WC gl) h ⟨d, .indexAddr 89 x i, t, p, af, g⟩ ρ M = some (.ptr b k.toNat, M) := by
  have e : evalPure (WC gl) h ⟨d, .indexAddr 89 x i, t, p, af, g⟩ ρ = none := by simp [evalPure, elem89]
  have h9 : szOf Tryz.prog 9 = some 1 := by simp
  simp [evalOp, e, evalMem, evalMore, evalPure1, arrq89, hx, hi, h0, h1]
theorem name_ok (k : Int) (h0 : 0 ≤ k) (h1 : k < 8) : ACalls (WC gl) 31 [I k] M (fun v M' => v = .tuple [S (nameWords.getD k.toNat ⟨#[]⟩), B true] ∧ Grow M M') := by
  refine w_body hB Tryz.func31 rfl rfl rfl rfl rfl rfl ?_
  simp (dsimp := false) (implicitDefEqProofs := false) [buildAV89]
  rw [ev_build89 gl (by rfl)]
  have c1 : ¬ k < 0 := by omega
  have c2 : ¬ 8 ≤ k := by omega
  simp (dsimp := false) (implicitDefEqProofs := false) [allocAV, storeAV, overwrite, nameWords, c1, c2, h0, h1, elem89, idxAV]
  rw [ev_idx89 gl (by rfl) (by rfl) h0 h1]
  have hk : k = 0 ∨ k = 1 ∨ k = 2 ∨ k = 3 ∨ k = 4 ∨ k = 5 ∨ k = 6 ∨ k = 7 := by omega
  have hM : (M ++ [AObj.cells 89 (nameWords.map S)])[M.length]? = some (AObj.cells 89 (nameWords.map S)) := by simp
  simp only [nameWords, List.map] at hM
  rcases hk with rfl | rfl | rfl | rfl | rfl | rfl | rfl | rfl <;> simp (dsimp := false) (implicitDefEqProofs := false) [loadAV_ptr hM] <;> exact ⟨rfl, .app _ _ _⟩
end
theorem pathOk_good {p : List Step} (h : pathOk p = true) : p.all goodStep = true := by
  cases p with
  | nil => rfl
  | cons s r =>
    simp only [pathOk, Bool.and_eq_true] at h
    simp only [List.all_cons, Bool.and_eq_true, goodStep]
    refine ⟨h.1, ?_⟩
    have h2 := h.2
    simp only [List.all_eq_true] at h2 ⊢
    exact fun x hx => by simp [goodStep, h2 x hx]
theorem labelOk_size {s : ByteArray} (h : labelOk s = true) : s.size ≤ 7 := by
  have hle := digitsN_le s
  simp only [labelOk, Bool.and_eq_true, decide_eq_true_eq] at h
  omega
theorem kindWords_size (n : Nat) : (kindWords.getD n ⟨#[]⟩).size ≤ 9 := by
  by_cases h : n < 8
  · have : ∀ n : Fin 8, (kindWords.getD n.val ⟨#[]⟩).size ≤ 9 := by decide +kernel
    exact this ⟨n, h⟩
  · have : kindWords[n]? = none := by
      rw [List.getElem?_eq_none_iff]
      have : kindWords.length = 8 := rfl
      omega
    simp [List.getD_eq_getElem?_getD, this, ByteArray.size]
theorem stepText_size {s : Step} (h : goodStep s = true) : (stepText s).size ≤ 18 := by
  unfold stepText
  split
  · decide
  · rename_i hb
    have hn : namedS s = true := by simpa [goodStep, hb] using h
    simp only [namedS, Bool.and_eq_true] at hn
    have h1 := labelOk_size hn.2
    have h2 := kindWords_size s.k.toNat
    have h3 : sp.size = 1 := rfl
    simp only [ByteArray.size_append]
    omega
theorem fold_size (r : List Step) : ∀ acc : ByteArray, r.all goodStep = true → (r.foldl (fun a t => a ++ sp ++ stepText t) acc).size ≤ acc.size + 20 * r.length := by
  induction r with
  | nil => intro acc _; simp
  | cons t r ih =>
    intro acc h
    simp only [List.all_cons, Bool.and_eq_true] at h
    have h1 := ih (acc ++ sp ++ stepText t) h.2
    have h2 := stepText_size h.1
    have h3 : sp.size = 1 := rfl
    simp only [ByteArray.size_append] at h1
    simp only [List.foldl_cons, List.length_cons]
    omega
theorem pathTxt_size {p : List Step} (h : p.all goodStep = true) : (pathTxt p).size ≤ 20 * p.length := by
  cases p with
  | nil => decide
  | cons s r =>
    simp only [List.all_cons, Bool.and_eq_true] at h
    have h1 := fold_size r (stepText s) h.2
    have h2 := stepText_size h.1
    simp only [pathTxt, List.length_cons]
    omega
/-- the appends' slices are arrays, the others data -/
def hF : Hint := ⟨fun _ => true, fun _ => false, fun d => d == 26 || d == 34⟩
@[simp] theorem hF_imm : hF.imm = fun _ => true := rfl
@[simp] theorem hF_own : hF.own = fun _ => false := rfl
@[simp] theorem hF_vec : hF.vec = fun d => d == 26 || d == 34 := rfl
section
variable (gl : Nat → AV) (M : Mem)
theorem Format_ok (p : List Step) (o : Own) (hlen : p.length ≤ 1000000) : ACalls (WC gl) 16 [.list 2 (rowsP p) o] M (fun v M' => v = S (addrText p) ∧ Grow M M') := by
  refine w_body hF Tryz.func16 rfl rfl rfl rfl rfl rfl ?_
  simp (dsimp := false) (implicitDefEqProofs := false)
  refine w_calls (inv_of Tryz.func30 rfl rfl (aValid_ok gl M p o hlen)) ?_
  rintro r M0 ⟨rfl, hg0⟩
  cases hv : (pathOk p && decide (p.length ≤ 9))
  · have ha : addrText p = ⟨#[]⟩ := by simp only [addrText, hv]; rfl
    simp (dsimp := false) (implicitDefEqProofs := false) [ha]
    exact hg0
  have ha : addrText p = pathTxt p := by simp only [addrText, hv]; rfl
  simp only [Bool.and_eq_true, decide_eq_true_eq] at hv
  have hgood := pathOk_good hv.1
  simp (dsimp := false) (implicitDefEqProofs := false)
  refine w_looped hF (fun T M1 => ∃ i : Nat, i ≤ p.length ∧ FreshS M0 (toldW (p.take i)) (T 3) M1 ∧ T 11 = .list 2 (rowsP p) o ∧ T 12 = I p.length ∧ T 13 = I i)
    (fun T M1 => match T 13 with | .val (.int _ i) => p.length - i.toNat | _ => 0) (by kernel_rfl) ?_ ?_
  · refine ⟨0, ?_⟩
    simp (dsimp := false) (implicitDefEqProofs := false) [FreshS, Own1, KeepsBut.refl, Later, toldW]
  · rintro T M1 ⟨i, h1, h2, h3, h4, h5⟩
    generalize hT3 : T 3 = out at h2
    by_cases hi : i < p.length
    · have hi' : (i : Int) < p.length := by omega
      have hw : IntKind.i64.wrap ((i : Int) + 1) = (i + 1 : Nat) := by rw [wrap_in (by omega) (by omega)]; omega
      have hM2 : (M1 ++ [AObj.cells 31 [I p[i].k, S p[i].lab]])[M1.length]? = some (.cells 31 [I p[i].k, S p[i].lab]) := by simp
      have hg := List.all_eq_true.1 hgood p[i] (List.getElem_mem hi)
      have hlen2 := toldW_len (p.take i)
      have hlen3 : (p.take i).length ≤ p.length := by simp; omega
      have hk : 0 ≤ p[i].k ∧ p[i].k < 8 := by
        simp only [goodStep, Bool.or_eq_true, isBookS, namedS, Bool.and_eq_true, decide_eq_true_eq] at hg
        omega
      simp (dsimp := false) (implicitDefEqProofs := false) [h3, h4, h5, hi, hi', Step.row, allocAV, storeAV, overwrite, loadAV_ptr hM2]
      refine w_calls (inv_of Tryz.func31 rfl rfl (name_ok gl _ p[i].k hk.1 hk.2)) ?_
      rintro r M2 ⟨rfl, hgr⟩
      have hM3 := hgr.get hM2 (by simp)
      have hf0 : FreshS M0 (toldW (p.take i)) out M2 := ⟨h2.1.keep ((KeepsBut.app none M1 _).trans hgr) (by simp), h2.2.1.trans ((KeepsBut.app none M1 _).trans hgr), h2.2.2⟩
      have hout : obj out ≠ some M1.length := fun e => by have := h2.1.lt e; omega
      simp (dsimp := false) (implicitDefEqProofs := false) [buildSliceAV, rowsGo, hT3]
      generalize hnm : nameWords[p[i].k.toNat]?.getD { data := #[] } = nm
      refine push (C := WC gl) (e := 9) elem53 src53 eok9 hf0.1 (news := [nm].map S) (m := 1) rfl rfl (by simp; omega) rfl ?_
      intro v' M' q1 q2 q3 _
      have hM4 := q2.get hM3 hout
      have hf := fresh_push (X := []) hf0 q1 (by simpa using q2) (by simpa using q3)
      simp (dsimp := false) (implicitDefEqProofs := false) [loadAV_ptr hM4]
      refine w_calls (inv_of Tryz.func32 rfl rfl (aBook_ok gl _ p[i])) ?_
      rintro r M5 ⟨rfl, rfl⟩
      cases hb : isBookS p[i]
      · have hn : namedS p[i] = true := by simpa [goodStep, hb] using hg
        simp only [namedS, Bool.and_eq_true, decide_eq_true_eq] at hn
        have hnk : nm = kindWords.getD p[i].k.toNat ⟨#[]⟩ := by
          rw [← hnm]
          have : p[i].k.toNat = 1 ∨ p[i].k.toNat = 2 ∨ p[i].k.toNat = 3 ∨ p[i].k.toNat = 4 ∨ p[i].k.toNat = 5 ∨ p[i].k.toNat = 6 ∨ p[i].k.toNat = 7 := by omega
          rcases this with h | h | h | h | h | h | h <;> rw [h] <;> rfl
        have hsw : stepWords p[i] = [nm, p[i].lab] := by simp only [stepWords, hb, hnk]; rfl
        simp (dsimp := false) (implicitDefEqProofs := false) [loadAV_ptr hM4, buildSliceAV, rowsGo]
        refine push (C := WC gl) (e := 9) elem53 src53 eok9 hf.1 (news := [p[i].lab].map S) (m := 1) rfl rfl (by simp; omega) rfl ?_
        intro v2 M6 r1 r2 r3 _
        have hf2 := fresh_push (X := []) hf r1 (by simpa using r2) (by simpa using r3)
        rw [List.append_assoc, List.singleton_append, ← hsw, ← toldW_succ hi] at hf2
        simp (dsimp := false) (implicitDefEqProofs := false) [h3, h4, h5, hw]
        exact ⟨⟨i + 1, by clear hw; omega, hf2, by simp⟩, by clear hw; omega⟩
      · have hb2 := hb
        simp only [isBookS, Bool.and_eq_true, decide_eq_true_eq] at hb2
        have hnk : nm = bookWord := by rw [← hnm, hb2.1]; rfl
        have hsw : stepWords p[i] = [nm] := by simp [stepWords, hb, hnk]
        rw [← hsw, ← toldW_succ hi] at hf
        simp (dsimp := false) (implicitDefEqProofs := false) [h3, h4, h5, hw]
        exact ⟨⟨i + 1, by clear hw; omega, hf, by simp⟩, by clear hw; omega⟩
    · have hi' : ¬ (i : Int) < p.length := by omega
      rw [List.take_of_length_le (by omega)] at h2
      have hj : joinB (toldW p) ⟨#[32]⟩ = pathTxt p := join_toldW p
      have hsz := pathTxt_size hgood
      have hjl : (Lib.join ((toldW p).map (·.data.toList)) (⟨#[32]⟩ : ByteArray).data.toList).length ≤ 140737488355328 := by
        have e : (joinB (toldW p) ⟨#[32]⟩).size = (pathTxt p).size := by rw [hj]
        rw [joinB, bytesL_size] at e
        omega
      have htl := toldW_len p
      simp (dsimp := false) (implicitDefEqProofs := false) [h3, h4, h5, hi', hT3]
      refine w_calls (inv_of Tryz.func33 rfl rfl (JoinV_ok gl M1 (toldW p) out h2.1 ⟨#[32]⟩ (by omega) hjl)) ?_
      rintro r M2 ⟨rfl, rfl⟩
      simp (dsimp := false) (implicitDefEqProofs := false) [hj, ha]
      exact hg0.trans h2.2.1
end
end Go.Abs
end
section
/- Contracts: the reference's text of an address. -/
set_option maxRecDepth 100000
set_option linter.unusedSimpArgs false
set_option linter.unusedVariables false
namespace Go.Abs
open Go.Proofs TryTypes

theorem empty_app (a : ByteArray) : (⟨#[]⟩ : ByteArray) ++ a = a := by
  refine bl_inj ?_
  rw [bl_app]; rfl
theorem nameWords_size (n : Nat) : (nameWords.getD n ⟨#[]⟩).size ≤ 9 := by
  by_cases h : n < 8
  · have : ∀ n : Fin 8, (nameWords.getD n.val ⟨#[]⟩).size ≤ 9 := by decide +kernel
    exact this ⟨n, h⟩
  · have : nameWords[n]? = none := by
      rw [List.getElem?_eq_none_iff]
      have : nameWords.length = 8 := rfl
      omega
    simp [List.getD_eq_getElem?_getD, this, ByteArray.size]
theorem ovf {a b : ByteArray} (h : a.size + b.size ≤ 1000000) : ¬ (9223372036854775807 : Int) < (a.size : Int) + (b.size : Int) := by omega
theorem sp_size : (⟨#[32]⟩ : ByteArray).size = 1 := rfl
section
variable (gl : Nat → AV) (M : Mem)
theorem rNames_ok : ACalls (WC gl) 23 [] M (fun v M' => v = .list 1 (rowsS nameWords) .full ∧ M' = M) := by
  refine w_body hB Tryz.func23 rfl rfl rfl rfl rfl rfl ?_
  simp (dsimp := false) (implicitDefEqProofs := false) [buildSliceAV, rowsGo, rowsS, nameWords]
theorem rText_ok (p : List Step) (o : Own) (hp : smallP p) : ACalls (WC gl) 10 [.list 2 (rowsP p) o] M (fun v M' => v = S (addrText p) ∧ M' = M) := by
  refine w_body hB Tryz.func10 rfl rfl rfl rfl rfl rfl ?_
  simp (dsimp := false) (implicitDefEqProofs := false)
  refine w_calls (inv_of Tryz.func22 rfl rfl (rMay_ok gl M p o hp)) ?_
  rintro r M0 ⟨rfl, rfl⟩
  cases hv : (pathOk p && decide (p.length ≤ 9))
  · have ha : addrText p = ⟨#[]⟩ := by simp only [addrText, hv]; rfl
    simp (dsimp := false) (implicitDefEqProofs := false) [ha]
  have ha : addrText p = pathTxt p := by simp only [addrText, hv]; rfl
  simp only [Bool.and_eq_true, decide_eq_true_eq] at hv
  have hgood := pathOk_good hv.1
  simp (dsimp := false) (implicitDefEqProofs := false)
  refine w_looped hB (fun T M1 => ∃ i : Nat, i ≤ p.length ∧ M1 = M0 ∧ T 0 = .list 2 (rowsP p) o ∧ T 4 = I i ∧ T 3 = S (pathTxt (p.take i)))
    (fun T M1 => match T 4 with | .val (.int _ i) => p.length - i.toNat | _ => 0) (by kernel_rfl) ?_ ?_
  · refine ⟨0, ?_⟩
    simp (dsimp := false) (implicitDefEqProofs := false) [pathTxt]
  · rintro T M1 ⟨i, h1, rfl, h3, h4, h5⟩
    by_cases hi : i < p.length
    · have hi' : (i : Int) < p.length := by omega
      have hw : IntKind.i64.wrap ((i : Int) + 1) = (i + 1 : Nat) := by rw [wrap_in (by omega) (by omega)]; omega
      have hg := List.all_eq_true.1 hgood p[i] (List.getElem_mem hi)
      have hk : 0 ≤ p[i].k ∧ p[i].k < 8 := by
        simp only [goodStep, Bool.or_eq_true, isBookS, namedS, Bool.and_eq_true, decide_eq_true_eq] at hg
        omega
      have hgt : (p.take i).all goodStep = true := List.all_eq_true.2 fun x hx => List.all_eq_true.1 hgood x (List.mem_of_mem_take hx)
      have hsz := pathTxt_size hgt
      have hsz2 : (pathTxt (p.take i)).size ≤ 180 := by
        have : (p.take i).length ≤ 9 := by simp; omega
        omega
      have hlk : nameWords.length = 8 := rfl
      obtain ⟨nm, hnm⟩ : ∃ nm, nm = nameWords.getD p[i].k.toNat ⟨#[]⟩ := ⟨_, rfl⟩
      have hkn : p[i].k.toNat < 8 := by omega
      have hnmz : nm.size ≤ 9 := by rw [hnm]; exact nameWords_size _
      have hkw : (rowsS nameWords)[p[i].k.toNat]?.getD [] = [S nm] := by
        have : p[i].k.toNat < nameWords.length := hkn
        rw [hnm]; simp [rowsS, this]
      have hkw2 : ∀ h : p[i].k.toNat < (rowsS nameWords).length, (rowsS nameWords)[p[i].k.toNat]'h = [S nm] := by
        intro h
        have : p[i].k.toNat < nameWords.length := hkn
        rw [hnm]; simp [rowsS, this]
      generalize hacc : pathTxt (p.take i) = acc at h5 hsz2
      by_cases hz : 0 < i
      · have hz' : (0 : Int) < i := by omega
        have hne : p.take i ≠ [] := by
          intro e
          have : (p.take i).length = 0 := by rw [e]; rfl
          simp at this
          rcases this with h | h
          · omega
          · subst h; simp at hi
        simp (dsimp := false) (implicitDefEqProofs := false) [h3, h4, h5, hi, hi', hz, hz']
        rw [if_neg (ovf (by have := sp_size; omega))]
        generalize hs1 : acc ++ ⟨#[32]⟩ = s1
        have hz1 : s1.size ≤ 200 := by rw [← hs1, ByteArray.size_append]; have := sp_size; omega
        simp (dsimp := false) (implicitDefEqProofs := false) [h3, h4]
        refine w_drawn hB (cfollows gl) (fun _ => 0) (fun _ => 0) (by rfl) (by kernel_rfl) ?_
        simp (dsimp := false) (implicitDefEqProofs := false)
        refine w_call0 (fun M => inv_of Tryz.func23 rfl rfl (rNames_ok gl M)) ?_
        simp (dsimp := false) (implicitDefEqProofs := false) [h3, h4, hi, hi', hk.1, hk.2, hkw, hkw2, hlk, Step.row]
        rw [if_neg (ovf (by omega))]
        generalize hs2 : s1 ++ nm = s2
        have hz2 : s2.size ≤ 250 := by rw [← hs2, ByteArray.size_append]; omega
        simp (dsimp := false) (implicitDefEqProofs := false) [h3, h4, hi, hi', Step.row]
        refine w_calls (inv_of Tryz.func24 rfl rfl (rBook_ok gl _ p[i])) ?_
        rintro r M5 ⟨rfl, rfl⟩
        cases hb : isBookS p[i]
        · have hn : namedS p[i] = true := by simpa [goodStep, hb] using hg
          simp only [namedS, Bool.and_eq_true, decide_eq_true_eq] at hn
          have hls := labelOk_size hn.2
          have hnk : nm = kindWords.getD p[i].k.toNat ⟨#[]⟩ := by
            rw [hnm]
            have : p[i].k.toNat = 1 ∨ p[i].k.toNat = 2 ∨ p[i].k.toNat = 3 ∨ p[i].k.toNat = 4 ∨ p[i].k.toNat = 5 ∨ p[i].k.toNat = 6 ∨ p[i].k.toNat = 7 := by omega
            rcases this with h | h | h | h | h | h | h <;> rw [h] <;> rfl
          have hst : stepText p[i] = nm ++ sp ++ p[i].lab := by simp only [stepText, hb, hnk]; rfl
          simp (dsimp := false) (implicitDefEqProofs := false) [h3, h4, hi, hi', Step.row]
          rw [if_neg (ovf (by have := sp_size; omega))]
          generalize hs3 : s2 ++ ⟨#[32]⟩ = s3
          have hz3 : s3.size ≤ 260 := by rw [← hs3, ByteArray.size_append]; have := sp_size; omega
          simp (dsimp := false) (implicitDefEqProofs := false) [h3, h4, hi, hi', Step.row]
          rw [if_neg (ovf (by omega))]
          have hnext : pathTxt (p.take (i + 1)) = s3 ++ p[i].lab := by
            rw [← hs3, ← hs2, ← hs1, List.take_succ_eq_append_getElem hi, pathTxt_snoc _ hne, hacc, hst]
            refine bl_inj ?_
            simp only [bl_app, List.append_assoc]; rfl
          simp (dsimp := false) (implicitDefEqProofs := false) [h3, h4, hw, hnext]
          exact ⟨⟨i + 1, by clear hw; omega, by simp, hnext.symm⟩, by clear hw; omega⟩
        · have hb2 := hb
          simp only [isBookS, Bool.and_eq_true, decide_eq_true_eq] at hb2
          have hnk : nm = bookWord := by rw [hnm, hb2.1]; rfl
          have hst : stepText p[i] = nm := by simp only [stepText, hb, hnk]; rfl
          have hnext : pathTxt (p.take (i + 1)) = s2 := by
            rw [← hs2, ← hs1, List.take_succ_eq_append_getElem hi, pathTxt_snoc _ hne, hacc, hst]; rfl
          simp (dsimp := false) (implicitDefEqProofs := false) [h3, h4, hw, hnext]
          exact ⟨⟨i + 1, by clear hw; omega, by simp, hnext.symm⟩, by clear hw; omega⟩
      · have hi0 : i = 0 := by omega
        subst hi0
        have hw1 : IntKind.i64.wrap 1 = 1 := rfl
        have hacc0 : p.take 0 = [] := rfl
        obtain ⟨s1, hs1⟩ : ∃ s1 : ByteArray, s1 = ⟨#[]⟩ := ⟨_, rfl⟩
        have hacc1 : acc = s1 := by rw [← hacc, hs1]; rfl
        have hz1 : s1.size ≤ 200 := by rw [hs1]; decide
        rw [hacc1] at h5
        simp (dsimp := false) (implicitDefEqProofs := false) [h3, h4, h5, hi, hi']
        refine w_drawn hB (cfollows gl) (fun _ => 0) (fun _ => 0) (by rfl) (by kernel_rfl) ?_
        simp (dsimp := false) (implicitDefEqProofs := false)
        refine w_call0 (fun M => inv_of Tryz.func23 rfl rfl (rNames_ok gl M)) ?_
        simp (dsimp := false) (implicitDefEqProofs := false) [h3, h4, h5, hi, hi', hk.1, hk.2, hkw, hkw2, hlk, Step.row]
        rw [if_neg (ovf (by omega))]
        generalize hs2 : s1 ++ nm = s2
        have hz2 : s2.size ≤ 250 := by rw [← hs2, ByteArray.size_append]; omega
        simp (dsimp := false) (implicitDefEqProofs := false) [h3, h4, h5, hi, hi', Step.row]
        refine w_calls (inv_of Tryz.func24 rfl rfl (rBook_ok gl _ p[0])) ?_
        rintro r M5 ⟨rfl, rfl⟩
        cases hb : isBookS p[0]
        · have hn : namedS p[0] = true := by simpa [goodStep, hb] using hg
          simp only [namedS, Bool.and_eq_true, decide_eq_true_eq] at hn
          have hls := labelOk_size hn.2
          have hnk : nm = kindWords.getD p[0].k.toNat ⟨#[]⟩ := by
            rw [hnm]
            have : p[0].k.toNat = 1 ∨ p[0].k.toNat = 2 ∨ p[0].k.toNat = 3 ∨ p[0].k.toNat = 4 ∨ p[0].k.toNat = 5 ∨ p[0].k.toNat = 6 ∨ p[0].k.toNat = 7 := by omega
            rcases this with h | h | h | h | h | h | h <;> rw [h] <;> rfl
          have hst : stepText p[0] = nm ++ sp ++ p[0].lab := by simp only [stepText, hb, hnk]; rfl
          simp (dsimp := false) (implicitDefEqProofs := false) [h3, h4, h5, hi, hi', Step.row]
          rw [if_neg (ovf (by have := sp_size; omega))]
          generalize hs3 : s2 ++ ⟨#[32]⟩ = s3
          have hz3 : s3.size ≤ 260 := by rw [← hs3, ByteArray.size_append]; have := sp_size; omega
          simp (dsimp := false) (implicitDefEqProofs := false) [h3, h4, h5, hi, hi', Step.row]
          rw [if_neg (ovf (by omega))]
          have hnext : pathTxt (p.take (0 + 1)) = s3 ++ p[0].lab := by
            rw [← hs3, ← hs2, List.take_succ_eq_append_getElem hi, hacc0]
            show stepText p[0] = _
            rw [hst, hs1, empty_app]; rfl
          simp (dsimp := false) (implicitDefEqProofs := false) [h3, h4, hw1, hnext]
          exact ⟨⟨1, by clear hw; omega, by simp, hnext.symm⟩, by clear hw; omega⟩
        · have hb2 := hb
          simp only [isBookS, Bool.and_eq_true, decide_eq_true_eq] at hb2
          have hnk : nm = bookWord := by rw [hnm, hb2.1]; rfl
          have hst : stepText p[0] = nm := by simp only [stepText, hb, hnk]; rfl
          have hnext : pathTxt (p.take (0 + 1)) = s2 := by
            rw [← hs2, List.take_succ_eq_append_getElem hi, hacc0]
            show stepText p[0] = _
            rw [hst, hs1, empty_app]
          simp (dsimp := false) (implicitDefEqProofs := false) [h3, h4, hw1, hnext]
          exact ⟨⟨1, by clear hw; omega, by simp, hnext.symm⟩, by clear hw; omega⟩
    · have hi' : ¬ (i : Int) < p.length := by omega
      rw [List.take_of_length_le (by omega)] at h5
      simp (dsimp := false) (implicitDefEqProofs := false) [h3, h4, h5, hi', ha]
end
end Go.Abs
end
