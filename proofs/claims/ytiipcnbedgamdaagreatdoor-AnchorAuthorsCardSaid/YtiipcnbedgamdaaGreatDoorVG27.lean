/- Contracts: the acts of a row of gazettes, each number once (the program's). -/
import Derived.Test.YtiipcnbedgamdaaGreatDoorVG25
import Derived.Test.YtiipcnbedgamdaaGreatDoorVG26
import Derived.Test.YtiipcnbedgamdaaGreatDoorVG24
set_option maxRecDepth 100000
set_option linter.unusedSimpArgs false
set_option linter.unusedVariables false
namespace Go.Abs
open Go.Proofs TryTypes

/-- variables as data; slices as data but for those of the slots named, which are arrays -/
def hQ (l : List Nat) : Hint := ⟨fun _ => true, fun _ => false, fun d => l.contains d⟩
@[simp] theorem hQ_imm {l : List Nat} : (hQ l).imm = fun _ => true := rfl
@[simp] theorem hQ_own {l : List Nat} : (hQ l).own = fun _ => false := rfl
@[simp] theorem hQ_vec {l : List Nat} : (hQ l).vec = fun d => l.contains d := rfl
/-- variables as objects, but for boxes -/
def hO (l : List Nat) : Hint := ⟨fun _ => false, fun _ => false, fun d => l.contains d⟩
@[simp] theorem hO_imm {l : List Nat} : (hO l).imm = fun _ => false := rfl
@[simp] theorem hO_own {l : List Nat} : (hO l).own = fun _ => false := rfl
@[simp] theorem hO_vec {l : List Nat} : (hO l).vec = fun d => l.contains d := rfl
abbrev B' (b : Bool) : AV := .val (.bool b)
theorem keyInt (t e : TypeId) (hkv : mapKV? Tryz.prog t = some (3, e)) : KeyOK Tryz.prog t 3 e I := by
  refine ⟨hkv, by kernel_rfl, fun k => ?_, fun a b => ?_, fun a => ⟨.int .i64 a, by simp [plainAV], ?_⟩⟩
  · simp [checkAV]
  · simp [eqAV]
    by_cases h1 : a = b
    · subst h1; simp
    · simp [h1]
  · simp [Instr.sameBits]
theorem grow_cutB {C : Ctx} {f : FuncId} {args : List AV} {M : Mem} {r : AV} (hb : ∀ n, bdd n r) (h : ACalls C f args M (fun v M' => v = r ∧ Grow M M')) : ACalls C f args M (fun v M' => v = r ∧ M' = M) := by
  refine h.cut ?_
  rintro _ M' ⟨rfl, hg⟩
  refine ⟨M'.drop M.length, ?_, hb _, rfl, rfl⟩
  have ht : M'.take M.length = M := by
    apply List.ext_getElem?
    intro i
    rw [List.getElem?_take]
    split
    · rename_i hi; exact hg.2 i hi (by simp)
    · rename_i hi; exact (List.getElem?_eq_none (by omega)).symm
  have := List.take_append_drop M.length M'
  rw [ht] at this
  exact this.symm
@[simp] theorem set_last (M : Mem) (X Y : AObj) : (M ++ [X]).set M.length Y = M ++ [Y] := by
  rw [List.set_append_right _ _ (Nat.le_refl _), Nat.sub_self]; rfl
@[simp] theorem get_last (M : Mem) (X : AObj) : (M ++ [X])[M.length]? = some X := by simp
@[simp] theorem load_last {P : Program} {t bt : TypeId} {cs : List AV} {M : Mem} {o : Nat} : loadAV P t (M ++ [.cells bt cs]) (.ptr M.length o) = if o ≤ cs.length then loadCells? P t (cs.drop o) else none := loadAV_ptr (get_last M _)
/-- all stays but the variable oo and the array that it holds -/
def Kp (oo : Nat) (v : AV) (M M' : Mem) : Prop := M.length ≤ M'.length ∧ ∀ i, i < M.length → i ≠ oo → obj v ≠ some i → M'[i]? = M[i]?
def tellF (oo : Nat) : AV := .func (.func 59) [] [.ptr oo 0]
section
variable (gl : Nat → AV)
theorem tell_ok (a : ActD) (again : Bool) (oo : Nat) (v : AV) (acc : List ActD) (M : Mem) (hM : M[oo]? = some (.cells 85 [v])) (hv : OwnR 84 7 ActD.row M v acc) (hl : acc.length ≤ 1000) :
    ACalls (WC gl) 59 [.agg a.row, B again, .ptr oo 0] M (fun _ M' => ∃ v', M'[oo]? = some (.cells 85 [v']) ∧ OwnR 84 7 ActD.row M' v' (if again then acc else acc ++ [a]) ∧ Kp oo v M M' ∧ (obj v' = obj v ∨ Later M.length v')) := by
  rw [ActD.row]
  refine w_body (hQ [10]) Tryz.func59 rfl rfl rfl rfl rfl rfl ?_
  have holt : oo < M.length := (List.getElem?_eq_some_iff.1 hM).1
  have hvo : ∀ f, obj v = some f → f ≠ oo := fun f hf e => by
    subst e
    rcases hv with ⟨rfl, _⟩ | ⟨f', g, hist, rfl, hm, _⟩
    · simp at hf
    · simp at hf; subst hf; rw [hM] at hm; simp at hm
  cases again with
  | true =>
    simp (dsimp := false) (implicitDefEqProofs := false)
    exact ⟨v, hM, hv, ⟨Nat.le_refl _, fun _ _ _ _ => rfl⟩, .inl rfl⟩
  | false =>
    simp (dsimp := false) (implicitDefEqProofs := false) [loadAV_ptr hM, buildSliceAV, rowsGo]
    refine pushR (C := WC gl) (enc := ActD.row) (e := 84) (sz := 7) (news := [a]) elem85 src85 eok84 (fun _ => rfl) hv (by simp [srcCells, ActD.row]) (by simp; omega) (by rfl) ?_
    intro v' M' h1 h2 h3 _
    have hM' : M'[oo]? = some (.cells 85 [v]) := h2.get hM (fun e => hvo _ e rfl)
    have hs : storeAV (some 1) M' (.ptr oo 0) v' = some (M'.set oo (.cells 85 [v'])) := by rw [storeAV_ptr hM', h1.store, h1.cells]; simp [overwrite]
    have holt' : oo < M'.length := (List.getElem?_eq_some_iff.1 hM').1
    have hv' : ∀ f, obj v' = some f → f ≠ oo := fun f hf e => by
      subst e
      rcases h3 with h3 | h3
      · exact hvo _ (by rw [← h3]; exact hf) rfl
      · have := h3 _ hf; omega
    simp (dsimp := false) (implicitDefEqProofs := false) [hs]
    refine ⟨v', by simp [holt'], h1.keep (o := some oo) (KeepsBut.set _ _ _) (fun f hf e => hv' f hf (by simpa using e.symm)), ⟨by have := h2.1; simpa using this, fun i hi hne hob => ?_⟩, h3⟩
    rw [List.getElem?_set_ne (by omega)]
    exact h2.2 i hi hob
/-- where every stands, the acts of row behind it -/
def EvI (oo b : Nat) (M0 : Mem) (row : List ActD) (M1 : Mem) : Prop := ∃ v mm, M1[oo]? = some (.cells 85 [v]) ∧ OwnR 84 7 ActD.row M1 v (firstA row) ∧ MapAt I B' M1 b mm ∧ (∀ n, getL mm n = if n ∈ row.map (·.number) then some true else none) ∧ M0.length ≤ M1.length ∧ (∀ i, i < M0.length → i ≠ oo → M1[i]? = M0[i]?) ∧ Later M0.length v
theorem EvI.grow {oo b : Nat} {M0 M1 : Mem} {row : List ActD} (h : EvI oo b M0 row M1) (X : Mem) : EvI oo b M0 row (M1 ++ X) := by
  obtain ⟨v, mm, h1, h2, h3, h4, h5, h6, h7⟩ := h
  refine ⟨v, mm, by rw [List.getElem?_append_left (List.getElem?_eq_some_iff.1 h1).1]; exact h1, h2.keep (KeepsBut.app none M1 X) (fun _ _ => by simp), h3.keep (KeepsBut.app none M1 X) (by simp), h4, by simp; omega, fun i hi hne => ?_, h7⟩
  rw [List.getElem?_append_left (by omega)]; exact h6 i hi hne
theorem every_ok (l : List GazD) (oo : Nat) (M : Mem) (hM : M[oo]? = some (.cells 85 [.val (.slice none 0 0)])) (hl : l.length ≤ 100) (hn : (l.flatMap GazD.acts).length ≤ 1000) :
    ACalls (WC gl) 58 [.list 4 (rowsG l) .no, .func (.func 59) [] [.ptr oo 0]] M (fun _ M' => EvI oo M.length M (l.flatMap GazD.acts) M') := by
  refine w_body (hQ []) Tryz.func58 rfl rfl rfl rfl rfl rfl ?_
  have holt : oo < M.length := (List.getElem?_eq_some_iff.1 hM).1
  have h0 : EvI oo M.length M [] (M ++ [.map [] 0]) := by
    refine ⟨.val (.slice none 0 0), [], by rw [List.getElem?_append_left holt]; exact hM, OwnR.nil, MapAt.new M, by simp [getL], by simp, fun i hi _ => by rw [List.getElem?_append_left hi], by intro f hf; simp at hf⟩
  simp (dsimp := false) (implicitDefEqProofs := false)
  refine w_looped (hQ []) (fun T M1 => ∃ i : Nat, i ≤ l.length ∧ T 1 = tellF oo ∧ T 4 = .mapr M.length ∧ T 10 = .list 4 (rowsG l) .no ∧ T 11 = I l.length ∧ T 12 = I i ∧ EvI oo M.length M ((l.take i).flatMap GazD.acts) M1) (fun T _ => match T 12 with | .val (.int _ i) => l.length - i.toNat | _ => 0) (by kernel_rfl) ?_ ?_
  · exact ⟨0, by omega, by simp [tellF], by simp, by simp, by simp, by simp, by simpa using h0⟩
  rintro T M1 ⟨i, i1, t1, t4, t10, t11, t12, hE⟩
  by_cases hi : i < l.length
  case neg =>
    have hi' : ¬ (i : Int) < l.length := by omega
    obtain rfl : i = l.length := by omega
    rw [List.take_length] at hE
    simp (dsimp := false) (implicitDefEqProofs := false) [t1, t4, t10, t11, t12, hi', hE]
  have hi' : (i : Int) < l.length := by omega
  have w1 := wadd1 (i := i) (by omega)
  have hfl : (l.take (i + 1)).flatMap GazD.acts = (l.take i).flatMap GazD.acts ++ l[i].acts := by
    rw [List.take_add_one, List.getElem?_eq_getElem hi, Option.toList_some, List.flatMap_append]; simp
  have hnl : ((l.take i).flatMap GazD.acts).length + l[i].acts.length ≤ 1000 := by
    have h1 : l.flatMap GazD.acts = (l.take (i + 1)).flatMap GazD.acts ++ (l.drop (i + 1)).flatMap GazD.acts := by rw [← List.flatMap_append, List.take_append_drop]
    rw [h1, hfl, List.length_append, List.length_append] at hn
    clear w1; omega
  generalize (l.take i).flatMap GazD.acts = row at *
  simp (dsimp := false) (implicitDefEqProofs := false) [t1, t4, t10, t11, t12, hi, hi', GazD.row, allocAV, storeAV, overwrite]
  refine w_cutE (.exit 2) (fun T M1 => T 1 = tellF oo ∧ T 4 = .mapr M.length ∧ T 10 = .list 4 (rowsG l) .no ∧ T 11 = I l.length ∧ T 12 = I i ∧ EvI oo M.length M (row ++ l[i].acts) M1) ?_ ?_
  · refine w_looped (hQ []) (fun T M1 => ∃ j : Nat, j ≤ l[i].acts.length ∧ T 1 = tellF oo ∧ T 4 = .mapr M.length ∧ T 10 = .list 4 (rowsG l) .no ∧ T 11 = I l.length ∧ T 12 = I i ∧ T 17 = .list 7 (rowsA l[i].acts) .no ∧ T 18 = I l[i].acts.length ∧ T 19 = I j ∧ EvI oo M.length M (row ++ l[i].acts.take j) M1) (fun T _ => match T 19 with | .val (.int _ j) => l[i].acts.length - j.toNat | _ => 0) (by kernel_rfl) ?_ ?_
    · exact ⟨0, by omega, by simp [t1], by simp [t4], by simp [t10], by simp [t11], by simp [t12], by simp, by simp, by simp, by simpa using hE.grow _⟩
    rintro T M2 ⟨j, j1, u1, u4, u10, u11, u12, u17, u18, u19, hE⟩
    by_cases hj : j < l[i].acts.length
    case neg =>
      have hj' : ¬ (j : Int) < l[i].acts.length := by omega
      obtain rfl : j = l[i].acts.length := by omega
      rw [List.take_length] at hE
      simp (dsimp := false) (implicitDefEqProofs := false) [u1, u4, u10, u11, u12, u17, u18, u19, hj', hE]
    have hj' : (j : Int) < l[i].acts.length := by omega
    have w2 := wadd1 (i := j) (by omega)
    have htk : l[i].acts.take (j + 1) = l[i].acts.take j ++ [l[i].acts[j]] := by rw [List.take_add_one, List.getElem?_eq_getElem hj, Option.toList_some]
    obtain ⟨a, ha⟩ : ∃ a, a = l[i].acts[j] := ⟨_, rfl⟩
    have hrl : (row ++ l[i].acts.take j).length ≤ 1000 := by rw [List.length_append, List.length_take]; clear w2 w1; omega
    rw [← ha] at htk
    obtain ⟨row2, hr2⟩ : ∃ r, r = row ++ l[i].acts.take j := ⟨_, rfl⟩
    rw [← hr2] at hE hrl
    have hE2 := hE.grow [.cells 84 a.row]
    rw [ActD.row] at hE2
    have hfin : row ++ l[i].acts.take (j + 1) = row2 ++ [a] := by rw [htk, hr2, List.append_assoc]
    clear hE htk
    have hb8 := get_last M2 (.cells 84 a.row)
    rw [ActD.row] at hb8
    have hlt8 : M.length ≤ M2.length := by obtain ⟨v, mm, h1, h2, h3, h4, h5, h6, h7⟩ := hE2; have := (List.getElem?_eq_some_iff.1 h1).1; have := h3.lt; simp at *; omega
    obtain ⟨b8, hb8e⟩ : ∃ b, b = M2.length := ⟨_, rfl⟩
    simp (dsimp := false) (implicitDefEqProofs := false) [u1, u4, u10, u11, u12, u17, u18, u19, hj, hj', ← ha, allocAV, storeAV, overwrite, ActD.row]
    rw [← hb8e] at hb8 hlt8
    rw [← hb8e]
    obtain ⟨M3, hM3⟩ : ∃ M3, M3 = M2 ++ [.cells 84 [I a.number, S a.title, I a.day, I a.start.k, I a.start.day, S a.start.ev, .list 25 (rowsI a.items) .no]] := ⟨_, rfl⟩
    rw [← hM3] at hE2 hb8
    rw [← hM3]
    clear hM3 hb8e
    obtain ⟨v, mm, h1, h2, h3, h4, h5, h6, h7⟩ := hE2
    have hlt3 := h3.lt
    have hbo : M.length ≠ oo := by omega
    have hbv : obj v ≠ some M.length := fun e => by
      rcases h2 with ⟨rfl, _⟩ | ⟨f', g, hist, rfl, hm, _⟩
      · simp at e
      · simp at e; subst e
        obtain ⟨es, c, q1, _⟩ := h3
        rw [q1] at hm; simp at hm
    have h8v : obj v ≠ some b8 := fun e => by
      rcases h2 with ⟨rfl, _⟩ | ⟨f', g, hist, rfl, hm, _⟩
      · simp at e
      · simp at e; subst e; rw [hb8] at hm; simp at hm
    obtain ⟨ag, hag⟩ : ∃ ag, ag = decide (a.number ∈ row2.map (·.number)) := ⟨_, rfl⟩
    have hlk : lookupAV Tryz.prog 173 M3 (.mapr M.length) (I a.number) false = some (B ag) := by
      rw [MapAt.get (P := Tryz.prog) (z := B false) (keyInt 173 4 (by kernel_rfl)) h3 a.number (by kernel_rfl) false, h4, hag]
      by_cases c : a.number ∈ row2.map (·.number)
      · simp only [if_pos c]; simp [c]
      · simp only [if_neg c]; simp [c]
    have htell := tell_ok gl a ag oo v (firstA row2) M3 h1 h2 (by have := firstA_len row2; omega)
    have hstep : (if ag = true then firstA row2 else firstA row2 ++ [a]) = firstA (row2 ++ [a]) := by
      rw [firstA_snoc, stepF, hag]
      by_cases c : a.number ∈ row2.map (·.number)
      · rw [if_pos (by simpa using c), if_pos ((firstA_nums _ _).2 c)]
      · rw [if_neg (by simpa using c), if_neg (fun h => c ((firstA_nums _ _).1 h))]
    rw [hstep, ActD.row] at htell
    simp (dsimp := false) (implicitDefEqProofs := false) [hlk, tellF]
    refine w_calls (inv_of Tryz.func59 rfl rfl htell) ?_
    rintro _ M4 ⟨v', k1, k2, k3, k4⟩
    have hb4 : M4[b8]? = some (.cells 84 [I a.number, S a.title, I a.day, I a.start.k, I a.start.day, S a.start.ev, .list 25 (rowsI a.items) .no]) := by
      rw [k3.2 b8 (List.getElem?_eq_some_iff.1 hb8).1 (by omega) h8v]; exact hb8
    have h3' : MapAt I B' M4 M.length mm := by
      obtain ⟨es, c, q1, q2⟩ := h3
      exact ⟨es, c, by rw [k3.2 _ hlt3 hbo hbv]; exact q1, q2⟩
    obtain ⟨M5, p1, p2, p3⟩ := MapAt.put (P := Tryz.prog) (keyInt 173 4 (by kernel_rfl)) h3' a.number true
    have hv'o : ∀ f, obj v' = some f → f ≠ M.length := fun f hf e => by
      subst e
      rcases k4 with e | e
      · exact hbv (by rw [← e]; exact hf)
      · have := e _ hf; omega
    simp (dsimp := false) (implicitDefEqProofs := false) [u1, u4, u10, u11, u12, u17, u18, u19, loadAV_ptr hb4, p1, w2]
    refine ⟨⟨j + 1, by clear w1 w2; omega, rfl, ?_⟩, by clear w1 w2; omega⟩
    rw [hfin]
    refine ⟨v', _, p3.get k1 (by simp; exact fun e => hbo e), k2.keep p3 (fun f hf e => hv'o f hf (by simpa using e.symm)), p2, fun n => ?_, ?_, fun q hq hne => ?_, fun f hf => ?_⟩
    · rw [getL_putL, h4]
      by_cases c : n = a.number
      · simp [c]
      · simp [c]
    · have := p3.1; have := k3.1; clear w1 w2; omega
    · rw [p3.2 q (by have := k3.1; clear w1 w2; omega) (by simp; omega), k3.2 q (by clear w1 w2; omega) hne (fun e => by have := h7 _ e; omega)]
      exact h6 q hq hne
    · rcases k4 with e | e
      · exact h7 f (by rw [← e]; exact hf)
      · have := e _ hf; clear w1 w2; omega
  · rintro T M2 ⟨u1, u4, u10, u11, u12, hE⟩
    simp (dsimp := false) (implicitDefEqProofs := false) [u1, u4, u10, u11, u12, t12, w1]
    exact ⟨⟨i + 1, by clear w1; omega, rfl, by rw [hfl]; exact hE⟩, by clear w1; omega⟩
end
end Go.Abs
