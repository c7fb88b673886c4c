/- The texts CyBase, CyS, CyA, CyB, CyC, CyD: what each proves stands at its head. -/
import Derived.Test.YtmpdkagfplajjaaGreatDoorVG13
import Derived.Test.YtmpdkagfplajjaaGreatDoorVG14
import Derived.Test.YtmpdkagfplajjaaGreatDoorVG18
import Derived.Test.YtmpdkagfplajjaaGreatDoorVG19
import Derived.Test.YtmpdkagfplajjaaGreatDoorVG07
section
/- The contexts in which the walks of Codify's seat run; its types. -/
set_option maxRecDepth 100000
namespace Go.Abs
open Go.Proofs

noncomputable def WC (gl : Nat → AV) : Ctx := ⟨Tryz.prog, gl, fun _ => none, fun _ => false⟩
@[simp] theorem WC_P (gl : Nat → AV) : (WC gl).P = Tryz.prog := rfl
@[simp] theorem WC_data (gl : Nat → AV) : (WC gl).data = fun _ => false := rfl
@[simp] theorem WC_gl (gl : Nat → AV) : (WC gl).gl = gl := rfl
/-- variables that are never written again are kept as data; slices as data -/
def hB : Hint := ⟨fun _ => true, fun _ => true, fun _ => false⟩
/-- variables as objects, slices as arrays -/
def hV : Hint := ⟨fun _ => false, fun _ => false, fun _ => true⟩
/-- variables as data, slices as arrays -/
def hW : Hint := ⟨fun _ => true, fun _ => false, fun _ => true⟩
@[simp] theorem hW_imm : hW.imm = fun _ => true := rfl
@[simp] theorem hW_own : hW.own = fun _ => false := rfl
@[simp] theorem hW_vec : hW.vec = fun _ => true := rfl
@[simp] theorem hB_imm : hB.imm = fun _ => true := rfl
@[simp] theorem hB_own : hB.own = fun _ => true := rfl
@[simp] theorem hB_vec : hB.vec = fun _ => false := rfl
@[simp] theorem hV_imm : hV.imm = fun _ => false := rfl
@[simp] theorem hV_own : hV.own = fun _ => false := rfl
@[simp] theorem hV_vec : hV.vec = fun _ => true := rfl
theorem cfollows (gl : Nat → AV) : (WC gl).P.follows .mixedOrders = true := by kernel_rfl
attribute [simp] Tryz.underlying22 Tryz.underlying23 Tryz.underlying24 Tryz.underlying25 Tryz.underlying26 Tryz.underlying27 Tryz.underlying28 Tryz.underlying31 Tryz.underlying68 Tryz.underlying69 Tryz.underlying85 Tryz.underlying92 Tryz.underlying93 Tryz.underlying94 Tryz.underlying96 Tryz.underlying130 Tryz.underlying150 Tryz.underlying152 Tryz.underlying242 Tryz.underlying245 Tryz.underlying247 Tryz.underlying248 Tryz.underlying249 Tryz.underlying278 Tryz.underlying321 Tryz.underlying3 Tryz.underlying4 Tryz.underlying5 Tryz.underlying9 Tryz.underlying21 Tryz.underlying37 Tryz.underlying38 Tryz.underlying39 Tryz.underlying40 Tryz.underlying110 Tryz.underlying113 Tryz.underlying114 Tryz.underlying116 Tryz.underlying159 Tryz.underlying178 Tryz.underlying215
attribute [simp] Env.of

def rowsS (l : List ByteArray) : List (List AV) := l.map fun s => [S s]
@[simp] theorem rowsS_len (l : List ByteArray) : (rowsS l).length = l.length := by simp [rowsS]

section
variable {P : Program} {t e : TypeId} {s : ByteArray} {k k2 : IntKind} {i j : Int}
@[simp] theorem slice2_str_lo (h : P.underlying t = some .string) : slice2 P t (.val (.string s)) (some (.val (.int k i))) none none = if 0 ≤ i ∧ i ≤ s.size then some (.val (.string (s.extract i.toNat s.size))) else none := by
  by_cases hc : 0 ≤ i ∧ i ≤ s.size
  · simp [slice2, sliceAV, h, sliceIdx, hc]
  · simp [slice2, sliceAV, h, sliceIdx, hc]
@[simp] theorem slice2_str_hi (h : P.underlying t = some .string) : slice2 P t (.val (.string s)) none (some (.val (.int k i))) none = if 0 ≤ i ∧ i ≤ s.size then some (.val (.string (s.extract 0 i.toNat))) else none := by
  by_cases hc : 0 ≤ i ∧ i ≤ s.size
  · simp [slice2, sliceAV, h, sliceIdx, hc]
  · simp [slice2, sliceAV, h, sliceIdx, hc]
variable {sz : Nat} {rows : List (List AV)} {own : Own}
@[simp] theorem slice2_list_lo (h : elemOf? P t = some e) (hs : szOf P e = some sz) : slice2 P t (.list sz rows own) (some (.val (.int k i))) none none = if 0 ≤ i ∧ i ≤ rows.length then some (.list sz (rows.drop i.toNat) (sliceOwn rows.length i.toNat rows.length none own)) else none := by
  by_cases hc : 0 ≤ i ∧ i ≤ rows.length
  · simp [slice2, sliceAV, sliceListAV, h, hs, sliceIdx, hc]
  · simp [slice2, sliceAV, sliceListAV, h, hs, sliceIdx, hc]
@[simp] theorem slice2_list_hi (h : elemOf? P t = some e) (hs : szOf P e = some sz) : slice2 P t (.list sz rows own) none (some (.val (.int k i))) none = if 0 ≤ i ∧ i ≤ rows.length then some (.list sz (rows.take i.toNat) (sliceOwn rows.length 0 i.toNat none own)) else none := by
  by_cases hc : 0 ≤ i ∧ i ≤ rows.length
  · simp [slice2, sliceAV, sliceListAV, h, hs, sliceIdx, hc]
  · simp [slice2, sliceAV, sliceListAV, h, hs, sliceIdx, hc]
@[simp] theorem slice2_list_both (h : elemOf? P t = some e) (hs : szOf P e = some sz) : slice2 P t (.list sz rows own) (some (.val (.int k i))) (some (.val (.int k2 j))) none = if 0 ≤ i ∧ i ≤ j ∧ j ≤ rows.length then some (.list sz ((rows.take j.toNat).drop i.toNat) (sliceOwn rows.length i.toNat j.toNat none own)) else none := by
  by_cases hj : 0 ≤ j ∧ j ≤ rows.length
  · by_cases hc : 0 ≤ i ∧ i ≤ (j.toNat : Int)
    · have : 0 ≤ i ∧ i ≤ j ∧ j ≤ rows.length := by omega
      simp [slice2, sliceAV, sliceListAV, h, hs, sliceIdx, hj, hc.1, show i ≤ max j 0 from by omega]; omega
    · have : ¬ (0 ≤ i ∧ i ≤ j ∧ j ≤ rows.length) := by omega
      rw [if_neg this]
      simp only [slice2, sliceAV, sliceListAV, h, hs, sliceIdx, Option.getD_none, if_pos hj, if_neg hc, Option.isSome_some, Bool.true_or, if_true]
  · have : ¬ (0 ≤ i ∧ i ≤ j ∧ j ≤ rows.length) := by omega
    simp only [slice2, sliceAV, sliceListAV, h, hs, sliceIdx, Option.getD_none, if_neg hj, if_neg this]
    simp
end
/-- a call that is entered -/
theorem inv_of {C : Ctx} {f : FuncId} {fn : Func} {c : Code} {args : List AV} {M : Mem} {Q : AV → Mem → Prop} (hf : C.P.funcs[f]? = some fn) (hb : fn.body = some c) (hn : (fn.name == "runtime.NumGoroutine") = false) (h : ACalls C f args M Q) : Invk C f args M Q :=
  .inl ⟨enters_of hf hb hn, h⟩

theorem wrap_in {n : Int} (h1 : -9223372036854775808 ≤ n) (h2 : n ≤ 9223372036854775807) : IntKind.i64.wrap n = n := IntWalk.i64_in _ ⟨h1, h2⟩
structure Step where
  k : Int
  lab : ByteArray
def Step.row (s : Step) : List AV := [I s.k, S s.lab]
abbrev pathV (p : List Step) : AV := .list 2 (p.map Step.row) .no
structure CiteD where
  k : Int
  path : List Step
  to : ByteArray
  frm : Int
  at_ : Int
def CiteD.row (c : CiteD) : List AV := [I c.k, pathV c.path, S c.to, I c.frm, I c.at_]
abbrev CiteD.v (c : CiteD) : AV := .agg c.row
end Go.Abs
end
section
/- Slices as arrays: what an append leaves; a region whose looks no writer turns. -/
set_option maxRecDepth 100000
set_option linter.unusedVariables false
namespace Go.Abs
open Go.Proofs

/-- a slice of one-celled elements that this run alone writes: nil, or the whole of an array -/
def Own1 (e : TypeId) (M : Mem) (v : AV) (cs : List AV) : Prop := (v = .val (.slice none 0 0) ∧ cs = []) ∨
  ∃ f g hist, v = .vref f g 1 0 cs.length ∧ M[f]? = some (.vec e 1 cs g hist) ∧ hist.lookup g = some cs.length
theorem Own1.lt {e : TypeId} {M : Mem} {v : AV} {cs : List AV} (h : Own1 e M v cs) {f : Nat} (hf : obj v = some f) : f < M.length := by
  rcases h with ⟨rfl, _⟩ | ⟨f', g, hist, rfl, hm, _⟩
  · simp at hf
  · simp at hf; subst hf; exact (List.getElem?_eq_some_iff.1 hm).1
theorem Own1.keep {e : TypeId} {M M' : Mem} {v : AV} {cs : List AV} (h : Own1 e M v cs) {o : Option Nat} (hk : KeepsBut o M M') (ho : ∀ f, obj v = some f → o ≠ some f) : Own1 e M' v cs := by
  rcases h with ⟨rfl, h⟩ | ⟨f', g, hist, rfl, hm, hl⟩
  · exact .inl ⟨rfl, h⟩
  · exact .inr ⟨f', g, hist, rfl, hk.get hm (ho _ rfl), hl⟩
theorem Own1.src {e : TypeId} {M : Mem} {v : AV} {cs : List AV} (h : Own1 e M v cs) : srcCells M 1 v = some (cs, cs.length) := by
  rcases h with ⟨rfl, rfl⟩ | ⟨f', g, hist, rfl, hm, hl⟩
  · rfl
  · simp [srcCells, hm, hl]
theorem Own1.store {e : TypeId} {M : Mem} {v : AV} {cs : List AV} (h : Own1 e M v cs) : v.storable = true := by
  rcases h with ⟨rfl, rfl⟩ | ⟨f', g, hist, rfl, hm, hl⟩ <;> rfl
theorem Own1.cells {e : TypeId} {M : Mem} {v : AV} {cs : List AV} (h : Own1 e M v cs) : v.cells = [v] := by
  rcases h with ⟨rfl, rfl⟩ | ⟨f', g, hist, rfl, hm, hl⟩ <;> rfl
theorem Own1.len {e : TypeId} {M : Mem} {v : AV} {cs : List AV} (h : Own1 e M v cs) {P : Program} {t : TypeId} (ht : P.underlying t = some (.slice e)) : lenAV P t v = some cs.length := by
  rcases h with ⟨rfl, rfl⟩ | ⟨f', g, hist, rfl, hm, hl⟩ <;> simp [lenAV, ht]
theorem lookup_le_filter {hist : List (Nat × Nat)} : ∀ g n (p : Nat × Nat → Bool), ((g, n) :: hist.filter p).lookup g = some n := by intro g n p; simp [List.lookup]

section
variable {C : Ctx} {M : Mem} {K : AV → Mem → Prop}
theorem push {own vec : Bool} {st xt e : TypeId} {bytes m : Nat} {s x : AV} {cs news : List AV} {tg : Tag K} (h1 : elemOf? C.P st = some e) (h2 : srcOk C.P xt) (h3 : elemOk C.P e 1 bytes) (ho : Own1 e M s cs)
    (hx : srcCells M 1 x = some (news, m)) (hm : news.length = m) (hb : (cs.length + m) * bytes ≤ 140737488355328) (hvec : vec = true)
    (hk : ∀ v' M', Own1 e M' v' (cs ++ news) → KeepsBut (obj s) M M' → (obj v' = obj s ∨ Later M.length v') → (news = [] → v' = s ∧ M' = M) → K v' M') : wAppend C own vec st xt s x M K tg := by
  subst hvec
  rcases ho with ⟨rfl, rfl⟩ | ⟨f, g, hist, rfl, hf, hl⟩
  · refine w_vappend h1 h2 h3 (by rfl) hx hb (by simp only [vappIn, hx]) ?_ rfl
    simp only [vappAV, hx]
    by_cases h0 : m = 0
    · rw [if_pos h0]
      have hn : news = [] := List.eq_nil_of_length_eq_zero (by omega)
      subst hn
      exact hk _ _ (.inl ⟨rfl, rfl⟩) (.refl _ _) (.inl rfl) fun _ => ⟨rfl, rfl⟩
    · rw [if_neg h0]
      refine hk _ _ (.inr ⟨M.length, 0, [(0, m)], by simp [hm], by simp, by simp [List.lookup, hm]⟩) (.app _ _ _) (.inr ?_) fun hn => by subst hn; simp at hm; omega
      intro f hf; simp at hf; omega
  · have hcs : srcCells M 1 (.vref f g 1 0 cs.length) = some (cs, cs.length) := Own1.src (.inr ⟨f, g, hist, rfl, hf, hl⟩)
    refine w_vappend h1 h2 h3 hcs hx hb ?_ ?_ rfl
    · simp only [vappIn, hx, hf, hl]
      by_cases h0 : 0 < m <;> simp <;> omega
    · simp only [vappAV, hx, hf, hl]
      rw [if_pos (by simp)]
      by_cases h0 : m = 0
      · rw [if_pos h0]
        have hn : news = [] := List.eq_nil_of_length_eq_zero (by omega)
        subst hn
        simp only [List.append_nil] at hk
        exact hk _ _ (.inr ⟨f, g, hist, rfl, hf, hl⟩) (.refl _ _) (.inl rfl) fun _ => ⟨rfl, rfl⟩
      · rw [if_neg h0]
        have hlen : f < M.length := (List.getElem?_eq_some_iff.1 hf).1
        refine hk _ _ (.inr ⟨f, g + 1, (g + 1, cs.length + m) :: hist.filter (fun p => decide (p.2 ≤ cs.length)), by simp [hm], by simp [hlen, List.take_of_length_le], by simp [List.lookup, hm]⟩) (.set _ _ _) (.inl rfl) fun hn => by subst hn; simp at hm; omega

end
end Go.Abs
end
section
/- Contracts of codify's small functions. -/
set_option maxRecDepth 100000
set_option linter.unusedSimpArgs false
namespace Go.Abs
open Go.Proofs

section
variable (gl : Nat → AV) (M : Mem)

theorem same_ok (a b : CiteD) : ACalls (WC gl) 61 [a.v, b.v] M (fun v M' => v = B (decide (a.frm = b.frm ∧ a.at_ = b.at_)) ∧ M' = M) := by
  refine w_body hB Tryz.func61 rfl rfl rfl rfl rfl rfl ?_
  by_cases h1 : a.frm = b.frm
  · simp (dsimp := false) (implicitDefEqProofs := false) [Env.of, CiteD.row, h1]
    by_cases h2 : a.at_ = b.at_ <;> simp [h2]
  · simp (dsimp := false) (implicitDefEqProofs := false) [Env.of, CiteD.row, h1]

/-- the mark at a word's end -/
def isMark (c : Int) : Bool := decide (c = 44) || decide (c = 59) || decide (c = 46) || decide (c = 58) || decide (c = 41)
def markOf (s : ByteArray) : ByteArray := if s.size = 0 then .empty else if isMark (byteAt s (s.size - 1)) then s.extract (s.size - 1) s.size else .empty
theorem ba_empty {s : ByteArray} : s = ⟨#[]⟩ ↔ s.size = 0 := by
  constructor
  · rintro rfl; rfl
  · intro h
    refine ba_inj ?_
    have : s.data.size = 0 := h
    simp [Array.eq_empty_of_size_eq_zero this]

theorem sign_ok (s : ByteArray) (hs : s.size ≤ maxLen) : ACalls (WC gl) 66 [S s] M (fun v M' => v = S (markOf s) ∧ M' = M) := by
  refine w_body hB Tryz.func66 rfl rfl rfl rfl rfl rfl ?_
  by_cases h0 : s.size = 0
  · have he : s = ⟨#[]⟩ := ba_empty.2 h0
    simp (dsimp := false) (implicitDefEqProofs := false) [Env.of, he]
    rfl
  · have he : ¬ s = ⟨#[]⟩ := fun h => h0 (ba_empty.1 h)
    have hw : IntKind.i64.wrap ((s.size : Int) - 1) = (s.size - 1 : Nat) := by
      rw [wrap_in (by omega) (by simp only [maxLen] at hs; omega)]; omega
    have hlt : s.size - 1 < s.size := by omega
    have hmk : markOf s = if isMark (byteAt s (s.size - 1)) then s.extract (s.size - 1) s.size else .empty := by rw [markOf, if_neg h0]
    generalize hc : byteAt s (s.size - 1) = c at hmk
    have hbad : isMark c = (decide (c = 44) || decide (c = 59) || decide (c = 46) || decide (c = 58) || decide (c = 41)) := rfl
    by_cases c1 : c = 44
    · have hm : markOf s = s.extract (s.size - 1) s.size := by rw [hmk, if_pos (by rw [hbad, c1]; rfl)]
      simp (dsimp := false) (implicitDefEqProofs := false) [Env.of, he, hw, hc, c1, hlt, hm]
    by_cases c2 : c = 59
    · have hm : markOf s = s.extract (s.size - 1) s.size := by rw [hmk, if_pos (by rw [hbad, c2]; rfl)]
      simp (dsimp := false) (implicitDefEqProofs := false) [Env.of, he, hw, hc, c2, hlt, hm]
    by_cases c3 : c = 46
    · have hm : markOf s = s.extract (s.size - 1) s.size := by rw [hmk, if_pos (by rw [hbad, c3]; rfl)]
      simp (dsimp := false) (implicitDefEqProofs := false) [Env.of, he, hw, hc, c3, hlt, hm]
    by_cases c4 : c = 58
    · have hm : markOf s = s.extract (s.size - 1) s.size := by rw [hmk, if_pos (by rw [hbad, c4]; rfl)]
      simp (dsimp := false) (implicitDefEqProofs := false) [Env.of, he, hw, hc, c4, hlt, hm]
    by_cases c5 : c = 41
    · have hm : markOf s = s.extract (s.size - 1) s.size := by rw [hmk, if_pos (by rw [hbad, c5]; rfl)]
      simp (dsimp := false) (implicitDefEqProofs := false) [Env.of, he, hw, hc, c5, hlt, hm]
    · have hm : markOf s = .empty := by rw [hmk, if_neg (by rw [hbad, decide_eq_false c1, decide_eq_false c2, decide_eq_false c3, decide_eq_false c4, decide_eq_false c5]; decide)]
      simp (dsimp := false) (implicitDefEqProofs := false) [Env.of, he, hw, hc, c1, c2, c3, c4, c5, hlt, hm]
      rfl
end
end Go.Abs
end
section
/- Contracts: slices.Clone, the string builder, mark. -/
set_option maxRecDepth 100000
set_option linter.unusedSimpArgs false
set_option linter.unusedVariables false
namespace Go.Abs
open Go.Proofs TryTypes

/-- a new slice of strings -/
def FreshS (M : Mem) (l : List ByteArray) (v : AV) (M' : Mem) : Prop := Own1 9 M' v (l.map S) ∧ KeepsBut none M M' ∧ Later M.length v
theorem rowsS_flat (l : List ByteArray) : (rowsS l).flatten = l.map S := by
  induction l with
  | nil => rfl
  | cons a l ih => simp only [rowsS, List.map_cons, List.flatten_cons] at ih ⊢; rw [ih]; rfl
theorem srcS (M : Mem) (l : List ByteArray) (o : Own) : srcCells M 1 (.list 1 (rowsS l) o) = some (l.map S, l.length) := by simp [srcCells, rowsS_flat]

@[simp] theorem vbuild37_0 {M : Mem} : vbuildAV Tryz.prog 37 0 [] M = some (.vref M.length 0 1 0 0, M ++ [.vec 9 1 [] 0 [(0, 0)]]) := by simp [vbuildAV, rowsGo]
theorem own_empty (M : Mem) : Own1 9 (M ++ [.vec 9 1 [] 0 [(0, 0)]]) (.vref M.length 0 1 0 0) [] := .inr ⟨M.length, 0, [(0, 0)], rfl, by simp, by simp [List.lookup]⟩
theorem fresh_of_app {M M' : Mem} {X : AObj} {v' : AV} {l : List ByteArray} (h1 : Own1 9 M' v' (l.map S)) (h2 : KeepsBut (some M.length) (M ++ [X]) M') (h3 : obj v' = some M.length ∨ Later (M ++ [X]).length v') : FreshS M l v' M' := by
  refine ⟨h1, ⟨by have := h2.1; simp at this; omega, fun i hi _ => ?_⟩, ?_⟩
  · rw [h2.2 i (by simp; omega) (by simp; omega), List.getElem?_append_left hi]
  · intro f hf
    rcases h3 with h | h
    · rw [h] at hf; simp at hf; omega
    · have := h f hf; simp at this; omega

section
variable (gl : Nat → AV) (M : Mem)
theorem clone_ok (l : List ByteArray) (o : Own) (hl : l.length * 16 ≤ 140737488355328) : ACalls (WC gl) 59 [.list 1 (rowsS l) o] M (FreshS M l) := by
  refine w_body hW Tryz.func59 rfl rfl rfl rfl rfl rfl ?_
  have tail : ∀ (K : AV → Mem → Prop) (tg : Tag K), (∀ v M', FreshS M l v M' → K v M') → wAppend (WC gl) (hintAt hW.own (some 7)) (hintAt hW.vec (some 7)) 37 37 (.vref M.length 0 1 0 0) (.list 1 (rowsS l) o) (M ++ [.vec 9 1 [] 0 [(0, 0)]]) K tg := by
    intro K tg hk
    refine push (C := WC gl) (e := 9) elem37 src37 eok9 (own_empty M) (srcS _ l o) (by simp) (by simp; omega) rfl ?_
    intro v' M' h1 h2 h3 _
    exact hk _ _ (fresh_of_app (by simpa using h1) h2 h3)
  cases l with
  | nil =>
    simp (dsimp := false) (implicitDefEqProofs := false) [rowsS]
    rw [wBin_list_nil (.inl rfl) Tryz.underlying37]
    intro b
    cases b
    · simp (dsimp := false) (implicitDefEqProofs := false)
      refine tail _ _ fun v M' h => ?_
      simp (dsimp := false) (implicitDefEqProofs := false)
      exact h
    · simp (dsimp := false) (implicitDefEqProofs := false) [FreshS, Own1, KeepsBut.refl, Later]
  | cons a l =>
    simp (dsimp := false) (implicitDefEqProofs := false) [rowsS]
    refine tail _ _ fun v M' h => ?_
    simp (dsimp := false) (implicitDefEqProofs := false)
    exact h
end
end Go.Abs
end
section
/- Contracts: the string builder, mark. -/
set_option maxRecDepth 100000
set_option linter.unusedSimpArgs false
set_option linter.unusedVariables false
namespace Go.Abs
open Go.Proofs TryTypes

section
variable (gl : Nat → AV) (M : Mem)
theorem conv_up {h : Hint} {d : Option Tmp} {x : Operand} {t : TypeId} {p : String} {af : Array Edge} {g : Option (Nat × Bool)} {ρ : Operand → AV} {M : Mem} {b : Nat} {a buf : AV} (hx : ρ x = .ptr b 0) (hM : M[b]? = some (.cells 116 [a, buf])) :
    evalOp (WC gl) h ⟨d, .convert 113 215 x, t, p, af, g⟩ ρ M = some (.ptr b 0, M) := by
  simp [evalOp, evalPure, evalMem, evalMore, evalPure1, evalX, hx, convAV, convU, hM, bytesAV]
theorem conv_down {h : Hint} {d : Option Tmp} {x : Operand} {t : TypeId} {p : String} {af : Array Edge} {g : Option (Nat × Bool)} {ρ : Operand → AV} {M : Mem} {b : Nat} {a buf : AV} (hx : ρ x = .ptr b 0) (hM : M[b]? = some (.cells 116 [a, buf])) :
    evalOp (WC gl) h ⟨d, .convert 215 113 x, t, p, af, g⟩ ρ M = some (.ptr b 0, M) := by
  simp [evalOp, evalPure, evalMem, evalMore, evalPure1, evalX, hx, convAV, convU, hM, bytesAV]
  kernel_rfl
@[simp] theorem convAV_ptr {P : Program} {a b : TypeId} {x o : Nat} : convAV P a b (.ptr x o) = none := by unfold convAV; split <;> simp_all
theorem List.set_eq_of_getElem? {α : Type} {l : List α} {i : Nat} {a : α} (h : l[i]? = some a) : l.set i a = l := by
  apply List.ext_getElem?
  intro j
  rw [List.getElem?_set]
  split
  · rename_i e; subst e; obtain ⟨h1, h2⟩ := List.getElem?_eq_some_iff.1 h; simp [h1, h2]
  · rfl
theorem same170 (M : Mem) (v : AV) : Invk (WC gl) 170 [v] M (fun r m => r = v ∧ m = M) := (xSame_ok (C := WC gl) Tryz.func170 rfl rfl (by kernel_rfl) (by kernel_rfl) [v] M v M [] rfl).1
@[simp] theorem wBin_pnil {P : Program} {t : TypeId} {op : BinOp} {y : AV} {f : AV → Prop} {tg : Tag f} : wBin P op t (.val (.pointer none)) y f tg = wSome (binAV P op t (.val (.pointer none)) y) f ⟨⟩ := binK_nil
@[simp] theorem binAV_pnil_eql {P : Program} {t e : TypeId} (h : P.underlying t = some (.pointer e)) : binAV P .eql t (.val (.pointer none)) (.val (.pointer none)) = some (.val (.bool true)) := by simp [binAV, binAV0, nilKind, h, sameKind, isNil]
theorem copyCheck_ok (b : Nat) (a buf : AV) (hM : M[b]? = some (.cells 116 [a, buf])) (ha : a = .val (.pointer none) ∨ a = .ptr b 0) :
    ACalls (WC gl) 118 [.ptr b 0] M (fun v M' => M' = M.set b (.cells 116 [.ptr b 0, buf])) := by
  refine w_body hB Tryz.func118 rfl rfl rfl rfl rfl rfl ?_
  rcases ha with rfl | rfl
  · simp (dsimp := false) (implicitDefEqProofs := false) [loadAV_ptr hM, storeAV_ptr hM]
    rw [conv_up gl (by rfl) hM]
    simp (dsimp := false) (implicitDefEqProofs := false)
    refine w_calls (same170 gl _ _) ?_
    rintro r M' ⟨rfl, rfl⟩
    simp (dsimp := false) (implicitDefEqProofs := false)
    rw [conv_down gl (by rfl) hM]
    have hlt : b < M'.length := (List.getElem?_eq_some_iff.1 hM).1
    simp (dsimp := false) (implicitDefEqProofs := false) [storeAV_ptr hM, overwrite, AV.storable, hlt, ptrEq]
  · simp (dsimp := false) (implicitDefEqProofs := false) [loadAV_ptr hM, storeAV_ptr hM, ptrEq]
    rw [List.set_eq_of_getElem? hM]

def bytesC (s : ByteArray) : List AV := s.data.toList.map fun b => .val (.int .u8 b.toNat)
@[simp] theorem bytesC_len (s : ByteArray) : (bytesC s).length = s.size := by simp [bytesC]
theorem bytesC_add (a b : ByteArray) : bytesC (a ++ b) = bytesC a ++ bytesC b := by simp [bytesC, ba_toList]
/-- a string builder whose objects are none of the first n -/
def Bld (n b : Nat) (M : Mem) (bs : ByteArray) : Prop := n ≤ b ∧ ∃ a buf, M[b]? = some (.cells 116 [a, buf]) ∧ (a = .val (.pointer none) ∨ a = .ptr b 0) ∧ Own1 5 M buf (bytesC bs) ∧ (∀ f, obj buf = some f → n ≤ f ∧ f ≠ b) ∧ (bs.size = 0 → buf = .val (.slice none 0 0))
def KeepsLow (n : Nat) (M M' : Mem) : Prop := M.length ≤ M'.length ∧ ∀ i, i < n → M'[i]? = M[i]?
theorem KeepsLow.refl (n : Nat) (M : Mem) : KeepsLow n M M := ⟨Nat.le_refl _, fun _ _ => rfl⟩
theorem KeepsLow.trans {n : Nat} {A B C : Mem} (h1 : KeepsLow n A B) (h2 : KeepsLow n B C) : KeepsLow n A C := ⟨Nat.le_trans h1.1 h2.1, fun i hi => (h2.2 i hi).trans (h1.2 i hi)⟩
theorem KeepsLow.get {n : Nat} {A B : Mem} (h : KeepsLow n A B) {i : Nat} (hi : i < n) {X : AObj} (hx : A[i]? = some X) : B[i]? = some X := by rw [h.2 i hi, hx]
theorem KeepsBut.low {o : Option Nat} {A B : Mem} (h : KeepsBut o A B) {n : Nat} (hn : n ≤ A.length) (ho : ∀ f, o = some f → n ≤ f) : KeepsLow n A B := ⟨h.1, fun i hi => h.2 i (by omega) fun e => by have := ho i e; omega⟩
theorem KeepsLow.set {n f : Nat} (M : Mem) (X : AObj) (h : n ≤ f) : KeepsLow n M (M.set f X) := ⟨by simp, fun i hi => by rw [List.getElem?_set_ne (by omega)]⟩

theorem write_ok (n b : Nat) (bs s : ByteArray) (h : Bld n b M bs) (hsz : bs.size + s.size ≤ 140737488355328) (hn : n ≤ M.length) :
    ACalls (WC gl) 62 [.ptr b 0, S s] M (fun v M' => Bld n b M' (bs ++ s) ∧ KeepsLow n M M') := by
  obtain ⟨hnb, a, buf, hM, ha, ho, hob, h0⟩ := h
  have hlt : b < M.length := (List.getElem?_eq_some_iff.1 hM).1
  refine w_body hW Tryz.func62 rfl rfl rfl rfl rfl rfl ?_
  simp (dsimp := false) (implicitDefEqProofs := false)
  refine w_calls (inv_of Tryz.func118 rfl rfl (copyCheck_ok gl M b a buf hM ha)) ?_
  rintro r M1 rfl
  have hM1 : (M.set b (.cells 116 [.ptr b 0, buf]))[b]? = some (.cells 116 [.ptr b 0, buf]) := by simp [hlt]
  simp (dsimp := false) (implicitDefEqProofs := false) [loadAV_ptr hM1]
  have ho1 : Own1 5 (M.set b (.cells 116 [.ptr b 0, buf])) buf (bytesC bs) := ho.keep (.set M b _) fun f hf => by have := (hob f hf).2; simp; omega
  refine push (C := WC gl) (e := 5) elem114 (.inr (by kernel_rfl)) eok5 ho1 (news := bytesC s) (m := s.size) rfl (by simp) (by simpa using hsz) rfl ?_
  intro v' M' p1 p2 p3 p4
  have hb2 : M'[b]? = some (.cells 116 [.ptr b 0, buf]) := p2.get hM1 fun e => (hob b e).2 rfl
  have h0' : bs.size + s.size = 0 → v' = .val (.slice none 0 0) := fun e => by
    have : bytesC s = [] := List.eq_nil_of_length_eq_zero (by rw [bytesC_len]; omega)
    rw [(p4 this).1]; exact h0 (by omega)
  have hob' : ∀ f, obj v' = some f → n ≤ f ∧ f ≠ b := by
    intro f hf
    rcases p3 with e | e
    · rw [e] at hf; exact hob f hf
    · have := e f hf; simp at this; omega
  have fin : ∀ (w : AV) (hw : w = v'), Bld n b (M'.set b (.cells 116 [.ptr b 0, w])) (bs ++ s) ∧ KeepsLow n M (M'.set b (.cells 116 [.ptr b 0, w])) := by
    intro w hw; subst hw
    have hlt' : b < M'.length := (List.getElem?_eq_some_iff.1 hb2).1
    refine ⟨⟨hnb, .ptr b 0, w, by simp [hlt'], .inr rfl, ?_, hob', by simpa using h0'⟩, ?_⟩
    · rw [bytesC_add]
      exact p1.keep (.set M' b _) fun f hf => by have := (hob' f hf).2; simp; omega
    · refine ((KeepsLow.set M _ hnb).trans (p2.low (by simp; exact hn) fun f hf => (hob f hf).1)).trans (.set M' _ hnb)
  rcases p1 with ⟨e, _⟩ | ⟨f, g, hist, e, _, _⟩
  · rw [e] at fin ⊢
    simp (dsimp := false) (implicitDefEqProofs := false) [storeAV_ptr hb2, overwrite]
    exact fin _ rfl
  · rw [e] at fin ⊢
    simp (dsimp := false) (implicitDefEqProofs := false) [storeAV_ptr hb2, overwrite]
    exact fin _ (by simp)

theorem bytes_map : ∀ l : List UInt8, bytes? (l.map fun b => AV.val (.int .u8 b.toNat)) = some l
  | [] => rfl
  | a :: l => by
    have := a.toNat_lt
    simp only [List.map_cons, bytes?]
    rw [if_pos ⟨by omega, by omega⟩, bytes_map l]
    simp
theorem bytes_C (s : ByteArray) : bytes? (bytesC s) = some s.data.toList := bytes_map _
theorem string_ok (n b : Nat) (bs : ByteArray) (h : Bld n b M bs) (hsz : bs.size ≤ 140737488355328) (hn : n ≤ M.length) :
    ACalls (WC gl) 64 [.ptr b 0] M (fun v M' => v = S bs ∧ KeepsLow n M M') := by
  obtain ⟨hnb, a, buf, hM, ha, ho, hob, h0⟩ := h
  have hlt : b < M.length := (List.getElem?_eq_some_iff.1 hM).1
  refine w_body hW Tryz.func64 rfl rfl rfl rfl rfl rfl ?_
  rcases ho with ⟨rfl, he⟩ | ⟨f, g, hist, rfl, hf, hl⟩
  · have hs : bs.size = 0 := by have := congrArg List.length he; simpa using this
    have he : bs = ⟨#[]⟩ := ba_empty.2 hs
    simp (dsimp := false) (implicitDefEqProofs := false)
    refine w_drawnQ hW (cfollows gl) (fun k => if k = 3 ∨ k = 8 then 1 else if k = 4 ∨ k = 10 then 2 else 0) b (by rfl) (by kernel_rfl) ?_
    simp (dsimp := false) (implicitDefEqProofs := false) [loadAV_ptr hM, sliceDataAV, unsafeStrAV, he, KeepsLow.refl]
    rfl
  · have hs : bs.size ≠ 0 := fun e => by have := h0 e; simp at this
    have hfb := hob f rfl
    simp (dsimp := false) (implicitDefEqProofs := false)
    refine w_drawnQ hW (cfollows gl) (fun k => if k = 3 ∨ k = 8 then 1 else if k = 4 ∨ k = 10 then 2 else 0) b (by rfl) (by kernel_rfl) ?_
    have hne : ¬ bs = ByteArray.empty := fun e => hs (by rw [e]; rfl)
    have hpos : 0 < bs.size := by omega
    have hc5 : Tryz.prog.cellsOf 5 = 1 := by kernel_rfl
    have hle : (bs.size : Int) ≤ 9223372036854775807 := by omega
    have htk : List.take bs.size (bytesC bs) = bytesC bs := List.take_of_length_le (by simp)
    have hbf : ¬ f = b := hfb.2
    have hbk : (⟨bs.data.toList.toArray⟩ : ByteArray) = bs := by simp
    have hlow : KeepsLow n M (M.set f .gone) := .set M _ hfb.1
    simp (dsimp := false) (implicitDefEqProofs := false) [loadAV_ptr hM, sliceDataAV, unsafeStrAV, hf, hl, hne, hpos, hc5, hle, htk, bytes_C, hbf, hbk, hlow]
end
end Go.Abs
end
section
/- Contracts: mark. -/
set_option maxRecDepth 100000
set_option linter.unusedSimpArgs false
set_option linter.unusedVariables false
namespace Go.Abs
open Go.Proofs TryTypes

section
variable (gl : Nat → AV) (M : Mem)
def signsB : ByteArray := ⟨#[44, 59, 46, 58, 41]⟩
def signAt (c : Int) : Int := if c = 44 then 0 else if c = 59 then 1 else if c = 46 then 2 else if c = 58 then 3 else if c = 41 then 4 else -1
theorem signAt_mark (c : Int) : decide (0 ≤ signAt c) = isMark c := by
  unfold signAt isMark
  by_cases h1 : c = 44
  · simp [h1]
  by_cases h2 : c = 59
  · simp [h2]
  by_cases h3 : c = 46
  · simp [h3]
  by_cases h4 : c = 58
  · simp [h4]
  by_cases h5 : c = 41
  · simp [h5]
  simp [h1, h2, h3, h4, h5]
theorem find_sign (c : UInt8) : (match (List.range signsB.size).find? fun i => signsB[i]! == c with
    | some i => goInt i
    | none => goInt (-1)) = .int .i64 (signAt (c.toNat : Int)) := by
  have key : ∀ n : Fin 256, (match (List.range signsB.size).find? fun i => signsB[i]! == UInt8.ofNat n.val with
    | some i => (i : Int)
    | none => -1) = signAt (n.val : Int) := by decide +kernel
  have k := key ⟨c.toNat, c.toNat_lt⟩
  simp only [UInt8.ofNat_toNat] at k
  rw [← k]
  cases (List.range signsB.size).find? fun i => signsB[i]! == c <;> rfl
theorem index344 (c : UInt8) : Invk (WC gl) 344 [S signsB, .val (.int .u8 c.toNat)] M (fun r m => r = I (signAt c.toNat) ∧ m = M) := by
  refine (xIndexByte_ok (C := WC gl) Tryz.func344 rfl rfl (by kernel_rfl) (by kernel_rfl) [S signsB, .val (.int .u8 c.toNat)] M _ M [] rfl).1.mono ?_
  rintro r m ⟨rfl, rfl⟩
  refine ⟨?_, rfl⟩
  have := find_sign c
  simp only [Int.toNat_natCast, Nat.toUInt8_eq, UInt8.ofNat_toNat]
  exact congrArg AV.val this
theorem index271 (c : UInt8) : ACalls (WC gl) 271 [S signsB, .val (.int .u8 c.toNat)] M (fun r m => r = I (signAt c.toNat) ∧ m = M) := by
  refine w_body hB Tryz.func271 rfl rfl rfl rfl rfl rfl ?_
  simp (dsimp := false) (implicitDefEqProofs := false)
  refine w_calls (index344 gl M c) ?_
  rintro r m ⟨rfl, rfl⟩
  simp (dsimp := false) (implicitDefEqProofs := false)
theorem index220 (t : ByteArray) (ht : t.size = 1) : ACalls (WC gl) 220 [S signsB, S t] M (fun r m => r = I (signAt (byteAt t 0)) ∧ m = M) := by
  refine w_body hB Tryz.func220 rfl rfl rfl rfl rfl rfl ?_
  have hne : ¬ t = signsB := fun e => by rw [e] at ht; revert ht; decide
  simp (dsimp := false) (implicitDefEqProofs := false) [ht, hne]
  refine w_calls (inv_of Tryz.func271 rfl rfl (index271 gl M (t.data.getD 0 0))) ?_
  rintro r m ⟨rfl, rfl⟩
  simp (dsimp := false) (implicitDefEqProofs := false) [byteAt]
theorem index171 (t : ByteArray) (ht : t.size = 1) : ACalls (WC gl) 171 [S signsB, S t] M (fun r m => r = I (signAt (byteAt t 0)) ∧ m = M) := by
  refine w_body hB Tryz.func171 rfl rfl rfl rfl rfl rfl ?_
  simp (dsimp := false) (implicitDefEqProofs := false)
  refine w_calls (inv_of Tryz.func220 rfl rfl (index220 gl M t ht)) ?_
  rintro r m ⟨rfl, rfl⟩
  simp (dsimp := false) (implicitDefEqProofs := false)
theorem contains119 (t : ByteArray) (ht : t.size = 1) : ACalls (WC gl) 119 [S signsB, S t] M (fun r m => r = B (isMark (byteAt t 0)) ∧ m = M) := by
  refine w_body hB Tryz.func119 rfl rfl rfl rfl rfl rfl ?_
  simp (dsimp := false) (implicitDefEqProofs := false)
  refine w_calls (inv_of Tryz.func171 rfl rfl (index171 gl M t ht)) ?_
  rintro r m ⟨rfl, rfl⟩
  simp (dsimp := false) (implicitDefEqProofs := false) [← signAt_mark]
theorem byteAt_extract {s : ByteArray} {i j k : Nat} (h : i + k < j) (hj : j ≤ s.size) : byteAt (s.extract i j) k = byteAt s (i + k) := by
  have h1 : k < (s.extract i j).size := by simp; omega
  have h2 : i + k < s.size := by omega
  have e : (s.extract i j)[k] = s[i + k] := ByteArray.getElem_extract h1
  have g : ∀ (t : ByteArray) (n : Nat) (h : n < t.size), byteAt t n = (t[n].toNat : Int) := by
    intro t n h
    have h' : n < t.data.size := h
    simp only [byteAt, Array.getD_eq_getD_getElem?, Array.getElem?_eq_getElem h', Option.getD_some]
    rfl
  rw [g _ _ h1, g _ _ h2, e]
theorem mark_ok (s : ByteArray) (hs : s.size ≤ maxLen) : ACalls (WC gl) 63 [S s] M (fun v M' => v = S (markOf s) ∧ M' = M) := by
  refine w_body hB Tryz.func63 rfl rfl rfl rfl rfl rfl ?_
  by_cases h0 : s.size = 0
  · have he : s = ⟨#[]⟩ := ba_empty.2 h0
    simp (dsimp := false) (implicitDefEqProofs := false) [he]
    rfl
  · have he : ¬ s = ⟨#[]⟩ := fun h => h0 (ba_empty.1 h)
    have hw : IntKind.i64.wrap ((s.size : Int) - 1) = (s.size - 1 : Nat) := by
      rw [wrap_in (by omega) (by simp only [maxLen] at hs; omega)]; omega
    have hlt : s.size - 1 < s.size := by omega
    have hle : s.size - 1 ≤ s.size := by omega
    have hmk : markOf s = if isMark (byteAt s (s.size - 1)) then s.extract (s.size - 1) s.size else .empty := by rw [markOf, if_neg h0]
    have hby : byteAt (s.extract (s.size - 1) s.size) 0 = byteAt s (s.size - 1) := byteAt_extract (by omega) (by omega)
    simp (dsimp := false) (implicitDefEqProofs := false) [he, hw, hlt]
    refine w_calls (inv_of Tryz.func119 rfl rfl (contains119 gl M (s.extract (s.size - 1) s.size) (by simp; omega))) ?_
    rintro r m ⟨rfl, rfl⟩
    rw [hby]
    cases hb : isMark (byteAt s (s.size - 1))
    · rw [hb] at hmk
      simp (dsimp := false) (implicitDefEqProofs := false) [hmk]
      rfl
    · rw [hb] at hmk
      simp (dsimp := false) (implicitDefEqProofs := false) [hw, hmk, hlt]
end
end Go.Abs
end
