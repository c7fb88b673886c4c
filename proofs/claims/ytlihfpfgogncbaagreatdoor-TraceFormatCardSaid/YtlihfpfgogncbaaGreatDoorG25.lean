/- The texts TrBase, TrS: what each proves stands at its head. -/
import Derived.Test.YtlihfpfgogncbaaGreatDoorG23
import Derived.Test.YtlihfpfgogncbaaGreatDoorG24
import Derived.Lib.ItoaNum
section
/- The contexts in which the walks of the seat run; its types. -/
set_option maxRecDepth 100000
namespace Go.Abs
open Go.Proofs

/-- the variable whose whole memory is known: the powers of ten -/
def tabT : Nat → Option (Array Value)
  | 0 => some (Lib.pow10Tab.map fun z => Value.int .u64 z).toArray
  | _ => none
/-- gazettes' acts and acts' items are made as data -/
def dataT (t : TypeId) : Bool := decide (t = 54) || decide (t = 35)
@[simp] theorem dataT_eq (t : TypeId) : dataT t = (decide (t = 54) || decide (t = 35)) := rfl
noncomputable def WC (gl : Nat → AV) : Ctx := ⟨Tryz.prog, gl, tabT, dataT⟩
@[simp] theorem WC_data (gl : Nat → AV) : (WC gl).data = dataT := rfl
@[simp] theorem WC_P (gl : Nat → AV) : (WC gl).P = Tryz.prog := rfl
@[simp] theorem WC_gl (gl : Nat → AV) : (WC gl).gl = gl := rfl
/-- variables that are never written again are kept as data; slices as data -/
def hB : Hint := ⟨fun _ => true, fun _ => true, fun _ => false⟩
/-- variables as objects, slices as arrays -/
def hV : Hint := ⟨fun _ => false, fun _ => false, fun _ => true⟩
@[simp] theorem hB_imm : hB.imm = fun _ => true := rfl
@[simp] theorem hB_own : hB.own = fun _ => true := rfl
@[simp] theorem hB_vec : hB.vec = fun _ => false := rfl
@[simp] theorem hV_imm : hV.imm = fun _ => false := rfl
@[simp] theorem hV_own : hV.own = fun _ => false := rfl
@[simp] theorem hV_vec : hV.vec = fun _ => true := rfl
theorem cfollows (gl : Nat → AV) : (WC gl).P.follows .mixedOrders = true := by kernel_rfl
attribute [simp] Tryz.underlying3 Tryz.underlying4 Tryz.underlying5 Tryz.underlying9 Tryz.underlying21 Tryz.underlying53 Tryz.underlying24 Tryz.underlying90 Tryz.underlying64 Tryz.underlying92 Tryz.underlying31 Tryz.underlying28 Tryz.underlying26 Tryz.underlying23 Tryz.underlying40 Tryz.underlying32 Tryz.underlying117 Tryz.underlying149
attribute [simp] Env.of

abbrev I (n : Int) : AV := .val (.int .i64 n)
abbrev B (b : Bool) : AV := .val (.bool b)
abbrev S (s : ByteArray) : AV := .val (.string s)
def rowsS (l : List ByteArray) : List (List AV) := l.map fun s => [S s]
@[simp] theorem rowsS_len (l : List ByteArray) : (rowsS l).length = l.length := by simp [rowsS]

section
variable {P : Program} {t e : TypeId} {s : ByteArray} {k k2 : IntKind} {i j : Int}
@[simp] theorem slice2_str_lo (h : P.underlying t = some .string) : slice2 P t (.val (.string s)) (some (.val (.int k i))) none none = if 0 ≤ i ∧ i ≤ s.size then some (.val (.string (s.extract i.toNat s.size))) else none := by
  by_cases hc : 0 ≤ i ∧ i ≤ s.size
  · simp [slice2, sliceAV, h, sliceIdx, hc]
  · simp [slice2, sliceAV, h, sliceIdx, hc]
@[simp] theorem slice2_str_hi (h : P.underlying t = some .string) : slice2 P t (.val (.string s)) none (some (.val (.int k i))) none = if 0 ≤ i ∧ i ≤ s.size then some (.val (.string (s.extract 0 i.toNat))) else none := by
  by_cases hc : 0 ≤ i ∧ i ≤ s.size
  · simp [slice2, sliceAV, h, sliceIdx, hc]
  · simp [slice2, sliceAV, h, sliceIdx, hc]
variable {sz : Nat} {rows : List (List AV)} {own : Own}
@[simp] theorem slice2_list_lo (h : elemOf? P t = some e) (hs : szOf P e = some sz) : slice2 P t (.list sz rows own) (some (.val (.int k i))) none none = if 0 ≤ i ∧ i ≤ rows.length then some (.list sz (rows.drop i.toNat) (sliceOwn rows.length i.toNat rows.length none own)) else none := by
  by_cases hc : 0 ≤ i ∧ i ≤ rows.length
  · simp [slice2, sliceAV, sliceListAV, h, hs, sliceIdx, hc]
  · simp [slice2, sliceAV, sliceListAV, h, hs, sliceIdx, hc]
@[simp] theorem slice2_list_hi (h : elemOf? P t = some e) (hs : szOf P e = some sz) : slice2 P t (.list sz rows own) none (some (.val (.int k i))) none = if 0 ≤ i ∧ i ≤ rows.length then some (.list sz (rows.take i.toNat) (sliceOwn rows.length 0 i.toNat none own)) else none := by
  by_cases hc : 0 ≤ i ∧ i ≤ rows.length
  · simp [slice2, sliceAV, sliceListAV, h, hs, sliceIdx, hc]
  · simp [slice2, sliceAV, sliceListAV, h, hs, sliceIdx, hc]
@[simp] theorem slice2_list_both (h : elemOf? P t = some e) (hs : szOf P e = some sz) : slice2 P t (.list sz rows own) (some (.val (.int k i))) (some (.val (.int k2 j))) none = if 0 ≤ i ∧ i ≤ j ∧ j ≤ rows.length then some (.list sz ((rows.take j.toNat).drop i.toNat) (sliceOwn rows.length i.toNat j.toNat none own)) else none := by
  by_cases hj : 0 ≤ j ∧ j ≤ rows.length
  · by_cases hc : 0 ≤ i ∧ i ≤ (j.toNat : Int)
    · have : 0 ≤ i ∧ i ≤ j ∧ j ≤ rows.length := by omega
      simp [slice2, sliceAV, sliceListAV, h, hs, sliceIdx, hj, hc.1, show i ≤ max j 0 from by omega]; omega
    · have : ¬ (0 ≤ i ∧ i ≤ j ∧ j ≤ rows.length) := by omega
      rw [if_neg this]
      simp only [slice2, sliceAV, sliceListAV, h, hs, sliceIdx, Option.getD_none, if_pos hj, if_neg hc, Option.isSome_some, Bool.true_or, if_true]
  · have : ¬ (0 ≤ i ∧ i ≤ j ∧ j ≤ rows.length) := by omega
    simp only [slice2, sliceAV, sliceListAV, h, hs, sliceIdx, Option.getD_none, if_neg hj, if_neg this]
    simp
end
/-- a call that is entered -/
theorem inv_of {C : Ctx} {f : FuncId} {fn : Func} {c : Code} {args : List AV} {M : Mem} {Q : AV → Mem → Prop} (hf : C.P.funcs[f]? = some fn) (hb : fn.body = some c) (hn : (fn.name == "runtime.NumGoroutine") = false) (h : ACalls C f args M Q) : Invk C f args M Q :=
  .inl ⟨enters_of hf hb hn, h⟩

structure Step where
  k : Int
  lab : ByteArray
def Step.row (s : Step) : List AV := [I s.k, S s.lab]
abbrev pathV (p : List Step) : AV := .list 2 (p.map Step.row) .no
end Go.Abs
end
section
/- Slices as arrays: what an append leaves; a region whose looks no writer turns. -/
set_option maxRecDepth 100000
set_option linter.unusedVariables false
namespace Go.Abs
open Go.Proofs

/-- a slice of one-celled elements that this run alone writes: nil, or the whole of an array -/
def Own1 (e : TypeId) (M : Mem) (v : AV) (cs : List AV) : Prop := (v = .val (.slice none 0 0) ∧ cs = []) ∨
  ∃ f g hist, v = .vref f g 1 0 cs.length ∧ M[f]? = some (.vec e 1 cs g hist) ∧ hist.lookup g = some cs.length
def obj (v : AV) : Option Nat := match v with
  | .vref f _ _ _ _ => some f
  | _ => none
@[simp] theorem obj_nil : obj (.val (.slice none 0 0)) = none := rfl
@[simp] theorem obj_vref {f g s lo n : Nat} : obj (.vref f g s lo n) = some f := rfl
/-- every object but one stays -/
def KeepsBut (o : Option Nat) (M M' : Mem) : Prop := M.length ≤ M'.length ∧ ∀ i, i < M.length → o ≠ some i → M'[i]? = M[i]?
theorem KeepsBut.refl (o : Option Nat) (M : Mem) : KeepsBut o M M := ⟨Nat.le_refl _, fun _ _ _ => rfl⟩
theorem KeepsBut.trans {o : Option Nat} {A B C : Mem} (h1 : KeepsBut o A B) (h2 : KeepsBut o B C) : KeepsBut o A C :=
  ⟨Nat.le_trans h1.1 h2.1, fun i hi ho => (h2.2 i (Nat.lt_of_lt_of_le hi h1.1) ho).trans (h1.2 i hi ho)⟩
theorem KeepsBut.of_none {o : Option Nat} {A B : Mem} (h : KeepsBut none A B) : KeepsBut o A B := ⟨h.1, fun i hi _ => h.2 i hi (by simp)⟩
theorem KeepsBut.app (o : Option Nat) (M X : Mem) : KeepsBut o M (M ++ X) := ⟨by simp, fun i hi _ => by rw [List.getElem?_append_left hi]⟩
theorem KeepsBut.set (M : Mem) (f : Nat) (X : AObj) : KeepsBut (some f) M (M.set f X) := ⟨by simp, fun i hi ho => by rw [List.getElem?_set_ne (by intro e; exact ho (by rw [e]))]⟩
theorem KeepsBut.get {o : Option Nat} {A B : Mem} (h : KeepsBut o A B) {i : Nat} {X : AObj} (hx : A[i]? = some X) (ho : o ≠ some i) : B[i]? = some X := by
  rw [h.2 i (by have := (List.getElem?_eq_some_iff.1 hx).1; exact this) ho, hx]
/-- an object made later than M, or none -/
def Later (n : Nat) (v : AV) : Prop := ∀ f, obj v = some f → n ≤ f
theorem Own1.lt {e : TypeId} {M : Mem} {v : AV} {cs : List AV} (h : Own1 e M v cs) {f : Nat} (hf : obj v = some f) : f < M.length := by
  rcases h with ⟨rfl, _⟩ | ⟨f', g, hist, rfl, hm, _⟩
  · simp at hf
  · simp at hf; subst hf; exact (List.getElem?_eq_some_iff.1 hm).1
theorem Own1.keep {e : TypeId} {M M' : Mem} {v : AV} {cs : List AV} (h : Own1 e M v cs) {o : Option Nat} (hk : KeepsBut o M M') (ho : ∀ f, obj v = some f → o ≠ some f) : Own1 e M' v cs := by
  rcases h with ⟨rfl, h⟩ | ⟨f', g, hist, rfl, hm, hl⟩
  · exact .inl ⟨rfl, h⟩
  · exact .inr ⟨f', g, hist, rfl, hk.get hm (ho _ rfl), hl⟩
theorem Own1.src {e : TypeId} {M : Mem} {v : AV} {cs : List AV} (h : Own1 e M v cs) : srcCells M 1 v = some (cs, cs.length) := by
  rcases h with ⟨rfl, rfl⟩ | ⟨f', g, hist, rfl, hm, hl⟩
  · rfl
  · simp [srcCells, hm, hl]
theorem Own1.store {e : TypeId} {M : Mem} {v : AV} {cs : List AV} (h : Own1 e M v cs) : v.storable = true := by
  rcases h with ⟨rfl, rfl⟩ | ⟨f', g, hist, rfl, hm, hl⟩ <;> rfl
theorem Own1.cells {e : TypeId} {M : Mem} {v : AV} {cs : List AV} (h : Own1 e M v cs) : v.cells = [v] := by
  rcases h with ⟨rfl, rfl⟩ | ⟨f', g, hist, rfl, hm, hl⟩ <;> rfl
theorem Own1.len {e : TypeId} {M : Mem} {v : AV} {cs : List AV} (h : Own1 e M v cs) {P : Program} {t : TypeId} (ht : P.underlying t = some (.slice e)) : lenAV P t v = some cs.length := by
  rcases h with ⟨rfl, rfl⟩ | ⟨f', g, hist, rfl, hm, hl⟩ <;> simp [lenAV, ht]
theorem lookup_le_filter {hist : List (Nat × Nat)} : ∀ g n (p : Nat × Nat → Bool), ((g, n) :: hist.filter p).lookup g = some n := by intro g n p; simp [List.lookup]

section
variable {C : Ctx} {M : Mem} {K : AV → Mem → Prop}
theorem push {own vec : Bool} {st xt e : TypeId} {bytes m : Nat} {s x : AV} {cs news : List AV} {tg : Tag K} (h1 : elemOf? C.P st = some e) (h2 : srcOk C.P xt) (h3 : elemOk C.P e 1 bytes) (ho : Own1 e M s cs)
    (hx : srcCells M 1 x = some (news, m)) (hm : news.length = m) (hb : (cs.length + m) * bytes ≤ 140737488355328) (hvec : vec = true)
    (hk : ∀ v' M', Own1 e M' v' (cs ++ news) → KeepsBut (obj s) M M' → (obj v' = obj s ∨ Later M.length v') → (news = [] → v' = s ∧ M' = M) → K v' M') : wAppend C own vec st xt s x M K tg := by
  subst hvec
  rcases ho with ⟨rfl, rfl⟩ | ⟨f, g, hist, rfl, hf, hl⟩
  · refine w_vappend h1 h2 h3 (by rfl) hx hb (by simp only [vappIn, hx]) ?_ rfl
    simp only [vappAV, hx]
    by_cases h0 : m = 0
    · rw [if_pos h0]
      have hn : news = [] := List.eq_nil_of_length_eq_zero (by omega)
      subst hn
      exact hk _ _ (.inl ⟨rfl, rfl⟩) (.refl _ _) (.inl rfl) fun _ => ⟨rfl, rfl⟩
    · rw [if_neg h0]
      refine hk _ _ (.inr ⟨M.length, 0, [(0, m)], by simp [hm], by simp, by simp [List.lookup, hm]⟩) (.app _ _ _) (.inr ?_) fun hn => by subst hn; simp at hm; omega
      intro f hf; simp at hf; omega
  · have hcs : srcCells M 1 (.vref f g 1 0 cs.length) = some (cs, cs.length) := Own1.src (.inr ⟨f, g, hist, rfl, hf, hl⟩)
    refine w_vappend h1 h2 h3 hcs hx hb ?_ ?_ rfl
    · simp only [vappIn, hx, hf, hl]
      by_cases h0 : 0 < m <;> simp <;> omega
    · simp only [vappAV, hx, hf, hl]
      rw [if_pos (by simp)]
      by_cases h0 : m = 0
      · rw [if_pos h0]
        have hn : news = [] := List.eq_nil_of_length_eq_zero (by omega)
        subst hn
        simp only [List.append_nil] at hk
        exact hk _ _ (.inr ⟨f, g, hist, rfl, hf, hl⟩) (.refl _ _) (.inl rfl) fun _ => ⟨rfl, rfl⟩
      · rw [if_neg h0]
        have hlen : f < M.length := (List.getElem?_eq_some_iff.1 hf).1
        refine hk _ _ (.inr ⟨f, g + 1, (g + 1, cs.length + m) :: hist.filter (fun p => decide (p.2 ≤ cs.length)), by simp [hm], by simp [hlen, List.take_of_length_le], by simp [List.lookup, hm]⟩) (.set _ _ _) (.inl rfl) fun hn => by subst hn; simp at hm; omega

/-! ### a region that looks at one variable, which its writers leave alone -/
def wsDrawQ (C : Ctx) (h : Hint) (ops : Array Oper) (cls : Nat → Nat) (r0 : Nat) : Nat → List Oper → Env → Mem → (Env → Mem → Prop) → Prop
  | _, [], T, M, K => K T M
  | k, o :: rest, T, M, K => vcGuard ops o T (wsD C h (cls k) r0 o (T.ev C) M (fun v M' => M'[r0]? = M[r0]? ∧ wsDrawQ C h ops cls r0 (k + 1) rest (T.put o.dst v) M' K)) (wsDrawQ C h ops cls r0 (k + 1) rest (T.put o.dst (.val undef)) M K)
def planQ (cls : Nat → Nat) (r0 : Nat) : Plan := { cls := fun k => if cls k = 5 then 3 else cls k, rob := fun _ => r0, aff := fun _ _ => false }
theorem wsDrawQ_sound {h : Hint} {ops : Array Oper} {cls : Nat → Nat} {r0 : Nat} {K : Env → Mem → Prop} : ∀ (l : List Oper) (k : Nat) (T : Env) (M : Mem), wsDrawQ C h ops cls r0 k l T M K → drawRun C h ops (planQ cls r0) k l T M K
  | [], k, T, M, hw => hw
  | o :: rest, k, T, M, hw => by
    simp only [wsDrawQ] at hw
    simp only [drawRun]
    exact vcGuard_mono (fun h1 => dOp_mono0 (fun v m (h2 : m[r0]? = M[r0]? ∧ wsDrawQ C h ops cls r0 (k + 1) rest (T.put o.dst v) m K) => ⟨fun i _ _ => h2.1, wsDrawQ_sound rest _ _ _ h2.2⟩) (by
      have hd := wsD_sound h1
      by_cases e : cls k = 5
      · rw [e] at h1; exact h1.elim
      · simpa only [planQ, if_neg e] using hd)) (fun h1 => wsDrawQ_sound rest _ _ _ h1) hw
theorem awp_wsDrawQ {N : Nat} {h : Hint} {id : Nat} {ops : Array Oper} {Q : Exit → Env → Mem → Prop} {T : Env} (hmix : C.P.follows .mixedOrders = true) (cls : Nat → Nat) (r0 : Nat) (hin : opsInside N ops ops.toList = true) (hok : okDraw ops (planQ cls 0) = true)
    (hr : wsDrawQ C h ops cls r0 0 ops.toList T M (fun T M => Q .normal T M)) : AWp C N (.region id ops true) Q T M := by
  have h4 : ∀ i o, ops[i]? = some o → (planQ cls r0).cls i ≠ 4 := by
    intro i o ho e
    have := (okDraw_at hok ho).2.1 e
    simp [planQ] at this
  have h5 : ∀ k, (planQ cls r0).cls k ≠ 5 := by
    intro k
    simp only [planQ]
    split <;> omega
  have hok' : okDraw ops (planQ cls r0) = true := by
    have hp : ∀ i, i < ops.size → isPut ((planQ cls r0).cls i) = false := fun i hi => by
      cases e : isPut ((planQ cls r0).cls i) with
      | false => rfl
      | true => rcases isPut_iff.1 e with h | h
                · exact absurd h (h4 i _ (Array.getElem?_eq_getElem hi))
                · exact absurd h (h5 i)
    have : ∀ i j, i < ops.size → j < ops.size → memConf (planQ cls r0) j i = memConf (planQ cls 0) j i := by
      intro i j hi hj
      have b1 := hp i hi
      have b2 := hp j hj
      have c1 : (planQ cls 0).cls = (planQ cls r0).cls := rfl
      have c2 : (planQ cls 0).aff = (planQ cls r0).aff := rfl
      simp only [memConf, c1, c2, b1, b2, Bool.and_false, Bool.false_and, Bool.or_false]
    refine List.all_eq_true.2 fun i hi => ?_
    have h0 := List.all_eq_true.1 hok i hi
    have hi' := List.mem_range.1 hi
    cases ho : ops[i]? with
    | none => rfl
    | some o =>
      rw [ho] at h0
      simp only [Bool.and_eq_true] at h0 ⊢
      refine ⟨h0.1, List.all_eq_true.2 fun j hj => ?_⟩
      have h1 := List.all_eq_true.1 h0.2 j hj
      have hj' := List.mem_range.1 hj
      cases hx : ops[j]? with
      | none => rfl
      | some x =>
        rw [hx] at h1
        simp only at h1 ⊢
        rw [this i j hi' (by omega)]
        exact h1
  refine awp_draw (h := h) hmix (planQ cls r0) hin hok' (fun k hk hc => ?_) (wsDrawQ_sound _ _ _ _ hr)
  exact absurd hc (h4 k _ (Array.getElem?_eq_getElem hk))
def wDrawQ (C : Ctx) (h : Hint) (ops : Array Oper) (cls : Nat → Nat) (r0 : Nat) (k : Nat) (l : List Oper) (T : Env) (M : Mem) (K : Env → Mem → Prop) (_ : Tag (ops, l, K)) : Prop := wsDrawQ C h ops cls r0 k l T M K
variable {cls : Nat → Nat} {r0 N : Nat} {Q : Post} {T : Env} {h : Hint}
@[simp] theorem wDrawQ_nil {ops : Array Oper} {k : Nat} {K : Env → Mem → Prop} {tg : Tag (ops, ([] : List Oper), K)} : wDrawQ C h ops cls r0 k [] T M K tg = K T M := rfl
@[simp] theorem wDrawQ_cons {ops : Array Oper} {k : Nat} {o : Oper} {rest : List Oper} {K : Env → Mem → Prop} {tg : Tag (ops, o :: rest, K)} : wDrawQ C h ops cls r0 k (o :: rest) T M K tg =
    wGuard ops o T (wD C h (cls k) r0 o (T.ev C) M (fun v M' => M'[r0]? = M[r0]? ∧ wDrawQ C h ops cls r0 (k + 1) rest (T.put o.dst v) M' K ⟨⟩) ⟨⟩) (wDrawQ C h ops cls r0 (k + 1) rest (T.put o.dst (.val undef)) M K ⟨⟩) ⟨⟩ := rfl
theorem w_drawnQ {id : Nat} {l : List Oper} {tg : Tag (Code.region id l.toArray true, Q)} (h : Hint) (hmix : C.P.follows .mixedOrders = true) (cls : Nat → Nat) (r0 : Nat) (hin : opsInside N l.toArray l = true) (hok : okDraw l.toArray (planQ cls 0) = true)
    (hr : wDrawQ C h l.toArray cls r0 0 l T M (fun T M => Q .normal T M) ⟨⟩) : wWp C N (.region id l.toArray true) Q T M tg := awp_wsDrawQ hmix cls r0 hin hok hr
end
end Go.Abs
end
