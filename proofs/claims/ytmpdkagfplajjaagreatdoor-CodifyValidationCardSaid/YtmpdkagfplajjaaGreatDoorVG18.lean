/- The texts SoM, WkS, WkM: what each proves stands at its head. -/
import Derived.Test.YtmpdkagfplajjaaGreatDoorVG12
import Derived.Test.YtmpdkagfplajjaaGreatDoorVG16
import Derived.Test.YtmpdkagfplajjaaGreatDoorVG17
import Derived.Test.YtmpdkagfplajjaaGreatDoorVG15
section
/- An array of rows of many cells, which this run alone writes: its loads and stores. -/
set_option linter.unusedVariables false
namespace Go.Abs
variable {α : Type}

theorem lookup_filterA {g n : Nat} (q : Nat × Nat → Bool) : ∀ {hist : List (Nat × Nat)}, hist.lookup g = some n → (hist.filter fun x => x.1 == g || q x).lookup g = some n
  | [], h => by simp at h
  | a :: l, h => by
    by_cases c : a.1 = g
    · have e : (a.1 == g || q a) = true := by simp [c]
      rw [List.filter_cons, if_pos e]
      obtain ⟨a1, a2⟩ := a
      simp only at c
      subst c
      simpa [List.lookup] using h
    · have hl : l.lookup g = some n := by
        obtain ⟨a1, a2⟩ := a
        have : (g == a1) = false := by simpa using fun e => c e.symm
        simpa [List.lookup, this] using h
      have ih := lookup_filterA q hl
      by_cases e : (a.1 == g || q a) = true
      · rw [List.filter_cons, if_pos e]
        obtain ⟨a1, a2⟩ := a
        have : (g == a1) = false := by simpa using fun e => c e.symm
        simpa [List.lookup, this] using ih
      · rw [List.filter_cons, if_neg e]; exact ih

/-- rows in a row -/
theorem flat_len {enc : α → List AV} {sz : Nat} (he : ∀ x, (enc x).length = sz) : ∀ l : List α, (l.flatMap enc).length = l.length * sz
  | [] => by simp
  | x :: l => by rw [List.flatMap_cons, List.length_append, he, flat_len he l, List.length_cons, Nat.succ_mul]; omega
theorem flat_drop {enc : α → List AV} {sz : Nat} (he : ∀ x, (enc x).length = sz) : ∀ (i : Nat) (l : List α), (l.flatMap enc).drop (i * sz) = (l.drop i).flatMap enc
  | 0, l => by simp
  | i + 1, [] => by simp
  | i + 1, x :: l => by
    rw [List.flatMap_cons, List.drop_succ_cons, Nat.succ_mul, Nat.add_comm, List.drop_append, he]
    rw [List.drop_eq_nil_of_le (by rw [he]; omega), List.nil_append, show sz + i * sz - sz = i * sz by omega]
    exact flat_drop he i l
theorem flat_take {enc : α → List AV} {sz : Nat} (he : ∀ x, (enc x).length = sz) : ∀ (i : Nat) (l : List α), (l.flatMap enc).take (i * sz) = (l.take i).flatMap enc
  | 0, l => by simp
  | i + 1, [] => by simp
  | i + 1, x :: l => by
    rw [List.flatMap_cons, List.take_succ_cons, Nat.succ_mul, Nat.add_comm, List.take_append, he]
    rw [List.take_of_length_le (by rw [he]; omega), show sz + i * sz - sz = i * sz by omega, List.flatMap_cons]
    rw [flat_take he i l]
theorem flat_set {enc : α → List AV} {sz : Nat} (he : ∀ x, (enc x).length = sz) (l : List α) (i : Nat) (x : α) (hi : i < l.length) : overwrite (l.flatMap enc) (i * sz) (enc x) = (l.set i x).flatMap enc := by
  rw [overwrite, he, show i * sz + sz = (i + 1) * sz by rw [Nat.succ_mul], flat_drop he, flat_take he, List.set_eq_take_append_cons_drop, if_pos hi]
  simp

/-- M is M0, but that its object f is an array (whose slice of time g reads as a whole) of the rows of D -/
def AtA (e sz f g n : Nat) (enc : α → List AV) (M0 : Mem) (D : Nat → α) (M : Mem) : Prop :=
  ∃ hist, M = M0.set f (.vec e sz ((ofD D n).flatMap enc) g hist) ∧ hist.lookup g = some n
section
variable {e sz f g n : Nat} {enc : α → List AV} {M0 M : Mem} {D : Nat → α}
theorem AtA.get (h : AtA e sz f g n enc M0 D M) (hf : f < M0.length) : ∃ hist, M[f]? = some (.vec e sz ((ofD D n).flatMap enc) g hist) ∧ hist.lookup g = some n := by
  obtain ⟨hist, rfl, hl⟩ := h
  exact ⟨hist, by simp [hf], hl⟩
theorem AtA.len (h : AtA e sz f g n enc M0 D M) : M.length = M0.length := by
  obtain ⟨hist, rfl, hl⟩ := h; simp
theorem AtA.else_ (h : AtA e sz f g n enc M0 D M) {i : Nat} (hi : i ≠ f) : M[i]? = M0[i]? := by
  obtain ⟨hist, rfl, hl⟩ := h
  rw [List.getElem?_set_ne (by omega)]
theorem AtA.load {P : Program} {t : TypeId} (h : AtA e sz f g n enc M0 D M) (hf : f < M0.length) (he : ∀ x, (enc x).length = sz) (ha : aggOf P t = some true) (hs : szOf P t = some sz) {i : Nat} (hi : i < n) : loadAV P t M (.vptr f g (i * sz)) = some (.agg (enc (D i))) := by
  obtain ⟨hist, hm, hl⟩ := h.get hf
  have hfl := flat_len he (ofD D n)
  rw [ofD_length] at hfl
  simp only [loadAV, memOf, hm, hl, Option.bind_some, loadCells_row, ha, hs]
  rw [List.take_of_length_le (by omega), flat_drop he, List.drop_eq_getElem_cons (by simpa using hi), List.flatMap_cons, ofD_get, loadRow]
  rw [if_pos (by rw [List.length_append, he]; omega), List.take_append, he, Nat.sub_self, List.take_of_length_le (by rw [he]; omega), List.take_zero, List.append_nil]
theorem AtA.store (h : AtA e sz f g n enc M0 D M) (hf : f < M0.length) (he : ∀ x, (enc x).length = sz) {i : Nat} (hi : i < n) (x : α) : ∃ M', storeAV (some sz) M (.vptr f g (i * sz)) (.agg (enc x)) = some M' ∧ AtA e sz f g n enc M0 (upd D i x) M' := by
  obtain ⟨hist, hm, hl⟩ := h.get hf
  have hle : i * sz + sz ≤ n * sz := by rw [← Nat.succ_mul]; exact Nat.mul_le_mul_right _ hi
  refine ⟨M.set f (.vec e sz (overwrite ((ofD D n).flatMap enc) (i * sz) (enc x)) g (keepHist sz g (i * sz) hist)), ?_, ?_⟩
  · simp only [storeAV, hm, hl, AV.storable, AV.cells, he, decide_eq_true hle, decide_true, Bool.and_self, if_true]
  · obtain ⟨hist0, rfl, _⟩ := h
    refine ⟨keepHist sz g (i * sz) hist, ?_, lookup_filterA _ hl⟩
    rw [List.set_set, flat_set he _ _ _ (by simpa using hi), ofD_set]
/-- the array as it stands -/
theorem AtA.start {hist : List (Nat × Nat)} (hM : M[f]? = some (.vec e sz ((ofD D n).flatMap enc) g hist)) (hl : hist.lookup g = some n) : AtA e sz f g n enc M D M := by
  refine ⟨hist, ?_, hl⟩
  obtain ⟨h1, h2⟩ := List.getElem?_eq_some_iff.1 hM
  rw [← h2, List.set_getElem_self]
end
end Go.Abs
end
section
/- Slices as arrays of rows: what an append leaves; a region whose looks no writer turns; letting go of what a call has made. -/
set_option maxRecDepth 100000
set_option linter.unusedVariables false
namespace Go.Abs

def obj (v : AV) : Option Nat := match v with
  | .vref f _ _ _ _ => some f
  | _ => none
@[simp] theorem obj_nil : obj (.val (.slice none 0 0)) = none := rfl
@[simp] theorem obj_vref {f g s lo n : Nat} : obj (.vref f g s lo n) = some f := rfl
/-- every object but one stays -/
def KeepsBut (o : Option Nat) (M M' : Mem) : Prop := M.length ≤ M'.length ∧ ∀ i, i < M.length → o ≠ some i → M'[i]? = M[i]?
theorem KeepsBut.refl (o : Option Nat) (M : Mem) : KeepsBut o M M := ⟨Nat.le_refl _, fun _ _ _ => rfl⟩
theorem KeepsBut.trans {o : Option Nat} {A B C : Mem} (h1 : KeepsBut o A B) (h2 : KeepsBut o B C) : KeepsBut o A C :=
  ⟨Nat.le_trans h1.1 h2.1, fun i hi ho => (h2.2 i (Nat.lt_of_lt_of_le hi h1.1) ho).trans (h1.2 i hi ho)⟩
theorem KeepsBut.of_none {o : Option Nat} {A B : Mem} (h : KeepsBut none A B) : KeepsBut o A B := ⟨h.1, fun i hi _ => h.2 i hi (by simp)⟩
theorem KeepsBut.app (o : Option Nat) (M X : Mem) : KeepsBut o M (M ++ X) := ⟨by simp, fun i hi _ => by rw [List.getElem?_append_left hi]⟩
theorem KeepsBut.set (M : Mem) (f : Nat) (X : AObj) : KeepsBut (some f) M (M.set f X) := ⟨by simp, fun i hi ho => by rw [List.getElem?_set_ne (by intro e; exact ho (by rw [e]))]⟩
theorem KeepsBut.get {o : Option Nat} {A B : Mem} (h : KeepsBut o A B) {i : Nat} {X : AObj} (hx : A[i]? = some X) (ho : o ≠ some i) : B[i]? = some X := by
  rw [h.2 i (by have := (List.getElem?_eq_some_iff.1 hx).1; exact this) ho, hx]
/-- an object made later than M, or none -/
def Later (n : Nat) (v : AV) : Prop := ∀ f, obj v = some f → n ≤ f
abbrev Grow (M M' : Mem) : Prop := KeepsBut none M M'
/-- a slice of rows that this run alone writes: nil, or the whole of an array -/
def OwnR {α : Type} (e sz : Nat) (enc : α → List AV) (M : Mem) (v : AV) (l : List α) : Prop := (v = .val (.slice none 0 0) ∧ l = []) ∨
  ∃ f g hist, v = .vref f g sz 0 l.length ∧ M[f]? = some (.vec e sz (l.flatMap enc) g hist) ∧ hist.lookup g = some l.length
section
variable {α : Type} {e sz : Nat} {enc : α → List AV} {M M' : Mem} {v : AV} {l : List α}
theorem OwnR.nil : OwnR e sz enc M (.val (.slice none 0 0)) [] := .inl ⟨rfl, rfl⟩
theorem OwnR.lt (h : OwnR e sz enc M v l) {f : Nat} (hf : obj v = some f) : f < M.length := by
  rcases h with ⟨rfl, _⟩ | ⟨f', g, hist, rfl, hm, _⟩
  · simp at hf
  · simp at hf; subst hf; exact (List.getElem?_eq_some_iff.1 hm).1
theorem OwnR.keep (h : OwnR e sz enc M v l) {o : Option Nat} (hk : KeepsBut o M M') (ho : ∀ f, obj v = some f → o ≠ some f) : OwnR e sz enc M' v l := by
  rcases h with ⟨rfl, h⟩ | ⟨f', g, hist, rfl, hm, hl⟩
  · exact .inl ⟨rfl, h⟩
  · exact .inr ⟨f', g, hist, rfl, hk.get hm (ho _ rfl), hl⟩
theorem OwnR.src (he : ∀ x, (enc x).length = sz) (h : OwnR e sz enc M v l) : srcCells M sz v = some (l.flatMap enc, l.length) := by
  rcases h with ⟨rfl, rfl⟩ | ⟨f', g, hist, rfl, hm, hl⟩
  · rfl
  · simp only [srcCells, hm, hl]
    rw [if_pos ⟨trivial, trivial, by omega⟩, Nat.zero_mul, List.drop_zero, List.take_of_length_le (by rw [flat_len he]; exact Nat.le_refl _)]
theorem OwnR.store (h : OwnR e sz enc M v l) : v.storable = true := by
  rcases h with ⟨rfl, rfl⟩ | ⟨f', g, hist, rfl, hm, hl⟩ <;> rfl
theorem OwnR.cells (h : OwnR e sz enc M v l) : v.cells = [v] := by
  rcases h with ⟨rfl, rfl⟩ | ⟨f', g, hist, rfl, hm, hl⟩ <;> rfl
theorem OwnR.len (h : OwnR e sz enc M v l) {P : Program} {t e' : TypeId} (ht : P.underlying t = some (.slice e')) : lenAV P t v = some l.length := by
  rcases h with ⟨rfl, rfl⟩ | ⟨f', g, hist, rfl, hm, hl⟩ <;> simp [lenAV, ht]
/-- a row of it, read -/
theorem OwnR.at_ {P : Program} {t : TypeId} (h : OwnR e sz enc M v l) (he : ∀ x, (enc x).length = sz) (ha : aggOf P t = some true) (hs : szOf P t = some sz) {i : Nat} (hi : i < l.length) :
    ∃ p, idxAV (some (some sz)) v (.val (.int .i64 i)) = some p ∧ memOf M p = some ((l.drop i).flatMap enc) ∧ loadAV P t M p = some (.agg (enc l[i])) ∧ obOf p = obj v := by
  rcases h with ⟨rfl, rfl⟩ | ⟨f, g, hist, rfl, hm, hl⟩
  · simp at hi
  · refine ⟨.vptr f g (i * sz), by simp [hi], ?_, ?_, rfl⟩
    · simp only [memOf, hm, hl]
      rw [List.take_of_length_le (by rw [flat_len he]; exact Nat.le_refl _), flat_drop he]
    · simp only [loadAV, memOf, hm, hl, Option.bind_some, loadCells_row, ha, hs]
      rw [List.take_of_length_le (by rw [flat_len he]; exact Nat.le_refl _), flat_drop he, List.drop_eq_getElem_cons hi, List.flatMap_cons, loadRow]
      rw [if_pos (by rw [List.length_append, he]; omega), List.take_append, he, Nat.sub_self, List.take_of_length_le (by rw [he]; omega), List.take_zero, List.append_nil]
end
section
variable {C : Ctx} {M : Mem} {K : AV → Mem → Prop} {α : Type} {enc : α → List AV}
theorem pushR {own vec : Bool} {st xt e : TypeId} {sz bytes : Nat} {s x : AV} {l news : List α} {tg : Tag K} (h1 : elemOf? C.P st = some e) (h2 : srcOk C.P xt) (h3 : elemOk C.P e sz bytes) (he : ∀ x, (enc x).length = sz) (ho : OwnR e sz enc M s l)
    (hx : srcCells M sz x = some (news.flatMap enc, news.length)) (hb : (l.length + news.length) * bytes ≤ 140737488355328) (hvec : vec = true)
    (hk : ∀ v' M', OwnR e sz enc M' v' (l ++ news) → KeepsBut (obj s) M M' → (obj v' = obj s ∨ Later M.length v') → (news = [] → v' = s ∧ M' = M) → K v' M') : wAppend C own vec st xt s x M K tg := by
  subst hvec
  rcases ho with ⟨rfl, rfl⟩ | ⟨f, g, hist, rfl, hf, hl⟩
  · refine w_vappend h1 h2 h3 (by rfl) hx hb (by simp only [vappIn, hx]) ?_ rfl
    simp only [vappAV, hx]
    by_cases h0 : news.length = 0
    · rw [if_pos h0]
      have hn : news = [] := List.eq_nil_of_length_eq_zero h0
      subst hn
      exact hk _ _ (.inl ⟨rfl, rfl⟩) (.refl _ _) (.inl rfl) fun _ => ⟨rfl, rfl⟩
    · rw [if_neg h0]
      refine hk _ _ (.inr ⟨M.length, 0, [(0, news.length)], by simp, by simp, by simp [List.lookup]⟩) (.app _ _ _) (.inr ?_) fun hn => by subst hn; simp at h0
      intro f hf; simp at hf; omega
  · have hcs : srcCells M sz (.vref f g sz 0 l.length) = some (l.flatMap enc, l.length) := OwnR.src he (.inr ⟨f, g, hist, rfl, hf, hl⟩)
    refine w_vappend h1 h2 h3 hcs hx hb ?_ ?_ rfl
    · simp only [vappIn, hx, hf, hl]
      rw [if_neg (by omega)]
    · simp only [vappAV, hx, hf, hl]
      rw [if_pos ⟨trivial, trivial, trivial, by omega⟩]
      by_cases h0 : news.length = 0
      · rw [if_pos h0]
        have hn : news = [] := List.eq_nil_of_length_eq_zero h0
        subst hn
        simp only [List.append_nil] at hk
        exact hk _ _ (.inr ⟨f, g, hist, rfl, hf, hl⟩) (.refl _ _) (.inl rfl) fun _ => ⟨rfl, rfl⟩
      · rw [if_neg h0]
        have hlen : f < M.length := (List.getElem?_eq_some_iff.1 hf).1
        refine hk _ _ (.inr ⟨f, g + 1, (g + 1, l.length + news.length) :: hist.filter (fun p => decide (p.2 ≤ l.length)), by simp, ?_, by simp [List.lookup]⟩) (.set _ _ _) (.inl rfl) fun hn => by subst hn; simp at h0
        simp only [List.getElem?_set, hlen, if_true, Nat.zero_mul, List.drop_zero]
        rw [List.take_of_length_le (by rw [flat_len he]; exact Nat.le_refl _), List.flatMap_append]
/-- a call's leavings are let go -/
theorem grow_cut {f : FuncId} {args : List AV} {Q : Value → Prop} (h : ACalls C f args M (fun v M' => (∃ x, v = .val x ∧ Q x) ∧ Grow M M')) : ACalls C f args M (fun v M' => (∃ x, v = .val x ∧ Q x) ∧ M' = M) := by
  refine h.cut ?_
  rintro r M' ⟨⟨x, rfl, hq⟩, hg⟩
  refine ⟨M'.drop M.length, ?_, trivial, ⟨x, rfl, hq⟩, rfl⟩
  have ht : M'.take M.length = M := by
    apply List.ext_getElem?
    intro i
    rw [List.getElem?_take]
    split
    · rename_i hi; exact hg.2 i hi (by simp)
    · rename_i hi; exact (List.getElem?_eq_none (by omega)).symm
  have := List.take_append_drop M.length M'
  rw [ht] at this
  exact this.symm

/-! ### a region that looks at one variable, which its writers leave alone -/
def wsDrawQ (C : Ctx) (h : Hint) (ops : Array Oper) (cls : Nat → Nat) (r0 : Nat) : Nat → List Oper → Env → Mem → (Env → Mem → Prop) → Prop
  | _, [], T, M, K => K T M
  | k, o :: rest, T, M, K => vcGuard ops o T (wsD C h (cls k) r0 o (T.ev C) M (fun v M' => M'[r0]? = M[r0]? ∧ wsDrawQ C h ops cls r0 (k + 1) rest (T.put o.dst v) M' K)) (wsDrawQ C h ops cls r0 (k + 1) rest (T.put o.dst (.val undef)) M K)
def planQ (cls : Nat → Nat) (r0 : Nat) : Plan := { cls := fun k => if cls k = 5 then 3 else cls k, rob := fun _ => r0, aff := fun _ _ => false }
theorem wsDrawQ_sound {h : Hint} {ops : Array Oper} {cls : Nat → Nat} {r0 : Nat} {K : Env → Mem → Prop} : ∀ (l : List Oper) (k : Nat) (T : Env) (M : Mem), wsDrawQ C h ops cls r0 k l T M K → drawRun C h ops (planQ cls r0) k l T M K
  | [], k, T, M, hw => hw
  | o :: rest, k, T, M, hw => by
    simp only [wsDrawQ] at hw
    simp only [drawRun]
    exact vcGuard_mono (fun h1 => dOp_mono0 (fun v m (h2 : m[r0]? = M[r0]? ∧ wsDrawQ C h ops cls r0 (k + 1) rest (T.put o.dst v) m K) => ⟨fun i _ _ => h2.1, wsDrawQ_sound rest _ _ _ h2.2⟩) (by
      have hd := wsD_sound h1
      by_cases e : cls k = 5
      · rw [e] at h1; exact h1.elim
      · simpa only [planQ, if_neg e] using hd)) (fun h1 => wsDrawQ_sound rest _ _ _ h1) hw
theorem awp_wsDrawQ {N : Nat} {h : Hint} {id : Nat} {ops : Array Oper} {Q : Exit → Env → Mem → Prop} {T : Env} (hmix : C.P.follows .mixedOrders = true) (cls : Nat → Nat) (r0 : Nat) (hin : opsInside N ops ops.toList = true) (hok : okDraw ops (planQ cls 0) = true)
    (hr : wsDrawQ C h ops cls r0 0 ops.toList T M (fun T M => Q .normal T M)) : AWp C N (.region id ops true) Q T M := by
  have h4 : ∀ i o, ops[i]? = some o → (planQ cls r0).cls i ≠ 4 := by
    intro i o ho e
    have := (okDraw_at hok ho).2.1 e
    simp [planQ] at this
  have h5 : ∀ k, (planQ cls r0).cls k ≠ 5 := by
    intro k
    simp only [planQ]
    split <;> omega
  have hok' : okDraw ops (planQ cls r0) = true := by
    have hp : ∀ i, i < ops.size → isPut ((planQ cls r0).cls i) = false := fun i hi => by
      cases e : isPut ((planQ cls r0).cls i) with
      | false => rfl
      | true => rcases isPut_iff.1 e with h | h
                · exact absurd h (h4 i _ (Array.getElem?_eq_getElem hi))
                · exact absurd h (h5 i)
    have : ∀ i j, i < ops.size → j < ops.size → memConf (planQ cls r0) j i = memConf (planQ cls 0) j i := by
      intro i j hi hj
      have b1 := hp i hi
      have b2 := hp j hj
      have c1 : (planQ cls 0).cls = (planQ cls r0).cls := rfl
      have c2 : (planQ cls 0).aff = (planQ cls r0).aff := rfl
      simp only [memConf, c1, c2, b1, b2, Bool.and_false, Bool.false_and, Bool.or_false]
    refine List.all_eq_true.2 fun i hi => ?_
    have h0 := List.all_eq_true.1 hok i hi
    have hi' := List.mem_range.1 hi
    cases ho : ops[i]? with
    | none => rfl
    | some o =>
      rw [ho] at h0
      simp only [Bool.and_eq_true] at h0 ⊢
      refine ⟨h0.1, List.all_eq_true.2 fun j hj => ?_⟩
      have h1 := List.all_eq_true.1 h0.2 j hj
      have hj' := List.mem_range.1 hj
      cases hx : ops[j]? with
      | none => rfl
      | some x =>
        rw [hx] at h1
        simp only at h1 ⊢
        rw [this i j hi' (by omega)]
        exact h1
  refine awp_draw (h := h) hmix (planQ cls r0) hin hok' (fun k hk hc => ?_) (wsDrawQ_sound _ _ _ _ hr)
  exact absurd hc (h4 k _ (Array.getElem?_eq_getElem hk))
def wDrawQ (C : Ctx) (h : Hint) (ops : Array Oper) (cls : Nat → Nat) (r0 : Nat) (k : Nat) (l : List Oper) (T : Env) (M : Mem) (K : Env → Mem → Prop) (_ : Tag (ops, l, K)) : Prop := wsDrawQ C h ops cls r0 k l T M K
variable {cls : Nat → Nat} {r0 N : Nat} {Q : Post} {T : Env} {h : Hint}
@[simp] theorem wDrawQ_nil {ops : Array Oper} {k : Nat} {K : Env → Mem → Prop} {tg : Tag (ops, ([] : List Oper), K)} : wDrawQ C h ops cls r0 k [] T M K tg = K T M := rfl
@[simp] theorem wDrawQ_cons {ops : Array Oper} {k : Nat} {o : Oper} {rest : List Oper} {K : Env → Mem → Prop} {tg : Tag (ops, o :: rest, K)} : wDrawQ C h ops cls r0 k (o :: rest) T M K tg =
    wGuard ops o T (wD C h (cls k) r0 o (T.ev C) M (fun v M' => M'[r0]? = M[r0]? ∧ wDrawQ C h ops cls r0 (k + 1) rest (T.put o.dst v) M' K ⟨⟩) ⟨⟩) (wDrawQ C h ops cls r0 (k + 1) rest (T.put o.dst (.val undef)) M K ⟨⟩) ⟨⟩ := rfl
theorem w_drawnQ {id : Nat} {l : List Oper} {tg : Tag (Code.region id l.toArray true, Q)} (h : Hint) (hmix : C.P.follows .mixedOrders = true) (cls : Nat → Nat) (r0 : Nat) (hin : opsInside N l.toArray l = true) (hok : okDraw l.toArray (planQ cls 0) = true)
    (hr : wDrawQ C h l.toArray cls r0 0 l T M (fun T M => Q .normal T M) ⟨⟩) : wWp C N (.region id l.toArray true) Q T M tg := awp_wsDrawQ hmix cls r0 hin hok hr
end
end Go.Abs
end
section
/- Maps as lists of keys and values: what a lookup and a store are. -/
set_option linter.unusedVariables false
namespace Go.Abs
variable {K V : Type} [DecidableEq K]

def getL : List (K × V) → K → Option V
  | [], _ => none
  | (k, v) :: l, x => if x = k then some v else getL l x
def putL : List (K × V) → K → V → List (K × V)
  | [], x, y => [(x, y)]
  | (k, v) :: l, x, y => if x = k then (x, y) :: l else (k, v) :: putL l x y
theorem getL_none {l : List (K × V)} {x : K} : getL l x = none ↔ x ∉ l.map (·.1) := by
  induction l with
  | nil => simp [getL]
  | cons p l ih =>
    obtain ⟨k, v⟩ := p
    simp only [getL, List.map_cons, List.mem_cons, not_or]
    by_cases h : x = k
    · simp [h]
    · simp [h, ih]
theorem putL_new {l : List (K × V)} {x : K} {y : V} (h : x ∉ l.map (·.1)) : putL l x y = l ++ [(x, y)] := by
  induction l with
  | nil => rfl
  | cons p l ih =>
    obtain ⟨k, v⟩ := p
    simp only [List.map_cons, List.mem_cons, not_or] at h
    simp only [putL, if_neg h.1, ih h.2, List.cons_append]
theorem putL_keys {l : List (K × V)} {x : K} {y : V} : (putL l x y).map (·.1) = if x ∈ l.map (·.1) then l.map (·.1) else l.map (·.1) ++ [x] := by
  induction l with
  | nil => simp [putL]
  | cons p l ih =>
    obtain ⟨k, v⟩ := p
    by_cases h : x = k
    · subst h; simp [putL]
    · rw [putL, if_neg h, List.map_cons, ih]
      by_cases hm : x ∈ l.map (·.1)
      · rw [if_pos hm, if_pos (by simp only [List.map_cons]; exact List.mem_cons_of_mem _ hm)]; rfl
      · rw [if_neg hm, if_neg (by simp only [List.map_cons, List.mem_cons, not_or]; exact ⟨h, hm⟩)]; rfl
theorem getL_putL {l : List (K × V)} {x z : K} {y : V} : getL (putL l x y) z = if z = x then some y else getL l z := by
  induction l with
  | nil => simp [putL, getL]
  | cons p l ih =>
    obtain ⟨k, v⟩ := p
    by_cases h : x = k
    · subst h
      simp only [putL, if_true, getL]
      split <;> simp_all
    · simp only [putL, if_neg h, getL]
      by_cases h2 : z = k
      · subst h2; rw [if_pos rfl, if_pos rfl, if_neg (fun e => h e.symm)]
      · rw [if_neg h2, if_neg h2, ih]
/-- keys of a type of the program -/
structure KeyOK (P : Program) (t kt et : TypeId) (kenc : K → AV) : Prop where
  kv : mapKV? P t = some (kt, et)
  ty : (scalarT P kt || wideT P kt) = true
  chk : ∀ k, checkAV P 30 kt (kenc k) = true
  eq : ∀ a b, eqAV P 30 kt (kenc a) (kenc b) = some (decide (a = b))
  bits : ∀ a, ∃ c, plainAV (kenc a) = some c ∧ Instr.sameBits 10000 c c = true
def MapAt (kenc : K → AV) (venc : V → AV) (M : Mem) (b : Nat) (l : List (K × V)) : Prop :=
  ∃ es clock, M[b]? = some (.map es clock) ∧ es.map (fun e => (e.1, e.2.1)) = l.map fun p => (kenc p.1, venc p.2)
section
variable {P : Program} {t kt et : TypeId} {kenc : K → AV} {venc : V → AV} {M M' : Mem} {b : Nat} {l : List (K × V)}
omit [DecidableEq K] in
theorem MapAt.keep (h : MapAt kenc venc M b l) {o : Option Nat} (hk : KeepsBut o M M') (ho : o ≠ some b) : MapAt kenc venc M' b l := by
  obtain ⟨es, c, h1, h2⟩ := h
  exact ⟨es, c, hk.get h1 ho, h2⟩
omit [DecidableEq K] in
theorem MapAt.lt (h : MapAt kenc venc M b l) : b < M.length := by
  obtain ⟨es, c, h1, _⟩ := h
  exact (List.getElem?_eq_some_iff.1 h1).1
omit [DecidableEq K] in
theorem MapAt.new (M : Mem) : MapAt kenc venc (M ++ [.map [] 0]) M.length [] := ⟨[], 0, by simp, rfl⟩
theorem keyFind_of (hk : KeyOK P t kt et kenc) (x : K) : ∀ (l : List (K × V)) (es : List (AV × AV × Nat)), es.map (fun e => (e.1, e.2.1)) = l.map (fun p => (kenc p.1, venc p.2)) →
    (getL l x = none ∧ keyFind P kt (kenc x) es = some none) ∨ (∃ v i, getL l x = some v ∧ keyFind P kt (kenc x) es = some (some (i, venc v)) ∧ (∃ born, es[i]? = some (kenc x, venc v, born)) ∧ ∀ y born, (es.set i (kenc x, venc y, born)).map (fun e => (e.1, e.2.1)) = (putL l x y).map (fun p => (kenc p.1, venc p.2)))
  | [], [], _ => .inl ⟨rfl, rfl⟩
  | [], _ :: _, h => by simp at h
  | _ :: _, [], h => by simp at h
  | (k, v) :: l, (ek, ev, bn) :: es, h => by
    simp only [List.map_cons, List.cons.injEq, Prod.mk.injEq] at h
    obtain ⟨⟨rfl, rfl⟩, h2⟩ := h
    by_cases e : x = k
    · subst e
      refine .inr ⟨v, 0, by simp [getL], by simp [keyFind, hk.eq], ⟨bn, rfl⟩, fun y born => ?_⟩
      simp [putL, h2]
    · rcases keyFind_of hk x l es h2 with ⟨q1, q2⟩ | ⟨v', i, q1, q2, ⟨born, q3⟩, q4⟩
      · exact .inl ⟨by simp [getL, e, q1], by simp [keyFind, hk.eq, e, q2]⟩
      · refine .inr ⟨v', i + 1, by simp [getL, e, q1], by simp [keyFind, hk.eq, e, q2], ⟨born, by simpa using q3⟩, fun y born => ?_⟩
        simp only [List.set_cons_succ, List.map_cons, q4 y born, putL, if_neg e]
theorem MapAt.get (hk : KeyOK P t kt et kenc) (h : MapAt kenc venc M b l) (x : K) {z : AV} (hz : zeroAV P et = some z) (ok : Bool) :
    lookupAV P t M (.mapr b) (kenc x) ok = some (match getL l x with | some v => if ok then .tuple [venc v, .val (.bool true)] else venc v | none => if ok then .tuple [z, .val (.bool false)] else z) := by
  obtain ⟨es, c, h1, h2⟩ := h
  simp only [lookupAV, hk.kv, entriesOf, h1, hk.ty, hk.chk, Bool.and_self, if_true]
  rcases keyFind_of hk x l es h2 with ⟨q1, q2⟩ | ⟨v', i, q1, q2, _⟩
  · rw [q1, q2]; simp [hz]
  · rw [q1, q2]
theorem MapAt.put (hk : KeyOK P t kt et kenc) (h : MapAt kenc venc M b l) (x : K) (y : V) : ∃ M', mapPutAV P t M (.mapr b) (kenc x) (venc y) = some M' ∧ MapAt kenc venc M' b (putL l x y) ∧ KeepsBut (some b) M M' := by
  have hlt := h.lt
  obtain ⟨es, c, h1, h2⟩ := h
  rcases keyFind_of hk x l es h2 with ⟨q1, q2⟩ | ⟨v', i, q1, q2, ⟨born, q3⟩, q4⟩
  · refine ⟨M.set b (.map (es ++ [(kenc x, venc y, c)]) (c + 1)), ?_, ⟨es ++ [(kenc x, venc y, c)], c + 1, by simp [hlt], ?_⟩, .set _ _ _⟩
    · simp only [mapPutAV, hk.kv, h1, hk.ty, hk.chk, Bool.and_self, if_true, q2]
    · rw [List.map_append, h2, putL_new (getL_none.1 q1)]; simp
  · obtain ⟨cv, hc, hb⟩ := hk.bits x
    refine ⟨M.set b (.map (es.set i (kenc x, venc y, born)) c), ?_, ⟨es.set i (kenc x, venc y, born), c, by simp [hlt], q4 y born⟩, .set _ _ _⟩
    simp only [mapPutAV, hk.kv, h1, hk.ty, hk.chk, Bool.and_self, if_true, q2, q3, hc, hb]
end
end Go.Abs
end
