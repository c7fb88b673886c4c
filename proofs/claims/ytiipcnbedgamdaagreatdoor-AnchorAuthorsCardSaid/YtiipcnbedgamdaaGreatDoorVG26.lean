/- The texts WkS, WkM, WkF, WkQ: what each proves stands at its head. -/
import Derived.Test.YtiipcnbedgamdaaGreatDoorVG24
import Derived.Test.YtiipcnbedgamdaaGreatDoorVG19
import Derived.Test.YtiipcnbedgamdaaGreatDoorVG21
section
/- Slices as arrays of rows: what an append leaves; a region whose looks no writer turns; letting go of what a call has made. -/
set_option maxRecDepth 100000
set_option linter.unusedVariables false
namespace Go.Abs

def obj (v : AV) : Option Nat := match v with
  | .vref f _ _ _ _ => some f
  | _ => none
@[simp] theorem obj_nil : obj (.val (.slice none 0 0)) = none := rfl
@[simp] theorem obj_vref {f g s lo n : Nat} : obj (.vref f g s lo n) = some f := rfl
/-- every object but one stays -/
def KeepsBut (o : Option Nat) (M M' : Mem) : Prop := M.length ≤ M'.length ∧ ∀ i, i < M.length → o ≠ some i → M'[i]? = M[i]?
theorem KeepsBut.refl (o : Option Nat) (M : Mem) : KeepsBut o M M := ⟨Nat.le_refl _, fun _ _ _ => rfl⟩
theorem KeepsBut.trans {o : Option Nat} {A B C : Mem} (h1 : KeepsBut o A B) (h2 : KeepsBut o B C) : KeepsBut o A C :=
  ⟨Nat.le_trans h1.1 h2.1, fun i hi ho => (h2.2 i (Nat.lt_of_lt_of_le hi h1.1) ho).trans (h1.2 i hi ho)⟩
theorem KeepsBut.of_none {o : Option Nat} {A B : Mem} (h : KeepsBut none A B) : KeepsBut o A B := ⟨h.1, fun i hi _ => h.2 i hi (by simp)⟩
theorem KeepsBut.app (o : Option Nat) (M X : Mem) : KeepsBut o M (M ++ X) := ⟨by simp, fun i hi _ => by rw [List.getElem?_append_left hi]⟩
theorem KeepsBut.set (M : Mem) (f : Nat) (X : AObj) : KeepsBut (some f) M (M.set f X) := ⟨by simp, fun i hi ho => by rw [List.getElem?_set_ne (by intro e; exact ho (by rw [e]))]⟩
theorem KeepsBut.get {o : Option Nat} {A B : Mem} (h : KeepsBut o A B) {i : Nat} {X : AObj} (hx : A[i]? = some X) (ho : o ≠ some i) : B[i]? = some X := by
  rw [h.2 i (by have := (List.getElem?_eq_some_iff.1 hx).1; exact this) ho, hx]
/-- an object made later than M, or none -/
def Later (n : Nat) (v : AV) : Prop := ∀ f, obj v = some f → n ≤ f
abbrev Grow (M M' : Mem) : Prop := KeepsBut none M M'
theorem Grow.app (M X : Mem) : Grow M (M ++ X) := KeepsBut.app none M X
/-- a slice of rows that this run alone writes: nil, or the whole of an array -/
def OwnR {α : Type} (e sz : Nat) (enc : α → List AV) (M : Mem) (v : AV) (l : List α) : Prop := (v = .val (.slice none 0 0) ∧ l = []) ∨
  ∃ f g hist, v = .vref f g sz 0 l.length ∧ M[f]? = some (.vec e sz (l.flatMap enc) g hist) ∧ hist.lookup g = some l.length
section
variable {α : Type} {e sz : Nat} {enc : α → List AV} {M M' : Mem} {v : AV} {l : List α}
theorem OwnR.nil : OwnR e sz enc M (.val (.slice none 0 0)) [] := .inl ⟨rfl, rfl⟩
theorem OwnR.lt (h : OwnR e sz enc M v l) {f : Nat} (hf : obj v = some f) : f < M.length := by
  rcases h with ⟨rfl, _⟩ | ⟨f', g, hist, rfl, hm, _⟩
  · simp at hf
  · simp at hf; subst hf; exact (List.getElem?_eq_some_iff.1 hm).1
theorem OwnR.keep (h : OwnR e sz enc M v l) {o : Option Nat} (hk : KeepsBut o M M') (ho : ∀ f, obj v = some f → o ≠ some f) : OwnR e sz enc M' v l := by
  rcases h with ⟨rfl, h⟩ | ⟨f', g, hist, rfl, hm, hl⟩
  · exact .inl ⟨rfl, h⟩
  · exact .inr ⟨f', g, hist, rfl, hk.get hm (ho _ rfl), hl⟩
theorem OwnR.src (he : ∀ x, (enc x).length = sz) (h : OwnR e sz enc M v l) : srcCells M sz v = some (l.flatMap enc, l.length) := by
  rcases h with ⟨rfl, rfl⟩ | ⟨f', g, hist, rfl, hm, hl⟩
  · rfl
  · simp only [srcCells, hm, hl]
    rw [if_pos ⟨trivial, trivial, by omega⟩, Nat.zero_mul, List.drop_zero, List.take_of_length_le (by rw [flat_len he]; exact Nat.le_refl _)]
theorem OwnR.store (h : OwnR e sz enc M v l) : v.storable = true := by
  rcases h with ⟨rfl, rfl⟩ | ⟨f', g, hist, rfl, hm, hl⟩ <;> rfl
theorem OwnR.cells (h : OwnR e sz enc M v l) : v.cells = [v] := by
  rcases h with ⟨rfl, rfl⟩ | ⟨f', g, hist, rfl, hm, hl⟩ <;> rfl
theorem OwnR.len (h : OwnR e sz enc M v l) {P : Program} {t e' : TypeId} (ht : P.underlying t = some (.slice e')) : lenAV P t v = some l.length := by
  rcases h with ⟨rfl, rfl⟩ | ⟨f', g, hist, rfl, hm, hl⟩ <;> simp [lenAV, ht]
/-- a row of it, read -/
theorem OwnR.at_ {P : Program} {t : TypeId} (h : OwnR e sz enc M v l) (he : ∀ x, (enc x).length = sz) (ha : aggOf P t = some true) (hs : szOf P t = some sz) {i : Nat} (hi : i < l.length) :
    ∃ p, idxAV (some (some sz)) v (.val (.int .i64 i)) = some p ∧ memOf M p = some ((l.drop i).flatMap enc) ∧ loadAV P t M p = some (.agg (enc l[i])) ∧ obOf p = obj v := by
  rcases h with ⟨rfl, rfl⟩ | ⟨f, g, hist, rfl, hm, hl⟩
  · simp at hi
  · refine ⟨.vptr f g (i * sz), by simp [hi], ?_, ?_, rfl⟩
    · simp only [memOf, hm, hl]
      rw [List.take_of_length_le (by rw [flat_len he]; exact Nat.le_refl _), flat_drop he]
    · simp only [loadAV, memOf, hm, hl, Option.bind_some, loadCells_row, ha, hs]
      rw [List.take_of_length_le (by rw [flat_len he]; exact Nat.le_refl _), flat_drop he, List.drop_eq_getElem_cons hi, List.flatMap_cons, loadRow]
      rw [if_pos (by rw [List.length_append, he]; omega), List.take_append, he, Nat.sub_self, List.take_of_length_le (by rw [he]; omega), List.take_zero, List.append_nil]
end
section
variable {C : Ctx} {M : Mem} {K : AV → Mem → Prop} {α : Type} {enc : α → List AV}
theorem pushR {own vec : Bool} {st xt e : TypeId} {sz bytes : Nat} {s x : AV} {l news : List α} {tg : Tag K} (h1 : elemOf? C.P st = some e) (h2 : srcOk C.P xt) (h3 : elemOk C.P e sz bytes) (he : ∀ x, (enc x).length = sz) (ho : OwnR e sz enc M s l)
    (hx : srcCells M sz x = some (news.flatMap enc, news.length)) (hb : (l.length + news.length) * bytes ≤ 140737488355328) (hvec : vec = true)
    (hk : ∀ v' M', OwnR e sz enc M' v' (l ++ news) → KeepsBut (obj s) M M' → (obj v' = obj s ∨ Later M.length v') → (news = [] → v' = s ∧ M' = M) → K v' M') : wAppend C own vec st xt s x M K tg := by
  subst hvec
  rcases ho with ⟨rfl, rfl⟩ | ⟨f, g, hist, rfl, hf, hl⟩
  · refine w_vappend h1 h2 h3 (by rfl) hx hb (by simp only [vappIn, hx]) ?_ rfl
    simp only [vappAV, hx]
    by_cases h0 : news.length = 0
    · rw [if_pos h0]
      have hn : news = [] := List.eq_nil_of_length_eq_zero h0
      subst hn
      exact hk _ _ (.inl ⟨rfl, rfl⟩) (.refl _ _) (.inl rfl) fun _ => ⟨rfl, rfl⟩
    · rw [if_neg h0]
      refine hk _ _ (.inr ⟨M.length, 0, [(0, news.length)], by simp, by simp, by simp [List.lookup]⟩) (.app _ _ _) (.inr ?_) fun hn => by subst hn; simp at h0
      intro f hf; simp at hf; omega
  · have hcs : srcCells M sz (.vref f g sz 0 l.length) = some (l.flatMap enc, l.length) := OwnR.src he (.inr ⟨f, g, hist, rfl, hf, hl⟩)
    refine w_vappend h1 h2 h3 hcs hx hb ?_ ?_ rfl
    · simp only [vappIn, hx, hf, hl]
      rw [if_neg (by omega)]
    · simp only [vappAV, hx, hf, hl]
      rw [if_pos ⟨trivial, trivial, trivial, by omega⟩]
      by_cases h0 : news.length = 0
      · rw [if_pos h0]
        have hn : news = [] := List.eq_nil_of_length_eq_zero h0
        subst hn
        simp only [List.append_nil] at hk
        exact hk _ _ (.inr ⟨f, g, hist, rfl, hf, hl⟩) (.refl _ _) (.inl rfl) fun _ => ⟨rfl, rfl⟩
      · rw [if_neg h0]
        have hlen : f < M.length := (List.getElem?_eq_some_iff.1 hf).1
        refine hk _ _ (.inr ⟨f, g + 1, (g + 1, l.length + news.length) :: hist.filter (fun p => decide (p.2 ≤ l.length)), by simp, ?_, by simp [List.lookup]⟩) (.set _ _ _) (.inl rfl) fun hn => by subst hn; simp at h0
        simp only [List.getElem?_set, hlen, if_true, Nat.zero_mul, List.drop_zero]
        rw [List.take_of_length_le (by rw [flat_len he]; exact Nat.le_refl _), List.flatMap_append]
/-- a call's leavings are let go -/
theorem grow_cut {f : FuncId} {args : List AV} {Q : Value → Prop} (h : ACalls C f args M (fun v M' => (∃ x, v = .val x ∧ Q x) ∧ Grow M M')) : ACalls C f args M (fun v M' => (∃ x, v = .val x ∧ Q x) ∧ M' = M) := by
  refine h.cut ?_
  rintro r M' ⟨⟨x, rfl, hq⟩, hg⟩
  refine ⟨M'.drop M.length, ?_, trivial, ⟨x, rfl, hq⟩, rfl⟩
  have ht : M'.take M.length = M := by
    apply List.ext_getElem?
    intro i
    rw [List.getElem?_take]
    split
    · rename_i hi; exact hg.2 i hi (by simp)
    · rename_i hi; exact (List.getElem?_eq_none (by omega)).symm
  have := List.take_append_drop M.length M'
  rw [ht] at this
  exact this.symm

/-! ### a region that looks at one variable, which its writers leave alone -/
def wsDrawQ (C : Ctx) (h : Hint) (ops : Array Oper) (cls : Nat → Nat) (r0 : Nat) : Nat → List Oper → Env → Mem → (Env → Mem → Prop) → Prop
  | _, [], T, M, K => K T M
  | k, o :: rest, T, M, K => vcGuard ops o T (wsD C h (cls k) r0 o (T.ev C) M (fun v M' => M'[r0]? = M[r0]? ∧ wsDrawQ C h ops cls r0 (k + 1) rest (T.put o.dst v) M' K)) (wsDrawQ C h ops cls r0 (k + 1) rest (T.put o.dst (.val undef)) M K)
def planQ (cls : Nat → Nat) (r0 : Nat) : Plan := { cls := fun k => if cls k = 5 then 3 else cls k, rob := fun _ => r0, aff := fun _ _ => false }
theorem wsDrawQ_sound {h : Hint} {ops : Array Oper} {cls : Nat → Nat} {r0 : Nat} {K : Env → Mem → Prop} : ∀ (l : List Oper) (k : Nat) (T : Env) (M : Mem), wsDrawQ C h ops cls r0 k l T M K → drawRun C h ops (planQ cls r0) k l T M K
  | [], k, T, M, hw => hw
  | o :: rest, k, T, M, hw => by
    simp only [wsDrawQ] at hw
    simp only [drawRun]
    exact vcGuard_mono (fun h1 => dOp_mono0 (fun v m (h2 : m[r0]? = M[r0]? ∧ wsDrawQ C h ops cls r0 (k + 1) rest (T.put o.dst v) m K) => ⟨fun i _ _ => h2.1, wsDrawQ_sound rest _ _ _ h2.2⟩) (by
      have hd := wsD_sound h1
      by_cases e : cls k = 5
      · rw [e] at h1; exact h1.elim
      · simpa only [planQ, if_neg e] using hd)) (fun h1 => wsDrawQ_sound rest _ _ _ h1) hw
theorem awp_wsDrawQ {N : Nat} {h : Hint} {id : Nat} {ops : Array Oper} {Q : Exit → Env → Mem → Prop} {T : Env} (hmix : C.P.follows .mixedOrders = true) (cls : Nat → Nat) (r0 : Nat) (hin : opsInside N ops ops.toList = true) (hok : okDraw ops (planQ cls 0) = true)
    (hr : wsDrawQ C h ops cls r0 0 ops.toList T M (fun T M => Q .normal T M)) : AWp C N (.region id ops true) Q T M := by
  have h4 : ∀ i o, ops[i]? = some o → (planQ cls r0).cls i ≠ 4 := by
    intro i o ho e
    have := (okDraw_at hok ho).2.1 e
    simp [planQ] at this
  have h5 : ∀ k, (planQ cls r0).cls k ≠ 5 := by
    intro k
    simp only [planQ]
    split <;> omega
  have hok' : okDraw ops (planQ cls r0) = true := by
    have hp : ∀ i, i < ops.size → isPut ((planQ cls r0).cls i) = false := fun i hi => by
      cases e : isPut ((planQ cls r0).cls i) with
      | false => rfl
      | true => rcases isPut_iff.1 e with h | h
                · exact absurd h (h4 i _ (Array.getElem?_eq_getElem hi))
                · exact absurd h (h5 i)
    have : ∀ i j, i < ops.size → j < ops.size → memConf (planQ cls r0) j i = memConf (planQ cls 0) j i := by
      intro i j hi hj
      have b1 := hp i hi
      have b2 := hp j hj
      have c1 : (planQ cls 0).cls = (planQ cls r0).cls := rfl
      have c2 : (planQ cls 0).aff = (planQ cls r0).aff := rfl
      simp only [memConf, c1, c2, b1, b2, Bool.and_false, Bool.false_and, Bool.or_false]
    refine List.all_eq_true.2 fun i hi => ?_
    have h0 := List.all_eq_true.1 hok i hi
    have hi' := List.mem_range.1 hi
    cases ho : ops[i]? with
    | none => rfl
    | some o =>
      rw [ho] at h0
      simp only [Bool.and_eq_true] at h0 ⊢
      refine ⟨h0.1, List.all_eq_true.2 fun j hj => ?_⟩
      have h1 := List.all_eq_true.1 h0.2 j hj
      have hj' := List.mem_range.1 hj
      cases hx : ops[j]? with
      | none => rfl
      | some x =>
        rw [hx] at h1
        simp only at h1 ⊢
        rw [this i j hi' (by omega)]
        exact h1
  refine awp_draw (h := h) hmix (planQ cls r0) hin hok' (fun k hk hc => ?_) (wsDrawQ_sound _ _ _ _ hr)
  exact absurd hc (h4 k _ (Array.getElem?_eq_getElem hk))
def wDrawQ (C : Ctx) (h : Hint) (ops : Array Oper) (cls : Nat → Nat) (r0 : Nat) (k : Nat) (l : List Oper) (T : Env) (M : Mem) (K : Env → Mem → Prop) (_ : Tag (ops, l, K)) : Prop := wsDrawQ C h ops cls r0 k l T M K
variable {cls : Nat → Nat} {r0 N : Nat} {Q : Post} {T : Env} {h : Hint}
@[simp] theorem wDrawQ_nil {ops : Array Oper} {k : Nat} {K : Env → Mem → Prop} {tg : Tag (ops, ([] : List Oper), K)} : wDrawQ C h ops cls r0 k [] T M K tg = K T M := rfl
@[simp] theorem wDrawQ_cons {ops : Array Oper} {k : Nat} {o : Oper} {rest : List Oper} {K : Env → Mem → Prop} {tg : Tag (ops, o :: rest, K)} : wDrawQ C h ops cls r0 k (o :: rest) T M K tg =
    wGuard ops o T (wD C h (cls k) r0 o (T.ev C) M (fun v M' => M'[r0]? = M[r0]? ∧ wDrawQ C h ops cls r0 (k + 1) rest (T.put o.dst v) M' K ⟨⟩) ⟨⟩) (wDrawQ C h ops cls r0 (k + 1) rest (T.put o.dst (.val undef)) M K ⟨⟩) ⟨⟩ := rfl
theorem w_drawnQ {id : Nat} {l : List Oper} {tg : Tag (Code.region id l.toArray true, Q)} (h : Hint) (hmix : C.P.follows .mixedOrders = true) (cls : Nat → Nat) (r0 : Nat) (hin : opsInside N l.toArray l = true) (hok : okDraw l.toArray (planQ cls 0) = true)
    (hr : wDrawQ C h l.toArray cls r0 0 l T M (fun T M => Q .normal T M) ⟨⟩) : wWp C N (.region id l.toArray true) Q T M tg := awp_wsDrawQ hmix cls r0 hin hok hr
end
end Go.Abs
end
section
/- Maps as lists of keys and values: what a lookup and a store are. -/
set_option linter.unusedVariables false
namespace Go.Abs
variable {K V : Type} [DecidableEq K]

def getL : List (K × V) → K → Option V
  | [], _ => none
  | (k, v) :: l, x => if x = k then some v else getL l x
def putL : List (K × V) → K → V → List (K × V)
  | [], x, y => [(x, y)]
  | (k, v) :: l, x, y => if x = k then (x, y) :: l else (k, v) :: putL l x y
theorem getL_none {l : List (K × V)} {x : K} : getL l x = none ↔ x ∉ l.map (·.1) := by
  induction l with
  | nil => simp [getL]
  | cons p l ih =>
    obtain ⟨k, v⟩ := p
    simp only [getL, List.map_cons, List.mem_cons, not_or]
    by_cases h : x = k
    · simp [h]
    · simp [h, ih]
theorem putL_new {l : List (K × V)} {x : K} {y : V} (h : x ∉ l.map (·.1)) : putL l x y = l ++ [(x, y)] := by
  induction l with
  | nil => rfl
  | cons p l ih =>
    obtain ⟨k, v⟩ := p
    simp only [List.map_cons, List.mem_cons, not_or] at h
    simp only [putL, if_neg h.1, ih h.2, List.cons_append]
theorem putL_keys {l : List (K × V)} {x : K} {y : V} : (putL l x y).map (·.1) = if x ∈ l.map (·.1) then l.map (·.1) else l.map (·.1) ++ [x] := by
  induction l with
  | nil => simp [putL]
  | cons p l ih =>
    obtain ⟨k, v⟩ := p
    by_cases h : x = k
    · subst h; simp [putL]
    · rw [putL, if_neg h, List.map_cons, ih]
      by_cases hm : x ∈ l.map (·.1)
      · rw [if_pos hm, if_pos (by simp only [List.map_cons]; exact List.mem_cons_of_mem _ hm)]; rfl
      · rw [if_neg hm, if_neg (by simp only [List.map_cons, List.mem_cons, not_or]; exact ⟨h, hm⟩)]; rfl
theorem getL_putL {l : List (K × V)} {x z : K} {y : V} : getL (putL l x y) z = if z = x then some y else getL l z := by
  induction l with
  | nil => simp [putL, getL]
  | cons p l ih =>
    obtain ⟨k, v⟩ := p
    by_cases h : x = k
    · subst h
      simp only [putL, if_true, getL]
      split <;> simp_all
    · simp only [putL, if_neg h, getL]
      by_cases h2 : z = k
      · subst h2; rw [if_pos rfl, if_pos rfl, if_neg (fun e => h e.symm)]
      · rw [if_neg h2, if_neg h2, ih]
/-- keys of a type of the program -/
structure KeyOK (P : Program) (t kt et : TypeId) (kenc : K → AV) : Prop where
  kv : mapKV? P t = some (kt, et)
  ty : (scalarT P kt || wideT P kt) = true
  chk : ∀ k, checkAV P 30 kt (kenc k) = true
  eq : ∀ a b, eqAV P 30 kt (kenc a) (kenc b) = some (decide (a = b))
  bits : ∀ a, ∃ c, plainAV (kenc a) = some c ∧ Instr.sameBits 10000 c c = true
def MapAt (kenc : K → AV) (venc : V → AV) (M : Mem) (b : Nat) (l : List (K × V)) : Prop :=
  ∃ es clock, M[b]? = some (.map es clock) ∧ es.map (fun e => (e.1, e.2.1)) = l.map fun p => (kenc p.1, venc p.2)
section
variable {P : Program} {t kt et : TypeId} {kenc : K → AV} {venc : V → AV} {M M' : Mem} {b : Nat} {l : List (K × V)}
omit [DecidableEq K] in
theorem MapAt.keep (h : MapAt kenc venc M b l) {o : Option Nat} (hk : KeepsBut o M M') (ho : o ≠ some b) : MapAt kenc venc M' b l := by
  obtain ⟨es, c, h1, h2⟩ := h
  exact ⟨es, c, hk.get h1 ho, h2⟩
omit [DecidableEq K] in
theorem MapAt.lt (h : MapAt kenc venc M b l) : b < M.length := by
  obtain ⟨es, c, h1, _⟩ := h
  exact (List.getElem?_eq_some_iff.1 h1).1
omit [DecidableEq K] in
theorem MapAt.new (M : Mem) : MapAt kenc venc (M ++ [.map [] 0]) M.length [] := ⟨[], 0, by simp, rfl⟩
theorem keyFind_of (hk : KeyOK P t kt et kenc) (x : K) : ∀ (l : List (K × V)) (es : List (AV × AV × Nat)), es.map (fun e => (e.1, e.2.1)) = l.map (fun p => (kenc p.1, venc p.2)) →
    (getL l x = none ∧ keyFind P kt (kenc x) es = some none) ∨ (∃ v i, getL l x = some v ∧ keyFind P kt (kenc x) es = some (some (i, venc v)) ∧ (∃ born, es[i]? = some (kenc x, venc v, born)) ∧ ∀ y born, (es.set i (kenc x, venc y, born)).map (fun e => (e.1, e.2.1)) = (putL l x y).map (fun p => (kenc p.1, venc p.2)))
  | [], [], _ => .inl ⟨rfl, rfl⟩
  | [], _ :: _, h => by simp at h
  | _ :: _, [], h => by simp at h
  | (k, v) :: l, (ek, ev, bn) :: es, h => by
    simp only [List.map_cons, List.cons.injEq, Prod.mk.injEq] at h
    obtain ⟨⟨rfl, rfl⟩, h2⟩ := h
    by_cases e : x = k
    · subst e
      refine .inr ⟨v, 0, by simp [getL], by simp [keyFind, hk.eq], ⟨bn, rfl⟩, fun y born => ?_⟩
      simp [putL, h2]
    · rcases keyFind_of hk x l es h2 with ⟨q1, q2⟩ | ⟨v', i, q1, q2, ⟨born, q3⟩, q4⟩
      · exact .inl ⟨by simp [getL, e, q1], by simp [keyFind, hk.eq, e, q2]⟩
      · refine .inr ⟨v', i + 1, by simp [getL, e, q1], by simp [keyFind, hk.eq, e, q2], ⟨born, by simpa using q3⟩, fun y born => ?_⟩
        simp only [List.set_cons_succ, List.map_cons, q4 y born, putL, if_neg e]
theorem MapAt.get (hk : KeyOK P t kt et kenc) (h : MapAt kenc venc M b l) (x : K) {z : AV} (hz : zeroAV P et = some z) (ok : Bool) :
    lookupAV P t M (.mapr b) (kenc x) ok = some (match getL l x with | some v => if ok then .tuple [venc v, .val (.bool true)] else venc v | none => if ok then .tuple [z, .val (.bool false)] else z) := by
  obtain ⟨es, c, h1, h2⟩ := h
  simp only [lookupAV, hk.kv, entriesOf, h1, hk.ty, hk.chk, Bool.and_self, if_true]
  rcases keyFind_of hk x l es h2 with ⟨q1, q2⟩ | ⟨v', i, q1, q2, _⟩
  · rw [q1, q2]; simp [hz]
  · rw [q1, q2]
theorem MapAt.put (hk : KeyOK P t kt et kenc) (h : MapAt kenc venc M b l) (x : K) (y : V) : ∃ M', mapPutAV P t M (.mapr b) (kenc x) (venc y) = some M' ∧ MapAt kenc venc M' b (putL l x y) ∧ KeepsBut (some b) M M' := by
  have hlt := h.lt
  obtain ⟨es, c, h1, h2⟩ := h
  rcases keyFind_of hk x l es h2 with ⟨q1, q2⟩ | ⟨v', i, q1, q2, ⟨born, q3⟩, q4⟩
  · refine ⟨M.set b (.map (es ++ [(kenc x, venc y, c)]) (c + 1)), ?_, ⟨es ++ [(kenc x, venc y, c)], c + 1, by simp [hlt], ?_⟩, .set _ _ _⟩
    · simp only [mapPutAV, hk.kv, h1, hk.ty, hk.chk, Bool.and_self, if_true, q2]
    · rw [List.map_append, h2, putL_new (getL_none.1 q1)]; simp
  · obtain ⟨cv, hc, hb⟩ := hk.bits x
    refine ⟨M.set b (.map (es.set i (kenc x, venc y, born)) c), ?_, ⟨es.set i (kenc x, venc y, born), c, by simp [hlt], q4 y born⟩, .set _ _ _⟩
    simp only [mapPutAV, hk.kv, h1, hk.ty, hk.chk, Bool.and_self, if_true, q2, q3, hc, hb]
end
end Go.Abs
end
section
/- An array that a call has made and handed over, read as data from then on. -/
set_option maxRecDepth 100000
set_option linter.unusedVariables false
namespace Go.Abs

theorem repRows_of {G : Ghost} {α : Type} {enc : α → List AV} {sz b : Nat} (he : ∀ x, (enc x).length = sz) (vs : List Value) (hst : ∀ i v, vs[i]? = some v → ∀ o, G.st b (o + i) = some v → True) :
    ∀ (l : List α) (o : Nat) (ws : List Value), RepL G (l.flatMap enc) ws → (∀ v ∈ ws, v.oneCell' = true) → (∀ i v, ws[i]? = some v → G.st b (o + i) = some v) → RepRows G sz (l.map enc) b o := by
  have mem : ∀ (cs : List AV) (o : Nat) (ws rest : List Value), RepL G cs ws → (∀ v ∈ ws, v.oneCell' = true) → (∀ i v, ws[i]? = some v → G.st b (o + i) = some v) → RepMem G cs b o := by
    intro cs
    induction cs with
    | nil => intros; simp [RepMem]
    | cons c cs ih =>
      intro o ws rest h1 h2 h3
      simp only [RepL] at h1
      obtain ⟨y, ys, rfl, k1, k2⟩ := h1
      simp only [RepMem]
      refine ⟨⟨y, by simpa using h3 0 y rfl, h2 y (by simp), k1⟩, ih (o + 1) ys rest k2 (fun v hv => h2 v (by simp [hv])) fun i v hv => ?_⟩
      have := h3 (i + 1) v (by simpa using hv)
      rw [show o + 1 + i = o + (i + 1) by omega]; exact this
  have split : ∀ (a b : List AV) (ws : List Value), RepL G (a ++ b) ws → RepL G a (ws.take a.length) ∧ RepL G b (ws.drop a.length) := by
    intro a
    induction a with
    | nil => intro b ws h; simpa [RepL] using h
    | cons c a ih =>
      intro b ws h
      simp only [List.cons_append, RepL] at h
      obtain ⟨y, ys, rfl, k1, k2⟩ := h
      obtain ⟨q1, q2⟩ := ih b ys k2
      exact ⟨by simp only [List.length_cons, List.take_succ_cons, RepL]; exact ⟨y, _, rfl, k1, q1⟩, by simpa using q2⟩
  intro l
  induction l with
  | nil => intros; simp [RepRows]
  | cons x l ih =>
    intro o ws h1 h2 h3
    rw [List.flatMap_cons] at h1
    obtain ⟨q1, q2⟩ := split _ _ _ h1
    rw [he] at q1 q2
    simp only [List.map_cons, RepRows]
    refine ⟨⟨he x, mem _ o _ [] q1 (fun v hv => h2 v (List.mem_of_mem_take hv)) fun i v hv => ?_⟩, ih (o + sz) _ q2 (fun v hv => h2 v (List.mem_of_mem_drop hv)) fun i v hv => ?_⟩
    · refine h3 i v ?_
      rw [List.getElem?_take] at hv
      split at hv
      · exact hv
      · simp at hv
    · rw [List.getElem?_drop] at hv
      rw [show o + sz + i = o + (sz + i) by omega]; exact h3 _ v hv

theorem bddL_app {n : Nat} : ∀ (a c : List AV), bddL n a → bddL n c → bddL n (a ++ c)
  | [], c, _, h => h
  | z :: a, c, h1, h2 => by simp only [List.cons_append, bddL] at h1 ⊢; exact ⟨h1.1, bddL_app a c h1.2 h2⟩
theorem bddL_flat {α : Type} {enc : α → List AV} {n : Nat} (hb : ∀ n x, bddL n (enc x)) : ∀ l : List α, bddL n (l.flatMap enc)
  | [] => by simp [bddL]
  | y :: l => by rw [List.flatMap_cons]; exact bddL_app _ _ (hb n y) (bddL_flat hb l)
theorem ACalls.still {C : Ctx} {f : FuncId} {args : List AV} {M : Mem} {α : Type} {e sz : Nat} {enc : α → List AV} {l : List α} (he : ∀ x, (enc x).length = sz) (hb : ∀ n x, bddL n (enc x))
    (h : ACalls C f args M (fun v M' => OwnR e sz enc M' v l ∧ Grow M M' ∧ Later M.length v)) : ACalls C f args M (fun v M' => v = .list sz (l.map enc) .no ∧ M' = M) := by
  intro G w vs hi hr
  refine Calls.mono (h G w vs hi hr) ?_
  rintro ex w' ⟨r, M', G', x, rfl, ⟨ho, hg, hlat⟩, h2, h3, h4, h5⟩
  obtain ⟨X, rfl⟩ : ∃ X, M' = M ++ X := by
    refine ⟨M'.drop M.length, ?_⟩
    have ht : M'.take M.length = M := by
      apply List.ext_getElem?
      intro i
      rw [List.getElem?_take]
      split
      · rename_i hi; exact hg.2 i hi (by simp)
      · rename_i hi; exact (List.getElem?_eq_none (by omega)).symm
    have := List.take_append_drop M.length M'
    rw [ht] at this
    exact this.symm
  obtain ⟨k1, k2⟩ := hi.cut h2 h3
  rcases ho with ⟨rfl, rfl⟩ | ⟨fo, g, hist, rfl, hm, hl⟩
  · refine ⟨_, M, _, x, rfl, ⟨rfl, rfl⟩, k2, k1, ?_, h5⟩
    simp only [Rep] at h4 ⊢
    subst h4
    exact ⟨none, 0, rfl, by simp, by simp [maxLen], ⟨rfl, rfl⟩, trivial⟩
  have hfo : M.length ≤ fo := hlat fo rfl
  have hmem : (g, l.length) ∈ hist := lookup_mem hl
  obtain ⟨p1, p2, b, o, cap, bs, q1, q2, q3, q4, q5, q6, q7, q8, q9⟩ := (h3.obj fo _ hm).2.1 g l.length hmem
  have hown : owns G' fo (.vec e sz (l.flatMap enc) g hist) b := ⟨g, l.length, _, hmem, congrArg Prod.fst q1, rfl⟩
  rw [List.take_of_length_le (by rw [flat_len he]; exact Nat.le_refl _)] at q6
  obtain ⟨ws, hws⟩ : ∃ ws, ws = (bs.toList.drop o).take (l.length * sz) := ⟨_, rfl⟩
  rw [← hws] at q6 q7
  have hcell : ∀ i v, ws[i]? = some v → w'.cell? ⟨b, o + i, none⟩ = some v := fun i v hv => by
    rw [hws, List.getElem?_take] at hv
    split at hv
    · rw [List.getElem?_drop] at hv
      simp only [World.cell?, q4]
      simpa using hv
    · simp at hv
  have hno : ∀ k y, M[k]? = some y → ∀ b', owns (G'.cut M.length) k y b' → b' ≠ b := fun k y hy b' hb' e => by
    subst e
    have := h3.apart k fo y _ b' (by rw [List.getElem?_append_left (getElem?_lt hy)]; exact hy) hm (by cases y <;> exact hb') hown
    have := getElem?_lt hy
    omega
  obtain ⟨G2, hG2⟩ : ∃ G2 : Ghost, G2 = { G'.cut M.length with st := fun b' i => if b' = b ∧ o ≤ i then ws[i - o]? else G'.st b' i } := ⟨_, rfl⟩
  have hst2 : ∀ b' i, b' ≠ b → G2.st b' i = G'.st b' i := fun b' i hne => by rw [hG2]; simp [hne]
  have hstb : ∀ i v, ws[i]? = some v → G2.st b (o + i) = some v := fun i v hv => by rw [hG2]; simpa using hv
  have hle : (G'.cut M.length).le G2 := by
    rw [hG2]
    refine ⟨Nat.le_refl _, fun _ _ => rfl, fun b' i v hv => ?_, fun _ _ h => h, fun _ _ => Nat.le_refl _, fun _ _ _ _ => rfl⟩
    have hv : G'.st b' i = some v := hv
    have hne : b' ≠ b := fun e => by rw [e, q8] at hv; simp at hv
    simp only [hne, false_and, if_false]
    exact hv
  have hblk : G2.blk = (G'.cut M.length).blk := by rw [hG2]
  have hkeep : G2.keep = (G'.cut M.length).keep := by rw [hG2]
  have hhdr : G2.hdr = (G'.cut M.length).hdr := by rw [hG2]
  have htop : G2.top = (G'.cut M.length).top := by rw [hG2]
  have hinv : Inv C G2 M w' := by
    refine ⟨by rw [hG2]; rfl, fun b' i v hv => ?_, fun b' ob hv => ?_, fun k ob hk => ?_, fun j k x y b' hx hy ox oy => ?_, fun gg => Rep.mono hle _ _ (k1.gl gg), fun gg cs hc => ?_⟩
    · rw [hG2] at hv
      simp only at hv
      split at hv
      · rename_i hc
        obtain ⟨rfl, hoi⟩ := hc
        have := hcell _ v hv
        rwa [show o + (i - o) = i by omega] at this
      · exact h3.st b' i v hv
    · rw [hkeep] at hv; exact h3.keep b' ob hv
    · have h0 := k1.obj k ob hk
      have hn := hno k ob hk
      have hs : ∀ b' i, b' ≠ b → G2.st b' i = (G'.cut M.length).st b' i := fun b' i h => hst2 b' i h
      cases ob with
      | gone => trivial
      | cells t cs =>
        obtain ⟨vs', a1, a2, a3, a4, a5⟩ := h0
        refine ⟨vs', by rw [hblk]; exact a1, RepL.mono hle _ _ a2, a3, fun i => ?_, by rw [hblk, hkeep]; exact a5⟩
        rw [hblk, hs _ _ (hn _ rfl)]; exact a4 i
      | fam m sz' =>
        obtain ⟨a1, a2, a3, a4⟩ := h0
        refine ⟨by rw [htop]; exact a1, by rw [hhdr]; exact a2, by rw [hhdr]; exact a3, fun hlt => ?_⟩
        rw [hhdr] at hlt ⊢
        obtain ⟨gb, vs', t, c1, c2, c3, c4, c5⟩ := a4 hlt
        refine ⟨gb, vs', t, c1, c2, c3, fun i hi => ?_, by rw [hkeep]; exact c5⟩
        rw [hs _ _ (hn gb ⟨hlt, _, c1, rfl⟩)]; exact c4 i hi
      | vec e' sz' cs g' hist' =>
        obtain ⟨a1, a2, a3⟩ := h0
        refine ⟨by rw [htop]; exact a1, fun hh n hmm => ?_, by rw [hhdr]; exact a3⟩
        obtain ⟨c1, c2, b', o', cap', vs', d1, d2, d3, d4, d5, d6, d7, d8, d9⟩ := a2 hh n hmm
        refine ⟨by rw [htop]; exact c1, c2, b', o', cap', vs', by rw [hhdr]; exact d1, d2, d3, d4, d5, RepL.mono hle _ _ d6, d7, fun i => ?_, by rw [hkeep]; exact d9⟩
        rw [hs _ _ (hn b' ⟨hh, n, _, hmm, congrArg Prod.fst d1, rfl⟩)]; exact d8 i
      | map es clock =>
        obtain ⟨xs, a1, a2, a3⟩ := h0
        exact ⟨xs, by rw [hblk]; exact a1, a2.mono hle, by rw [hblk, hkeep]; exact a3⟩
      | siter s pos =>
        obtain ⟨a1, a2⟩ := h0
        exact ⟨by rw [hblk]; exact a1, by rw [hblk, hkeep]; exact a2⟩
      | miter m since seen stepped =>
        obtain ⟨a1, a2, a3⟩ := h0
        exact ⟨by rw [hblk]; exact a1, by rw [hG2]; exact a2, by rw [hblk, hkeep]; exact a3⟩
    · refine k1.apart j k x y b' hx hy ?_ ?_
      · cases x <;> simp only [owns] at ox ⊢ <;> first | exact ox | (rw [hblk] at ox; exact ox) | (rw [hhdr] at ox; exact ox)
      · cases y <;> simp only [owns] at oy ⊢ <;> first | exact oy | (rw [hblk] at oy; exact oy) | (rw [hhdr] at oy; exact oy)
    · rw [hkeep]; exact k1.tab gg cs hc
  refine ⟨_, M, G2, x, rfl, ⟨rfl, rfl⟩, k2.trans hle, hinv, ?_, h5⟩
  simp only [Rep] at h4
  obtain ⟨_, _, a, a', cap', r1, r2, r3, rfl, r5, r6, r7⟩ := h4
  rw [q1] at r1
  simp only [Prod.mk.injEq, Option.some.injEq] at r1
  obtain ⟨rfl, rfl⟩ := r1
  simp only [Rep, List.length_map]
  refine ⟨some a', cap, by simp, q2, q3, ⟨fun _ => r3, ?_⟩, trivial⟩
  by_cases hc : 0 < cap
  · have := r7 hc
    rw [this]
    simp only [Nat.zero_mul, Nat.add_zero]
    have hrl : RepL (G'.cut M.length) (l.flatMap enc) ws := RepL.cut _ _ q6 (bddL_flat hb l)
    exact repRows_of he [] (fun _ _ _ _ _ => trivial) l o ws (RepL.mono hle _ _ hrl) q7 hstb
  · have : l = [] := List.eq_nil_of_length_eq_zero (by omega)
    subst this
    simp [RepRows]
end Go.Abs
end
section
/- A region drawn in its order that looks at some variables, which its writers leave alone, and at others ahead of its writers. -/
set_option maxRecDepth 100000
set_option linter.unusedVariables false
namespace Go.Abs
section
variable {C : Ctx} {M : Mem}
def wsDrawR (C : Ctx) (h : Hint) (ops : Array Oper) (cls rob : Nat → Nat) (qs : List Nat) : Nat → List Oper → Env → Mem → (Env → Mem → Prop) → Prop
  | _, [], T, M, K => K T M
  | k, o :: rest, T, M, K => vcGuard ops o T (wsD C h (cls k) (rob k) o (T.ev C) M (fun v M' => (∀ r ∈ qs, M'[r]? = M[r]?) ∧ wsDrawR C h ops cls rob qs (k + 1) rest (T.put o.dst v) M' K)) (wsDrawR C h ops cls rob qs (k + 1) rest (T.put o.dst (.val undef)) M K)
def planR (cls rob : Nat → Nat) (hot : Nat → Bool) : Plan := { cls := fun k => if cls k = 5 then 3 else cls k, rob := rob, aff := fun i _ => hot i }
theorem wsDrawR_sound {h : Hint} {ops : Array Oper} {cls rob : Nat → Nat} {hot : Nat → Bool} {qs : List Nat} {K : Env → Mem → Prop} (hq : ∀ i, cls i = 1 → hot i = false → rob i ∈ qs) : ∀ (l : List Oper) (k : Nat) (T : Env) (M : Mem), wsDrawR C h ops cls rob qs k l T M K → drawRun C h ops (planR cls rob hot) k l T M K
  | [], k, T, M, hw => hw
  | o :: rest, k, T, M, hw => by
    simp only [wsDrawR] at hw
    simp only [drawRun]
    refine vcGuard_mono (fun h1 => dOp_mono0 (fun v m (h2 : (∀ r ∈ qs, m[r]? = M[r]?) ∧ wsDrawR C h ops cls rob qs (k + 1) rest (T.put o.dst v) m K) => ⟨fun i hi ha => ?_, wsDrawR_sound hq rest _ _ _ h2.2⟩) (by
      have hd := wsD_sound h1
      by_cases e : cls k = 5
      · rw [e] at h1; exact h1.elim
      · simpa only [planR, if_neg e] using hd)) (fun h1 => wsDrawR_sound hq rest _ _ _ h1) hw
    refine h2.1 _ (hq i ?_ ha)
    simp only [planR] at hi
    split at hi
    · omega
    · exact hi
theorem awp_wsDrawR {N : Nat} {h : Hint} {id : Nat} {ops : Array Oper} {Q : Exit → Env → Mem → Prop} {T : Env} (hmix : C.P.follows .mixedOrders = true) (cls rob : Nat → Nat) (hot : Nat → Bool) (qs : List Nat) (hq : ∀ i, cls i = 1 → hot i = false → rob i ∈ qs) (hin : opsInside N ops ops.toList = true) (hok : okDraw ops (planR cls (fun _ => 0) hot) = true)
    (hr : wsDrawR C h ops cls rob qs 0 ops.toList T M (fun T M => Q .normal T M)) : AWp C N (.region id ops true) Q T M := by
  have h4 : ∀ i o, ops[i]? = some o → (planR cls rob hot).cls i ≠ 4 := by
    intro i o ho e
    have := (okDraw_at hok ho).2.1 e
    simp [planR] at this
  have h5 : ∀ k, (planR cls rob hot).cls k ≠ 5 := by
    intro k
    simp only [planR]
    split <;> omega
  have hok' : okDraw ops (planR cls rob hot) = true := by
    have hp : ∀ i, i < ops.size → isPut ((planR cls rob hot).cls i) = false := fun i hi => by
      cases e : isPut ((planR cls rob hot).cls i) with
      | false => rfl
      | true => rcases isPut_iff.1 e with h | h
                · exact absurd h (h4 i _ (Array.getElem?_eq_getElem hi))
                · exact absurd h (h5 i)
    have : ∀ i j, i < ops.size → j < ops.size → memConf (planR cls rob hot) j i = memConf (planR cls (fun _ => 0) hot) j i := by
      intro i j hi hj
      have b1 := hp i hi
      have b2 := hp j hj
      have c1 : (planR cls (fun _ => 0) hot).cls = (planR cls rob hot).cls := rfl
      have c2 : (planR cls (fun _ => 0) hot).aff = (planR cls rob hot).aff := rfl
      simp only [memConf, c1, c2, b1, b2, Bool.and_false, Bool.false_and, Bool.or_false]
    refine List.all_eq_true.2 fun i hi => ?_
    have h0 := List.all_eq_true.1 hok i hi
    have hi' := List.mem_range.1 hi
    cases ho : ops[i]? with
    | none => rfl
    | some o =>
      rw [ho] at h0
      simp only [Bool.and_eq_true] at h0 ⊢
      refine ⟨h0.1, List.all_eq_true.2 fun j hj => ?_⟩
      have h1 := List.all_eq_true.1 h0.2 j hj
      have hj' := List.mem_range.1 hj
      cases hx : ops[j]? with
      | none => rfl
      | some x =>
        rw [hx] at h1
        simp only at h1 ⊢
        rw [this i j hi' (by omega)]
        exact h1
  refine awp_draw (h := h) hmix (planR cls rob hot) hin hok' (fun k hk hc => ?_) (wsDrawR_sound hq _ _ _ _ hr)
  exact absurd hc (h4 k _ (Array.getElem?_eq_getElem hk))
def wDrawR (C : Ctx) (h : Hint) (ops : Array Oper) (cls rob : Nat → Nat) (qs : List Nat) (k : Nat) (l : List Oper) (T : Env) (M : Mem) (K : Env → Mem → Prop) (_ : Tag (ops, l, K)) : Prop := wsDrawR C h ops cls rob qs k l T M K
variable {cls rob : Nat → Nat} {qs : List Nat} {N : Nat} {Q : Post} {T : Env} {h : Hint}
@[simp] theorem wDrawR_nil {ops : Array Oper} {k : Nat} {K : Env → Mem → Prop} {tg : Tag (ops, ([] : List Oper), K)} : wDrawR C h ops cls rob qs k [] T M K tg = K T M := rfl
@[simp] theorem wDrawR_cons {ops : Array Oper} {k : Nat} {o : Oper} {rest : List Oper} {K : Env → Mem → Prop} {tg : Tag (ops, o :: rest, K)} : wDrawR C h ops cls rob qs k (o :: rest) T M K tg =
    wGuard ops o T (wD C h (cls k) (rob k) o (T.ev C) M (fun v M' => (∀ r ∈ qs, M'[r]? = M[r]?) ∧ wDrawR C h ops cls rob qs (k + 1) rest (T.put o.dst v) M' K ⟨⟩) ⟨⟩) (wDrawR C h ops cls rob qs (k + 1) rest (T.put o.dst (.val undef)) M K ⟨⟩) ⟨⟩ := rfl
theorem w_drawnR {id : Nat} {l : List Oper} {tg : Tag (Code.region id l.toArray true, Q)} (h : Hint) (hmix : C.P.follows .mixedOrders = true) (cls rob : Nat → Nat) (hot : Nat → Bool) (qs : List Nat) (hq : ∀ i, cls i = 1 → hot i = false → rob i ∈ qs) (hin : opsInside N l.toArray l = true) (hok : okDraw l.toArray (planR cls (fun _ => 0) hot) = true)
    (hr : wDrawR C h l.toArray cls rob qs 0 l T M (fun T M => Q .normal T M) ⟨⟩) : wWp C N (.region id l.toArray true) Q T M tg := awp_wsDrawR hmix cls rob hot qs hq hin hok hr
end
end Go.Abs
end
