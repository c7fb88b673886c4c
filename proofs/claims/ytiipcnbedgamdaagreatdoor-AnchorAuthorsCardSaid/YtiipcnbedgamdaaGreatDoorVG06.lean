/- The texts AbsX3, AbsX4: what each proves stands at its head. -/
import Derived.Test.YtiipcnbedgamdaaGreatDoorVG05
import Derived.WideKeyRuns
section
/- Maps. -/
set_option linter.unusedVariables false
namespace Go.Abs
section
variable {C : Ctx} {G : Ghost} {M : Mem} {w : World}

/-! ### a map's object turns -/
theorem run_setObj_map {P : Program} {r : Nat} {es : Array MapEntry} {c : Nat} (h : w.heap[r]? = some (.map es c)) (o : Obj) : (setObj r o).run P w = .ok () { w with heap := w.heap.setIfInBounds r o } := by
  simp [setObj, Sem.run, h]
theorem run_getObj_map {P : Program} {r : Nat} {es : Array MapEntry} {c : Nat} (h : w.heap[r]? = some (.map es c)) : (getObj r).run P w = .ok (.map es c) w := by
  simp [getObj, Sem.run, h]

theorem Inv.setMap (hi : Inv C G M w) {k : Nat} {es es' : List (AV × AV × Nat)} {clock clock' : Nat} (hk : M[k]? = some (.map es clock)) {xs xs' : Array MapEntry} (hh : w.heap[G.blk k]? = some (.map xs clock)) (hr : RepEntries G es' xs'.toList) :
    Inv C G (M.set k (.map es' clock')) { w with heap := w.heap.setIfInBounds (G.blk k) (.map xs' clock') } := by
  obtain ⟨_, _, _, hkeep⟩ := hi.obj k _ hk
  have hlt := heap_lt hh
  have hget : ∀ b, (w.heap.setIfInBounds (G.blk k) (.map xs' clock'))[b]? = if b = G.blk k then some (.map xs' clock') else w.heap[b]? := by
    intro b
    rw [Array.getElem?_setIfInBounds]
    by_cases e : G.blk k = b
    · subst e; simp [hlt]
    · rw [if_neg e, if_neg (fun h => e h.symm)]
  refine hi.step k (G.blk k) hk (.inl rfl) (.refl _) rfl (fun _ => rfl) (fun _ _ => ⟨rfl, rfl⟩) (fun b i v h => .inl h) (fun _ => rfl) (fun b _ hne => by simp only [hget, if_neg hne])
    (fun i v h => by
      have := hi.st _ _ _ h
      simp [World.cell?, hh] at this) (fun o h => by rw [hkeep] at h; simp at h) ⟨xs', by simp only [hget, if_true], hr, hkeep⟩ (fun b hb => .inl hb)
theorem Ext.setHeap (w : World) (r : Nat) (o : Obj) : Ext w { w with heap := w.heap.setIfInBounds r o } := ⟨rfl, rfl, rfl, by simp⟩

/-! ### keys -/
def checkAV (P : Program) : Nat → TypeId → AV → Bool
  | 0, _, _ => false
  | d + 1, t, x => match P.underlying t, x with
    | some .bool, .val (.bool _) | some (.int _), .val (.int _ _) | some .string, .val (.string _) => true
    | some (.struct fs), .agg cs => fs.toList.all fun f => f.name == "_" || ((szOf P f.type).any (fun n => decide (f.offset + n ≤ cs.length)) && match loadCells? P f.type (cs.drop f.offset) with
      | some a => checkAV P d f.type a
      | none => false)
    | _, _ => false

theorem checkAV_sound : ∀ (d : Nat) (t : TypeId) (x : AV) (em : Bool) (n : Nat) (xv : Value), checkAV C.P d t x = true → Rep G x xv → (Instr.checkKey em (d + n) t xv).run C.P w = .ok () w
  | 0, t, x, em, n, xv, h, _ => by simp [checkAV] at h
  | d + 1, t, x, em, n, xv, h, hx => by
    rw [show d + 1 + n = (d + n) + 1 from by omega]
    unfold checkAV at h
    split at h
    · rename_i hu; simp only [Rep] at hx; subst hx; simp [Instr.checkKey, run_underlying hu]
    · rename_i hu; simp only [Rep] at hx; subst hx; simp [Instr.checkKey, run_underlying hu]
    · rename_i hu; simp only [Rep] at hx; subst hx; simp [Instr.checkKey, run_underlying hu]
    · rename_i fs cs hu
      simp only [Rep] at hx
      obtain ⟨ax, rfl, hrx, h1x⟩ := hx
      simp only [Instr.checkKey, Sem.run_bind, run_underlying hu, Result.andThen_ok]
      rw [← Array.forIn_toList]
      generalize fs.toList = l at h
      clear hu
      induction l with
      | nil => simp
      | cons f l ih =>
        simp only [List.all_cons, Bool.and_eq_true, Bool.or_eq_true, beq_iff_eq] at h
        obtain ⟨h1, h2⟩ := h
        have ih := ih h2
        simp only [List.forIn_cons, Sem.run_bind]
        by_cases hn : f.name = "_"
        · simp only [hn, ne_eq, not_true_eq_false, if_false, Sem.run_pure, Result.andThen_ok]
          simpa using ih
        · simp only [ne_eq, hn, not_false_eq_true, if_true]
          rcases h1 with h1 | h1
          · exact absurd h1 hn
          · obtain ⟨hfit, hm⟩ := h1
            split at hm
            · rename_i a ha
              obtain ⟨u, hu1, hu2⟩ := part_sound (C := C) (w := w) hrx h1x hfit ha
              have hc := checkAV_sound d f.type a em n u hm hu2
              simp only [Sem.run_bind, hu1, Result.andThen_ok, hc, Sem.run_pure]
              simpa using ih
            · simp at hm
    · simp at h

def keyFind (P : Program) (kt : TypeId) (k : AV) : List (AV × AV × Nat) → Option (Option (Nat × AV))
  | [] => some none
  | (ek, ev, _) :: es => match eqAV P 30 kt k ek with
    | some true => some (some (0, ev))
    | some false => (keyFind P kt k es).map (·.map fun x => (x.1 + 1, x.2))
    | none => none

def FoundAt (G : Ghost) (xs : List MapEntry) (i : Nat) : Option (Nat × AV) → Option (Nat × Value) → Prop
  | none, r => r = none
  | some (j, ev), r => ∃ x, xs[j]? = some x ∧ Rep G ev x.val ∧ r = some (i + j, x.val)

theorem findAsking_run {kt : TypeId} {k : AV} {kv : Value} (hk : Rep G k kv) : ∀ (es : List (AV × AV × Nat)) (xs : List MapEntry) (i : Nat) (r : Option (Nat × AV)), RepEntries G es xs → keyFind C.P kt k es = some r →
    ∃ r', (Instr.findAsking kt kv xs i).run C.P w = .ok r' w ∧ FoundAt G xs i r r'
  | [], xs, i, r, hr, h => by
    cases hr
    simp only [keyFind, Option.some.injEq] at h
    subst h
    exact ⟨none, by simp [Instr.findAsking], rfl⟩
  | (ek, ev, b) :: es, xs, i, r, hr, h => by
    cases hr with
    | cons h1 h2 =>
    rename_i x xs
    obtain ⟨hek, hev, hb⟩ := h1
    simp only [keyFind] at h
    split at h
    · rename_i he
      simp only [Option.some.injEq] at h
      subst h
      have := eqAV_sound (C := C) (w := w) rfl 30 kt _ _ true 9970 _ _ he hk hek
      exact ⟨some (i, x.val), by simp [Instr.findAsking, Op.equal, Op.maxDepth, this], x, rfl, hev, rfl⟩
    · rename_i he
      simp only [Option.map_eq_some_iff] at h
      obtain ⟨r0, h0, rfl⟩ := h
      have := eqAV_sound (C := C) (w := w) rfl 30 kt _ _ false 9970 _ _ he hk hek
      obtain ⟨r', q1, q2⟩ := findAsking_run hk es xs (i + 1) r0 h2 h0
      refine ⟨r', by simp [Instr.findAsking, Op.equal, Op.maxDepth, this, q1], ?_⟩
      cases r0 with
      | none => exact q2
      | some p =>
        obtain ⟨y, hy, hv, rfl⟩ := q2
        exact ⟨y, by simpa using hy, hv, by simp; omega⟩
    · simp at h

def scalarT (P : Program) (kt : TypeId) : Bool := match P.underlying kt with
  | some .bool | some (.int _) | some .string => true
  | _ => false
def wideT (P : Program) (kt : TypeId) : Bool := match P.underlying kt with
  | some (.array _ _) | some (.struct _) => true
  | _ => false

theorem sameNow_of {kt : TypeId} {kd : TypeDesc} (hu : C.P.underlying kt = some kd) (hs : scalarT C.P kt = true) {k ek : AV} {kv ekv : Value} (hk : Rep G k kv) (he : Rep G ek ekv) {b : Bool} (h : eqAV C.P 30 kt k ek = some b) : Instr.sameNow kd kv ekv = some b := by
  unfold eqAV at h
  rw [hu] at h
  simp only [scalarT, hu] at hs
  split at h
  · rename_i e; simp only [Option.some.injEq] at e h; subst e h; simp only [Rep] at hk he; subst hk; subst he; rfl
  · rename_i e
    split at h
    · rename_i e2
      subst e2
      simp only [Option.some.injEq] at e h; subst e h; simp only [Rep] at hk he; subst hk; subst he; simp [Instr.sameNow]
    · simp at h
  · rename_i e; simp only [Option.some.injEq] at e h; subst e h; simp only [Rep] at hk he; subst hk; subst he; simp [Instr.sameNow, beq_data]
  · rename_i e; simp only [Option.some.injEq] at e; subst e; simp at hs
  · simp at h

theorem findNow_run {kt : TypeId} {kd : TypeDesc} (hu : C.P.underlying kt = some kd) (hs : scalarT C.P kt = true) {k : AV} {kv : Value} (hk : Rep G k kv) : ∀ (es : List (AV × AV × Nat)) (xs : List MapEntry) (i : Nat) (r : Option (Nat × AV)), RepEntries G es xs → keyFind C.P kt k es = some r →
    ∃ r', Instr.findNow kd kv xs i = some r' ∧ FoundAt G xs i r r'
  | [], xs, i, r, hr, h => by
    cases hr
    simp only [keyFind, Option.some.injEq] at h
    subst h
    exact ⟨none, rfl, rfl⟩
  | (ek, ev, b) :: es, xs, i, r, hr, h => by
    cases hr with
    | cons h1 h2 =>
    rename_i x xs
    obtain ⟨hek, hev, hb⟩ := h1
    simp only [keyFind] at h
    split at h
    · rename_i he
      simp only [Option.some.injEq] at h
      subst h
      have := sameNow_of hu hs hk hek he
      exact ⟨some (i, x.val), by simp [Instr.findNow, this], x, rfl, hev, rfl⟩
    · rename_i he
      simp only [Option.map_eq_some_iff] at h
      obtain ⟨r0, h0, rfl⟩ := h
      have := sameNow_of hu hs hk hek he
      obtain ⟨r', q1, q2⟩ := findNow_run hu hs hk es xs (i + 1) r0 h2 h0
      refine ⟨r', by simp [Instr.findNow, this, q1], ?_⟩
      cases r0 with
      | none => exact q2
      | some p =>
        obtain ⟨y, hy, hv, rfl⟩ := q2
        exact ⟨y, by simpa using hy, hv, by simp; omega⟩
    · simp at h

theorem findKey_run {kt : TypeId} (hs : (scalarT C.P kt || wideT C.P kt) = true) {k : AV} {kv : Value} (hk : Rep G k kv) {es : List (AV × AV × Nat)} {xs : List MapEntry} {r : Option (Nat × AV)} (hr : RepEntries G es xs) (h : keyFind C.P kt k es = some r) :
    ∃ r', (Instr.findKey kt kv xs).run C.P w = .ok r' w ∧ FoundAt G xs 0 r r' := by
  simp only [Bool.or_eq_true] at hs
  rcases hs with hs | hs
  · cases hu : C.P.underlying kt with
    | none => simp [scalarT, hu] at hs
    | some kd =>
      obtain ⟨r', q1, q2⟩ := findNow_run hu hs hk es xs 0 r hr h
      exact ⟨r', by simp [Instr.findKey, run_underlying hu, q1], q2⟩
  · obtain ⟨r', q1, q2⟩ := findAsking_run (C := C) (w := w) hk es xs 0 r hr h
    exact ⟨r', by rw [run_findKey_eq w (by
      unfold wideT at hs
      cases hu : C.P.underlying kt with
      | none => simp [hu] at hs
      | some kd => cases kd <;> simp [hu] at hs ⊢)]; exact q1, q2⟩

/-! ### lookup -/
def zeroAV (P : Program) (e : TypeId) : Option AV := match P.info? e with
  | some i => match i.zero with
    | some (.agg cs) => if cs.toList.all (·.oneCell') then some (.agg (cs.toList.map .val)) else none
    | some (.tuple _) => none
    | some v => some (.val v)
    | none => none
  | none => none
theorem zeroAV_rep {P : Program} {e : TypeId} {z : AV} (h : zeroAV P e = some z) (G : Ghost) (w : World) : ∃ v, (zeroValue e).run P w = .ok v w ∧ Rep G z v := by
  unfold zeroAV at h
  split at h
  case h_2 => simp at h
  rename_i i hi
  split at h
  · rename_i cs hz
    split at h
    · rename_i hall
      simp only [Option.some.injEq] at h
      subst h
      refine ⟨.agg cs, by simp [zeroValue, typeInfo, hi, hz], ?_⟩
      simp only [Rep]
      refine ⟨cs, rfl, RepL.of_get (by simp) ?_, fun y hy => List.all_eq_true.1 hall y hy⟩
      intro i c y h1 h2
      simp only [List.getElem?_map, Option.map_eq_some_iff] at h1
      obtain ⟨a, ha, rfl⟩ := h1
      rw [ha] at h2
      simp only [Option.some.injEq] at h2
      subst h2
      simp [Rep]
    · simp at h
  · simp at h
  · rename_i v _ _ hz
    simp only [Option.some.injEq] at h
    subst h
    exact ⟨v, by simp [zeroValue, typeInfo, hi, hz], by simp [Rep]⟩
  · simp at h

def mapKV? (P : Program) (t : TypeId) : Option (TypeId × TypeId) := match P.underlying t with | some (.map k e) => some (k, e) | _ => none
theorem mapKV_und {P : Program} {t k e : TypeId} (h : mapKV? P t = some (k, e)) : P.underlying t = some (.map k e) := by
  unfold mapKV? at h
  split at h
  · rename_i k' e' he; simp only [Option.some.injEq, Prod.mk.injEq] at h; obtain ⟨rfl, rfl⟩ := h; exact he
  · simp at h

def entriesOf (M : Mem) : AV → Option (List (AV × AV × Nat))
  | .val (.map none) => some []
  | .mapr b => match M[b]? with | some (.map es _) => some es | _ => none
  | _ => none

def lookupAV (P : Program) (t : TypeId) (M : Mem) (m k : AV) (ok : Bool) : Option AV :=
  match mapKV? P t, entriesOf M m with
  | some (kt, et), some es => if (scalarT P kt || wideT P kt) && checkAV P 30 kt k then
      match keyFind P kt k es with
      | some (some (_, v)) => some (if ok then .tuple [v, .val (.bool true)] else v)
      | some none => (zeroAV P et).map fun z => if ok then .tuple [z, .val (.bool false)] else z
      | none => none
    else none
  | _, _ => none

theorem lookup_sound (hi : Inv C G M w) {t : TypeId} {m k : AV} {mv kv : Value} (hm : Rep G m mv) (hk : Rep G k kv) {ok : Bool} {v : AV} (h : lookupAV C.P t M m k ok = some v) :
    ∃ u, (Instr.lookup t mv kv ok).run C.P w = .ok u w ∧ Rep G v u := by
  unfold lookupAV at h
  split at h
  case h_2 => simp at h
  rename_i kt et es hkv hes
  split at h
  case isFalse => simp at h
  rename_i hc
  simp only [Bool.and_eq_true] at hc
  have hu := mapKV_und hkv
  -- the entries
  have hent : ∃ xs : Array MapEntry, RepEntries G es xs.toList ∧ ((mv = .map none ∧ xs = #[]) ∨ ∃ r c, mv = .map (some r) ∧ w.heap[r]? = some (.map xs c)) := by
    unfold entriesOf at hes
    split at hes
    · simp only [Option.some.injEq] at hes
      subst hes
      simp only [Rep] at hm
      exact ⟨#[], .nil, .inl ⟨hm, rfl⟩⟩
    · rename_i b
      split at hes
      · rename_i es' c hb
        simp only [Option.some.injEq] at hes
        subst hes
        simp only [Rep] at hm
        obtain ⟨xs, h1, h2, _⟩ := hi.obj b _ hb
        exact ⟨xs, h2, .inr ⟨_, c, hm.2, h1⟩⟩
      · simp at hes
    · simp at hes
  obtain ⟨xs, hre, hmv⟩ := hent
  have hchk := checkAV_sound (C := C) (w := w) 30 kt k xs.isEmpty 9970 kv hc.2 hk
  have start : ∀ r' : Option (Nat × Value), (Instr.findKey kt kv xs.toList).run C.P w = .ok r' w → (Instr.lookup t mv kv ok).run C.P w =
      (do let (v, ok') ← (match r' with | some (_, v) => pure (v, true) | none => do pure (← zeroValue et, false) : Sem (Value × Bool)); pure (if ok then .tuple #[v, .bool ok'] else v) : Sem Value).run C.P w := by
    intro r' hr'
    rcases hmv with ⟨rfl, rfl⟩ | ⟨r, c, rfl, hh⟩
    · simp only [Instr.lookup, Sem.run_bind, run_underlying hu, Result.andThen_ok, Sem.run_pure, hchk, hr']
      cases r' with
      | none => simp; cases (zeroValue et).run C.P w <;> rfl
      | some p => simp
    · simp only [Instr.lookup, Sem.run_bind, run_underlying hu, Result.andThen_ok, Sem.run_pure, run_getObj_map hh, hchk, hr']
      cases r' with
      | none => simp; cases (zeroValue et).run C.P w <;> rfl
      | some p => simp
  split at h
  · rename_i i ev hf
    obtain ⟨r', q1, x, hx, hxv, rfl⟩ := findKey_run (C := C) (w := w) hc.1 hk hre hf
    simp only [Option.some.injEq] at h
    subst h
    refine ⟨if ok then .tuple #[x.val, .bool true] else x.val, by rw [start _ q1]; simp, ?_⟩
    cases ok
    · simpa using hxv
    · simp only [if_true, Rep]
      exact ⟨_, rfl, by simp only [RepL]; exact ⟨_, _, rfl, hxv, _, _, rfl, by simp [Rep], rfl⟩⟩
  · rename_i hf
    obtain ⟨r', q1, q2⟩ := findKey_run (C := C) (w := w) hc.1 hk hre hf
    simp only [FoundAt] at q2
    subst q2
    simp only [Option.map_eq_some_iff] at h
    obtain ⟨z, hz, rfl⟩ := h
    obtain ⟨zv, hz1, hz2⟩ := zeroAV_rep hz G w
    refine ⟨if ok then .tuple #[zv, .bool false] else zv, by rw [start _ q1]; simp [hz1], ?_⟩
    cases ok
    · simpa using hz2
    · simp only [if_true, Rep]
      exact ⟨_, rfl, by simp only [RepL]; exact ⟨_, _, rfl, hz2, _, _, rfl, by simp [Rep], rfl⟩⟩
  · simp at h

/-! ### a store into a map -/
def plainAV : AV → Option Value
  | .val v => match v with | .bool _ | .int _ _ | .string _ => some v | _ => none
  | .agg cs => if cs.all (fun c => match c with | .val (.bool _) | .val (.int _ _) | .val (.string _) => true | _ => false) then some (.agg (cs.map fun c => match c with | .val v => v | _ => .bool false).toArray) else none
  | _ => none
theorem plainAV_rep {k : AV} {kv v : Value} (h : plainAV k = some v) (hk : Rep G k kv) : kv = v := by
  unfold plainAV at h
  split at h
  · split at h <;> first | (simp only [Option.some.injEq] at h; subst h; simpa [Rep] using hk) | simp at h
  · rename_i cs
    split at h
    · rename_i hall
      simp only [Option.some.injEq] at h
      subst h
      simp only [Rep] at hk
      obtain ⟨ys, rfl, hr, _⟩ := hk
      congr 1
      apply Array.ext'
      generalize ys.toList = l at hr
      simp only
      induction cs generalizing l with
      | nil => simp only [RepL] at hr; subst hr; rfl
      | cons c cs ih =>
        simp only [RepL] at hr
        obtain ⟨y, l', rfl, h1, h2⟩ := hr
        simp only [List.all_cons, Bool.and_eq_true] at hall
        rw [List.map_cons, ← ih hall.2 l' h2]
        congr 1
        split at hall
        · simpa [Rep] using h1
        · simpa [Rep] using h1
        · simpa [Rep] using h1
        · simp at hall
    · simp at h
  · simp at h

theorem RepEntries.get_ {es : List (AV × AV × Nat)} {xs : List MapEntry} (h : RepEntries G es xs) : ∀ (i : Nat) (x : MapEntry), xs[i]? = some x → ∃ e, es[i]? = some e ∧ RepEntry G e x := by
  induction h with
  | nil => intro i x hx; simp at hx
  | cons h1 _ ih =>
    intro i x hx
    cases i with
    | zero => simp only [List.getElem?_cons_zero, Option.some.injEq] at hx; subst hx; exact ⟨_, rfl, h1⟩
    | succ i => simpa using ih i x (by simpa using hx)
theorem RepEntries.set_ {es : List (AV × AV × Nat)} {xs : List MapEntry} (h : RepEntries G es xs) {e : AV × AV × Nat} {x : MapEntry} (h1 : RepEntry G e x) : ∀ i, RepEntries G (es.set i e) (xs.set i x) := by
  induction h with
  | nil => intro i; exact .nil
  | cons h2 h3 ih =>
    intro i
    cases i with
    | zero => exact .cons h1 h3
    | succ i => exact .cons h2 (ih i)
theorem RepEntries.push_ {es : List (AV × AV × Nat)} {xs : List MapEntry} (h : RepEntries G es xs) {e : AV × AV × Nat} {x : MapEntry} (h1 : RepEntry G e x) : RepEntries G (es ++ [e]) (xs ++ [x]) := by
  induction h with
  | nil => exact .cons h1 .nil
  | cons h2 _ ih => exact .cons h2 ih

def mapPutAV (P : Program) (t : TypeId) (M : Mem) (m k v : AV) : Option Mem :=
  match mapKV? P t, m with
  | some (kt, et), .mapr b => match M[b]? with
    | some (.map es clock) => if (scalarT P kt || wideT P kt) && checkAV P 30 kt k then
        match keyFind P kt k es with
        | some (some (i, _)) => match es[i]? with
          | some (ok, _, born) => match plainAV ok, plainAV k with
            | some a, some c => if Instr.sameBits 10000 a c then some (M.set b (.map (es.set i (k, v, born)) clock)) else none
            | _, _ => none
          | none => none
        | some none => some (M.set b (.map (es ++ [(k, v, clock)]) (clock + 1)))
        | none => none
      else none
    | _ => none
  | _, _ => none

theorem modify_toList {α : Type} (a : Array α) (i : Nat) (f : α → α) (x : α) (h : a[i]? = some x) : (a.modify i f).toList = a.toList.set i (f x) := by
  apply List.ext_getElem?
  intro j
  rw [List.getElem?_set]
  have hlt := (Array.getElem?_eq_some_iff.1 h).1
  by_cases e : i = j
  · subst e
    simp [hlt]
    have := (Array.getElem?_eq_some_iff.1 h).2
    rw [this]
  · simp [e]

theorem mapPut_sound (hi : Inv C G M w) {t : TypeId} {m k v : AV} {mv kv vv : Value} (hm : Rep G m mv) (hk : Rep G k kv) (hv : Rep G v vv) {M' : Mem} (h : mapPutAV C.P t M m k v = some M') :
    ∃ w', (Instr.mapUpdate t mv kv vv).run C.P w = .ok () w' ∧ Inv C G M' w' ∧ Ext w w' := by
  unfold mapPutAV at h
  split at h
  case h_2 => simp at h
  rename_i kt et b hkv
  split at h
  case h_2 => simp at h
  rename_i es clock hb
  split at h
  case isFalse => simp at h
  rename_i hc
  simp only [Bool.and_eq_true] at hc
  have hu := mapKV_und hkv
  simp only [Rep] at hm
  obtain ⟨hbn, rfl⟩ := hm
  obtain ⟨xs, hh, hre, _⟩ := hi.obj b _ hb
  have hchk := checkAV_sound (C := C) (w := w) 30 kt k false 9970 kv hc.2 hk
  split at h
  · rename_i i ev hf
    obtain ⟨r', q1, x, hx, hxv, rfl⟩ := findKey_run (C := C) (w := w) hc.1 hk hre hf
    split at h
    case h_2 => simp at h
    rename_i ok evv born hes
    split at h
    case h_2 => simp at h
    rename_i a c ha hcc
    split at h
    case isFalse => simp at h
    rename_i hsame
    simp only [Option.some.injEq] at h
    subst h
    obtain ⟨e, he, hre1⟩ := hre.get_ i x hx
    rw [hes] at he
    simp only [Option.some.injEq] at he
    subst he
    have e1 : x.key = a := plainAV_rep ha hre1.1
    have e2 : kv = c := plainAV_rep hcc hk
    have hxa : xs[i]? = some x := by simpa using hx
    have hset := hi.setMap (clock' := clock) hb hh (es' := es.set i (k, v, born)) (xs' := xs.modify i fun e => { e with key := kv, val := vv }) (by
      rw [modify_toList _ _ _ _ hxa]
      exact hre.set_ (e := (k, v, born)) (x := { x with key := kv, val := vv }) ⟨hk, hv, hre1.2.2⟩ i)
    refine ⟨_, ?_, hset, Ext.setHeap _ _ _⟩
    have hst : (Instr.keyThatStays x.key kv).run C.P w = .ok kv w := by
      rw [e1, e2]
      simp [Instr.keyThatStays, hsame]
    simp only [Instr.mapUpdate, Sem.run_bind, run_underlying hu, Result.andThen_ok, run_getObj_map hh, hchk, q1, Nat.zero_add, hxa, Option.map_some, Option.getD_some, hst, run_setObj_map hh]
  · rename_i hf
    obtain ⟨r', q1, q2⟩ := findKey_run (C := C) (w := w) hc.1 hk hre hf
    simp only [FoundAt] at q2
    subst q2
    simp only [Option.some.injEq] at h
    subst h
    have hset := hi.setMap (clock' := clock + 1) hb hh (es' := es ++ [(k, v, clock)]) (xs' := xs.push { key := kv, val := vv, born := clock }) (by
      rw [Array.toList_push]
      exact hre.push_ ⟨hk, hv, rfl⟩)
    refine ⟨_, ?_, hset, Ext.setHeap _ _ _⟩
    simp only [Instr.mapUpdate, Sem.run_bind, run_underlying hu, Result.andThen_ok, run_getObj_map hh, hchk, q1, run_setObj_map hh]
  · simp at h

/-- a new map -/
theorem makeMap_sound (hi : Inv C G M w) (t : TypeId) : ∃ u w' G', (Instr.makeMap t none).run C.P w = .ok u w' ∧ G.le G' ∧ Inv C G' (M ++ [.map [] 0]) w' ∧ Rep G' (.mapr M.length) u ∧ Ext w w' := by
  obtain ⟨G', hi', hle, hblk, hn', _, _⟩ := hi.newObj (.map #[] 0) (.map [] 0) (fun _ => (none, 0)) 0
    (fun G' _ hb _ _ _ hk => ⟨#[], by rw [hb]; exact heap_alloc_new w _, .nil, by rw [hb]; exact hk⟩) (fun G' b hb _ ho => by simp only [owns, hb] at ho; exact ho)
  refine ⟨.map (some w.heap.size), _, G', ?_, hle, hi', by simp only [Rep]; exact ⟨hn', by rw [hblk]⟩, Ext.alloc _ _⟩
  simp [Instr.makeMap]
end
end Go.Abs
end
section
/- All further operations together. -/
set_option linter.unusedVariables false
namespace Go.Abs
section
variable {C : Ctx} {G : Ghost} {M : Mem} {w : World}

/-! ### builtins -/
def lenMore (P : Program) (t : TypeId) (M : Mem) (x : AV) : Option Nat := match x with
  | .mapr b => match P.underlying t, M[b]? with
    | some (.map _ _), some (.map es _) => some es.length
    | _, _ => none
  | _ => none
def copyAV (P : Program) (t u : TypeId) (M : Mem) (d s : AV) : Option (AV × Mem) := match elemOf? P t with
  | some e => match szOf P e with
    | some sz => match srcCells M sz s with
      | some (news, m) => match d with
        | .vref f g sz' lo len => match M[f]? with
          | some (.vec ty sz2 cs g' hist) => match hist.lookup g with
            | some n => if sz' = sz ∧ sz2 = sz ∧ m ≤ len ∧ lo + len ≤ n then
                if m = 0 then some (.val (goInt 0), M) else
                some (.val (goInt m), M.set f (.vec ty sz (overwrite cs (lo * sz) news) g' (keepHist sz g (lo * sz) hist)))
              else none
            | none => none
          | _ => none
        | _ => none
      | none => none
    | none => none
  | none => none

def builtinMore (P : Program) (b : Builtin) (ts : List TypeId) (args : List AV) (M : Mem) : Option (AV × Mem) :=
  match b, ts, args with
  | .len, [t], [x] => (lenMore P t M x).map fun n => (.val (goInt n), M)
  | .cap, [t], [.val (.slice none 0 0)] => match P.underlying t with | some (.slice _) => some (.val (goInt 0), M) | _ => none
  | .copy, [t, u], [d, s] => copyAV P t u M d s
  | _, _, _ => none

theorem copy_sound (hi : Inv C G M w) {t u ty : TypeId} {d s : AV} {dv sv : Value} (hd : Rep G d dv) (hs : Rep G s sv) {v : AV} {M' : Mem} (h : copyAV C.P t u M d s = some (v, M')) :
    ∃ r w', (Builtin.copy_ #[t, u] ty #[dv, sv]).run C.P w = .ok r w' ∧ Inv C G M' w' ∧ Rep G v r ∧ Ext w w' := by
  unfold copyAV at h
  split at h
  case h_2 => simp at h
  rename_i e he
  split at h
  case h_2 => simp at h
  rename_i sz hsz
  split at h
  case h_2 => simp at h
  rename_i news m hsrc
  split at h
  case h_2 => simp at h
  rename_i f g sz' lo len
  split at h
  case h_2 => simp at h
  rename_i ety sz2 cs g' hist hM
  split at h
  case h_2 => simp at h
  rename_i n hn
  split at h
  case isFalse => simp at h
  rename_i hc
  obtain ⟨rfl, rfl, hml, hln⟩ := hc
  obtain ⟨vs, hr, hlen, hone, hlx, hfx⟩ := srcCells_rep hi hs hsrc
  have hd' := hd
  simp only [Rep] at hd
  obtain ⟨hf, hg, a, a', cap, hdr, hsp, hsp', rfl, hle, hcm, ha'⟩ := hd
  have hmin : Nat.min m len = m := Nat.min_eq_left hml
  split at h
  · rename_i hm0
    subst hm0
    simp only [Option.some.injEq, Prod.mk.injEq] at h
    obtain ⟨rfl, rfl⟩ := h
    have hv : vs = [] := List.eq_nil_of_length_eq_zero (by simpa using hlen)
    subst hv
    refine ⟨goInt 0, w, ?_, hi, by simp [Rep], .refl _⟩
    have hf0 := hfx w rfl
    simp [Builtin.copy_, run_underlying (elemOf_und he), hlx, hmin, run_szOf hsz, hf0, storeCells]
  · rename_i hm0
    simp only [Option.some.injEq, Prod.mk.injEq] at h
    obtain ⟨rfl, rfl⟩ := h
    have ha := ha' (by omega)
    have hb : lo * sz2 + news.length ≤ n * sz2 := by
      rw [← hr.length, hlen, ← Nat.add_mul]; exact Nat.mul_le_mul_right _ (by omega)
    obtain ⟨a2, w', e2, hst, h2, h3⟩ := vset_sound hi (f := f) (g := g) (off := lo * sz2) (x := .pointer (some ⟨a.block, a.off + lo * sz2, none⟩)) (by simp only [Rep]; exact ⟨hf, hg, a, cap, hdr, rfl⟩) hr hone hM hn hb
    simp only [Value.pointer.injEq, Option.some.injEq] at e2
    subst e2
    rw [← ha] at hst
    refine ⟨goInt m, w', ?_, h2, by simp [Rep], h3⟩
    simp [Builtin.copy_, run_underlying (elemOf_und he), hlx, hmin, run_szOf hsz, hfx w rfl, hst]

theorem RepEntries.length {es : List (AV × AV × Nat)} {xs : List MapEntry} (h : RepEntries G es xs) : xs.length = es.length := by
  induction h with
  | nil => rfl
  | cons _ _ ih => simp [ih]

theorem builtinMore_sound (hi : Inv C G M w) {b : Builtin} {ts : Array TypeId} {args : List AV} {xs : Array Value} (hr : RepL G args xs.toList) {v : AV} {M' : Mem} (h : builtinMore C.P b ts.toList args M = some (v, M')) (ty : TypeId) (consts : Array Bool) :
    ∃ u w', (builtin b ts ty consts xs).run C.P w = .ok (.value u) w' ∧ Inv C G M' w' ∧ Rep G v u ∧ Ext w w' := by
  obtain ⟨xs⟩ := xs
  obtain ⟨ts⟩ := ts
  simp only at hr h
  unfold builtinMore at h
  split at h
  · rename_i t x
    simp only [RepL] at hr
    obtain ⟨y, ys, rfl, hy, rfl⟩ := hr
    simp only [Option.map_eq_some_iff, Prod.mk.injEq] at h
    obtain ⟨n, hn, rfl, rfl⟩ := h
    refine ⟨goInt n, w, ?_, hi, by simp [Rep], .refl _⟩
    unfold lenMore at hn
    split at hn
    · rename_i b
      split at hn
      · rename_i k e es c hu hb
        cases hn
        simp only [Rep] at hy
        obtain ⟨_, rfl⟩ := hy
        obtain ⟨ms, hh, hre, _⟩ := hi.obj b _ hb
        have := hre.length
        simp only [Array.length_toList] at this
        simp [builtin, Builtin.len_, run_underlying hu, run_getObj_map hh, this]
      · simp at hn
    · simp at hn
  · rename_i t
    simp only [RepL] at hr
    obtain ⟨y, ys, rfl, hy, rfl⟩ := hr
    split at h
    · rename_i e hu
      simp only [Option.some.injEq, Prod.mk.injEq] at h
      obtain ⟨rfl, rfl⟩ := h
      simp only [Rep] at hy
      subst hy
      exact ⟨goInt 0, w, by simp [builtin, Builtin.cap_, run_underlying hu], hi, by simp [Rep], .refl _⟩
    · simp at h
  · rename_i t u d s
    simp only [RepL] at hr
    obtain ⟨y, _, rfl, hy, y2, _, rfl, hy2, rfl⟩ := hr
    obtain ⟨r, w', h1, h2, h3, h4⟩ := copy_sound (ty := ty) hi hy hy2 h
    exact ⟨r, w', by simp only [builtin, Sem.run_bind, h1, Result.andThen_ok, Sem.run_pure], h2, h3, h4⟩
  · simp at h

/-! ### conversions -/
theorem run_u' {P : Program} {s : Sem Unit} {w w' : World} (h : s.run P w = .ok () w') : (do s; pure .skip : Sem Next).run P w = .ok .skip w' := by
  simp only [Sem.run_bind, h, Result.andThen_ok, Sem.run_pure]
/-! ### all together -/
def evalMore (C : Ctx) (h : Hint) (o : Oper) (ρ : Operand → AV) (M : Mem) : Option (AV × Mem) :=
  match o.op with
  | .buildSlice t n parts => if hvAt C h t o.dst then vbuildAV C.P t n (parts.toList.map fun p => (p.1, ρ p.2)) M else none
  | .makeSlice t l c => vmakeAV C.P t (ρ l) (ρ c) M
  | .makeMap t none => some (.mapr M.length, M ++ [.map [] 0])
  | .lookup t m k ok => (lookupAV C.P t M (ρ m) (ρ k) ok).map fun v => (v, M)
  | .mapUpdate t m k v => (mapPutAV C.P t M (ρ m) (ρ k) (ρ v)).map fun M' => (.val undef, M')
  | .insert t m k v => (mapPutAV C.P t M (ρ m) (ρ k) (ρ v)).map fun M' => (.val undef, M')
  | .call { callee := .builtin b, args, argTypes } => builtinMore C.P b argTypes.toList (args.toList.map ρ) M
  | _ => none

theorem more_sound (hi : Inv C G M w) {o : Oper} {ρ : Operand → AV} {σ : Operand → Value} (hρ : ∀ x ∈ o.op.operands.toList, Rep G (ρ x) (σ x)) {hn : Hint} {v : AV} {M' : Mem} (h : evalMore C hn o ρ M = some (v, M')) : OpOk C G w (execOp σ o) v M' := by
  obtain ⟨dst, op, type, pos, after, guard⟩ := o
  simp only at hρ
  unfold evalMore at h
  simp only at h
  split at h
  · -- buildSlice
    rename_i t n parts
    split at h
    case isFalse => simp at h
    obtain ⟨u, w', G', h1, h2, h3, h4, h5⟩ := vbuild_sound (C := C) (G := G) (w := w) hi (xs := parts.map fun (i, x) => (i, σ x)) (by simp) (fun j p x hp hx => by
      simp only [List.getElem?_map, Option.map_eq_some_iff] at hp
      obtain ⟨q, hq, rfl⟩ := hp
      simp only [Array.toList_map, List.getElem?_map, Option.map_eq_some_iff] at hx
      obtain ⟨q', hq', rfl⟩ := hx
      rw [hq] at hq'
      simp at hq'
      subst hq'
      exact ⟨rfl, hρ _ (by simp [Op.operands]; exact ⟨_, by simpa using List.mem_of_getElem? hq⟩)⟩) h
    exact ⟨_, w', G', run_v h1, .inl ⟨u, rfl, h4⟩, h2, h3, h5⟩
  · rename_i t l c
    obtain ⟨u, w', G', h1, h2, h3, h4, h5⟩ := vmake_sound hi (hρ l (by simp [Op.operands])) (hρ c (by simp [Op.operands])) h
    exact ⟨_, w', G', run_v h1, .inl ⟨u, rfl, h4⟩, h2, h3, h5⟩
  · rename_i t
    simp only [Option.some.injEq, Prod.mk.injEq] at h
    obtain ⟨rfl, rfl⟩ := h
    obtain ⟨u, w', G', h1, h2, h3, h4, h5⟩ := makeMap_sound hi t
    exact ⟨_, w', G', run_v h1, .inl ⟨u, rfl, h4⟩, h2, h3, h5⟩
  · rename_i t m k ok
    simp only [Option.map_eq_some_iff, Prod.mk.injEq] at h
    obtain ⟨v', hv', rfl, rfl⟩ := h
    obtain ⟨u, h1, h2⟩ := lookup_sound hi (hρ m (by simp [Op.operands])) (hρ k (by simp [Op.operands])) hv'
    exact OpOk.same hi (x := u) (run_v h1) h2
  · rename_i t m k x
    simp only [Option.map_eq_some_iff, Prod.mk.injEq] at h
    obtain ⟨M2, hM2, rfl, rfl⟩ := h
    obtain ⟨w', h1, h2, h3⟩ := mapPut_sound hi (hρ m (by simp [Op.operands])) (hρ k (by simp [Op.operands])) (hρ x (by simp [Op.operands])) hM2
    exact ⟨_, w', G, run_u' h1, .inr ⟨rfl, rfl⟩, .refl _, h2, h3⟩
  · rename_i t m k x
    simp only [Option.map_eq_some_iff, Prod.mk.injEq] at h
    obtain ⟨M2, hM2, rfl, rfl⟩ := h
    obtain ⟨w', h1, h2, h3⟩ := mapPut_sound hi (hρ m (by simp [Op.operands])) (hρ k (by simp [Op.operands])) (hρ x (by simp [Op.operands])) hM2
    exact ⟨_, w', G, run_u' h1, .inr ⟨rfl, rfl⟩, .refl _, h2, h3⟩
  · rename_i b args ts
    have hargs : RepL G (args.toList.map ρ) (args.map σ).toList := by
      have := repL_map (G := G) args.toList (fun x hx => hρ x (by simp [Op.operands, Call.operands]; simpa using hx))
      simpa using this
    obtain ⟨u, w', h1, h2, h3, h4⟩ := builtinMore_sound hi hargs h type (args.map fun x => x matches .const _)
    refine ⟨.value u, w', G, ?_, .inl ⟨u, rfl, h3⟩, .refl _, h2, h4⟩
    simp only [execOp, resolve, Sem.run_bind, Sem.run_pure, Result.andThen_ok, invoke]
    exact h1
  · simp at h
end
end Go.Abs
end
