/- The texts AbsI, AbsJ, AbsX1: what each proves stands at its head. -/
import Derived.Test.YtiipcnbedgamdaaGreatDoorVG03
section
/- Operations that turn no mutable object: soundness. -/
set_option linter.unusedVariables false
namespace Go.Abs

theorem run_v {P : Program} {s : Sem Value} {w w' : World} {v : Value} (h : s.run P w = .ok v w') : (do pure (.value (← s)) : Sem Next).run P w = .ok (.value v) w' := by
  simp only [Sem.run_bind, h, Result.andThen_ok, Sem.run_pure]

theorem szOf_some {P : Program} {t : TypeId} {n : Nat} (h : szOf P t = some n) : ∃ i, P.info? t = some i ∧ i.size = n := by
  unfold szOf at h
  cases hi : P.info? t with
  | none => simp [hi] at h
  | some i => simp [hi] at h; exact ⟨i, rfl, h⟩

theorem offOf_run {P : Program} {t : TypeId} {f k : Nat} (h : offOf P t f = some k) (a : Addr) (w : World) : (Instr.fieldAt t (.pointer (some a)) f).run P w = .ok (.pointer (some (a.add k))) w := by
  unfold offOf at h
  split at h
  case h_2 => simp at h
  rename_i fs hu
  split at h
  case h_2 => simp at h
  rename_i x hf
  cases hs : szOf P x.type with
  | none => simp [hs] at h
  | some n =>
    cases n with
    | zero => simp [hs] at h
    | succ n =>
      simp [hs] at h
      subst h
      simp [Instr.fieldAt, run_underlying hu, hf, Instr.sureAddr, fieldPlace, run_szOf hs]

theorem sliceIdx_run {P : Program} {G : Ghost} {len n : Nat} {v : AV} {x : Value} (hr : Rep G v x) (h : sliceIdx len (some v) = some n) (code : BoundsCode) (w : World) : (Instr.sliceBound x len code).run P w = .ok n w ∧ n ≤ len := by
  unfold sliceIdx at h
  split at h
  · rename_i h'; simp at h'
  · rename_i k i h'
    simp at h'
    subst h'
    simp only [Rep] at hr
    subst hr
    split at h
    · rename_i hc
      simp at h
      subst h
      exact ⟨by simp [Instr.sliceBound, asIntOf, hc], by omega⟩
    · simp at h
  · simp at h

theorem sliceIdx_run' {P : Program} {G : Ghost} {len n y : Nat} {v : AV} {x : Value} (hr : Rep G v x) (h : sliceIdx len (some v) = some n) (hy : len ≤ y) (code : BoundsCode) (w : World) : (Instr.sliceBound x y code).run P w = .ok n w ∧ n ≤ len := by
  unfold sliceIdx at h
  split at h
  · rename_i h'; simp at h'
  · rename_i k i h'
    simp at h'
    subst h'
    simp only [Rep] at hr
    subst hr
    split at h
    · rename_i hc
      simp at h
      subst h
      have hc' : 0 ≤ i ∧ i ≤ (y : Int) := ⟨hc.1, by omega⟩
      exact ⟨by simp [Instr.sliceBound, asIntOf, hc'], by omega⟩
    · simp at h
  · simp at h

section
variable {C : Ctx} {G : Ghost} {M : Mem} {w : World}

/-- the bounds of a slice expression -/
theorem bounds_run {len cap : Nat} (hlc : len ≤ cap) {lo hi mx : Option AV} {xlo xhi xmx : Option Value} {m : Option Nat} {hh l : Nat}
    (hlo : ∀ a, lo = some a → ∃ x, xlo = some x ∧ Rep G a x) (hlo' : lo = none → xlo = none)
    (hhi : ∀ a, hi = some a → ∃ x, xhi = some x ∧ Rep G a x) (hhi' : hi = none → xhi = none)
    (hmx : ∀ a, mx = some a → ∃ x, xmx = some x ∧ Rep G a x) (hmx' : mx = none → xmx = none)
    (hm : mxIdx len mx = some m)
    (hhe : sliceIdx (m.getD len) hi = some hh) (hb : (hi.isSome || mx.isNone) = true)
    (hl : loIdx hh lo = some l) :
    ∃ m', (Instr.sliceBounds true len cap xlo xhi xmx).run C.P w = .ok (l, hh, m') w ∧ l ≤ hh ∧ hh ≤ len ∧ hh ≤ m' ∧ m' ≤ cap ∧ (∀ q, m = some q → m' = q) ∧ (m = none → m' = cap) := by
  unfold Instr.sliceBounds
  have hlow : ∀ (code : BoundsCode), l ≤ hh ∧ (lo = none → l = 0) ∧ ∀ x, xlo = some x → (Instr.sliceBound x hh code).run C.P w = .ok l w := by
    intro code
    cases lo with
    | none => simp only [loIdx, Option.some.injEq] at hl; subst hl; exact ⟨Nat.zero_le _, fun _ => rfl, fun x hx => by rw [hlo' rfl] at hx; simp at hx⟩
    | some a =>
      obtain ⟨x, hx, hr⟩ := hlo a rfl
      have := sliceIdx_run (P := C.P) hr hl code w
      exact ⟨this.2, fun h => by simp at h, fun x' hx' => by rw [hx] at hx'; simp at hx'; subst hx'; exact this.1⟩
  cases mx with
  | none =>
    simp only [mxIdx, Option.some.injEq] at hm
    subst hm
    rw [hmx' rfl]
    simp only [Option.getD_none] at hhe
    cases hi with
    | none =>
      rw [hhi' rfl]
      simp [sliceIdx] at hhe
      subst hhe
      obtain ⟨h1, h2, h3⟩ := hlow .sliceB
      refine ⟨cap, ?_, h1, Nat.le_refl _, hlc, Nat.le_refl _, by simp, by simp⟩
      cases xlo with
      | none => have : lo = none := by
                  cases lo with
                  | none => rfl
                  | some a => obtain ⟨x, hx, _⟩ := hlo a rfl; simp at hx
                simp [h2 this]
      | some x => simp [h3 x rfl]
    | some b =>
      obtain ⟨y, rfl, hy⟩ := hhi b rfl
      have hy' := sliceIdx_run' (P := C.P) hy hhe hlc .sliceAcap w
      obtain ⟨h1, h2, h3⟩ := hlow .sliceB
      refine ⟨cap, ?_, h1, hy'.2, by omega, Nat.le_refl _, by simp, by simp⟩
      cases xlo with
      | none => have : lo = none := by
                  cases lo with
                  | none => rfl
                  | some a => obtain ⟨x, hx, _⟩ := hlo a rfl; simp at hx
                simp [h2 this, hy'.1]
      | some x => simp [h3 x rfl, hy'.1]
  | some q =>
    obtain ⟨z, rfl, hz⟩ := hmx q rfl
    simp only [mxIdx, Option.map_eq_some_iff] at hm
    obtain ⟨mm, hmm, rfl⟩ := hm
    have hz' := sliceIdx_run' (P := C.P) hz hmm hlc .slice3Acap w
    simp only [Option.getD_some] at hhe
    cases hi with
    | none => simp at hb
    | some b =>
      obtain ⟨y, rfl, hy⟩ := hhi b rfl
      have hy' := sliceIdx_run (P := C.P) hy hhe .slice3B w
      obtain ⟨h1, h2, h3⟩ := hlow .slice3C
      refine ⟨mm, ?_, h1, by omega, hy'.2, by omega, by simp, by simp⟩
      cases xlo with
      | none => have : lo = none := by
                  cases lo with
                  | none => rfl
                  | some a => obtain ⟨x, hx, _⟩ := hlo a rfl; simp at hx
                simp [h2 this, hy'.1, hz'.1]
      | some x => simp [h3 x rfl, hy'.1, hz'.1]

theorem slice_list_sound {sz : Nat} {rows : List (List AV)} {own : Own} {xv : Value} (hx : Rep G (.list sz rows own) xv) {t : TypeId} {lo hi mx : Option AV} {xlo xhi xmx : Option Value} {v : AV}
    (hlo : ∀ a, lo = some a → ∃ x, xlo = some x ∧ Rep G a x) (hlo' : lo = none → xlo = none)
    (hhi : ∀ a, hi = some a → ∃ x, xhi = some x ∧ Rep G a x) (hhi' : hi = none → xhi = none)
    (hmx : ∀ a, mx = some a → ∃ x, xmx = some x ∧ Rep G a x) (hmx' : mx = none → xmx = none) (h : sliceListAV C.P t sz rows own lo hi mx = some v) :
    ∃ u, (Instr.sliceAt t xv xlo xhi xmx).run C.P w = .ok u w ∧ Rep G v u ∧ (xv = .slice none 0 0 → u = .slice none 0 0) := by
  simp only [sliceListAV] at h
  split at h
  case h_2 => simp at h
  rename_i m e hm he
  split at h
  case isFalse => simp at h
  rename_i hsz
  split at h
  case h_2 => simp at h
  rename_i hh hhe hb
  split at h
  case h_2 => simp at h
  rename_i l hl
  simp at h
  subst h
  simp only [Rep] at hx
  obtain ⟨base, cap, rfl, hlc, hcm, hbase, hown⟩ := hx
  have hbounds := bounds_run (C := C) (w := w) (G := G) hlc hlo hlo' hhi hhi' hmx hmx' (by cases mx <;> exact hm) (by cases hi <;> exact hhe) hb (by cases lo <;> exact hl)
  obtain ⟨m', hrun, q1, q2, q3, q4, q5, q6⟩ := hbounds
  refine ⟨.slice (if m' = l then base else base.map (·.add (l * sz))) (hh - l) (m' - l), ?_, ?_, fun e => ?_⟩
  · simp [Instr.sliceAt, Instr.slice, run_underlying (elemOf_und he), hrun, run_szOf hsz]
  · refine rep_list (by simp; omega) (by simp; omega) (by omega) ?_ ?_
    · cases base with
      | none =>
        obtain ⟨rfl, rfl⟩ := hbase
        have e0 : (if m' = l then (none : Option Addr) else Option.map (fun x : Addr => x.add (l * sz)) none) = none := by split <;> rfl
        rw [e0]
        exact ⟨by simp, by omega⟩
      | some a =>
        obtain ⟨hsp, hrows⟩ := hbase
        by_cases e1 : m' = l
        · rw [if_pos e1]
          have : (rows.take hh).drop l = [] := by
            apply List.eq_nil_of_length_eq_zero
            simp; omega
          rw [this]; exact ⟨fun h => absurd rfl h, by simp [RepRows]⟩
        · rw [if_neg e1]
          by_cases e2 : rows = []
          · subst e2
            simp only [Option.map_some, List.take_nil, List.drop_nil]
            exact ⟨fun h => absurd rfl h, by simp [RepRows]⟩
          have hsp := hsp e2
          have ea : a.add (l * sz) = ⟨a.block, a.off + l * sz, none⟩ := by
            have ea : a = ⟨a.block, a.off, none⟩ := by cases a; simp_all
            rw [ea, Addr.add_lit]
          simp only [Option.map_some, ea]
          exact ⟨fun _ => rfl, (hrows.take hh).drop l⟩
    · have hlen : ((rows.take hh).drop l).length = hh - l := by simp; omega
      rw [hlen]
      unfold sliceOwn
      cases m with
      | some mm =>
        have := q5 mm rfl
        simp only
        split
        · simp only [RepOwn]; omega
        · trivial
      | none =>
        have := q6 rfl
        subst this
        simp only
        cases own with
        | no => trivial
        | full =>
          simp only [RepOwn] at hown
          simp only
          split
          · simp only [RepOwn]; omega
          · trivial
        | fam f =>
          simp only
          split
          · rename_i hc
            obtain ⟨rfl, rfl⟩ := hc
            simp only [RepOwn, Nat.sub_zero] at hown ⊢
            have e2 : (if m' = 0 then base else Option.map (fun x => x.add (0 * sz)) base) = base := by
              split
              · rfl
              · cases base with
                | none => rfl
                | some a => simp [Addr.add]
            rw [e2]; exact hown
          · trivial
  · simp only [Value.slice.injEq] at e
    obtain ⟨rfl, e1, rfl⟩ := e
    have e2 : (if m' = l then (none : Option Addr) else Option.map (fun x : Addr => x.add (l * sz)) none) = none := by split <;> rfl
    rw [e2]
    have : hh - l = 0 := by omega
    have : m' - l = 0 := by omega
    simp_all

theorem slice_string_sound {s : ByteArray} {t : TypeId} {lo hi : Option AV} {xlo xhi : Option Value} {v : AV} (hlo : ∀ a, lo = some a → ∃ x, xlo = some x ∧ Rep G a x) (hlo' : lo = none → xlo = none)
    (hhi : ∀ a, hi = some a → ∃ x, xhi = some x ∧ Rep G a x) (hhi' : hi = none → xhi = none) (h : sliceAV C.P t (.val (.string s)) lo hi none = some v) :
    ∃ u, (Instr.sliceAt t (.string s) xlo xhi none).run C.P w = .ok u w ∧ Rep G v u := by
  simp only [sliceAV] at h
  split at h
  case h_2 => simp at h
  rename_i h' _ hu hh
  split at h
  case h_2 => simp at h
  rename_i l hl
  simp at h
  subst h
  refine ⟨.string (s.extract l h'), ?_, by simp [Rep]⟩
  have e1 : (Instr.sliceBounds false s.size s.size xlo xhi none).run C.P w = .ok (l, h', s.size) w := by
    unfold Instr.sliceBounds
    cases hi with
    | none =>
      rw [hhi' rfl]
      simp [sliceIdx] at hh
      subst hh
      cases lo with
      | none => rw [hlo' rfl]; simp at hl; subst hl; simp
      | some a =>
        obtain ⟨x, rfl, hx⟩ := hlo a rfl
        have := (sliceIdx_run (P := C.P) hx hl .sliceB w).1
        simp [this]
    | some b =>
      obtain ⟨y, rfl, hy⟩ := hhi b rfl
      have hy' := (sliceIdx_run (P := C.P) hy hh .sliceAlen w).1
      cases lo with
      | none => rw [hlo' rfl]; simp at hl; subst hl; simp [hy']
      | some a =>
        obtain ⟨x, rfl, hx⟩ := hlo a rfl
        have := (sliceIdx_run (P := C.P) hx hl .sliceB w).1
        simp [hy', this]
  simp [Instr.sliceAt, Instr.slice, run_underlying hu, e1]
end
end Go.Abs
end
section
/- Operations that turn no mutable object: soundness, all kinds. -/
set_option linter.unusedVariables false
namespace Go.Abs

section
variable {C : Ctx} {G : Ghost} {M : Mem} {w : World}

/-- a part of a struct that is held as a value -/
theorem part_sound {ys : Array Value} {cs : List AV} (hr : RepL G cs ys.toList) (h1 : ∀ y ∈ ys.toList, y.oneCell' = true) {ft : TypeId} {k : Nat} {v : AV} (hfit : (szOf C.P ft).any (fun n => decide (k + n ≤ cs.length)) = true)
    (h : loadCells? C.P ft (cs.drop k) = some v) : ∃ u, (part ft ys k).run C.P w = .ok u w ∧ Rep G v u := by
  have hlen := hr.length
  unfold loadCells? at h
  split at h
  · rename_i n ha hs
    split at h
    · rename_i hle
      simp at h
      subst h
      simp [hs] at hfit
      refine ⟨.agg (ys.extract k (k + n)), by simp [part, run_aggOf ha, run_szOf hs], ?_⟩
      simp only [Rep]
      refine ⟨_, rfl, ?_, fun y hy => h1 y ?_⟩
      · have : (ys.extract k (k + n)).toList = (ys.toList.drop k).take n := by simp [List.take_drop]
        rw [this]
        exact (hr.drop k).take n
      · have : (ys.extract k (k + n)).toList = (ys.toList.drop k).take n := by simp [List.take_drop]
        rw [this] at hy
        exact List.mem_of_mem_drop (List.mem_of_mem_take hy)
    · simp at h
  · rename_i n ha hs
    split at h
    · rename_i c rest hd
      simp at h
      subst h
      have hc : cs[k]? = some c := by
        have : (cs.drop k)[0]? = some c := by rw [hd]; rfl
        simpa using this
      obtain ⟨y, hy, hr'⟩ := hr.get hc
      have : ys[k]? = some y := by simpa using hy
      exact ⟨y, by simp [part, run_aggOf ha, this], hr'⟩
    · simp at h
  · simp at h

theorem fill_step (place : Nat → Option (Nat × Nat)) (cells : Array Value) (i off size : Nat) (v : Value) (rest : List (Nat × Value)) (hp : place i = some (off, size)) (hs : v.cells.size = size) (hf : off + v.cells.size ≤ cells.size) :
    Instr.fill place cells ((i, v) :: rest) = Instr.fill place (cells.toList.take off ++ v.cells.toList ++ cells.toList.drop (off + v.cells.size)).toArray rest := by
  simp only [Instr.fill, hp]
  rw [if_neg (by simp [hs]; omega)]
  congr 1
  -- storing cell by cell is overwriting the piece
  have gen : ∀ (l : List Value) (s : Nat) (cs : Array Value), off + s + l.length ≤ cs.size →
      (l.zipIdx s).foldl (fun cs (x : Value × Nat) => cs.setIfInBounds (off + x.2) x.1) cs = (cs.toList.take (off + s) ++ l ++ cs.toList.drop (off + s + l.length)).toArray := by
    intro l
    induction l with
    | nil => intro s cs _; apply Array.ext'; simp
    | cons x l ih =>
      intro s cs hle
      simp only [List.length_cons] at hle
      simp only [List.zipIdx_cons, List.foldl_cons]
      rw [ih (s + 1) (cs.setIfInBounds (off + s) x) (by simp; omega)]
      apply Array.ext'
      simp only [Array.toList_setIfInBounds]
      apply List.ext_getElem?
      intro j
      simp only [List.getElem?_append, List.getElem?_take, List.getElem?_drop, List.getElem?_set, List.length_take, List.length_set, Array.length_toList, List.length_append, List.length_cons, List.getElem?_cons]
      by_cases h1 : j < off + s
      · have : ¬ (off + s = j) := by omega
        simp [h1, this]
        grind
      · by_cases h2 : j = off + s
        · subst h2; simp; grind
        · grind
  have := gen v.cells.toList 0 cells (by simpa using hf)
  simp only [Nat.add_zero] at this
  rw [← Array.foldl_toList]
  simpa using this

theorem run_mapM_list {α β : Type} (P : Program) (f : α → Sem β) (g : α → β) (w : World) : ∀ (l : List α), (∀ x ∈ l, (f x).run P w = .ok (g x) w) → (l.mapM f).run P w = .ok (l.map g) w
  | [], _ => by simp
  | x :: l, h => by
    have h1 := h x (by simp)
    have h2 := run_mapM_list P f g w l (fun y hy => h y (by simp [hy]))
    simp [List.mapM_cons, h1, h2]

theorem run_mapM {α β : Type} (P : Program) (f : α → Sem β) (g : α → β) (w : World) (a : Array α) (h : ∀ x ∈ a.toList, (f x).run P w = .ok (g x) w) : (a.mapM f).run P w = .ok (a.map g) w := by
  have h1 := run_mapM_list P f g w a.toList h
  have e : a.mapM f = (List.toArray <$> a.toList.mapM f) := by simp [Array.mapM_eq_mapM_toList]
  rw [e, Sem.run_map, h1]
  simp only [Result.andThen_ok]
  congr 1
  apply Array.ext'
  simp

theorem fill_build {t : TypeId} {fs : Array Field} (hu : C.P.underlying t = some (.struct fs)) (place : Nat → Option (Nat × Nat))
    (hp : ∀ i off ft n, fieldOf? C.P t i = some (off, ft) → szOf C.P ft = some n → place i = some (off, n)) :
    ∀ (ps : List (Nat × AV)) (xs : List (Nat × Value)) (cs cs' : List AV) (vs : Array Value), ps.length = xs.length → (∀ (j : Nat) (p : Nat × AV) (x : Nat × Value), ps[j]? = some p → xs[j]? = some x → p.1 = x.1 ∧ Rep G p.2 x.2) →
      RepL G cs vs.toList → (∀ y ∈ vs.toList, y.oneCell' = true) → buildGo C.P t ps cs = some cs' →
      ∃ vs' : Array Value, Instr.fill place vs xs = some vs' ∧ RepL G cs' vs'.toList ∧ ∀ y ∈ vs'.toList, y.oneCell' = true
  | [], xs, cs, cs', vs, hl, _, hr, h1, h => by
    have : xs = [] := List.eq_nil_of_length_eq_zero (by simpa using hl.symm)
    subst this
    simp [buildGo] at h
    subst h
    exact ⟨vs, by simp [Instr.fill], hr, h1⟩
  | (i, v) :: ps, [], _, _, _, hl, _, _, _, _ => by simp at hl
  | (i, v) :: ps, (i', x) :: xs, cs, cs', vs, hl, hps, hr, h1, h => by
    obtain ⟨rfl, hx⟩ := hps 0 _ _ rfl rfl
    simp only at hx
    simp only [buildGo] at h
    split at h
    case h_2 => simp at h
    rename_i off ft hf
    split at h
    case isFalse => simp at h
    rename_i hsz
    simp only [Option.bind_eq_some_iff] at h
    obtain ⟨cs1, hput, hgo⟩ := h
    unfold putCells at hput
    split at hput
    case isFalse => simp at hput
    rename_i hc
    simp only [Bool.and_eq_true, decide_eq_true_eq] at hc
    simp only [Option.some.injEq] at hput
    subst hput
    obtain ⟨hc1, hc2⟩ := hx.cells hc.1
    have hcl := hc1.length
    have hrl := hr.length
    have hpl := hp i off ft _ hf hsz
    have hsz2 : x.cells.size = v.cells.length := by simpa using hcl
    have hstep := fill_step place vs i off v.cells.length x xs hpl hsz2 (by simp at hrl; omega)
    simp only
    rw [hstep]
    have e : x.cells.size = x.cells.toList.length := by simp
    refine fill_build hu place hp ps xs _ cs' _ (by simpa using hl) (fun j p y hp' hy => hps (j + 1) p y (by simpa using hp') (by simpa using hy)) ?_ ?_ hgo
    · simp only [hsz2]
      exact ((hr.take off).append hc1).append (hr.drop _)
    · intro y hy
      simp only [List.mem_append] at hy
      rcases hy with (hy | hy) | hy
      · exact h1 y (List.mem_of_mem_take hy)
      · exact hc2 y hy
      · exact h1 y (List.mem_of_mem_drop hy)

theorem zero_rep {P : Program} {t : TypeId} {z : List Value} (h : zeroCells? P t = some z) (G : Ghost) (w : World) : ∃ v : Value, (zeroValue t).run P w = .ok v w ∧ v.cells.toList = z ∧ RepL G (z.map .val) z := by
  unfold zeroCells? at h
  split at h
  case h_2 => simp at h
  rename_i i hi
  simp only [Option.map_eq_some_iff] at h
  obtain ⟨v, hv, rfl⟩ := h
  refine ⟨v, by simp [zeroValue, typeInfo, hi, hv], rfl, ?_⟩
  generalize v.cells.toList = l
  induction l with
  | nil => simp [RepL]
  | cons x l ih => simp only [List.map_cons, RepL]; exact ⟨x, l, rfl, by simp [Rep], ih⟩

theorem build_sound {t : TypeId} {fs : Array Field} (hu : C.P.underlying t = some (.struct fs)) (hok : fieldsOk C.P t = true) {z : List Value} (hz : zeroCells? C.P t = some z) (hz1 : z.all (·.oneCell') = true)
    {ps : List (Nat × AV)} {xs : Array (Nat × Value)} (hl : ps.length = xs.size) (hps : ∀ (j : Nat) (p : Nat × AV) (x : Nat × Value), ps[j]? = some p → xs.toList[j]? = some x → p.1 = x.1 ∧ Rep G p.2 x.2) {cs : List AV} (h : buildGo C.P t ps (z.map .val) = some cs) :
    ∃ u, (Instr.build t xs).run C.P w = .ok u w ∧ Rep G (.agg cs) u := by
  obtain ⟨v, hv, hvc, hvr⟩ := zero_rep (P := C.P) hz G w
  unfold fieldsOk at hok
  rw [hu] at hok
  have hok := List.all_eq_true.1 hok
  have hm : (fs.mapM fun f => (do pure (f.offset, ← sizeOf f.type) : Sem (Nat × Nat))).run C.P w = .ok (fs.map fun f => (f.offset, (szOf C.P f.type).getD 0)) w := by
    refine run_mapM _ _ _ _ _ (fun f hf => ?_)
    have := hok f hf
    cases hs : szOf C.P f.type with
    | none => simp [hs] at this
    | some n => simp [run_szOf hs]
  obtain ⟨vs', hf, hr, h1⟩ := fill_build (C := C) (G := G) hu (fun i => (fs.map fun f => (f.offset, (szOf C.P f.type).getD 0))[i]?) (fun i off ft n hfo hs => by
    simp only [fieldOf?, hu, Option.map_eq_some_iff] at hfo
    obtain ⟨x, hx, he⟩ := hfo
    simp at he
    obtain ⟨rfl, rfl⟩ := he
    simp [hx, hs]) ps xs.toList (z.map .val) cs v.cells (by simpa using hl) hps (by rw [hvc]; exact hvr) (fun y hy => by rw [hvc] at hy; exact List.all_eq_true.1 hz1 y hy) h
  refine ⟨.agg vs', ?_, by simp only [Rep]; exact ⟨_, rfl, hr, h1⟩⟩
  simp only [Instr.build, Sem.run_bind, hv, Result.andThen_ok, run_underlying hu, hm, hf, Sem.run_pure]

theorem flatten_set (sz : Nat) : ∀ (rows : List (List AV)) (i : Nat) (r : List AV), (∀ q ∈ rows, q.length = sz) → r.length = sz → i < rows.length →
    (rows.set i r).flatten = rows.flatten.take (i * sz) ++ r ++ rows.flatten.drop (i * sz + sz)
  | [], i, r, _, _, h => by simp at h
  | q :: rows, 0, r, hs, hr, _ => by
    have hq := hs q (by simp)
    simp only [List.set_cons_zero, List.flatten_cons, Nat.zero_mul, List.take_zero, List.nil_append, Nat.zero_add]
    rw [← hq, List.drop_left]
  | q :: rows, i + 1, r, hs, hr, h => by
    have hq := hs q (by simp)
    have ih := flatten_set sz rows i r (fun x hx => hs x (by simp [hx])) hr (by simpa using h)
    simp only [List.set_cons_succ, List.flatten_cons, ih]
    have e1 : (i + 1) * sz = q.length + i * sz := by rw [Nat.add_mul, hq]; omega
    rw [e1, List.take_length_add_append, Nat.add_assoc q.length, List.drop_length_add_append]
    simp

theorem fill_rows {sz : Nat} : ∀ (ps : List (Nat × AV)) (xs : List (Nat × Value)) (rows rows' : List (List AV)) (vs : Array Value), ps.length = xs.length →
      (∀ (j : Nat) (p : Nat × AV) (x : Nat × Value), ps[j]? = some p → xs[j]? = some x → p.1 = x.1 ∧ Rep G p.2 x.2) →
      (∀ q ∈ rows, q.length = sz) → RepL G rows.flatten vs.toList → (∀ y ∈ vs.toList, y.oneCell' = true) → rowsGo sz ps rows = some rows' →
      ∃ vs' : Array Value, Instr.fill (fun i => some (i * sz, sz)) vs xs = some vs' ∧ RepL G rows'.flatten vs'.toList ∧ (∀ y ∈ vs'.toList, y.oneCell' = true) ∧ (∀ q ∈ rows', q.length = sz) ∧ rows'.length = rows.length
  | [], xs, rows, rows', vs, hl, _, hs, hr, h1, h => by
    have : xs = [] := List.eq_nil_of_length_eq_zero (by simpa using hl.symm)
    subst this
    simp [rowsGo] at h
    subst h
    exact ⟨vs, by simp [Instr.fill], hr, h1, hs, rfl⟩
  | (i, v) :: ps, [], _, _, _, hl, _, _, _, _, _ => by simp at hl
  | (i, v) :: ps, (i', x) :: xs, rows, rows', vs, hl, hps, hs, hr, h1, h => by
    obtain ⟨rfl, hx⟩ := hps 0 _ _ rfl rfl
    simp only at hx
    simp only [rowsGo] at h
    split at h
    case isFalse => simp at h
    rename_i hc
    simp only [Bool.and_eq_true, decide_eq_true_eq] at hc
    obtain ⟨⟨hst, hlen⟩, hi⟩ := hc
    obtain ⟨hc1, hc2⟩ := hx.cells hst
    have hcl := hc1.length
    have hrl := hr.length
    have hfl : rows.flatten.length = rows.length * sz := by
      clear h hr hrl hps hi
      induction rows with
      | nil => simp
      | cons q rows ih => simp only [List.flatten_cons, List.length_append, List.length_cons, hs q (by simp), ih (fun x hx => hs x (by simp [hx])), Nat.add_mul]; omega
    have hsz2 : x.cells.size = sz := by rw [← hlen]; simpa using hcl
    have hfit : i * sz + sz ≤ rows.length * sz := by
      have : (i + 1) * sz ≤ rows.length * sz := Nat.mul_le_mul_right _ hi
      rw [Nat.add_mul] at this; omega
    have hvsz : vs.size = rows.length * sz := by rw [hfl] at hrl; simpa using hrl
    have hstep := fill_step (fun i => some (i * sz, sz)) vs i (i * sz) sz x xs rfl hsz2 (by omega)
    simp only
    rw [hstep]
    have hrec := fill_rows ps xs (rows.set i v.cells) rows' (vs.toList.take (i * sz) ++ x.cells.toList ++ vs.toList.drop (i * sz + x.cells.size)).toArray (by simpa using hl)
      (fun j p y hp' hy => hps (j + 1) p y (by simpa using hp') (by simpa using hy))
      (fun q hq => by
        rcases List.mem_or_eq_of_mem_set hq with h | h
        · exact hs q h
        · subst h; exact hlen) ?_ ?_ h
    · obtain ⟨vs', q1, q2, q3, q4, q5⟩ := hrec
      exact ⟨vs', q1, q2, q3, q4, by simpa using q5⟩
    · rw [flatten_set sz rows i v.cells hs hlen hi, hsz2]
      exact ((hr.take _).append hc1).append (hr.drop _)
    · intro y hy
      simp only [List.mem_append] at hy
      rcases hy with (hy | hy) | hy
      · exact h1 y (List.mem_of_mem_take hy)
      · exact hc2 y hy
      · exact h1 y (List.mem_of_mem_drop hy)

theorem zeros_rows (z : List Value) (n sz : Nat) (hz : z.length = sz) (hsz : 0 < sz) : ((Array.range (n * sz)).map (fun i => z.toArray[i % z.toArray.size]!)).toList = (List.replicate n z).flatten := by
  subst hz
  apply List.ext_getElem?
  intro j
  have hl : (List.replicate n z).flatten.length = n * z.length := by simp
  by_cases hj : j < n * z.length
  · have h1 : ((Array.range (n * z.length)).map (fun i => z.toArray[i % z.toArray.size]!)).toList[j]? = some (z.toArray[j % z.length]!) := by
      simp [hj]
    rw [h1]
    have hm : j % z.length < z.length := Nat.mod_lt _ hsz
    have : ∀ (n j : Nat), j < n * z.length → (List.replicate n z).flatten[j]? = z[j % z.length]? := by
      intro n
      induction n with
      | zero => intro j h; simp at h
      | succ n ih =>
        intro j h
        rw [List.replicate_succ, List.flatten_cons]
        by_cases hlt : j < z.length
        · rw [List.getElem?_append_left hlt, Nat.mod_eq_of_lt hlt]
        · rw [List.getElem?_append_right (by omega), ih (j - z.length) (by rw [Nat.add_mul] at h; omega)]
          rw [← Nat.mod_eq_sub_mod (by omega)]
    rw [this n j hj, List.getElem?_eq_getElem hm]
    simp [hm]
  · rw [List.getElem?_eq_none (by simp; omega), List.getElem?_eq_none (by omega)]

theorem buildSlice_run (hi : Inv C G M w) {t e : TypeId} (ht : elemOf? C.P t = some e) {sz n : Nat} (hs : szOf C.P e = some sz) {z : List Value} (hz : zeroCells? C.P e = some z) (hz1 : z.all (·.oneCell') = true) (hzl : z.length = sz) (hpos : 0 < sz) (hbig : n * sz ≤ 2 ^ 24)
    {ps : List (Nat × AV)} {xs : Array (Nat × Value)} (hl : ps.length = xs.size) (hps : ∀ (j : Nat) (p : Nat × AV) (x : Nat × Value), ps[j]? = some p → xs.toList[j]? = some x → p.1 = x.1 ∧ Rep G p.2 x.2)
    {rows : List (List AV)} (h : rowsGo sz ps (List.replicate n (z.map .val)) = some rows) :
    ∃ vs' : Array Value, (Instr.buildSlice t n xs).run C.P w = .ok (.slice (some ⟨w.heap.size, 0, none⟩) n n) (w.alloc (.cells vs' e)) ∧ RepL G rows.flatten vs'.toList ∧ (∀ y ∈ vs'.toList, y.oneCell' = true) ∧ (∀ q ∈ rows, q.length = sz) ∧ rows.length = n := by
  obtain ⟨v, hv, hvc, hvr⟩ := zero_rep (P := C.P) hz G w
  have hcells : ∀ all : Array Value, (n * sz = 0 ∨ all = v.cells) → (Array.range (n * sz)).map (fun x => all[x % all.size]!) = (List.replicate n z).flatten.toArray := by
    intro all h0
    rcases h0 with h0 | rfl
    · have : n = 0 := by rcases Nat.mul_eq_zero.1 h0 with h | h <;> omega
      subst this
      simp
    · apply Array.ext'
      have := zeros_rows z n sz hzl hpos
      rw [← hvc] at this ⊢
      simpa using this
  have hr0 : RepL G (List.replicate n (z.map AV.val)).flatten (List.replicate n z).flatten := by
    clear h hcells hbig
    induction n with
    | zero => simp [RepL]
    | succ n ih => rw [List.replicate_succ, List.replicate_succ, List.flatten_cons, List.flatten_cons]; exact hvr.append ih
  obtain ⟨vs', q1, q2, q3, q4, q5⟩ := fill_rows (G := G) ps xs.toList (List.replicate n (z.map .val)) rows (List.replicate n z).flatten.toArray (by simpa using hl) hps
    (fun q hq => by have := (List.mem_replicate.1 hq).2; subst this; simpa using hzl) (by simpa using hr0) (fun y hy => by
      have : y ∈ (List.replicate n z).flatten := by simpa using hy
      obtain ⟨l, hl1, hl2⟩ := List.mem_flatten.1 this
      have := (List.mem_replicate.1 hl1).2
      subst this
      exact List.all_eq_true.1 hz1 y hl2) h
  refine ⟨vs', ?_, q2, q3, q4, by simpa using q5⟩
  · have hb : ¬ (n * sz > 2 ^ 24) := by omega
    by_cases h0 : n * sz = 0
    · simp only [Instr.buildSlice, Sem.run_bind, run_underlying (elemOf_und ht), Result.andThen_ok, run_szOf hs, if_neg hb, if_pos h0, Sem.run_pure, hcells #[] (.inl h0), q1, newRow, run_newObj]
      rfl
    · simp only [Instr.buildSlice, Sem.run_bind, run_underlying (elemOf_und ht), Result.andThen_ok, run_szOf hs, if_neg hb, if_neg h0, hv, Sem.run_pure, hcells v.cells (.inr rfl), q1, newRow, run_newObj]
      rfl
theorem buildSlice_sound (hi : Inv C G M w) {t e : TypeId} (ht : elemOf? C.P t = some e) {sz n : Nat} (hs : szOf C.P e = some sz) {z : List Value} (hz : zeroCells? C.P e = some z) (hz1 : z.all (·.oneCell') = true) (hzl : z.length = sz) (hpos : 0 < sz) (hbig : n * sz ≤ 2 ^ 24)
    {ps : List (Nat × AV)} {xs : Array (Nat × Value)} (hl : ps.length = xs.size) (hps : ∀ (j : Nat) (p : Nat × AV) (x : Nat × Value), ps[j]? = some p → xs.toList[j]? = some x → p.1 = x.1 ∧ Rep G p.2 x.2)
    {rows : List (List AV)} (h : rowsGo sz ps (List.replicate n (z.map .val)) = some rows) :
    ∃ u w' G', (Instr.buildSlice t n xs).run C.P w = .ok u w' ∧ G.le G' ∧ Inv C G' M w' ∧ Rep G' (.list sz rows .full) u ∧ Ext w w' := by
  obtain ⟨vs', hrun, q2, q3, q4, hn⟩ := buildSlice_run hi ht hs hz hz1 hzl hpos hbig hl hps h
  have hle := Ghost.le_fix hi vs'.toList
  refine ⟨_, _, G.fix w.heap.size vs'.toList, hrun, hle, hi.fix vs' e vs'.toList (fun i v hv => by simpa using hv), ?_, Ext.alloc _ _⟩
  refine rep_list hn.symm (by omega) ?_ ⟨fun _ => rfl, ?_⟩ (by simp only [RepOwn]; exact hn.symm)
  · have : n ≤ n * sz := Nat.le_mul_of_pos_right _ hpos
    simp only [maxLen]; omega
  · refine RepRows.mk q4 (RepMem.mk (RepL.mono hle _ _ q2) q3 (fun j v hv => ?_))
    simp only [Ghost.fix, if_true, Nat.zero_add]; exact hv

/-- a new array whose cells may be written -/
theorem Inv.newVec (hi : Inv C G M w) {n cap sz : Nat} {cs : List AV} {vs : Array Value} (t : TypeId) (hr : RepL G cs (vs.toList.take (n * sz))) (h1 : ∀ v ∈ vs.toList.take (n * sz), v.oneCell' = true) (hvs : vs.size = cap * sz) (hn : n ≤ cap) (hmax : cap ≤ maxLen) :
    ∃ G', Inv C G' (M ++ [.vec t sz cs 0 [(0, n)]]) (w.alloc (.cells vs t)) ∧ G.le G' ∧ Rep G' (.vref M.length 0 sz 0 n) (.slice (some ⟨w.heap.size, 0, none⟩) n cap) := by
  have hcap : n * sz ≤ cap * sz := Nat.mul_le_mul_right _ hn
  have hcs : cs.length = n * sz := by rw [← hr.length]; simp; omega
  obtain ⟨G', hi', hle, hblk, hn', hh', ht'⟩ := hi.newObj (.cells vs t) (.vec t sz cs 0 [(0, n)]) (fun _ => (some ⟨w.heap.size, 0, none⟩, cap)) 0
    (fun G' hle _ hh ht hst hk => ⟨ht, fun h m hm => by
      simp only [List.mem_singleton, Prod.mk.injEq] at hm
      obtain ⟨rfl, rfl⟩ := hm
      refine ⟨by omega, Nat.le_of_eq hcs.symm, w.heap.size, 0, cap, vs, by rw [hh], hn, hmax, heap_alloc_new w _, Nat.le_of_eq (by rw [hvs, Nat.zero_add]), ?_, ?_, hst, hk⟩
      · rw [List.drop_zero, List.take_of_length_le (Nat.le_of_eq hcs)]
        exact RepL.mono hle _ _ hr
      · rw [List.drop_zero]; exact h1, fun h n h' n' a a' c c' m1 m2 e1 e2 _ => by
      rw [hh] at e1 e2
      simp only [Prod.mk.injEq, Option.some.injEq] at e1 e2
      rw [← e1.1, ← e2.1]⟩)
    (fun G' b _ hh hown => by
      obtain ⟨h, m, a, _, ha, rfl⟩ := hown
      rw [hh] at ha
      simp only [Option.some.injEq] at ha
      rw [← ha])
  refine ⟨G', hi', hle, ?_⟩
  simp only [Rep]
  exact ⟨hn', by omega, ⟨w.heap.size, 0, none⟩, ⟨w.heap.size, 0, none⟩, cap, by rw [hh'], rfl, rfl, by simp, by omega, hmax, fun _ => by simp⟩

def vbuildAV (P : Program) (t : TypeId) (n : Nat) (parts : List (Nat × AV)) (M : Mem) : Option (AV × Mem) := match elemOf? P t with
  | some e => match szOf P e, zeroCells? P e with
    | some sz, some z => if n * sz ≤ 2 ^ 24 ∧ z.length = sz ∧ z.all (·.oneCell') ∧ 0 < sz then
        (rowsGo sz parts (List.replicate n (z.map .val))).map fun rows => (.vref M.length 0 sz 0 n, M ++ [.vec e sz rows.flatten 0 [(0, n)]])
      else none
    | _, _ => none
  | none => none
theorem vbuild_sound (hi : Inv C G M w) {t : TypeId} {n : Nat} {ps : List (Nat × AV)} {xs : Array (Nat × Value)} (hl : ps.length = xs.size) (hps : ∀ (j : Nat) (p : Nat × AV) (x : Nat × Value), ps[j]? = some p → xs.toList[j]? = some x → p.1 = x.1 ∧ Rep G p.2 x.2)
    {v : AV} {M' : Mem} (h : vbuildAV C.P t n ps M = some (v, M')) :
    ∃ u w' G', (Instr.buildSlice t n xs).run C.P w = .ok u w' ∧ G.le G' ∧ Inv C G' M' w' ∧ Rep G' v u ∧ Ext w w' := by
  unfold vbuildAV at h
  split at h
  case h_2 => simp at h
  rename_i e he
  split at h
  case h_2 => simp at h
  rename_i sz z hs hz
  split at h
  case isFalse => simp at h
  rename_i hc
  obtain ⟨c1, c2, c3, c4⟩ := hc
  simp only [Option.map_eq_some_iff, Prod.mk.injEq] at h
  obtain ⟨rows, hrows, rfl, rfl⟩ := h
  obtain ⟨vs', hrun, q2, q3, q4, hn⟩ := buildSlice_run hi he hs hz c3 c2 c4 c1 hl hps hrows
  have hflat : rows.flatten.length = n * sz := by
    rw [← hn]
    clear hrows q2 hn
    induction rows with
    | nil => simp
    | cons r rs ih => rw [List.flatten_cons, List.length_append, ih (fun q hq => q4 q (by simp [hq])), q4 r (by simp), List.length_cons, Nat.add_mul]; omega
  have hmax : n ≤ maxLen := by
    have : n ≤ n * sz := Nat.le_mul_of_pos_right _ c4
    simp only [maxLen]; omega
  have hvs : vs'.size = n * sz := by rw [← hflat, ← q2.length]; simp
  have htk : vs'.toList.take (n * sz) = vs'.toList := List.take_of_length_le (by simp [hvs])
  obtain ⟨G', hi', hle, hrep⟩ := hi.newVec (n := n) (cap := n) e (by rw [htk]; exact q2) (by rw [htk]; exact q3) hvs (Nat.le_refl _) hmax
  exact ⟨_, _, G', hrun, hle, hi', hrep, Ext.alloc _ _⟩
end
end Go.Abs
end
section
/- Operations on arrays that may be written. -/
set_option linter.unusedVariables false
namespace Go.Abs
section
variable {C : Ctx} {G : Ghost} {M : Mem} {w : World}

/-! ### x[lo:hi:mx] -/
theorem vslice_sound {f g sz lo0 len : Nat} {xv : Value} (hx : Rep G (.vref f g sz lo0 len) xv) {t : TypeId} {lo hi mx : Option AV} {xlo xhi xmx : Option Value} {v : AV}
    (hlo : ∀ a, lo = some a → ∃ x, xlo = some x ∧ Rep G a x) (hlo' : lo = none → xlo = none)
    (hhi : ∀ a, hi = some a → ∃ x, xhi = some x ∧ Rep G a x) (hhi' : hi = none → xhi = none)
    (hmx : ∀ a, mx = some a → ∃ x, xmx = some x ∧ Rep G a x) (hmx' : mx = none → xmx = none) (h : vsliceAV C.P t f g sz lo0 len lo hi mx = some v) :
    ∃ u, (Instr.sliceAt t xv xlo xhi xmx).run C.P w = .ok u w ∧ Rep G v u := by
  unfold vsliceAV at h
  split at h
  case h_2 => simp at h
  rename_i m e hm he
  split at h
  case isFalse => simp at h
  rename_i hsz
  split at h
  case h_2 => simp at h
  rename_i hh hhe hb
  split at h
  case h_2 => simp at h
  rename_i l hl
  simp only [Rep] at hx
  obtain ⟨hf, hg, a, a', cap, hd, hsp, hsp', rfl, hle, hcm, ha'⟩ := hx
  obtain ⟨m', hrun, q1, q2, q3, q4, q5, q6⟩ := bounds_run (C := C) (w := w) (G := G) (len := len) (cap := cap - lo0) (by omega) hlo hlo' hhi hhi' hmx hmx' hm hhe hb hl
  refine ⟨.slice (if m' = l then some a' else (some a').map (·.add (l * sz))) (hh - l) (m' - l), ?_, ?_⟩
  · simp [Instr.sliceAt, Instr.slice, run_underlying (elemOf_und he), hrun, run_szOf hsz]
  · split at h
    · have e6 := q6 rfl
      subst e6
      simp only [Option.some.injEq] at h
      subst h
      simp only [Rep]
      refine ⟨hf, hg, a, if cap - lo0 = l then a' else a'.add (l * sz), cap, hd, hsp, ?_, ?_, by omega, hcm, fun hlt => ?_⟩
      · split
        · exact hsp'
        · rw [ha' (by omega), Addr.add_lit]
      · split <;> simp <;> omega
      · rw [if_neg (by omega), ha' (by omega), Addr.add_lit]
        simp only [Addr.mk.injEq, true_and, and_true]
        rw [Nat.add_mul]; omega
    · rename_i q
      split at h
      · rename_i hql
        simp only [Option.some.injEq] at h
        subst h
        have e5 := q5 q rfl
        have h1 : hh - l = 0 := by omega
        have h2 : m' - l = 0 := by omega
        rw [if_pos (by omega), h1, h2]
        simp only [Rep]
        exact ⟨some a', 0, rfl, Nat.le_refl _, by simp [maxLen], ⟨fun _ => hsp', by simp [RepRows]⟩, rfl⟩
      · simp at h
/-! ### make -/
def vmakeAV (P : Program) (t : TypeId) (l c : AV) (M : Mem) : Option (AV × Mem) :=
  match elemOf? P t, l, c with
  | some e, .val (.int _ l), .val (.int _ c) => match szOf P e, zeroCells? P e, bytesOf P e with
    | some sz, some z, some b => if z.length = sz ∧ z.all (·.oneCell') ∧ 0 < sz ∧ 0 ≤ l ∧ l ≤ c ∧ c.toNat * sz ≤ 16777216 ∧ (b : Int) * c ≤ 281474976710656 then
        some (.vref M.length 0 sz 0 l.toNat, M ++ [.vec e sz (List.replicate l.toNat (z.map .val)).flatten 0 [(0, l.toNat)]])
      else none
    | _, _, _ => none
  | _, _, _ => none

theorem vmake_sound (hi : Inv C G M w) {t : TypeId} {l c : AV} {lv cv : Value} (hl : Rep G l lv) (hc : Rep G c cv) {v : AV} {M' : Mem} (h : vmakeAV C.P t l c M = some (v, M')) :
    ∃ u w' G', (Instr.makeSlice t lv cv).run C.P w = .ok u w' ∧ G.le G' ∧ Inv C G' M' w' ∧ Rep G' v u ∧ Ext w w' := by
  unfold vmakeAV at h
  split at h
  case h_2 => simp at h
  rename_i e kl l kc c he
  simp only [Rep] at hl hc
  subst hl; subst hc
  split at h
  case h_2 => simp at h
  rename_i sz z b hs hz hb
  split at h
  case isFalse => simp at h
  rename_i hcond
  obtain ⟨c1, c2, c3, c4, c5, c6, c7⟩ := hcond
  simp only [Option.some.injEq, Prod.mk.injEq] at h
  obtain ⟨rfl, rfl⟩ := h
  obtain ⟨i, hinfo, hisz⟩ := szOf_some hs
  have hib : i.bytes = b := by simpa [bytesOf, hinfo] using hb
  simp only [zeroCells?, hinfo, Option.map_eq_some_iff] at hz
  obtain ⟨zv, hzv, rfl⟩ := hz
  have hcn : c.toNat ≤ 16777216 := Nat.le_trans (Nat.le_mul_of_pos_right _ c3) c6
  have hrun := run_makeSlice (P := C.P) w t e i zv (elemOf_und he) hinfo hzv kl kc l c c4 c5 (by rw [hisz]; exact c6) (by rw [hib]; exact c7) (by omega)
  rw [hisz] at hrun
  have hmade : (madeCells zv.cells (c.toNat * sz)).toList = (List.replicate c.toNat zv.cells.toList).flatten := by
    have := zeros_rows zv.cells.toList c.toNat sz c1 c3
    simpa [madeCells] using this
  have hsize : (madeCells zv.cells (c.toNat * sz)).size = c.toNat * sz := by simp [madeCells]
  have htake : (madeCells zv.cells (c.toNat * sz)).toList.take (l.toNat * sz) = (List.replicate l.toNat zv.cells.toList).flatten := by
    rw [hmade]
    have e1 : c.toNat = l.toNat + (c.toNat - l.toNat) := by omega
    have e2 : (List.replicate l.toNat zv.cells.toList).flatten.length = l.toNat * sz := by
      rw [List.length_flatten]; simp [c1]
    rw [e1, ← List.replicate_append_replicate, List.flatten_append, ← e2, List.take_left]
  have hrep : ∀ n, RepL G (List.replicate n (zv.cells.toList.map AV.val)).flatten (List.replicate n zv.cells.toList).flatten := by
    intro n
    induction n with
    | zero => simp [RepL]
    | succ n ih =>
      rw [List.replicate_succ, List.replicate_succ, List.flatten_cons, List.flatten_cons]
      refine RepL.append ?_ ih
      refine RepL.of_get (by simp) ?_
      intro i c y h1 h2
      simp only [List.getElem?_map, Option.map_eq_some_iff] at h1
      obtain ⟨a, ha, rfl⟩ := h1
      rw [ha] at h2
      simp only [Option.some.injEq] at h2
      subst h2
      simp [Rep]
  obtain ⟨G', hi', hle, hrp⟩ := hi.newVec (n := l.toNat) (cap := c.toNat) (sz := sz) e (by rw [htake]; exact hrep l.toNat) (by
    rw [htake]
    intro v hv
    obtain ⟨q, hq1, hq2⟩ := List.mem_flatten.1 hv
    rw [(List.mem_replicate.1 hq1).2] at hq2
    exact List.all_eq_true.1 c2 v hq2) hsize (by omega) (by simp only [maxLen]; omega)
  exact ⟨_, _, G', hrun, hle, hi', hrp, Ext.alloc _ _⟩
end
end Go.Abs
end
