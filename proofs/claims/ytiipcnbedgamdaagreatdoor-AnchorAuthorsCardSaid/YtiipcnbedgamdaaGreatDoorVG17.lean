/- What a law's arguments and the laid variables read as, as abstract values: one theorem for all types of plain data. -/
import Derived.Test.YtiipcnbedgamdaaGreatDoorVG16
import Derived.OpenShut
import Derived.ChangeArms
set_option linter.unusedVariables false
namespace Go.Abs

/-- shapes of plain data; 'ref i' is the i-th named one -/
inductive Sh where
  | bool
  | int (k : IntKind)
  | str
  | slice (sz : Nat) (e : Sh)
  | parts (l : List Sh)
  | ref (i : Nat)

structure ShEnv where
  sh : Nat → Sh
  ty : Nat → TypeId
  n : Nat

mutual
/-- does the type have the shape -/
def Sh.fits (P : Program) (E : ShEnv) : Sh → TypeId → Bool
  | .bool, t => match P.underlying t with | some .bool => true | _ => false
  | .int k, t => match P.underlying t with | some (.int k') => decide (k' = k) | _ => false
  | .str, t => match P.underlying t with | some .string => true | _ => false
  | .slice sz e, t => match P.underlying t with | some (.slice et) => Nat.beq (P.cellsOf et) sz && Nat.blt 0 sz && Sh.fits P E e et | _ => false
  | .parts l, t => match P.underlying t with
    | some (.struct fs) => Sh.fitsF P E l fs.toList 0 (P.cellsOf t)
    | some (.array n e) => Nat.beq l.length n && Nat.beq (P.cellsOf t) (n * P.cellsOf e) && Sh.fitsA P E l e
    | _ => false
  | .ref i, t => Nat.beq (E.ty i) t && Nat.blt i E.n
def Sh.fitsF (P : Program) (E : ShEnv) : List Sh → List Field → Nat → Nat → Bool
  | [], [], off, tot => Nat.beq off tot
  | s :: l, f :: fs, off, tot => Nat.beq f.offset off && Sh.fits P E s f.type && Sh.fitsF P E l fs (off + P.cellsOf f.type) tot
  | _, _, _, _ => false
def Sh.fitsA (P : Program) (E : ShEnv) : List Sh → TypeId → Bool
  | [], _ => true
  | s :: l, e => Sh.fits P E s e && Sh.fitsA P E l e
end

/-- cells of the shape -/
inductive Shaped (E : ShEnv) : Sh → List AV → Prop
  | bool (b : Bool) : Shaped E .bool [.val (.bool b)]
  | int (k : IntKind) (n : Int) (h : (Lit.int k n).wf = true) : Shaped E (.int k) [.val (.int k n)]
  | str (s : ByteArray) (h : s.size ≤ maxLen) : Shaped E .str [.val (.string s)]
  | slice (sz : Nat) (e : Sh) (rows : List (List AV)) (hl : rows.length ≤ maxLen) (h : ∀ r ∈ rows, Shaped E e r) : Shaped E (.slice sz e) [.list sz rows .no]
  | nil : Shaped E (.parts []) []
  | cons (s : Sh) (l : List Sh) (a b : List AV) (h : Shaped E s a) (k : Shaped E (.parts l) b) : Shaped E (.parts (s :: l)) (a ++ b)
  | ref (i : Nat) (a : List AV) (h : Shaped E (E.sh i) a) : Shaped E (.ref i) a

/-- the cells that a datum gives -/
def avsOf {H : Type} (E : ShEnv) : Nat → Sh → DataW H → Option (List AV)
  | 0, _, _ => none
  | _ + 1, .bool, .lit (.bool b) => some [.val (.bool b)]
  | _ + 1, .int k, .lit (.int k' n) => if k' = k then some [.val (.int k n)] else none
  | _ + 1, .str, .lit (.string s) => some [.val (.string ⟨s.toArray⟩)]
  | _ + 1, .slice sz _, .nil => some [.list sz [] .no]
  | n + 1, .slice sz e, .slice els _ => (els.mapM (avsOf E n e)).map fun rows => [.list sz rows .no]
  | _ + 1, .parts [], .agg [] => some []
  | n + 1, .parts (s :: l), .agg (d :: ds) => match avsOf E n s d, avsOf E n (.parts l) (.agg ds) with
    | some a, some b => some (a ++ b)
    | _, _ => none
  | n + 1, .ref i, d => avsOf E n (E.sh i) d
  | _, _, _ => none

def fixedG (w : World) : Ghost := ⟨0, fun _ => 0, fun b i => w.cell? ⟨b, i, none⟩, fun b => w.heap[b]?, fun _ _ => (none, 0), fun _ => 0⟩

structure Reads (E : ShEnv) {H : Type} (W : World) (sh : Sh) (d : DataW H) (cs : List Value) : Prop where
  ex : ∃ avs, (∃ n0, ∀ n, n0 ≤ n → avsOf E n sh d = some avs) ∧ RepL (fixedG W) avs cs ∧ Shaped E sh avs
  one : ∀ v ∈ cs, v.oneCell' = true

theorem mapM_some_of {α β : Type} {f : α → Option β} : ∀ (l : List α) (r : List β), l.length = r.length → (∀ (i : Nat) a b, l[i]? = some a → r[i]? = some b → f a = some b) → l.mapM f = some r
  | [], r, hl, _ => by cases r with | nil => rfl | cons _ _ => simp at hl
  | a :: l, r, hl, h => by
    cases r with
    | nil => simp at hl
    | cons b r =>
      have h0 := h 0 a b rfl rfl
      have ih := mapM_some_of l r (by simpa using hl) (fun i a b h1 h2 => h (i + 1) a b (by simpa using h1) (by simpa using h2))
      simp [List.mapM_cons, h0, ih]

theorem pick_list {α : Type} (len : Nat) (p : Nat → α → Prop) (h : ∀ i, i < len → ∃ c, p i c) : ∃ l : List α, l.length = len ∧ ∀ i (hi : i < l.length), p i l[i] := by
  refine ⟨List.ofFn fun i : Fin len => Classical.choose (h i.1 i.2), by simp, fun i hi => ?_⟩
  simp only [List.length_ofFn] at hi
  rw [List.getElem_ofFn]
  exact Classical.choose_spec (h i hi)

theorem cells_of {w : World} {a : Addr} {n : Nat} {cs : List Value} (h : w.cells? 0 a n = some cs) : cs.length = n ∧ ∀ (i : Nat) v, cs[i]? = some v → w.cell? (a.add i) = some v := by
  unfold World.cells? at h
  rw [if_pos (Nat.zero_le _)] at h
  have hl : cs.length = n := by have := mapM_some_length h; simpa using this
  refine ⟨hl, fun i v hv => ?_⟩
  have hi : i < n := hl ▸ getElem?_lt hv
  have := mapM_some_get h i i (by simp [hi])
  rw [this]; exact hv

theorem max_all (len : Nat) (p : Nat → Nat → Prop) (h : ∀ i, i < len → ∃ n0, p i n0) (hm : ∀ i a b, p i a → a ≤ b → p i b) : ∃ n0, ∀ i, i < len → p i n0 := by
  induction len with
  | zero => exact ⟨0, fun i hi => by omega⟩
  | succ len ih =>
    obtain ⟨a, ha⟩ := ih (fun i hi => h i (by omega))
    obtain ⟨b, hb⟩ := h len (by omega)
    refine ⟨max a b, fun i hi => ?_⟩
    by_cases e : i = len
    · subst e; exact hm _ _ _ hb (by omega)
    · exact hm _ _ _ (ha i (by omega)) (by omega)

section
variable {P : Program} {E : ShEnv} {H : Type} {enc : TypeId × Value → H} {W : World} {spare : Nat → Bool} {held : Bool}

/-- an array's or a struct's parts -/
theorem reads_parts : ∀ (l : List Sh) (xs : List (DataW H × List MemPlace)) (pieces : List (List Value)), l.length = xs.length → xs.length = pieces.length →
    (∀ (i : Nat) s x p, l[i]? = some s → xs[i]? = some x → pieces[i]? = some p → Reads E W s x.1 p) → Reads E W (.parts l) (.agg (xs.map (·.1))) pieces.flatten
  | [], xs, pieces, h1, h2, _ => by
    have e1 : xs = [] := List.eq_nil_of_length_eq_zero (by simpa using h1.symm)
    subst e1
    have e2 : pieces = [] := List.eq_nil_of_length_eq_zero (by simpa using h2.symm)
    subst e2
    exact ⟨⟨[], ⟨1, fun n hn => by obtain ⟨m, rfl⟩ : ∃ m, n = m + 1 := ⟨n - 1, by omega⟩; rfl⟩, by simp [RepL], .nil⟩, by simp⟩
  | s :: l, [], pieces, h1, _, _ => by simp at h1
  | s :: l, x :: xs, [], _, h2, _ => by simp at h2
  | s :: l, x :: xs, p :: ps, h1, h2, h => by
    obtain ⟨⟨a, ⟨n1, hn1⟩, hr1, hs1⟩, ho1⟩ := h 0 s x p rfl rfl rfl
    obtain ⟨⟨b, ⟨n2, hn2⟩, hr2, hs2⟩, ho2⟩ := reads_parts l xs ps (by simpa using h1) (by simpa using h2) (fun i s x p e1 e2 e3 => h (i + 1) s x p (by simpa using e1) (by simpa using e2) (by simpa using e3))
    refine ⟨⟨a ++ b, ⟨max n1 n2 + 1, fun n hn => ?_⟩, by simp only [List.flatten_cons]; exact hr1.append hr2, .cons _ _ _ _ hs1 hs2⟩, fun v hv => ?_⟩
    · obtain ⟨m, rfl⟩ : ∃ m, n = m + 1 := ⟨n - 1, by omega⟩
      simp only [List.map_cons, avsOf, hn1 m (by omega), hn2 m (by omega)]
    · simp only [List.flatten_cons, List.mem_append] at hv
      rcases hv with hv | hv
      · exact ho1 v hv
      · exact ho2 v hv

theorem chunk_flatten (sz : Nat) : ∀ (n : Nat) (cs : List Value), cs.length = n * sz → ((List.range n).map fun i => (cs.drop (i * sz)).take sz).flatten = cs
  | 0, cs, h => by
    have : cs = [] := List.eq_nil_of_length_eq_zero (by simpa using h)
    subst this; rfl
  | n + 1, cs, h => by
    rw [List.range_succ_eq_map, List.map_cons, List.flatten_cons, List.map_map]
    have ih := chunk_flatten sz n (cs.drop sz) (by rw [List.length_drop, h, Nat.add_mul]; omega)
    have e : ((fun i => (cs.drop (i * sz)).take sz) ∘ Nat.succ) = fun i => ((cs.drop sz).drop (i * sz)).take sz := by
      funext i
      simp only [Function.comp_apply, List.drop_drop]
      congr 2
      rw [Nat.succ_mul]; omega
    rw [e, ih]
    simp

/-- pieces of a struct, one behind the other -/
theorem field_pieces (P : Program) : ∀ (l : List Sh) (fs : List Field) (off tot : Nat) (cs : List Value), Sh.fitsF P E l fs off tot = true → cs.length = tot → off ≤ tot ∧ l.length = fs.length ∧
    (fs.map fun f => (cs.drop f.offset).take (P.cellsOf f.type)).flatten = cs.drop off ∧ (∀ (i : Nat) s f, l[i]? = some s → fs[i]? = some f → Sh.fits P E s f.type = true)
  | [], [], off, tot, cs, h, hc => by
    simp only [Sh.fitsF] at h
    have := Nat.eq_of_beq_eq_true h
    refine ⟨by omega, rfl, ?_, by simp⟩
    simp only [List.map_nil, List.flatten_nil]
    rw [List.drop_of_length_le (by omega)]
  | [], f :: fs, off, tot, cs, h, hc => by simp [Sh.fitsF] at h
  | s :: l, [], off, tot, cs, h, hc => by simp [Sh.fitsF] at h
  | s :: l, f :: fs, off, tot, cs, h, hc => by
    simp only [Sh.fitsF, Bool.and_eq_true] at h
    obtain ⟨⟨h1, h2⟩, h3⟩ := h
    have h1 := Nat.eq_of_beq_eq_true h1
    obtain ⟨i1, i2, i3, i4⟩ := field_pieces P l fs (off + P.cellsOf f.type) tot cs h3 hc
    refine ⟨by omega, by simp [i2], ?_, fun i s' f' e1 e2 => ?_⟩
    · simp only [List.map_cons, List.flatten_cons, i3, h1]
      rw [← List.drop_drop]
      exact List.take_append_drop _ _
    · cases i with
      | zero => simp only [List.getElem?_cons_zero, Option.some.injEq] at e1 e2; subst e1; subst e2; exact h2
      | succ i => exact i4 i s' f' (by simpa using e1) (by simpa using e2)
theorem arr_fits (P : Program) : ∀ (l : List Sh) (e : TypeId), Sh.fitsA P E l e = true → ∀ (i : Nat) s, l[i]? = some s → Sh.fits P E s e = true
  | [], _, _, i, s, h => by simp at h
  | s :: l, e, h, i, s', hs => by
    simp only [Sh.fitsA, Bool.and_eq_true] at h
    cases i with
    | zero => simp at hs; subst hs; exact h.1
    | succ i => exact arr_fits P l e h.2 i s' (by simpa using hs)

theorem reads_of_trod (hE : ∀ i, i < E.n → Sh.fits P E (E.sh i) (E.ty i) = true ∧ ∀ j, E.sh i ≠ .ref j) : ∀ (fuel : Nat) (sh : Sh) (t : TypeId) (cs : List Value) (d : DataW H) (ps : List MemPlace), Sh.fits P E sh t = true → DataW.trod enc P W 0 spare held fuel t cs = some (d, ps) → Reads E W sh d cs := by
  intro fuel
  induction fuel with
  | zero => intro sh t cs d ps _ h; simp [DataW.trod] at h
  | succ fuel ih =>
    -- all but the named ones
    have plain : ∀ (sh : Sh) (t : TypeId) (cs : List Value) (d : DataW H) (ps : List MemPlace), (∀ i, sh ≠ .ref i) → Sh.fits P E sh t = true → DataW.trod enc P W 0 spare held (fuel + 1) t cs = some (d, ps) → Reads E W sh d cs := by
      intro sh t cs d ps hnr hf h
      cases sh with
      | ref i => exact absurd rfl (hnr i)
      | bool =>
        simp only [Sh.fits] at hf
        split at hf
        case h_2 => simp at hf
        rename_i hu
        obtain ⟨b, rfl, hx⟩ := DataW.trod_bool hu h
        simp only [Prod.mk.injEq] at hx
        obtain ⟨rfl, rfl⟩ := hx
        exact ⟨⟨_, ⟨1, fun n hn => by obtain ⟨m, rfl⟩ : ∃ m, n = m + 1 := ⟨n - 1, by omega⟩; rfl⟩, by simp only [RepL]; exact ⟨_, _, rfl, by simp only [Rep], rfl⟩, .bool b⟩, by simp [Value.oneCell']⟩
      | int k =>
        simp only [Sh.fits] at hf
        split at hf
        case h_2 => simp at hf
        rename_i k' hu
        simp only [decide_eq_true_eq] at hf
        subst hf
        obtain ⟨n, rfl, hx, hwf⟩ := DataW.trod_int hu h
        simp only [Prod.mk.injEq] at hx
        obtain ⟨rfl, rfl⟩ := hx
        exact ⟨⟨_, ⟨1, fun n hn => by obtain ⟨m, rfl⟩ : ∃ m, n = m + 1 := ⟨n - 1, by omega⟩; simp only [avsOf, if_true]⟩, by simp only [RepL]; exact ⟨_, _, rfl, by simp only [Rep], rfl⟩, .int _ n hwf⟩, by simp [Value.oneCell']⟩
      | str =>
        simp only [Sh.fits] at hf
        split at hf
        case h_2 => simp at hf
        rename_i hu
        obtain ⟨s, rfl, hx, hsz⟩ := DataW.trod_string hu h
        simp only [Prod.mk.injEq] at hx
        obtain ⟨rfl, rfl⟩ := hx
        have e : (⟨s.data.toList.toArray⟩ : ByteArray) = s := by obtain ⟨a⟩ := s; simp
        exact ⟨⟨[.val (.string s)], ⟨1, fun n hn => by obtain ⟨m, rfl⟩ : ∃ m, n = m + 1 := ⟨n - 1, by omega⟩; simp only [avsOf, e]⟩, by simp only [RepL]; exact ⟨_, _, rfl, by simp only [Rep], rfl⟩, .str s hsz⟩, by simp [Value.oneCell']⟩
      | slice sz e =>
        simp only [Sh.fits] at hf
        split at hf
        case h_2 => simp at hf
        rename_i et hu
        simp only [Bool.and_eq_true] at hf
        obtain ⟨⟨hsz, hpos⟩, hfe⟩ := hf
        have hsz := Nat.eq_of_beq_eq_true hsz
        have hpos : 0 < sz := by have : 1 ≤ sz := by simpa [Nat.blt] using hpos
                                 omega
        rcases DataW.trod_slice hu h with ⟨rfl, hx⟩ | ⟨a, len, cap, elems, rest, n, hn, rfl, hx, _, hl, hm, hlen, hel, -, -⟩
        · simp only [Prod.mk.injEq] at hx
          obtain ⟨rfl, rfl⟩ := hx
          refine ⟨⟨_, ⟨1, fun n hn => by obtain ⟨m, rfl⟩ : ∃ m, n = m + 1 := ⟨n - 1, by omega⟩; rfl⟩, ?_, .slice sz e [] (by simp) (by simp)⟩, by simp [Value.oneCell']⟩
          simp only [RepL, Rep]
          exact ⟨_, _, rfl, ⟨none, 0, rfl, Nat.le_refl _, by simp [maxLen], ⟨by trivial, by trivial⟩, trivial⟩, rfl⟩
        · simp only [Prod.mk.injEq] at hx
          obtain ⟨rfl, rfl⟩ := hx
          have hn' : n = fuel := by omega
          subst hn'
          -- each row
          have row : ∀ i, i < len → ∃ avs : List AV, (∃ x, elems[i]? = some x ∧ ∃ n0, ∀ n, n0 ≤ n → avsOf E n e x.1 = some avs) ∧ avs.length = sz ∧ Shaped E e avs ∧ RepMem (fixedG W) avs a.block (a.off + i * sz) ∧ a.spot = none := by
            intro i hi
            have := hel i hi
            rw [List.getElem?_eq_getElem (by omega), Option.bind_eq_some_iff] at this
            obtain ⟨cs, hc, ht⟩ := this
            rw [hsz] at hc
            obtain ⟨hcl, hcv⟩ := cells_of hc
            obtain ⟨⟨avs, hav, hr, hs⟩, ho⟩ := ih e et cs (elems[i]'(by omega)).1 (elems[i]'(by omega)).2 hfe ht
            have hal : avs.length = sz := by rw [← hr.length, hcl]
            have hspot : a.spot = none := by
              have h0 := hcv 0 _ (List.getElem?_eq_getElem (by omega : 0 < cs.length))
              by_cases hz : i * sz = 0
              · rw [hz] at h0
                simp only [Addr.add, if_true] at h0
                unfold World.cell? at h0
                split at h0
                · split at h0
                  · simp at h0
                  · rename_i hsp; simpa using hsp
                · simp at h0
              · -- the first row tells it
                have := hel 0 (by omega)
                rw [List.getElem?_eq_getElem (by omega), Option.bind_eq_some_iff] at this
                obtain ⟨cs0, hc0, _⟩ := this
                rw [hsz] at hc0
                obtain ⟨hcl0, hcv0⟩ := cells_of hc0
                have h0 := hcv0 0 _ (List.getElem?_eq_getElem (by omega : 0 < cs0.length))
                simp only [Nat.zero_mul, Addr.add, if_true] at h0
                unfold World.cell? at h0
                split at h0
                · split at h0
                  · simp at h0
                  · rename_i hsp; simpa using hsp
                · simp at h0
            refine ⟨avs, ⟨_, List.getElem?_eq_getElem (by omega), hav⟩, hal, hs, RepMem.mk hr ho (fun j v hv => ?_), hspot⟩
            have := hcv j v hv
            have ea : a = ⟨a.block, a.off, none⟩ := by cases a; simp_all
            rw [ea, Addr.add_lit, Addr.add_lit] at this
            exact this
          obtain ⟨rows, hrl, hrow⟩ := pick_list len _ row
          have hrows : RepRows (fixedG W) sz rows a.block a.off := by
            have gen : ∀ (rs : List (List AV)) (o : Nat), (∀ i (hi : i < rs.length), rs[i].length = sz ∧ RepMem (fixedG W) rs[i] a.block (o + i * sz)) → RepRows (fixedG W) sz rs a.block o := by
              intro rs
              induction rs with
              | nil => intro o _; simp [RepRows]
              | cons r rs ih2 =>
                intro o hh
                simp only [RepRows]
                have h0 := hh 0 (by simp)
                refine ⟨by simpa using h0, ih2 (o + sz) (fun i hi => ?_)⟩
                have := hh (i + 1) (by simpa using hi)
                simp only [List.getElem_cons_succ] at this
                rw [show o + sz + i * sz = o + (i + 1) * sz from by rw [Nat.add_mul]; omega]
                exact this
            exact gen rows a.off (fun i hi => ⟨(hrow i hi).2.1, (hrow i hi).2.2.2.1⟩)
          obtain ⟨n0, hn0⟩ := max_all len (fun i n0 => ∀ n, n0 ≤ n → ∀ x r, elems[i]? = some x → rows[i]? = some r → avsOf E n e x.1 = some r) (fun i hi => by
            obtain ⟨x, hx, n0, hx0⟩ := (hrow i (by omega)).1
            refine ⟨n0, fun n hn x' r e1 e2 => ?_⟩
            rw [hx] at e1
            rw [List.getElem?_eq_getElem (by omega : i < rows.length)] at e2
            simp only [Option.some.injEq] at e1 e2
            subst e1; subst e2
            exact hx0 n hn) (fun i a b h1 h2 n hn => h1 n (by omega))
          refine ⟨⟨[.list sz rows .no], ⟨n0 + 1, fun n hn => ?_⟩, ?_, .slice sz e rows (by omega) (fun r hr => ?_)⟩, by simp [Value.oneCell']⟩
          · obtain ⟨m, rfl⟩ : ∃ m, n = m + 1 := ⟨n - 1, by omega⟩
            simp only [avsOf]
            rw [mapM_some_of (f := avsOf E m e) (elems.map (·.1)) rows (by simp; omega) (fun i a b e1 e2 => by
              simp only [List.getElem?_map, Option.map_eq_some_iff] at e1
              obtain ⟨x, hx, rfl⟩ := e1
              exact hn0 i (by have := getElem?_lt hx; omega) m (by omega) x b hx e2)]
            rfl
          · simp only [RepL, Rep]
            refine ⟨_, _, rfl, ⟨some a, cap, by rw [hrl], by omega, hm, ⟨fun hne => ?_, hrows⟩, trivial⟩, rfl⟩
            have : 0 < rows.length := List.length_pos_iff.2 hne
            exact (hrow 0 this).2.2.2.2
          · obtain ⟨j, hj, rfl⟩ := List.mem_iff_getElem.1 hr
            exact (hrow j hj).2.2.1
      | parts l =>
        simp only [Sh.fits] at hf
        split at hf
        · rename_i fs hu
          obtain ⟨xs, n, hn, hx, hcl, hxl, hfl⟩ := DataW.trod_struct hu h
          simp only [Prod.mk.injEq] at hx
          obtain ⟨rfl, rfl⟩ := hx
          have hn' : n = fuel := by omega
          subst hn'
          obtain ⟨_, i2, i3, i4⟩ := field_pieces P l fs.toList 0 _ cs hf hcl
          rw [List.drop_zero] at i3
          rw [← i3]
          refine reads_parts l xs _ (by rw [i2, hxl]; simp) (by rw [hxl]; simp) (fun i s x p e1 e2 e3 => ?_)
          simp only [List.getElem?_map, Option.map_eq_some_iff] at e3
          obtain ⟨f, hfi, rfl⟩ := e3
          have := hfl i f (by simpa using hfi)
          rw [e2] at this
          exact ih s f.type _ x.1 x.2 (i4 i s f e1 hfi) this
        · rename_i m e hu
          simp only [Bool.and_eq_true] at hf
          obtain ⟨⟨h1, h2⟩, h3⟩ := hf
          have h1 := Nat.eq_of_beq_eq_true h1
          have h2 := Nat.eq_of_beq_eq_true h2
          obtain ⟨xs, n, hn, hx, hcl, hxl, hfl⟩ := DataW.trod_array hu h
          simp only [Prod.mk.injEq] at hx
          obtain ⟨rfl, rfl⟩ := hx
          have hn' : n = fuel := by omega
          subst hn'
          rw [h2] at hcl
          rw [← chunk_flatten (P.cellsOf e) m cs hcl]
          refine reads_parts l xs _ (by omega) (by simp [hxl]) (fun i s x p e1 e2 e3 => ?_)
          simp only [List.getElem?_map, Option.map_eq_some_iff] at e3
          obtain ⟨j, hj, rfl⟩ := e3
          have hi : i < m := by rw [← hxl]; exact getElem?_lt e2
          have hij : j = i := by
            rw [List.getElem?_range hi] at hj
            simpa using hj.symm
          subst hij
          have := hfl j hi
          rw [e2] at this
          exact ih s e _ x.1 x.2 (arr_fits P l e h3 j s e1) this
        · simp at hf
    intro sh t cs d ps hf h
    cases sh with
    | ref i =>
      simp only [Sh.fits, Bool.and_eq_true] at hf
      obtain ⟨h1, h2⟩ := hf
      have h1 := Nat.eq_of_beq_eq_true h1
      subst h1
      have h2 : i < E.n := by have : i + 1 ≤ E.n := by simpa [Nat.blt] using h2
                              omega
      obtain ⟨⟨avs, ⟨n0, hn0⟩, hr, hs⟩, ho⟩ := plain (E.sh i) (E.ty i) cs d ps (hE i h2).2 (hE i h2).1 h
      refine ⟨⟨avs, ⟨n0 + 1, fun n hn => ?_⟩, hr, .ref i avs hs⟩, ho⟩
      obtain ⟨m, rfl⟩ : ∃ m, n = m + 1 := ⟨n - 1, by omega⟩
      simp only [avsOf]
      exact hn0 m (by omega)
    | _ => exact plain _ t cs d ps (fun i e => by simp at e) hf h
end
end Go.Abs
