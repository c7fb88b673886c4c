/- The texts AbsA, AbsB: what each proves stands at its head. -/
import Derived.WalkKit
section
/- Abstract values for Go walks: immutable data is kept as trees of values, mutable objects as numbered boxes. -/
namespace Go.Abs

/-- what is known of the spare places of a slice: nothing; there are none; they belong to the family f -/
inductive Own where
  | no
  | full
  | fam (f : Nat)

inductive AV where
  | poison
  | val (v : Value)
  | ptr (b off : Nat)
  | cptr (cells : List AV)
  | list (sz : Nat) (rows : List (List AV)) (own : Own)
  /-- a window, from row lo on, of the slice that the array f had at its time g -/
  | vref (f g sz lo len : Nat)
  /-- a pointer to a cell of it -/
  | vptr (f g off : Nat)
  | mapr (b : Nat)
  | func (fn : Fn) (first captured : List AV)
  | iface (t : TypeId) (v : AV)
  | agg (cells : List AV)
  | tuple (vs : List AV)

structure Ghost where
  n : Nat
  blk : Nat → Nat
  st : Nat → Nat → Option Value
  keep : Nat → Option Obj
  hdr : Nat → Nat → Option Addr × Nat
  top : Nat → Nat

structure Ghost.le (G G' : Ghost) : Prop where
  n : G.n ≤ G'.n
  blk : ∀ b, b < G.n → G'.blk b = G.blk b
  st : ∀ b i v, G.st b i = some v → G'.st b i = some v
  keep : ∀ b o, G.keep b = some o → G'.keep b = some o
  top : ∀ f, f < G.n → G.top f ≤ G'.top f
  hdr : ∀ f, f < G.n → ∀ k, k ≤ G.top f → G'.hdr f k = G.hdr f k

theorem Ghost.le.refl (G : Ghost) : G.le G := ⟨Nat.le_refl _, fun _ _ => rfl, fun _ _ _ h => h, fun _ _ h => h, fun _ _ => Nat.le_refl _, fun _ _ _ _ => rfl⟩
theorem Ghost.le.trans {A B C : Ghost} (h : A.le B) (k : B.le C) : A.le C :=
  ⟨Nat.le_trans h.n k.n, fun b hb => (k.blk b (Nat.lt_of_lt_of_le hb h.n)).trans (h.blk b hb), fun b i v hv => k.st b i v (h.st b i v hv),
    fun b o ho => k.keep b o (h.keep b o ho), fun f hf => Nat.le_trans (h.top f hf) (k.top f (Nat.lt_of_lt_of_le hf h.n)),
    fun f hf j hj => (k.hdr f (Nat.lt_of_lt_of_le hf h.n) j (Nat.le_trans hj (h.top f hf))).trans (h.hdr f hf j hj)⟩

def RepOwn (G : Ghost) (own : Own) (len : Nat) (base : Option Addr) (cap : Nat) : Prop :=
  match own with
  | .no => True
  | .full => cap = len
  | .fam f => f < G.n ∧ len ≤ G.top f ∧ G.hdr f len = (base, cap)

theorem RepOwn.mono {G G' : Ghost} (h : G.le G') {own : Own} {len : Nat} {base : Option Addr} {cap : Nat} (k : RepOwn G own len base cap) : RepOwn G' own len base cap := by
  cases own with
  | no => trivial
  | full => exact k
  | fam f =>
    obtain ⟨h1, h2, h3⟩ := k
    exact ⟨Nat.lt_of_lt_of_le h1 h.n, Nat.le_trans h2 (h.top f h1), (h.hdr f h1 _ h2).trans h3⟩

mutual
def Rep (G : Ghost) : AV → Value → Prop
  | .poison, _ => True
  | .val v, x => x = v
  | .ptr b off, x => b < G.n ∧ x = .pointer (some ⟨G.blk b, off, none⟩)
  | .cptr cs, x => ∃ b i, x = .pointer (some ⟨b, i, none⟩) ∧ RepMem G cs b i
  | .list sz rows own, x => ∃ base cap, x = .slice base rows.length cap ∧ rows.length ≤ cap ∧ cap ≤ maxLen ∧
      (match base with | none => rows = [] ∧ cap = 0 | some a => (rows ≠ [] → a.spot = none) ∧ RepRows G sz rows a.block a.off) ∧ RepOwn G own rows.length base cap
  | .vref f g sz lo len, x => f < G.n ∧ g ≤ G.top f ∧ ∃ a a' cap, G.hdr f g = (some a, cap) ∧ a.spot = none ∧ a'.spot = none ∧ x = .slice (some a') len (cap - lo) ∧ lo + len ≤ cap ∧ cap ≤ maxLen ∧ (lo < cap → a' = ⟨a.block, a.off + lo * sz, none⟩)
  | .vptr f g off, x => f < G.n ∧ g ≤ G.top f ∧ ∃ a cap, G.hdr f g = (some a, cap) ∧ x = .pointer (some ⟨a.block, a.off + off, none⟩)
  | .mapr b, x => b < G.n ∧ x = .map (some (G.blk b))
  | .func fn f c, x => ∃ fs cs : Array Value, x = .func fn fs cs ∧ RepL G f fs.toList ∧ RepL G c cs.toList
  | .iface t v, x => ∃ y, x = .iface t y ∧ Rep G v y
  | .agg cs, x => ∃ ys : Array Value, x = .agg ys ∧ RepL G cs ys.toList ∧ ∀ y ∈ ys.toList, y.oneCell' = true
  | .tuple cs, x => ∃ ys : Array Value, x = .tuple ys ∧ RepL G cs ys.toList
def RepL (G : Ghost) : List AV → List Value → Prop
  | [], ys => ys = []
  | c :: cs, ys => ∃ y ys', ys = y :: ys' ∧ Rep G c y ∧ RepL G cs ys'
def RepMem (G : Ghost) : List AV → Nat → Nat → Prop
  | [], _, _ => True
  | c :: cs, b, i => (∃ v, G.st b i = some v ∧ v.oneCell' = true ∧ Rep G c v) ∧ RepMem G cs b (i + 1)
def RepRows (G : Ghost) (sz : Nat) : List (List AV) → Nat → Nat → Prop
  | [], _, _ => True
  | r :: rs, b, i => (r.length = sz ∧ RepMem G r b i) ∧ RepRows G sz rs b (i + sz)
end

mutual
theorem Rep.mono {G G' : Ghost} (h : G.le G') : ∀ (a : AV) (x : Value), Rep G a x → Rep G' a x
  | .poison, _, _ => by simp [Rep]
  | .val v, x, k => by simpa [Rep] using k
  | .ptr b off, x, k => by
    simp only [Rep] at k ⊢
    exact ⟨Nat.lt_of_lt_of_le k.1 h.n, by rw [h.blk b k.1]; exact k.2⟩
  | .cptr cs, x, k => by
    simp only [Rep] at k ⊢
    obtain ⟨b, i, hx, hm⟩ := k
    exact ⟨b, i, hx, RepMem.mono h cs b i hm⟩
  | .list sz rows own, x, k => by
    simp only [Rep] at k ⊢
    obtain ⟨base, cap, hx, hl, hm, hb, ho⟩ := k
    refine ⟨base, cap, hx, hl, hm, ?_, ho.mono h⟩
    cases base with
    | none => exact hb
    | some a => exact ⟨hb.1, RepRows.mono h sz rows _ _ hb.2⟩
  | .vref f g sz lo len, x, k => by
    simp only [Rep] at k ⊢
    obtain ⟨h1, h2, a, a', cap, h3, h4⟩ := k
    exact ⟨Nat.lt_of_lt_of_le h1 h.n, Nat.le_trans h2 (h.top f h1), a, a', cap, (h.hdr f h1 g h2).trans h3, h4⟩
  | .vptr f g off, x, k => by
    simp only [Rep] at k ⊢
    obtain ⟨h1, h2, a, cap, h3, h4⟩ := k
    exact ⟨Nat.lt_of_lt_of_le h1 h.n, Nat.le_trans h2 (h.top f h1), a, cap, (h.hdr f h1 g h2).trans h3, h4⟩
  | .mapr b, x, k => by
    simp only [Rep] at k ⊢
    exact ⟨Nat.lt_of_lt_of_le k.1 h.n, by rw [h.blk b k.1]; exact k.2⟩
  | .func fn f c, x, k => by
    simp only [Rep] at k ⊢
    obtain ⟨fs, cs, hx, h1, h2⟩ := k
    exact ⟨fs, cs, hx, RepL.mono h f _ h1, RepL.mono h c _ h2⟩
  | .iface t v, x, k => by
    simp only [Rep] at k ⊢
    obtain ⟨y, hx, h1⟩ := k
    exact ⟨y, hx, Rep.mono h v y h1⟩
  | .agg cs, x, k => by
    simp only [Rep] at k ⊢
    obtain ⟨ys, hx, h1, h2⟩ := k
    exact ⟨ys, hx, RepL.mono h cs _ h1, h2⟩
  | .tuple cs, x, k => by
    simp only [Rep] at k ⊢
    obtain ⟨ys, hx, h1⟩ := k
    exact ⟨ys, hx, RepL.mono h cs _ h1⟩
theorem RepL.mono {G G' : Ghost} (h : G.le G') : ∀ (cs : List AV) (ys : List Value), RepL G cs ys → RepL G' cs ys
  | [], ys, k => by simpa [RepL] using k
  | c :: cs, ys, k => by
    simp only [RepL] at k ⊢
    obtain ⟨y, ys', hy, h1, h2⟩ := k
    exact ⟨y, ys', hy, Rep.mono h c y h1, RepL.mono h cs ys' h2⟩
theorem RepMem.mono {G G' : Ghost} (h : G.le G') : ∀ (cs : List AV) (b i : Nat), RepMem G cs b i → RepMem G' cs b i
  | [], _, _, _ => by simp [RepMem]
  | c :: cs, b, i, k => by
    simp only [RepMem] at k ⊢
    obtain ⟨⟨v, hv, ho, h1⟩, h2⟩ := k
    exact ⟨⟨v, h.st b i v hv, ho, Rep.mono h c v h1⟩, RepMem.mono h cs b (i + 1) h2⟩
theorem RepRows.mono {G G' : Ghost} (h : G.le G') (sz : Nat) : ∀ (rs : List (List AV)) (b i : Nat), RepRows G sz rs b i → RepRows G' sz rs b i
  | [], _, _, _ => by simp [RepRows]
  | r :: rs, b, i, k => by
    simp only [RepRows] at k ⊢
    exact ⟨⟨k.1.1, RepMem.mono h r b i k.1.2⟩, RepRows.mono h sz rs b (i + sz) k.2⟩
end

/-! lists -/
theorem RepL.length {G : Ghost} : ∀ {cs : List AV} {ys : List Value}, RepL G cs ys → ys.length = cs.length
  | [], ys, k => by simp only [RepL] at k; subst k; rfl
  | c :: cs, ys, k => by
    simp only [RepL] at k
    obtain ⟨y, ys', rfl, _, h2⟩ := k
    simp [RepL.length h2]
theorem RepL.get {G : Ghost} : ∀ {cs : List AV} {ys : List Value}, RepL G cs ys → ∀ {i : Nat} {c : AV}, cs[i]? = some c → ∃ y, ys[i]? = some y ∧ Rep G c y
  | [], _, _, i, c, hc => by simp at hc
  | c :: cs, ys, k, i, c', hc => by
    simp only [RepL] at k
    obtain ⟨y, ys', rfl, h1, h2⟩ := k
    cases i with
    | zero => simp at hc; subst hc; exact ⟨y, rfl, h1⟩
    | succ i => simpa using RepL.get h2 (i := i) (by simpa using hc)
theorem RepL.set {G : Ghost} : ∀ {cs : List AV} {ys : List Value}, RepL G cs ys → ∀ (i : Nat) {c : AV} {y : Value}, Rep G c y → RepL G (cs.set i c) (ys.set i y)
  | [], ys, k, i, c, y, h => by simp only [RepL] at k; subst k; simp [RepL]
  | c :: cs, ys, k, i, c', y', h => by
    simp only [RepL] at k
    obtain ⟨y, ys', rfl, h1, h2⟩ := k
    cases i with
    | zero => simp only [List.set_cons_zero, RepL]; exact ⟨_, _, rfl, h, h2⟩
    | succ i => simp only [List.set_cons_succ, RepL]; exact ⟨_, _, rfl, h1, RepL.set h2 i h⟩
theorem RepL.append {G : Ghost} : ∀ {cs ds : List AV} {ys zs : List Value}, RepL G cs ys → RepL G ds zs → RepL G (cs ++ ds) (ys ++ zs)
  | [], ds, ys, zs, k, h => by simp only [RepL] at k; subst k; exact h
  | c :: cs, ds, ys, zs, k, h => by
    simp only [RepL] at k
    obtain ⟨y, ys', rfl, h1, h2⟩ := k
    simp only [List.cons_append, RepL]
    exact ⟨_, _, rfl, h1, RepL.append h2 h⟩
theorem RepL.take {G : Ghost} : ∀ {cs : List AV} {ys : List Value}, RepL G cs ys → ∀ n, RepL G (cs.take n) (ys.take n)
  | [], ys, k, n => by simp only [RepL] at k; subst k; simp [RepL]
  | c :: cs, ys, k, n => by
    simp only [RepL] at k
    obtain ⟨y, ys', rfl, h1, h2⟩ := k
    cases n with
    | zero => simp [RepL]
    | succ n => simp only [List.take_succ_cons, RepL]; exact ⟨_, _, rfl, h1, RepL.take h2 n⟩
theorem RepL.drop {G : Ghost} : ∀ {cs : List AV} {ys : List Value}, RepL G cs ys → ∀ n, RepL G (cs.drop n) (ys.drop n)
  | [], ys, k, n => by simp only [RepL] at k; subst k; simp [RepL]
  | c :: cs, ys, k, n => by
    cases n with
    | zero => simpa using k
    | succ n =>
      simp only [RepL] at k
      obtain ⟨y, ys', rfl, h1, h2⟩ := k
      simpa using RepL.drop h2 n
theorem RepMem.get {G : Ghost} : ∀ {cs : List AV} {b i : Nat}, RepMem G cs b i → ∀ {j : Nat} {c : AV}, cs[j]? = some c → ∃ v, G.st b (i + j) = some v ∧ v.oneCell' = true ∧ Rep G c v
  | [], _, _, _, j, c, hc => by simp at hc
  | c :: cs, b, i, k, j, c', hc => by
    simp only [RepMem] at k
    obtain ⟨⟨v, hv⟩, h2⟩ := k
    cases j with
    | zero => simp at hc; subst hc; exact ⟨v, hv⟩
    | succ j =>
      obtain ⟨v', h⟩ := RepMem.get h2 (j := j) (by simpa using hc)
      exact ⟨v', by rw [show i + (j + 1) = i + 1 + j from by omega]; exact h.1, h.2⟩
theorem RepMem.drop {G : Ghost} : ∀ {cs : List AV} {b i : Nat}, RepMem G cs b i → ∀ n, RepMem G (cs.drop n) b (i + n)
  | [], _, _, _, n => by simp [RepMem]
  | c :: cs, b, i, k, n => by
    cases n with
    | zero => simpa using k
    | succ n =>
      simp only [RepMem] at k
      rw [show i + (n + 1) = i + 1 + n from by omega]
      simpa using RepMem.drop k.2 n
theorem RepMem.take {G : Ghost} : ∀ {cs : List AV} {b i : Nat}, RepMem G cs b i → ∀ n, RepMem G (cs.take n) b i
  | [], _, _, _, n => by simp [RepMem]
  | c :: cs, b, i, k, n => by
    cases n with
    | zero => simp [RepMem]
    | succ n =>
      simp only [RepMem, List.take_succ_cons] at k ⊢
      exact ⟨k.1, RepMem.take k.2 n⟩
theorem RepMem.append {G : Ghost} : ∀ {cs ds : List AV} {b i : Nat}, RepMem G cs b i → RepMem G ds b (i + cs.length) → RepMem G (cs ++ ds) b i
  | [], _, _, _, _, h => by simpa using h
  | c :: cs, ds, b, i, k, h => by
    simp only [RepMem, List.cons_append] at k ⊢
    exact ⟨k.1, RepMem.append k.2 (by rw [show i + 1 + cs.length = i + (c :: cs).length from by simp; omega]; exact h)⟩
/-- the values behind a piece of fixed memory -/
theorem RepMem.vals {G : Ghost} : ∀ {cs : List AV} {b i : Nat}, RepMem G cs b i → ∃ vs : List Value, RepL G cs vs ∧ vs.length = cs.length ∧ (∀ v ∈ vs, v.oneCell' = true) ∧ ∀ j v, vs[j]? = some v → G.st b (i + j) = some v
  | [], _, _, _ => ⟨[], by simp [RepL], rfl, by simp, by simp⟩
  | c :: cs, b, i, k => by
    simp only [RepMem] at k
    obtain ⟨⟨v, hv, ho, h1⟩, h2⟩ := k
    obtain ⟨vs, h3, h4, h5, h6⟩ := RepMem.vals h2
    refine ⟨v :: vs, by simp only [RepL]; exact ⟨v, vs, rfl, h1, h3⟩, by simp [h4], by simpa [ho] using h5, ?_⟩
    intro j u hu
    cases j with
    | zero => simp at hu; subst hu; exact hv
    | succ j => rw [show i + (j + 1) = i + 1 + j from by omega]; exact h6 j u (by simpa using hu)
theorem RepMem.mk {G : Ghost} : ∀ {cs : List AV} {vs : List Value} {b i : Nat}, RepL G cs vs → (∀ v ∈ vs, v.oneCell' = true) → (∀ j v, vs[j]? = some v → G.st b (i + j) = some v) → RepMem G cs b i
  | [], _, _, _, _, _, _ => by simp [RepMem]
  | c :: cs, vs, b, i, k, ho, h => by
    simp only [RepL] at k
    obtain ⟨y, ys', rfl, h1, h2⟩ := k
    simp only [RepMem]
    exact ⟨⟨y, by simpa using h 0 y rfl, ho y (by simp), h1⟩, RepMem.mk h2 (fun v hv => ho v (by simp [hv])) (fun j v hv => by rw [show i + 1 + j = i + (j + 1) from by omega]; exact h (j + 1) v (by simpa using hv))⟩
theorem RepRows.row {G : Ghost} {sz : Nat} : ∀ {rs : List (List AV)} {b i : Nat}, RepRows G sz rs b i → ∀ {j : Nat} {r : List AV}, rs[j]? = some r → r.length = sz ∧ RepMem G r b (i + j * sz)
  | [], _, _, _, j, r, hr => by simp at hr
  | r :: rs, b, i, k, j, r', hr => by
    simp only [RepRows] at k
    cases j with
    | zero => simp at hr; subst hr; simpa using k.1
    | succ j =>
      have := RepRows.row k.2 (j := j) (by simpa using hr)
      refine ⟨this.1, ?_⟩
      rw [show i + (j + 1) * sz = i + sz + j * sz from by rw [Nat.add_mul]; omega]
      exact this.2
theorem RepRows.flat {G : Ghost} {sz : Nat} : ∀ {rs : List (List AV)} {b i : Nat}, RepRows G sz rs b i → RepMem G rs.flatten b i ∧ rs.flatten.length = rs.length * sz
  | [], _, _, _ => by simp [RepMem]
  | r :: rs, b, i, k => by
    simp only [RepRows] at k
    have h := RepRows.flat k.2
    refine ⟨?_, ?_⟩
    · simp only [List.flatten_cons]
      exact RepMem.append k.1.2 (by rw [k.1.1]; exact h.1)
    · simp only [List.flatten_cons, List.length_append, List.length_cons, h.2, k.1.1, Nat.add_mul]; omega
theorem RepRows.mk {G : Ghost} {sz : Nat} : ∀ {rs : List (List AV)} {b i : Nat}, (∀ r ∈ rs, r.length = sz) → RepMem G rs.flatten b i → RepRows G sz rs b i
  | [], _, _, _, _ => by simp [RepRows]
  | r :: rs, b, i, hs, k => by
    simp only [RepRows]
    have hr : r.length = sz := hs r (by simp)
    have h1 := RepMem.take k r.length
    have h2 := RepMem.drop k r.length
    simp only [List.flatten_cons, List.take_left, List.drop_left] at h1 h2
    exact ⟨⟨hr, h1⟩, RepRows.mk (fun x hx => hs x (by simp [hx])) (by rw [← hr]; exact h2)⟩
theorem RepRows.sizes {G : Ghost} {sz : Nat} {rs : List (List AV)} {b i : Nat} (k : RepRows G sz rs b i) : ∀ r ∈ rs, r.length = sz := by
  intro r hr
  obtain ⟨j, hj, rfl⟩ := List.mem_iff_getElem.1 hr
  exact (RepRows.row k (j := j) (by simp [hj])).1
theorem RepRows.take {G : Ghost} {sz : Nat} : ∀ {rs : List (List AV)} {b i : Nat}, RepRows G sz rs b i → ∀ n, RepRows G sz (rs.take n) b i
  | [], _, _, _, n => by simp [RepRows]
  | r :: rs, b, i, k, n => by
    cases n with
    | zero => simp [RepRows]
    | succ n => simp only [RepRows, List.take_succ_cons] at k ⊢; exact ⟨k.1, RepRows.take k.2 n⟩
theorem RepRows.drop {G : Ghost} {sz : Nat} : ∀ {rs : List (List AV)} {b i : Nat}, RepRows G sz rs b i → ∀ n, RepRows G sz (rs.drop n) b (i + n * sz)
  | [], _, _, _, n => by simp [RepRows]
  | r :: rs, b, i, k, n => by
    cases n with
    | zero => simpa using k
    | succ n =>
      simp only [RepRows] at k
      rw [show i + (n + 1) * sz = i + sz + n * sz from by rw [Nat.add_mul]; omega]
      simpa using RepRows.drop k.2 n
end Go.Abs
end
section
/- The abstract state of a Go run: boxes, families, fixed memory; what it says of a real world; weakest preconditions over it. -/
set_option linter.unusedVariables false
namespace Go.Abs

inductive AObj where
  | gone
  /-- a variable, of type t -/
  | cells (t : TypeId) (cs : List AV)
  | fam (m sz : Nat)
  /-- an array that may be written: its cells, its time, and which of its slices (by time and length) still read as its first cells -/
  | vec (e : TypeId) (sz : Nat) (cs : List AV) (g : Nat) (hist : List (Nat × Nat))
  /-- a map: keys, values, ages -/
  | map (es : List (AV × AV × Nat)) (clock : Nat)
  | siter (s : ByteArray) (pos : Nat)
  | miter (m : Option Nat) (since : Nat) (seen : List Nat) (stepped : Nat)

abbrev Mem := List AObj
abbrev Env := Nat → AV

/-- the blocks that an object alone may write -/
def owns (G : Ghost) (k : Nat) (o : AObj) (b : Nat) : Prop := match o with
  | .gone => False
  | .fam m _ => m < (G.hdr k m).2 ∧ ∃ a, (G.hdr k m).1 = some a ∧ a.block = b
  | .vec _ _ _ _ hist => ∃ h n a, (h, n) ∈ hist ∧ (G.hdr k h).1 = some a ∧ a.block = b
  | _ => b = G.blk k

/-- a slice (time h, length n) of an array reads as its first cells -/
def HdrInv (G : Ghost) (w : World) (k : Nat) (t : TypeId) (sz : Nat) (cs : List AV) (h n : Nat) : Prop :=
  h ≤ G.top k ∧ n * sz ≤ cs.length ∧ ∃ b o cap vs, G.hdr k h = (some ⟨b, o, none⟩, cap) ∧ n ≤ cap ∧ cap ≤ maxLen ∧ w.heap[b]? = some (.cells vs t (0, 0)) ∧ o + cap * sz ≤ vs.size ∧
    RepL G (cs.take (n * sz)) ((vs.toList.drop o).take (n * sz)) ∧ (∀ v ∈ (vs.toList.drop o).take (n * sz), v.oneCell' = true) ∧ (∀ i, G.st b i = none) ∧ G.keep b = none

def RepEntry (G : Ghost) (e : AV × AV × Nat) (x : MapEntry) : Prop := Rep G e.1 x.key ∧ Rep G e.2.1 x.val ∧ x.born = e.2.2
inductive RepEntries (G : Ghost) : List (AV × AV × Nat) → List MapEntry → Prop
  | nil : RepEntries G [] []
  | cons {e x es xs} : RepEntry G e x → RepEntries G es xs → RepEntries G (e :: es) (x :: xs)
theorem RepEntries.mono {G G' : Ghost} (h : G.le G') {es : List (AV × AV × Nat)} {xs : List MapEntry} (k : RepEntries G es xs) : RepEntries G' es xs := by
  induction k with
  | nil => exact .nil
  | cons h1 _ ih => exact .cons ⟨Rep.mono h _ _ h1.1, Rep.mono h _ _ h1.2.1, h1.2.2⟩ ih

def ObjInv (G : Ghost) (w : World) (k : Nat) : AObj → Prop
  | .gone => True
  | .cells t cs => ∃ (vs : Array Value), w.heap[G.blk k]? = some (.cells vs t (0, 0)) ∧ RepL G cs vs.toList ∧ (∀ v ∈ vs.toList, v.oneCell' = true) ∧
      (∀ i, G.st (G.blk k) i = none) ∧ G.keep (G.blk k) = none
  | .fam m sz => G.top k = m ∧ m ≤ (G.hdr k m).2 ∧ (G.hdr k m).2 ≤ maxLen ∧ (m < (G.hdr k m).2 → ∃ (g : Nat) (vs : Array Value) (t : TypeId), (G.hdr k m).1 = some ⟨g, 0, none⟩ ∧
      w.heap[g]? = some (.cells vs t (0, 0)) ∧ (G.hdr k m).2 * sz ≤ vs.size ∧ (∀ i, m * sz ≤ i → G.st g i = none) ∧ G.keep g = none)
  | .vec e sz cs g hist => G.top k = g ∧ (∀ h n, (h, n) ∈ hist → HdrInv G w k e sz cs h n) ∧
      (∀ h n h' n' a a' c c', (h, n) ∈ hist → (h', n') ∈ hist → G.hdr k h = (some a, c) → G.hdr k h' = (some a', c') → a.block = a'.block → a = a')
  | .map es clock => ∃ xs : Array MapEntry, w.heap[G.blk k]? = some (.map xs clock) ∧ RepEntries G es xs.toList ∧ G.keep (G.blk k) = none
  | .siter s pos => w.heap[G.blk k]? = some (.stringIter s pos) ∧ G.keep (G.blk k) = none
  | .miter m since seen stepped => w.heap[G.blk k]? = some (.mapIter (m.map G.blk) since seen.toArray stepped) ∧ (∀ b ∈ m, b < G.n) ∧ G.keep (G.blk k) = none

structure Ctx where
  P : Program
  gl : Nat → AV
  /-- variables whose whole memory is known -/
  tab : Nat → Option (Array Value)
  /-- types of slices that are made as data, whatever the hint says -/
  data : TypeId → Bool

structure Inv (C : Ctx) (G : Ghost) (M : Mem) (w : World) : Prop where
  n : G.n = M.length
  st : ∀ b i v, G.st b i = some v → w.cell? ⟨b, i, none⟩ = some v
  keep : ∀ b o, G.keep b = some o → w.heap[b]? = some o
  obj : ∀ k o, M[k]? = some o → ObjInv G w k o
  apart : ∀ j k x y b, M[j]? = some x → M[k]? = some y → owns G j x b → owns G k y b → j = k
  gl : ∀ g, Rep G (C.gl g) (.pointer (some ⟨g, 0, none⟩))
  tab : ∀ g cs, C.tab g = some cs → ∃ t f, G.keep g = some (.cells cs t f)

theorem Inv.tab_le {C : Ctx} {G G' : Ghost} {M : Mem} {w : World} (hi : Inv C G M w) (hle : G.le G') : ∀ g cs, C.tab g = some cs → ∃ t f, G'.keep g = some (.cells cs t f) := fun g cs h => by
  obtain ⟨t, f, k⟩ := hi.tab g cs h
  exact ⟨t, f, hle.keep _ _ k⟩

structure Ext (w w' : World) : Prop where
  os : w'.os = w.os
  tape : w'.tape = w.tape
  output : w'.output = w.output
  size : w.heap.size ≤ w'.heap.size

theorem Ext.refl (w : World) : Ext w w := ⟨rfl, rfl, rfl, Nat.le_refl _⟩
theorem Ext.trans {a b c : World} (h : Ext a b) (k : Ext b c) : Ext a c :=
  ⟨k.os.trans h.os, k.tape.trans h.tape, k.output.trans h.output, Nat.le_trans h.size k.size⟩

theorem getElem?_lt {α : Type} {l : List α} {k : Nat} {x : α} (h : l[k]? = some x) : k < l.length := by
  rcases Nat.lt_or_ge k l.length with h' | h'
  · exact h'
  · simp [List.getElem?_eq_none h'] at h

theorem heap_lt {w : World} {b : Nat} {o : Obj} (h : w.heap[b]? = some o) : b < w.heap.size := (Array.getElem?_eq_some_iff.1 h).1

/-- what an object owns is there -/
theorem ObjInv.owns_lt {G : Ghost} {w : World} {k : Nat} {o : AObj} (h : ObjInv G w k o) {b : Nat} (ho : owns G k o b) : b < w.heap.size := by
  cases o with
  | gone => exact ho.elim
  | cells t cs => obtain ⟨vs, h1, _⟩ := h; simp only [owns] at ho; subst ho; exact heap_lt h1
  | fam m sz =>
    obtain ⟨hlt, a, ha, rfl⟩ := ho
    obtain ⟨g, vs, t, q1, q2, _⟩ := h.2.2.2 hlt
    rw [q1] at ha
    simp only [Option.some.injEq] at ha
    subst ha
    exact heap_lt q2
  | vec e sz rows g hist =>
    obtain ⟨h', n, a, hm, ha, rfl⟩ := ho
    obtain ⟨_, _, b, o, cap, vs, q1, _, _, q2, _⟩ := h.2.1 h' n hm
    rw [q1] at ha
    simp only [Option.some.injEq] at ha
    subst ha
    exact heap_lt q2
  | map es clock => obtain ⟨xs, h1, _⟩ := h; simp only [owns] at ho; subst ho; exact heap_lt h1
  | siter s pos => simp only [owns] at ho; subst ho; exact heap_lt h.1
  | miter m since seen stepped => simp only [owns] at ho; subst ho; exact heap_lt h.1

/-- an object is as it was where the blocks that it owns are as they were -/
theorem ObjInv.keeps {G G' : Ghost} {w w' : World} {k : Nat} {o : AObj} (h : ObjInv G w k o) (hle : G.le G') (hk : k < G.n) (hblk : G'.blk k = G.blk k) (hhdr : G'.hdr k = G.hdr k ∧ G'.top k = G.top k)
    (hst : ∀ b, owns G k o b → ∀ i v, G'.st b i = some v → G.st b i = some v) (hkeep : ∀ b, G'.keep b = G.keep b) (hw : ∀ b, owns G k o b → w'.heap[b]? = w.heap[b]?) : ObjInv G' w' k o := by
  have none_of : ∀ b, owns G k o b → ∀ i, G.st b i = none → G'.st b i = none := by
    intro b hb i hn
    cases hs : G'.st b i with
    | none => rfl
    | some v => rw [hst b hb i v hs] at hn; simp at hn
  cases o with
  | gone => trivial
  | cells t cs =>
    obtain ⟨vs, h1, h2, h3, h4, h5⟩ := h
    refine ⟨vs, by rw [hblk, hw _ rfl]; exact h1, RepL.mono hle _ _ h2, h3, fun i => ?_, by rw [hblk, hkeep]; exact h5⟩
    rw [hblk]; exact none_of _ rfl i (h4 i)
  | fam m sz =>
    obtain ⟨h0, h1, h1', h2⟩ := h
    simp only [ObjInv, hhdr.1, hhdr.2]
    refine ⟨h0, h1, h1', fun hlt => ?_⟩
    obtain ⟨g, vs, t, q1, q2, q3, q4, q5⟩ := h2 hlt
    have hown : owns G k (.fam m sz) g := ⟨hlt, _, q1, rfl⟩
    exact ⟨g, vs, t, q1, by rw [hw _ hown]; exact q2, q3, fun i hi' => none_of _ hown i (q4 i hi'), by rw [hkeep]; exact q5⟩
  | vec e sz rows g hist =>
    obtain ⟨h0, h2, h3⟩ := h
    simp only [ObjInv, hhdr.1, hhdr.2]
    refine ⟨h0, fun h' n hm => ?_, h3⟩
    obtain ⟨p1, p2, b, o, cap, vs, q1, q2, q3, q4, q5, q6, q7, q8, q9⟩ := h2 h' n hm
    have hown : owns G k (.vec e sz rows g hist) b := ⟨h', n, _, hm, by rw [q1], rfl⟩
    exact ⟨by rw [hhdr.2]; exact p1, p2, b, o, cap, vs, by rw [hhdr.1]; exact q1, q2, q3, by rw [hw _ hown]; exact q4, q5, RepL.mono hle _ _ q6, q7, fun i => none_of _ hown i (q8 i), by rw [hkeep]; exact q9⟩
  | map es clock =>
    obtain ⟨xs, h1, h2, h3⟩ := h
    exact ⟨xs, by rw [hblk, hw _ rfl]; exact h1, h2.mono hle, by rw [hblk, hkeep]; exact h3⟩
  | siter s pos => exact ⟨by rw [hblk, hw _ rfl]; exact h.1, by rw [hblk, hkeep]; exact h.2⟩
  | miter m since seen stepped =>
    refine ⟨?_, fun b hb => Nat.lt_of_lt_of_le (h.2.1 b hb) hle.n, by rw [hblk, hkeep]; exact h.2.2⟩
    have e : m.map G'.blk = m.map G.blk := by
      cases m with
      | none => rfl
      | some b => simp [hle.blk b (h.2.1 b rfl)]
    rw [hblk, hw _ rfl, h.1, e]

/-- One object turns; the world turns in one block, which is the object's or new; fixed memory may grow there. -/
theorem Inv.step {C : Ctx} {G G' : Ghost} {M : Mem} {w w' : World} (hi : Inv C G M w) (k gb : Nat) {o o' : AObj} (hk : M[k]? = some o)
    (hob : owns G k o gb ∨ w.heap.size ≤ gb) (hle : G.le G') (hn : G'.n = G.n) (hblk : ∀ b, G'.blk b = G.blk b)
    (hhdr : ∀ f, f ≠ k → G'.hdr f = G.hdr f ∧ G'.top f = G.top f)
    (hst : ∀ b i v, G'.st b i = some v → G.st b i = some v ∨ (b = gb ∧ w'.cell? ⟨b, i, none⟩ = some v)) (hkeep : ∀ b, G'.keep b = G.keep b)
    (hw : ∀ b, b < w.heap.size → b ≠ gb → w'.heap[b]? = w.heap[b]?) (hgst : ∀ i v, G.st gb i = some v → w'.cell? ⟨gb, i, none⟩ = some v) (hgkeep : ∀ o, G.keep gb ≠ some o)
    (ho : ObjInv G' w' k o') (hnew : ∀ b, owns G' k o' b → b = gb ∨ owns G k o b) : Inv C G' (M.set k o') w' := by
  have hklt := getElem?_lt hk
  have lt_of_cell : ∀ b i v, w.cell? ⟨b, i, none⟩ = some v → b < w.heap.size := fun b i v h => World.block_lt_of_cell? w ⟨b, i, none⟩ h
  -- an object other than k does not lie in gb
  have other : ∀ j x b, M[j]? = some x → j ≠ k → owns G j x b → b ≠ gb := by
    intro j x b hj hjk hb e
    subst e
    have hlt := (hi.obj j x hj).owns_lt hb
    rcases hob with h | h
    · exact hjk (hi.apart j k x o b hj hk hb h)
    · omega
  have owns_eq : ∀ j x b, j ≠ k → (owns G' j x b ↔ owns G j x b) := by
    intro j x b hj
    cases x <;> simp [owns, hblk, (hhdr j hj).1]
  refine ⟨by rw [hn]; simpa using hi.n, ?_, ?_, ?_, ?_, fun g => Rep.mono hle _ _ (hi.gl g), hi.tab_le hle⟩
  · intro b i v hv
    rcases hst b i v hv with h | ⟨_, h⟩
    · by_cases e : b = gb
      · subst e; exact hgst i v h
      · have := hi.st b i v h
        have hlt := lt_of_cell b i v this
        simpa [World.cell?, hw b hlt e] using this
    · exact h
  · intro b x hx
    rw [hkeep] at hx
    have h0 := hi.keep b x hx
    have hlt : b < w.heap.size := (Array.getElem?_eq_some_iff.1 h0).1
    have hne : b ≠ gb := by intro e; subst e; exact hgkeep x hx
    rw [hw b hlt hne]; exact h0
  · intro j x hj
    by_cases e : j = k
    · subst e
      simp [hklt] at hj
      subst hj
      exact ho
    · have hj' : M[j]? = some x := by
        have : k ≠ j := fun h => e h.symm
        simpa [List.getElem?_set, this] using hj
      have hx := hi.obj j x hj'
      refine hx.keeps hle (by rw [hi.n]; exact getElem?_lt hj') (hblk j) (hhdr j e) (fun b hb i v hv => ?_) hkeep (fun b hb => hw b (hx.owns_lt hb) (other j x b hj' e hb))
      rcases hst b i v hv with h | ⟨h, _⟩
      · exact h
      · exact absurd h (other j x b hj' e hb)
  · intro i j x y b hx hy ox oy
    have back : ∀ i x, i ≠ k → (M.set k o')[i]? = some x → M[i]? = some x := by
      intro i x e hx
      have : k ≠ i := fun h => e h.symm
      simpa [List.getElem?_set, this] using hx
    have key : ∀ i j x y, i = k → j ≠ k → (M.set k o')[i]? = some x → (M.set k o')[j]? = some y → owns G' i x b → owns G' j y b → False := by
      intro i j x y e1 e2 hx hy ox oy
      subst e1
      simp [hklt] at hx
      subst hx
      have hy' := back j y e2 hy
      rw [owns_eq j y b e2] at oy
      rcases hnew b ox with hb | hb
      · exact other j y b hy' e2 oy hb
      · exact e2 (hi.apart j i y o b hy' hk oy hb)
    by_cases e1 : i = k <;> by_cases e2 : j = k
    · rw [e1, e2]
    · exact (key i j x y e1 e2 hx hy ox oy).elim
    · exact (key j i y x e2 e1 hy hx oy ox).elim
    · have hx' := back i x e1 hx
      have hy' := back j y e2 hy
      rw [owns_eq i x b e1] at ox
      rw [owns_eq j y b e2] at oy
      exact hi.apart i j x y b hx' hy' ox oy

/-- One more number, for an object to come; what is kept of it may be chosen. -/
def Ghost.more (G : Ghost) (nb : Nat) (h : Nat → Option Addr × Nat) (t : Nat) : Ghost :=
  { G with n := G.n + 1, blk := fun b => if b = G.n then nb else G.blk b, hdr := fun f => if f = G.n then h else G.hdr f, top := fun f => if f = G.n then t else G.top f }

theorem Ghost.le_more (G : Ghost) (nb : Nat) (h : Nat → Option Addr × Nat) (t : Nat) : G.le (G.more nb h t) :=
  ⟨Nat.le_succ _, fun b hb => if_neg (by omega), fun _ _ _ h => h, fun _ _ h => h, fun f hf => by simp only [Ghost.more]; rw [if_neg (by omega)]; exact Nat.le_refl _, fun f hf k _ => by simp only [Ghost.more]; rw [if_neg (by omega)]⟩

theorem Inv.more {C : Ctx} {G : Ghost} {M : Mem} {w : World} (hi : Inv C G M w) (nb : Nat) (h : Nat → Option Addr × Nat) (t : Nat) : Inv C (G.more nb h t) (M ++ [.gone]) w := by
  have hle := G.le_more nb h t
  have back : ∀ j x, (M ++ [AObj.gone])[j]? = some x → (j < G.n ∧ M[j]? = some x) ∨ x = AObj.gone := by
    intro j x h
    by_cases hj : j < M.length
    · left; exact ⟨by rw [hi.n]; exact hj, by rwa [List.getElem?_append_left hj] at h⟩
    · right
      rw [List.getElem?_append_right (by omega)] at h
      have := List.mem_of_getElem? h
      simpa using this
  have ob : ∀ k x b, k < G.n → (owns (G.more nb h t) k x b ↔ owns G k x b) := fun k x b hk => by
    have : k ≠ G.n := by omega
    cases x <;> simp [owns, Ghost.more, this]
  refine ⟨by simpa [Ghost.more] using hi.n, hi.st, hi.keep, ?_, ?_, fun g => Rep.mono hle _ _ (hi.gl g), hi.tab_le hle⟩
  · intro j x hj
    rcases back j x hj with ⟨hlt, h⟩ | rfl
    · have hne : j ≠ G.n := by omega
      exact (hi.obj j x h).keeps hle hlt (by simp [Ghost.more, hne]) (by simp [Ghost.more, hne]) (fun _ _ _ _ h => h) (fun _ => rfl) (fun _ _ => rfl)
    · trivial
  · intro i j x y b hx hy ox oy
    rcases back i x hx with ⟨hl, h⟩ | rfl
    · rcases back j y hy with ⟨hl', h'⟩ | rfl
      · rw [ob i x b hl] at ox
        rw [ob j y b hl'] at oy
        exact hi.apart i j x y b h h' ox oy
      · exact oy.elim
    · exact ox.elim

/-- A draw turns nothing. -/
theorem Inv.world {C : Ctx} {G : Ghost} {M : Mem} {w w' : World} (hi : Inv C G M w) (h : w'.heap = w.heap) : Inv C G M w' := by
  refine ⟨hi.n, fun b i v hv => ?_, fun b o ho => ?_, fun k o hk => ?_, hi.apart, hi.gl, hi.tab⟩
  · have := hi.st b i v hv; simpa [World.cell?, h] using this
  · rw [h]; exact hi.keep b o ho
  · exact (hi.obj k o hk).keeps (.refl _) (by rw [hi.n]; exact getElem?_lt hk) rfl ⟨rfl, rfl⟩ (fun _ _ _ _ h => h) (fun _ => rfl) (fun _ _ => by rw [h])

/-! ### the environment -/
def Env.put (T : Env) (d : Option Nat) (v : AV) : Env := match d with
  | none => T
  | some d => fun j => if j = d then v else T j

@[simp] theorem Env.put_none (T : Env) (v : AV) : T.put none v = T := rfl
theorem Env.put_some (T : Env) (d : Nat) (v : AV) (j : Nat) : T.put (some d) v j = if j = d then v else T j := rfl

def Env.of (args : List AV) : Env := fun i => args.getD i .poison

structure RepEnv (G : Ghost) (N : Nat) (T : Env) (a : Act) : Prop where
  defers : a.defers = []
  size : a.tmps.size = N
  at_ : ∀ i, i < N → Rep G (T i) (a.tmps.getD i undef)

theorem RepEnv.mono {G G' : Ghost} (h : G.le G') {N : Nat} {T : Env} {a : Act} (k : RepEnv G N T a) : RepEnv G' N T a :=
  ⟨k.defers, k.size, fun i hi => Rep.mono h _ _ (k.at_ i hi)⟩

theorem RepEnv.put {G : Ghost} {N : Nat} {T : Env} {a : Act} (k : RepEnv G N T a) {d : Option Nat} {v : AV} {x : Value} (hv : Rep G v x) : RepEnv G N (T.put d v) (a.put d x) := by
  cases d with
  | none => exact k
  | some d =>
    refine ⟨k.defers, by simpa [Act.put] using k.size, fun i hi => ?_⟩
    have h0 := k.at_ i hi
    have hs := k.size
    rw [Env.put_some]
    by_cases e : i = d
    · subst e
      rw [if_pos rfl]
      simpa [Act.put, Array.getD, hi, hs] using hv
    · rw [if_neg e]
      have hne : d ≠ i := fun h => e h.symm
      simpa [Act.put, Array.getD, hi, hs, Array.getElem_setIfInBounds, hne] using h0

theorem RepEnv.of {G : Ghost} {args : List AV} {vs : List Value} (n : Nat) (k : RepL G args vs) :
    RepEnv G (vs.length + n) (Env.of args) { tmps := vs.toArray ++ Array.replicate n undef, defers := [] } := by
  refine ⟨rfl, by simp, fun i hi => ?_⟩
  by_cases h : i < args.length
  · obtain ⟨y, hy, hr⟩ := k.get (i := i) (c := args[i]) (by simp [h])
    have hlen := k.length
    have hlt : i < vs.length := by omega
    have e1 : Env.of args i = args[i] := by simp [Env.of, h]
    rw [e1]
    have : vs[i] = y := by rw [List.getElem?_eq_getElem hlt] at hy; exact Option.some.inj hy
    simpa [Array.getD, hlt, Array.getElem_append, this, hi] using hr
  · have e1 : Env.of args i = .poison := by
      have : args.length ≤ i := by omega
      simp [Env.of, List.getD, List.getElem?_eq_none this]
    rw [e1]
    simp [Rep]

/-- operands -/
def Env.ev (C : Ctx) (T : Env) : Operand → AV
  | .tmp t => T t
  | .const v => .val v
  | .global g => C.gl g
  | .func f => .func (.func f) [] []

/-- all slots that are read lie in the frame -/
def Operand.inside (N : Nat) : Operand → Bool
  | .tmp t => decide (t < N)
  | _ => true

theorem ev_rep {C : Ctx} {G : Ghost} {M : Mem} {w : World} {N : Nat} {T : Env} {a : Act} (hi : Inv C G M w) (he : RepEnv G N T a) (x : Operand) (hx : Operand.inside N x = true) : Rep G (T.ev C x) (a.eval x) := by
  cases x with
  | tmp t => simp only [Env.ev, Act.eval]; exact he.at_ t (by simpa [Operand.inside] using hx)
  | const v => simp [Env.ev, Act.eval, Rep]
  | global g => exact hi.gl g
  | func f => simp [Env.ev, Act.eval, Rep, RepL]

/-! ### what is said of code -/
def Lift (C : Ctx) (N : Nat) (Q : Exit → Env → Mem → Prop) (G : Ghost) (w : World) : Exit → Act → World → Prop :=
  fun e a' w' => ∃ T' M' G', Q e T' M' ∧ G.le G' ∧ Inv C G' M' w' ∧ RepEnv G' N T' a' ∧ Ext w w'

theorem Lift.mono {C : Ctx} {N : Nat} {Q : Exit → Env → Mem → Prop} {G G' : Ghost} {w w' : World} (h : G.le G') (k : Ext w w') {e : Exit} {a : Act} {v : World}
    (l : Lift C N Q G' w' e a v) : Lift C N Q G w e a v := by
  obtain ⟨T', M', G'', h1, h2, h3, h4, h5⟩ := l
  exact ⟨T', M', G'', h1, h.trans h2, h3, h4, k.trans h5⟩

theorem Lift.weaken {C : Ctx} {N : Nat} {Q Q' : Exit → Env → Mem → Prop} {G : Ghost} {w : World} (h : ∀ e T M, Q e T M → Q' e T M) {e : Exit} {a : Act} {v : World}
    (l : Lift C N Q G w e a v) : Lift C N Q' G w e a v := by
  obtain ⟨T', M', G'', h1, h2⟩ := l
  exact ⟨T', M', G'', h _ _ _ h1, h2⟩

def AWp (C : Ctx) (N : Nat) (c : Code) (Q : Exit → Env → Mem → Prop) (T : Env) (M : Mem) : Prop :=
  ∀ G w a, Inv C G M w → RepEnv G N T a → c.wp C.P (Lift C N Q G w) a w

def ACalls (C : Ctx) (f : FuncId) (args : List AV) (M : Mem) (Q : AV → Mem → Prop) : Prop :=
  ∀ G w (vs : List Value), Inv C G M w → RepL G args vs →
    Calls C.P f vs.toArray w fun e w' => ∃ r M' G' v, e = .returned v ∧ Q r M' ∧ G.le G' ∧ Inv C G' M' w' ∧ Rep G' r v ∧ Ext w w'

theorem ACalls.mono {C : Ctx} {f : FuncId} {args : List AV} {M : Mem} {Q Q' : AV → Mem → Prop} (h : ACalls C f args M Q) (hq : ∀ r M', Q r M' → Q' r M') : ACalls C f args M Q' := by
  intro G w vs hi hr
  refine Calls.mono (h G w vs hi hr) ?_
  rintro e w' ⟨r, M', G', v, rfl, h1, h2⟩
  exact ⟨r, M', G', v, rfl, hq _ _ h1, h2⟩

section control
variable {C : Ctx} {N : Nat} {Q Q' : Exit → Env → Mem → Prop} {T : Env} {M : Mem}

theorem AWp.mono {c : Code} (h : AWp C N c Q T M) (hq : ∀ e T M, Q e T M → Q' e T M) : AWp C N c Q' T M :=
  fun G w a hi he => wp_mono (h G w a hi he) fun _ _ _ l => Lift.weaken hq l

def thenK (K : Env → Mem → Prop) (Q : Exit → Env → Mem → Prop) : Exit → Env → Mem → Prop
  | .normal, T, M => K T M
  | e, T, M => Q e T M

theorem awp_skip (h : Q .normal T M) : AWp C N .skip Q T M :=
  fun G w a hi he => wp_skip ⟨T, M, G, h, .refl _, hi, he, .refl _⟩
theorem awp_label {l : Nat} (h : Q .normal T M) : AWp C N (.label l) Q T M :=
  fun G w a hi he => wp_label ⟨T, M, G, h, .refl _, hi, he, .refl _⟩
theorem awp_exit {id : Nat} (h : Q (.exit id) T M) : AWp C N (.exit id) Q T M :=
  fun G w a hi he => wp_exit ⟨T, M, G, h, .refl _, hi, he, .refl _⟩
theorem awp_ret (h : Q .ret T M) : AWp C N .ret Q T M :=
  fun G w a hi he => wp_ret ⟨T, M, G, h, .refl _, hi, he, .refl _⟩

theorem awp_seq {x y : Code} (h : AWp C N x (thenK (AWp C N y Q) Q) T M) : AWp C N (.seq x y) Q T M := by
  intro G w a hi he
  refine wp_seq (wp_mono (h G w a hi he) ?_)
  rintro e a' w' ⟨T', M', G', h1, h2, h3, h4, h5⟩
  cases e with
  | normal => exact wp_mono (h1 G' w' a' h3 h4) fun _ _ _ l => Lift.mono h2 h5 l
  | _ => exact ⟨T', M', G', h1, h2, h3, h4, h5⟩

def inBlockK (id : Nat) (Q : Exit → Env → Mem → Prop) : Exit → Env → Mem → Prop
  | .exit id', T, M => if id' = id then Q .normal T M else Q (.exit id') T M
  | e, T, M => Q e T M

theorem awp_block {id : Nat} {c : Code} (h : AWp C N c (inBlockK id Q) T M) : AWp C N (.block id c) Q T M := by
  intro G w a hi he
  refine wp_block (wp_mono (h G w a hi he) ?_)
  rintro e a' w' ⟨T', M', G', h1, h2⟩
  cases e with
  | exit id' =>
    simp only [inBlockK, Exit.inBlock] at h1 ⊢
    by_cases e : id' = id
    · rw [if_pos e] at h1 ⊢; exact ⟨T', M', G', h1, h2⟩
    · rw [if_neg e] at h1 ⊢; exact ⟨T', M', G', h1, h2⟩
  | _ => exact ⟨T', M', G', h1, h2⟩

theorem awp_cond {c : Operand} {x y : Code} {t : Bool} (hin : Operand.inside N c = true) (hc : T.ev C c = .val (.bool t)) (ht : t = true → AWp C N x Q T M) (hf : t = false → AWp C N y Q T M) : AWp C N (.cond c x y) Q T M := by
  intro G w a hi he
  have h := ev_rep hi he c hin
  rw [hc] at h
  simp only [Rep] at h
  exact wp_cond_split h (fun e => ht e G w a hi he) (fun e => hf e G w a hi he)

theorem awp_loop {c : Code} (I : Env → Mem → Prop) (μ : Env → Mem → Nat) (h0 : I T M)
    (round : ∀ T M, I T M → AWp C N c (thenK (fun T' M' => I T' M' ∧ μ T' M' < μ T M) Q) T M) : AWp C N (.loop c) Q T M := by
  intro G w a hi he b k cs
  have key : ∀ n T M G w a, μ T M = n → I T M → Inv C G M w → RepEnv G N T a →
      ∃ e a' w', Lift C N Q G w e a' w' ∧ Arrives C.P (lone (b.at a (.code c :: .inLoop c :: k)) cs w) b k cs e a' w' := by
    intro n
    induction n using Nat.strongRecOn with
    | _ n ih =>
      intro T M G w a hn hI hi he
      obtain ⟨e, a₁, w₁, hq, harr⟩ := round T M hI G w a hi he b (.inLoop c :: k) cs
      obtain ⟨T', M', G', h1, h2, h3, h4, h5⟩ := hq
      cases e with
      | normal =>
        obtain ⟨hI', hlt⟩ := h1
        obtain ⟨e₂, a₂, w₂, hq₂, harr₂⟩ := ih (μ T' M') (hn ▸ hlt) T' M' G' w₁ a₁ rfl hI' h3 h4
        exact ⟨e₂, a₂, w₂, Lift.mono h2 h5 hq₂, .of_steps (Steps.trans harr (.one step_inLoop)) harr₂⟩
      | exit id => exact ⟨_, a₁, w₁, ⟨T', M', G', h1, h2, h3, h4, h5⟩, .pass (x := .inLoop c) rfl (fun _ _ => .inl (by simp)) harr⟩
      | goto l => exact ⟨_, a₁, w₁, ⟨T', M', G', h1, h2, h3, h4, h5⟩, .pass (x := .inLoop c) rfl (fun _ _ => .inl (by simp)) harr⟩
      | ret => exact ⟨_, a₁, w₁, ⟨T', M', G', h1, h2, h3, h4, h5⟩, .pass (x := .inLoop c) rfl (fun _ _ => .inl (by simp)) harr⟩
      | panic ch => exact ⟨_, a₁, w₁, ⟨T', M', G', h1, h2, h3, h4, h5⟩, .pass (x := .inLoop c) rfl (fun _ _ => .inl (by simp)) harr⟩
      | outgrown => exact ⟨_, a₁, w₁, ⟨T', M', G', h1, h2, h3, h4, h5⟩, .pass (x := .inLoop c) rfl (fun _ _ => .inl (by simp)) harr⟩
  obtain ⟨e, a', w', hq, harr⟩ := key _ T M G w a rfl h0 hi he
  exact ⟨e, a', w', hq, .of_steps (.one step_loop) harr⟩
end control
end Go.Abs
end
