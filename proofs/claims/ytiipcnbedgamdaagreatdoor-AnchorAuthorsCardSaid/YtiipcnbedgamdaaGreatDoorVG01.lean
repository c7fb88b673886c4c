/- The texts AbsA, AbsB, AbsC, AbsC2: what each proves stands at its head. -/
import Derived.WalkKit
section
/- Abstract values for Go walks: immutable data is kept as trees of values, mutable objects as numbered boxes. -/
namespace Go.Abs

/-- what is known of the spare places of a slice: nothing; there are none; they belong to the family f -/
inductive Own where
  | no
  | full
  | fam (f : Nat)

inductive AV where
  | poison
  | val (v : Value)
  | ptr (b off : Nat)
  | cptr (cells : List AV)
  | list (sz : Nat) (rows : List (List AV)) (own : Own)
  /-- a window, from row lo on, of the slice that the array f had at its time g -/
  | vref (f g sz lo len : Nat)
  /-- a pointer to a cell of it -/
  | vptr (f g off : Nat)
  | mapr (b : Nat)
  | func (fn : Fn) (first captured : List AV)
  | iface (t : TypeId) (v : AV)
  | agg (cells : List AV)
  | tuple (vs : List AV)

structure Ghost where
  n : Nat
  blk : Nat → Nat
  st : Nat → Nat → Option Value
  keep : Nat → Option Obj
  hdr : Nat → Nat → Option Addr × Nat
  top : Nat → Nat

structure Ghost.le (G G' : Ghost) : Prop where
  n : G.n ≤ G'.n
  blk : ∀ b, b < G.n → G'.blk b = G.blk b
  st : ∀ b i v, G.st b i = some v → G'.st b i = some v
  keep : ∀ b o, G.keep b = some o → G'.keep b = some o
  top : ∀ f, f < G.n → G.top f ≤ G'.top f
  hdr : ∀ f, f < G.n → ∀ k, k ≤ G.top f → G'.hdr f k = G.hdr f k

theorem Ghost.le.refl (G : Ghost) : G.le G := ⟨Nat.le_refl _, fun _ _ => rfl, fun _ _ _ h => h, fun _ _ h => h, fun _ _ => Nat.le_refl _, fun _ _ _ _ => rfl⟩
theorem Ghost.le.trans {A B C : Ghost} (h : A.le B) (k : B.le C) : A.le C :=
  ⟨Nat.le_trans h.n k.n, fun b hb => (k.blk b (Nat.lt_of_lt_of_le hb h.n)).trans (h.blk b hb), fun b i v hv => k.st b i v (h.st b i v hv),
    fun b o ho => k.keep b o (h.keep b o ho), fun f hf => Nat.le_trans (h.top f hf) (k.top f (Nat.lt_of_lt_of_le hf h.n)),
    fun f hf j hj => (k.hdr f (Nat.lt_of_lt_of_le hf h.n) j (Nat.le_trans hj (h.top f hf))).trans (h.hdr f hf j hj)⟩

def RepOwn (G : Ghost) (own : Own) (len : Nat) (base : Option Addr) (cap : Nat) : Prop :=
  match own with
  | .no => True
  | .full => cap = len
  | .fam f => f < G.n ∧ len ≤ G.top f ∧ G.hdr f len = (base, cap)

theorem RepOwn.mono {G G' : Ghost} (h : G.le G') {own : Own} {len : Nat} {base : Option Addr} {cap : Nat} (k : RepOwn G own len base cap) : RepOwn G' own len base cap := by
  cases own with
  | no => trivial
  | full => exact k
  | fam f =>
    obtain ⟨h1, h2, h3⟩ := k
    exact ⟨Nat.lt_of_lt_of_le h1 h.n, Nat.le_trans h2 (h.top f h1), (h.hdr f h1 _ h2).trans h3⟩

mutual
def Rep (G : Ghost) : AV → Value → Prop
  | .poison, _ => True
  | .val v, x => x = v
  | .ptr b off, x => b < G.n ∧ x = .pointer (some ⟨G.blk b, off, none⟩)
  | .cptr cs, x => ∃ b i, x = .pointer (some ⟨b, i, none⟩) ∧ RepMem G cs b i
  | .list sz rows own, x => ∃ base cap, x = .slice base rows.length cap ∧ rows.length ≤ cap ∧ cap ≤ maxLen ∧
      (match base with | none => rows = [] ∧ cap = 0 | some a => (rows ≠ [] → a.spot = none) ∧ RepRows G sz rows a.block a.off) ∧ RepOwn G own rows.length base cap
  | .vref f g sz lo len, x => f < G.n ∧ g ≤ G.top f ∧ ∃ a a' cap, G.hdr f g = (some a, cap) ∧ a.spot = none ∧ a'.spot = none ∧ x = .slice (some a') len (cap - lo) ∧ lo + len ≤ cap ∧ cap ≤ maxLen ∧ (lo < cap → a' = ⟨a.block, a.off + lo * sz, none⟩)
  | .vptr f g off, x => f < G.n ∧ g ≤ G.top f ∧ ∃ a cap, G.hdr f g = (some a, cap) ∧ x = .pointer (some ⟨a.block, a.off + off, none⟩)
  | .mapr b, x => b < G.n ∧ x = .map (some (G.blk b))
  | .func fn f c, x => ∃ fs cs : Array Value, x = .func fn fs cs ∧ RepL G f fs.toList ∧ RepL G c cs.toList
  | .iface t v, x => ∃ y, x = .iface t y ∧ Rep G v y
  | .agg cs, x => ∃ ys : Array Value, x = .agg ys ∧ RepL G cs ys.toList ∧ ∀ y ∈ ys.toList, y.oneCell' = true
  | .tuple cs, x => ∃ ys : Array Value, x = .tuple ys ∧ RepL G cs ys.toList
def RepL (G : Ghost) : List AV → List Value → Prop
  | [], ys => ys = []
  | c :: cs, ys => ∃ y ys', ys = y :: ys' ∧ Rep G c y ∧ RepL G cs ys'
def RepMem (G : Ghost) : List AV → Nat → Nat → Prop
  | [], _, _ => True
  | c :: cs, b, i => (∃ v, G.st b i = some v ∧ v.oneCell' = true ∧ Rep G c v) ∧ RepMem G cs b (i + 1)
def RepRows (G : Ghost) (sz : Nat) : List (List AV) → Nat → Nat → Prop
  | [], _, _ => True
  | r :: rs, b, i => (r.length = sz ∧ RepMem G r b i) ∧ RepRows G sz rs b (i + sz)
end

mutual
theorem Rep.mono {G G' : Ghost} (h : G.le G') : ∀ (a : AV) (x : Value), Rep G a x → Rep G' a x
  | .poison, _, _ => by simp [Rep]
  | .val v, x, k => by simpa [Rep] using k
  | .ptr b off, x, k => by
    simp only [Rep] at k ⊢
    exact ⟨Nat.lt_of_lt_of_le k.1 h.n, by rw [h.blk b k.1]; exact k.2⟩
  | .cptr cs, x, k => by
    simp only [Rep] at k ⊢
    obtain ⟨b, i, hx, hm⟩ := k
    exact ⟨b, i, hx, RepMem.mono h cs b i hm⟩
  | .list sz rows own, x, k => by
    simp only [Rep] at k ⊢
    obtain ⟨base, cap, hx, hl, hm, hb, ho⟩ := k
    refine ⟨base, cap, hx, hl, hm, ?_, ho.mono h⟩
    cases base with
    | none => exact hb
    | some a => exact ⟨hb.1, RepRows.mono h sz rows _ _ hb.2⟩
  | .vref f g sz lo len, x, k => by
    simp only [Rep] at k ⊢
    obtain ⟨h1, h2, a, a', cap, h3, h4⟩ := k
    exact ⟨Nat.lt_of_lt_of_le h1 h.n, Nat.le_trans h2 (h.top f h1), a, a', cap, (h.hdr f h1 g h2).trans h3, h4⟩
  | .vptr f g off, x, k => by
    simp only [Rep] at k ⊢
    obtain ⟨h1, h2, a, cap, h3, h4⟩ := k
    exact ⟨Nat.lt_of_lt_of_le h1 h.n, Nat.le_trans h2 (h.top f h1), a, cap, (h.hdr f h1 g h2).trans h3, h4⟩
  | .mapr b, x, k => by
    simp only [Rep] at k ⊢
    exact ⟨Nat.lt_of_lt_of_le k.1 h.n, by rw [h.blk b k.1]; exact k.2⟩
  | .func fn f c, x, k => by
    simp only [Rep] at k ⊢
    obtain ⟨fs, cs, hx, h1, h2⟩ := k
    exact ⟨fs, cs, hx, RepL.mono h f _ h1, RepL.mono h c _ h2⟩
  | .iface t v, x, k => by
    simp only [Rep] at k ⊢
    obtain ⟨y, hx, h1⟩ := k
    exact ⟨y, hx, Rep.mono h v y h1⟩
  | .agg cs, x, k => by
    simp only [Rep] at k ⊢
    obtain ⟨ys, hx, h1, h2⟩ := k
    exact ⟨ys, hx, RepL.mono h cs _ h1, h2⟩
  | .tuple cs, x, k => by
    simp only [Rep] at k ⊢
    obtain ⟨ys, hx, h1⟩ := k
    exact ⟨ys, hx, RepL.mono h cs _ h1⟩
theorem RepL.mono {G G' : Ghost} (h : G.le G') : ∀ (cs : List AV) (ys : List Value), RepL G cs ys → RepL G' cs ys
  | [], ys, k => by simpa [RepL] using k
  | c :: cs, ys, k => by
    simp only [RepL] at k ⊢
    obtain ⟨y, ys', hy, h1, h2⟩ := k
    exact ⟨y, ys', hy, Rep.mono h c y h1, RepL.mono h cs ys' h2⟩
theorem RepMem.mono {G G' : Ghost} (h : G.le G') : ∀ (cs : List AV) (b i : Nat), RepMem G cs b i → RepMem G' cs b i
  | [], _, _, _ => by simp [RepMem]
  | c :: cs, b, i, k => by
    simp only [RepMem] at k ⊢
    obtain ⟨⟨v, hv, ho, h1⟩, h2⟩ := k
    exact ⟨⟨v, h.st b i v hv, ho, Rep.mono h c v h1⟩, RepMem.mono h cs b (i + 1) h2⟩
theorem RepRows.mono {G G' : Ghost} (h : G.le G') (sz : Nat) : ∀ (rs : List (List AV)) (b i : Nat), RepRows G sz rs b i → RepRows G' sz rs b i
  | [], _, _, _ => by simp [RepRows]
  | r :: rs, b, i, k => by
    simp only [RepRows] at k ⊢
    exact ⟨⟨k.1.1, RepMem.mono h r b i k.1.2⟩, RepRows.mono h sz rs b (i + sz) k.2⟩
end

/-! lists -/
theorem RepL.length {G : Ghost} : ∀ {cs : List AV} {ys : List Value}, RepL G cs ys → ys.length = cs.length
  | [], ys, k => by simp only [RepL] at k; subst k; rfl
  | c :: cs, ys, k => by
    simp only [RepL] at k
    obtain ⟨y, ys', rfl, _, h2⟩ := k
    simp [RepL.length h2]
theorem RepL.get {G : Ghost} : ∀ {cs : List AV} {ys : List Value}, RepL G cs ys → ∀ {i : Nat} {c : AV}, cs[i]? = some c → ∃ y, ys[i]? = some y ∧ Rep G c y
  | [], _, _, i, c, hc => by simp at hc
  | c :: cs, ys, k, i, c', hc => by
    simp only [RepL] at k
    obtain ⟨y, ys', rfl, h1, h2⟩ := k
    cases i with
    | zero => simp at hc; subst hc; exact ⟨y, rfl, h1⟩
    | succ i => simpa using RepL.get h2 (i := i) (by simpa using hc)
theorem RepL.set {G : Ghost} : ∀ {cs : List AV} {ys : List Value}, RepL G cs ys → ∀ (i : Nat) {c : AV} {y : Value}, Rep G c y → RepL G (cs.set i c) (ys.set i y)
  | [], ys, k, i, c, y, h => by simp only [RepL] at k; subst k; simp [RepL]
  | c :: cs, ys, k, i, c', y', h => by
    simp only [RepL] at k
    obtain ⟨y, ys', rfl, h1, h2⟩ := k
    cases i with
    | zero => simp only [List.set_cons_zero, RepL]; exact ⟨_, _, rfl, h, h2⟩
    | succ i => simp only [List.set_cons_succ, RepL]; exact ⟨_, _, rfl, h1, RepL.set h2 i h⟩
theorem RepL.append {G : Ghost} : ∀ {cs ds : List AV} {ys zs : List Value}, RepL G cs ys → RepL G ds zs → RepL G (cs ++ ds) (ys ++ zs)
  | [], ds, ys, zs, k, h => by simp only [RepL] at k; subst k; exact h
  | c :: cs, ds, ys, zs, k, h => by
    simp only [RepL] at k
    obtain ⟨y, ys', rfl, h1, h2⟩ := k
    simp only [List.cons_append, RepL]
    exact ⟨_, _, rfl, h1, RepL.append h2 h⟩
theorem RepL.take {G : Ghost} : ∀ {cs : List AV} {ys : List Value}, RepL G cs ys → ∀ n, RepL G (cs.take n) (ys.take n)
  | [], ys, k, n => by simp only [RepL] at k; subst k; simp [RepL]
  | c :: cs, ys, k, n => by
    simp only [RepL] at k
    obtain ⟨y, ys', rfl, h1, h2⟩ := k
    cases n with
    | zero => simp [RepL]
    | succ n => simp only [List.take_succ_cons, RepL]; exact ⟨_, _, rfl, h1, RepL.take h2 n⟩
theorem RepL.drop {G : Ghost} : ∀ {cs : List AV} {ys : List Value}, RepL G cs ys → ∀ n, RepL G (cs.drop n) (ys.drop n)
  | [], ys, k, n => by simp only [RepL] at k; subst k; simp [RepL]
  | c :: cs, ys, k, n => by
    cases n with
    | zero => simpa using k
    | succ n =>
      simp only [RepL] at k
      obtain ⟨y, ys', rfl, h1, h2⟩ := k
      simpa using RepL.drop h2 n
theorem RepMem.get {G : Ghost} : ∀ {cs : List AV} {b i : Nat}, RepMem G cs b i → ∀ {j : Nat} {c : AV}, cs[j]? = some c → ∃ v, G.st b (i + j) = some v ∧ v.oneCell' = true ∧ Rep G c v
  | [], _, _, _, j, c, hc => by simp at hc
  | c :: cs, b, i, k, j, c', hc => by
    simp only [RepMem] at k
    obtain ⟨⟨v, hv⟩, h2⟩ := k
    cases j with
    | zero => simp at hc; subst hc; exact ⟨v, hv⟩
    | succ j =>
      obtain ⟨v', h⟩ := RepMem.get h2 (j := j) (by simpa using hc)
      exact ⟨v', by rw [show i + (j + 1) = i + 1 + j from by omega]; exact h.1, h.2⟩
theorem RepMem.drop {G : Ghost} : ∀ {cs : List AV} {b i : Nat}, RepMem G cs b i → ∀ n, RepMem G (cs.drop n) b (i + n)
  | [], _, _, _, n => by simp [RepMem]
  | c :: cs, b, i, k, n => by
    cases n with
    | zero => simpa using k
    | succ n =>
      simp only [RepMem] at k
      rw [show i + (n + 1) = i + 1 + n from by omega]
      simpa using RepMem.drop k.2 n
theorem RepMem.take {G : Ghost} : ∀ {cs : List AV} {b i : Nat}, RepMem G cs b i → ∀ n, RepMem G (cs.take n) b i
  | [], _, _, _, n => by simp [RepMem]
  | c :: cs, b, i, k, n => by
    cases n with
    | zero => simp [RepMem]
    | succ n =>
      simp only [RepMem, List.take_succ_cons] at k ⊢
      exact ⟨k.1, RepMem.take k.2 n⟩
theorem RepMem.append {G : Ghost} : ∀ {cs ds : List AV} {b i : Nat}, RepMem G cs b i → RepMem G ds b (i + cs.length) → RepMem G (cs ++ ds) b i
  | [], _, _, _, _, h => by simpa using h
  | c :: cs, ds, b, i, k, h => by
    simp only [RepMem, List.cons_append] at k ⊢
    exact ⟨k.1, RepMem.append k.2 (by rw [show i + 1 + cs.length = i + (c :: cs).length from by simp; omega]; exact h)⟩
/-- the values behind a piece of fixed memory -/
theorem RepMem.vals {G : Ghost} : ∀ {cs : List AV} {b i : Nat}, RepMem G cs b i → ∃ vs : List Value, RepL G cs vs ∧ vs.length = cs.length ∧ (∀ v ∈ vs, v.oneCell' = true) ∧ ∀ j v, vs[j]? = some v → G.st b (i + j) = some v
  | [], _, _, _ => ⟨[], by simp [RepL], rfl, by simp, by simp⟩
  | c :: cs, b, i, k => by
    simp only [RepMem] at k
    obtain ⟨⟨v, hv, ho, h1⟩, h2⟩ := k
    obtain ⟨vs, h3, h4, h5, h6⟩ := RepMem.vals h2
    refine ⟨v :: vs, by simp only [RepL]; exact ⟨v, vs, rfl, h1, h3⟩, by simp [h4], by simpa [ho] using h5, ?_⟩
    intro j u hu
    cases j with
    | zero => simp at hu; subst hu; exact hv
    | succ j => rw [show i + (j + 1) = i + 1 + j from by omega]; exact h6 j u (by simpa using hu)
theorem RepMem.mk {G : Ghost} : ∀ {cs : List AV} {vs : List Value} {b i : Nat}, RepL G cs vs → (∀ v ∈ vs, v.oneCell' = true) → (∀ j v, vs[j]? = some v → G.st b (i + j) = some v) → RepMem G cs b i
  | [], _, _, _, _, _, _ => by simp [RepMem]
  | c :: cs, vs, b, i, k, ho, h => by
    simp only [RepL] at k
    obtain ⟨y, ys', rfl, h1, h2⟩ := k
    simp only [RepMem]
    exact ⟨⟨y, by simpa using h 0 y rfl, ho y (by simp), h1⟩, RepMem.mk h2 (fun v hv => ho v (by simp [hv])) (fun j v hv => by rw [show i + 1 + j = i + (j + 1) from by omega]; exact h (j + 1) v (by simpa using hv))⟩
theorem RepRows.row {G : Ghost} {sz : Nat} : ∀ {rs : List (List AV)} {b i : Nat}, RepRows G sz rs b i → ∀ {j : Nat} {r : List AV}, rs[j]? = some r → r.length = sz ∧ RepMem G r b (i + j * sz)
  | [], _, _, _, j, r, hr => by simp at hr
  | r :: rs, b, i, k, j, r', hr => by
    simp only [RepRows] at k
    cases j with
    | zero => simp at hr; subst hr; simpa using k.1
    | succ j =>
      have := RepRows.row k.2 (j := j) (by simpa using hr)
      refine ⟨this.1, ?_⟩
      rw [show i + (j + 1) * sz = i + sz + j * sz from by rw [Nat.add_mul]; omega]
      exact this.2
theorem RepRows.flat {G : Ghost} {sz : Nat} : ∀ {rs : List (List AV)} {b i : Nat}, RepRows G sz rs b i → RepMem G rs.flatten b i ∧ rs.flatten.length = rs.length * sz
  | [], _, _, _ => by simp [RepMem]
  | r :: rs, b, i, k => by
    simp only [RepRows] at k
    have h := RepRows.flat k.2
    refine ⟨?_, ?_⟩
    · simp only [List.flatten_cons]
      exact RepMem.append k.1.2 (by rw [k.1.1]; exact h.1)
    · simp only [List.flatten_cons, List.length_append, List.length_cons, h.2, k.1.1, Nat.add_mul]; omega
theorem RepRows.mk {G : Ghost} {sz : Nat} : ∀ {rs : List (List AV)} {b i : Nat}, (∀ r ∈ rs, r.length = sz) → RepMem G rs.flatten b i → RepRows G sz rs b i
  | [], _, _, _, _ => by simp [RepRows]
  | r :: rs, b, i, hs, k => by
    simp only [RepRows]
    have hr : r.length = sz := hs r (by simp)
    have h1 := RepMem.take k r.length
    have h2 := RepMem.drop k r.length
    simp only [List.flatten_cons, List.take_left, List.drop_left] at h1 h2
    exact ⟨⟨hr, h1⟩, RepRows.mk (fun x hx => hs x (by simp [hx])) (by rw [← hr]; exact h2)⟩
theorem RepRows.sizes {G : Ghost} {sz : Nat} {rs : List (List AV)} {b i : Nat} (k : RepRows G sz rs b i) : ∀ r ∈ rs, r.length = sz := by
  intro r hr
  obtain ⟨j, hj, rfl⟩ := List.mem_iff_getElem.1 hr
  exact (RepRows.row k (j := j) (by simp [hj])).1
theorem RepRows.take {G : Ghost} {sz : Nat} : ∀ {rs : List (List AV)} {b i : Nat}, RepRows G sz rs b i → ∀ n, RepRows G sz (rs.take n) b i
  | [], _, _, _, n => by simp [RepRows]
  | r :: rs, b, i, k, n => by
    cases n with
    | zero => simp [RepRows]
    | succ n => simp only [RepRows, List.take_succ_cons] at k ⊢; exact ⟨k.1, RepRows.take k.2 n⟩
theorem RepRows.drop {G : Ghost} {sz : Nat} : ∀ {rs : List (List AV)} {b i : Nat}, RepRows G sz rs b i → ∀ n, RepRows G sz (rs.drop n) b (i + n * sz)
  | [], _, _, _, n => by simp [RepRows]
  | r :: rs, b, i, k, n => by
    cases n with
    | zero => simpa using k
    | succ n =>
      simp only [RepRows] at k
      rw [show i + (n + 1) * sz = i + sz + n * sz from by rw [Nat.add_mul]; omega]
      simpa using RepRows.drop k.2 n
end Go.Abs
end
section
/- The abstract state of a Go run: boxes, families, fixed memory; what it says of a real world; weakest preconditions over it. -/
set_option linter.unusedVariables false
namespace Go.Abs

inductive AObj where
  | gone
  /-- a variable, of type t -/
  | cells (t : TypeId) (cs : List AV)
  | fam (m sz : Nat)
  /-- an array that may be written: its cells, its time, and which of its slices (by time and length) still read as its first cells -/
  | vec (e : TypeId) (sz : Nat) (cs : List AV) (g : Nat) (hist : List (Nat × Nat))
  /-- a map: keys, values, ages -/
  | map (es : List (AV × AV × Nat)) (clock : Nat)
  | siter (s : ByteArray) (pos : Nat)
  | miter (m : Option Nat) (since : Nat) (seen : List Nat) (stepped : Nat)

abbrev Mem := List AObj
abbrev Env := Nat → AV

/-- the blocks that an object alone may write -/
def owns (G : Ghost) (k : Nat) (o : AObj) (b : Nat) : Prop := match o with
  | .gone => False
  | .fam m _ => m < (G.hdr k m).2 ∧ ∃ a, (G.hdr k m).1 = some a ∧ a.block = b
  | .vec _ _ _ _ hist => ∃ h n a, (h, n) ∈ hist ∧ (G.hdr k h).1 = some a ∧ a.block = b
  | _ => b = G.blk k

/-- a slice (time h, length n) of an array reads as its first cells -/
def HdrInv (G : Ghost) (w : World) (k : Nat) (t : TypeId) (sz : Nat) (cs : List AV) (h n : Nat) : Prop :=
  h ≤ G.top k ∧ n * sz ≤ cs.length ∧ ∃ b o cap vs, G.hdr k h = (some ⟨b, o, none⟩, cap) ∧ n ≤ cap ∧ cap ≤ maxLen ∧ w.heap[b]? = some (.cells vs t (0, 0)) ∧ o + cap * sz ≤ vs.size ∧
    RepL G (cs.take (n * sz)) ((vs.toList.drop o).take (n * sz)) ∧ (∀ v ∈ (vs.toList.drop o).take (n * sz), v.oneCell' = true) ∧ (∀ i, G.st b i = none) ∧ G.keep b = none

def RepEntry (G : Ghost) (e : AV × AV × Nat) (x : MapEntry) : Prop := Rep G e.1 x.key ∧ Rep G e.2.1 x.val ∧ x.born = e.2.2
inductive RepEntries (G : Ghost) : List (AV × AV × Nat) → List MapEntry → Prop
  | nil : RepEntries G [] []
  | cons {e x es xs} : RepEntry G e x → RepEntries G es xs → RepEntries G (e :: es) (x :: xs)
theorem RepEntries.mono {G G' : Ghost} (h : G.le G') {es : List (AV × AV × Nat)} {xs : List MapEntry} (k : RepEntries G es xs) : RepEntries G' es xs := by
  induction k with
  | nil => exact .nil
  | cons h1 _ ih => exact .cons ⟨Rep.mono h _ _ h1.1, Rep.mono h _ _ h1.2.1, h1.2.2⟩ ih

def ObjInv (G : Ghost) (w : World) (k : Nat) : AObj → Prop
  | .gone => True
  | .cells t cs => ∃ (vs : Array Value), w.heap[G.blk k]? = some (.cells vs t (0, 0)) ∧ RepL G cs vs.toList ∧ (∀ v ∈ vs.toList, v.oneCell' = true) ∧
      (∀ i, G.st (G.blk k) i = none) ∧ G.keep (G.blk k) = none
  | .fam m sz => G.top k = m ∧ m ≤ (G.hdr k m).2 ∧ (G.hdr k m).2 ≤ maxLen ∧ (m < (G.hdr k m).2 → ∃ (g : Nat) (vs : Array Value) (t : TypeId), (G.hdr k m).1 = some ⟨g, 0, none⟩ ∧
      w.heap[g]? = some (.cells vs t (0, 0)) ∧ (G.hdr k m).2 * sz ≤ vs.size ∧ (∀ i, m * sz ≤ i → G.st g i = none) ∧ G.keep g = none)
  | .vec e sz cs g hist => G.top k = g ∧ (∀ h n, (h, n) ∈ hist → HdrInv G w k e sz cs h n) ∧
      (∀ h n h' n' a a' c c', (h, n) ∈ hist → (h', n') ∈ hist → G.hdr k h = (some a, c) → G.hdr k h' = (some a', c') → a.block = a'.block → a = a')
  | .map es clock => ∃ xs : Array MapEntry, w.heap[G.blk k]? = some (.map xs clock) ∧ RepEntries G es xs.toList ∧ G.keep (G.blk k) = none
  | .siter s pos => w.heap[G.blk k]? = some (.stringIter s pos) ∧ G.keep (G.blk k) = none
  | .miter m since seen stepped => w.heap[G.blk k]? = some (.mapIter (m.map G.blk) since seen.toArray stepped) ∧ (∀ b ∈ m, b < G.n) ∧ G.keep (G.blk k) = none

structure Ctx where
  P : Program
  gl : Nat → AV
  /-- variables whose whole memory is known -/
  tab : Nat → Option (Array Value)
  /-- types of slices that are made as data, whatever the hint says -/
  data : TypeId → Bool

structure Inv (C : Ctx) (G : Ghost) (M : Mem) (w : World) : Prop where
  n : G.n = M.length
  st : ∀ b i v, G.st b i = some v → w.cell? ⟨b, i, none⟩ = some v
  keep : ∀ b o, G.keep b = some o → w.heap[b]? = some o
  obj : ∀ k o, M[k]? = some o → ObjInv G w k o
  apart : ∀ j k x y b, M[j]? = some x → M[k]? = some y → owns G j x b → owns G k y b → j = k
  gl : ∀ g, Rep G (C.gl g) (.pointer (some ⟨g, 0, none⟩))
  tab : ∀ g cs, C.tab g = some cs → ∃ t f, G.keep g = some (.cells cs t f)

theorem Inv.tab_le {C : Ctx} {G G' : Ghost} {M : Mem} {w : World} (hi : Inv C G M w) (hle : G.le G') : ∀ g cs, C.tab g = some cs → ∃ t f, G'.keep g = some (.cells cs t f) := fun g cs h => by
  obtain ⟨t, f, k⟩ := hi.tab g cs h
  exact ⟨t, f, hle.keep _ _ k⟩

structure Ext (w w' : World) : Prop where
  os : w'.os = w.os
  tape : w'.tape = w.tape
  output : w'.output = w.output
  size : w.heap.size ≤ w'.heap.size

theorem Ext.refl (w : World) : Ext w w := ⟨rfl, rfl, rfl, Nat.le_refl _⟩
theorem Ext.trans {a b c : World} (h : Ext a b) (k : Ext b c) : Ext a c :=
  ⟨k.os.trans h.os, k.tape.trans h.tape, k.output.trans h.output, Nat.le_trans h.size k.size⟩

theorem getElem?_lt {α : Type} {l : List α} {k : Nat} {x : α} (h : l[k]? = some x) : k < l.length := by
  rcases Nat.lt_or_ge k l.length with h' | h'
  · exact h'
  · simp [List.getElem?_eq_none h'] at h

theorem heap_lt {w : World} {b : Nat} {o : Obj} (h : w.heap[b]? = some o) : b < w.heap.size := (Array.getElem?_eq_some_iff.1 h).1

/-- what an object owns is there -/
theorem ObjInv.owns_lt {G : Ghost} {w : World} {k : Nat} {o : AObj} (h : ObjInv G w k o) {b : Nat} (ho : owns G k o b) : b < w.heap.size := by
  cases o with
  | gone => exact ho.elim
  | cells t cs => obtain ⟨vs, h1, _⟩ := h; simp only [owns] at ho; subst ho; exact heap_lt h1
  | fam m sz =>
    obtain ⟨hlt, a, ha, rfl⟩ := ho
    obtain ⟨g, vs, t, q1, q2, _⟩ := h.2.2.2 hlt
    rw [q1] at ha
    simp only [Option.some.injEq] at ha
    subst ha
    exact heap_lt q2
  | vec e sz rows g hist =>
    obtain ⟨h', n, a, hm, ha, rfl⟩ := ho
    obtain ⟨_, _, b, o, cap, vs, q1, _, _, q2, _⟩ := h.2.1 h' n hm
    rw [q1] at ha
    simp only [Option.some.injEq] at ha
    subst ha
    exact heap_lt q2
  | map es clock => obtain ⟨xs, h1, _⟩ := h; simp only [owns] at ho; subst ho; exact heap_lt h1
  | siter s pos => simp only [owns] at ho; subst ho; exact heap_lt h.1
  | miter m since seen stepped => simp only [owns] at ho; subst ho; exact heap_lt h.1

/-- an object is as it was where the blocks that it owns are as they were -/
theorem ObjInv.keeps {G G' : Ghost} {w w' : World} {k : Nat} {o : AObj} (h : ObjInv G w k o) (hle : G.le G') (hk : k < G.n) (hblk : G'.blk k = G.blk k) (hhdr : G'.hdr k = G.hdr k ∧ G'.top k = G.top k)
    (hst : ∀ b, owns G k o b → ∀ i v, G'.st b i = some v → G.st b i = some v) (hkeep : ∀ b, G'.keep b = G.keep b) (hw : ∀ b, owns G k o b → w'.heap[b]? = w.heap[b]?) : ObjInv G' w' k o := by
  have none_of : ∀ b, owns G k o b → ∀ i, G.st b i = none → G'.st b i = none := by
    intro b hb i hn
    cases hs : G'.st b i with
    | none => rfl
    | some v => rw [hst b hb i v hs] at hn; simp at hn
  cases o with
  | gone => trivial
  | cells t cs =>
    obtain ⟨vs, h1, h2, h3, h4, h5⟩ := h
    refine ⟨vs, by rw [hblk, hw _ rfl]; exact h1, RepL.mono hle _ _ h2, h3, fun i => ?_, by rw [hblk, hkeep]; exact h5⟩
    rw [hblk]; exact none_of _ rfl i (h4 i)
  | fam m sz =>
    obtain ⟨h0, h1, h1', h2⟩ := h
    simp only [ObjInv, hhdr.1, hhdr.2]
    refine ⟨h0, h1, h1', fun hlt => ?_⟩
    obtain ⟨g, vs, t, q1, q2, q3, q4, q5⟩ := h2 hlt
    have hown : owns G k (.fam m sz) g := ⟨hlt, _, q1, rfl⟩
    exact ⟨g, vs, t, q1, by rw [hw _ hown]; exact q2, q3, fun i hi' => none_of _ hown i (q4 i hi'), by rw [hkeep]; exact q5⟩
  | vec e sz rows g hist =>
    obtain ⟨h0, h2, h3⟩ := h
    simp only [ObjInv, hhdr.1, hhdr.2]
    refine ⟨h0, fun h' n hm => ?_, h3⟩
    obtain ⟨p1, p2, b, o, cap, vs, q1, q2, q3, q4, q5, q6, q7, q8, q9⟩ := h2 h' n hm
    have hown : owns G k (.vec e sz rows g hist) b := ⟨h', n, _, hm, by rw [q1], rfl⟩
    exact ⟨by rw [hhdr.2]; exact p1, p2, b, o, cap, vs, by rw [hhdr.1]; exact q1, q2, q3, by rw [hw _ hown]; exact q4, q5, RepL.mono hle _ _ q6, q7, fun i => none_of _ hown i (q8 i), by rw [hkeep]; exact q9⟩
  | map es clock =>
    obtain ⟨xs, h1, h2, h3⟩ := h
    exact ⟨xs, by rw [hblk, hw _ rfl]; exact h1, h2.mono hle, by rw [hblk, hkeep]; exact h3⟩
  | siter s pos => exact ⟨by rw [hblk, hw _ rfl]; exact h.1, by rw [hblk, hkeep]; exact h.2⟩
  | miter m since seen stepped =>
    refine ⟨?_, fun b hb => Nat.lt_of_lt_of_le (h.2.1 b hb) hle.n, by rw [hblk, hkeep]; exact h.2.2⟩
    have e : m.map G'.blk = m.map G.blk := by
      cases m with
      | none => rfl
      | some b => simp [hle.blk b (h.2.1 b rfl)]
    rw [hblk, hw _ rfl, h.1, e]

/-- One object turns; the world turns in one block, which is the object's or new; fixed memory may grow there. -/
theorem Inv.step {C : Ctx} {G G' : Ghost} {M : Mem} {w w' : World} (hi : Inv C G M w) (k gb : Nat) {o o' : AObj} (hk : M[k]? = some o)
    (hob : owns G k o gb ∨ w.heap.size ≤ gb) (hle : G.le G') (hn : G'.n = G.n) (hblk : ∀ b, G'.blk b = G.blk b)
    (hhdr : ∀ f, f ≠ k → G'.hdr f = G.hdr f ∧ G'.top f = G.top f)
    (hst : ∀ b i v, G'.st b i = some v → G.st b i = some v ∨ (b = gb ∧ w'.cell? ⟨b, i, none⟩ = some v)) (hkeep : ∀ b, G'.keep b = G.keep b)
    (hw : ∀ b, b < w.heap.size → b ≠ gb → w'.heap[b]? = w.heap[b]?) (hgst : ∀ i v, G.st gb i = some v → w'.cell? ⟨gb, i, none⟩ = some v) (hgkeep : ∀ o, G.keep gb ≠ some o)
    (ho : ObjInv G' w' k o') (hnew : ∀ b, owns G' k o' b → b = gb ∨ owns G k o b) : Inv C G' (M.set k o') w' := by
  have hklt := getElem?_lt hk
  have lt_of_cell : ∀ b i v, w.cell? ⟨b, i, none⟩ = some v → b < w.heap.size := fun b i v h => World.block_lt_of_cell? w ⟨b, i, none⟩ h
  -- an object other than k does not lie in gb
  have other : ∀ j x b, M[j]? = some x → j ≠ k → owns G j x b → b ≠ gb := by
    intro j x b hj hjk hb e
    subst e
    have hlt := (hi.obj j x hj).owns_lt hb
    rcases hob with h | h
    · exact hjk (hi.apart j k x o b hj hk hb h)
    · omega
  have owns_eq : ∀ j x b, j ≠ k → (owns G' j x b ↔ owns G j x b) := by
    intro j x b hj
    cases x <;> simp [owns, hblk, (hhdr j hj).1]
  refine ⟨by rw [hn]; simpa using hi.n, ?_, ?_, ?_, ?_, fun g => Rep.mono hle _ _ (hi.gl g), hi.tab_le hle⟩
  · intro b i v hv
    rcases hst b i v hv with h | ⟨_, h⟩
    · by_cases e : b = gb
      · subst e; exact hgst i v h
      · have := hi.st b i v h
        have hlt := lt_of_cell b i v this
        simpa [World.cell?, hw b hlt e] using this
    · exact h
  · intro b x hx
    rw [hkeep] at hx
    have h0 := hi.keep b x hx
    have hlt : b < w.heap.size := (Array.getElem?_eq_some_iff.1 h0).1
    have hne : b ≠ gb := by intro e; subst e; exact hgkeep x hx
    rw [hw b hlt hne]; exact h0
  · intro j x hj
    by_cases e : j = k
    · subst e
      simp [hklt] at hj
      subst hj
      exact ho
    · have hj' : M[j]? = some x := by
        have : k ≠ j := fun h => e h.symm
        simpa [List.getElem?_set, this] using hj
      have hx := hi.obj j x hj'
      refine hx.keeps hle (by rw [hi.n]; exact getElem?_lt hj') (hblk j) (hhdr j e) (fun b hb i v hv => ?_) hkeep (fun b hb => hw b (hx.owns_lt hb) (other j x b hj' e hb))
      rcases hst b i v hv with h | ⟨h, _⟩
      · exact h
      · exact absurd h (other j x b hj' e hb)
  · intro i j x y b hx hy ox oy
    have back : ∀ i x, i ≠ k → (M.set k o')[i]? = some x → M[i]? = some x := by
      intro i x e hx
      have : k ≠ i := fun h => e h.symm
      simpa [List.getElem?_set, this] using hx
    have key : ∀ i j x y, i = k → j ≠ k → (M.set k o')[i]? = some x → (M.set k o')[j]? = some y → owns G' i x b → owns G' j y b → False := by
      intro i j x y e1 e2 hx hy ox oy
      subst e1
      simp [hklt] at hx
      subst hx
      have hy' := back j y e2 hy
      rw [owns_eq j y b e2] at oy
      rcases hnew b ox with hb | hb
      · exact other j y b hy' e2 oy hb
      · exact e2 (hi.apart j i y o b hy' hk oy hb)
    by_cases e1 : i = k <;> by_cases e2 : j = k
    · rw [e1, e2]
    · exact (key i j x y e1 e2 hx hy ox oy).elim
    · exact (key j i y x e2 e1 hy hx oy ox).elim
    · have hx' := back i x e1 hx
      have hy' := back j y e2 hy
      rw [owns_eq i x b e1] at ox
      rw [owns_eq j y b e2] at oy
      exact hi.apart i j x y b hx' hy' ox oy

/-- One more number, for an object to come; what is kept of it may be chosen. -/
def Ghost.more (G : Ghost) (nb : Nat) (h : Nat → Option Addr × Nat) (t : Nat) : Ghost :=
  { G with n := G.n + 1, blk := fun b => if b = G.n then nb else G.blk b, hdr := fun f => if f = G.n then h else G.hdr f, top := fun f => if f = G.n then t else G.top f }

theorem Ghost.le_more (G : Ghost) (nb : Nat) (h : Nat → Option Addr × Nat) (t : Nat) : G.le (G.more nb h t) :=
  ⟨Nat.le_succ _, fun b hb => if_neg (by omega), fun _ _ _ h => h, fun _ _ h => h, fun f hf => by simp only [Ghost.more]; rw [if_neg (by omega)]; exact Nat.le_refl _, fun f hf k _ => by simp only [Ghost.more]; rw [if_neg (by omega)]⟩

theorem Inv.more {C : Ctx} {G : Ghost} {M : Mem} {w : World} (hi : Inv C G M w) (nb : Nat) (h : Nat → Option Addr × Nat) (t : Nat) : Inv C (G.more nb h t) (M ++ [.gone]) w := by
  have hle := G.le_more nb h t
  have back : ∀ j x, (M ++ [AObj.gone])[j]? = some x → (j < G.n ∧ M[j]? = some x) ∨ x = AObj.gone := by
    intro j x h
    by_cases hj : j < M.length
    · left; exact ⟨by rw [hi.n]; exact hj, by rwa [List.getElem?_append_left hj] at h⟩
    · right
      rw [List.getElem?_append_right (by omega)] at h
      have := List.mem_of_getElem? h
      simpa using this
  have ob : ∀ k x b, k < G.n → (owns (G.more nb h t) k x b ↔ owns G k x b) := fun k x b hk => by
    have : k ≠ G.n := by omega
    cases x <;> simp [owns, Ghost.more, this]
  refine ⟨by simpa [Ghost.more] using hi.n, hi.st, hi.keep, ?_, ?_, fun g => Rep.mono hle _ _ (hi.gl g), hi.tab_le hle⟩
  · intro j x hj
    rcases back j x hj with ⟨hlt, h⟩ | rfl
    · have hne : j ≠ G.n := by omega
      exact (hi.obj j x h).keeps hle hlt (by simp [Ghost.more, hne]) (by simp [Ghost.more, hne]) (fun _ _ _ _ h => h) (fun _ => rfl) (fun _ _ => rfl)
    · trivial
  · intro i j x y b hx hy ox oy
    rcases back i x hx with ⟨hl, h⟩ | rfl
    · rcases back j y hy with ⟨hl', h'⟩ | rfl
      · rw [ob i x b hl] at ox
        rw [ob j y b hl'] at oy
        exact hi.apart i j x y b h h' ox oy
      · exact oy.elim
    · exact ox.elim

/-- A draw turns nothing. -/
theorem Inv.world {C : Ctx} {G : Ghost} {M : Mem} {w w' : World} (hi : Inv C G M w) (h : w'.heap = w.heap) : Inv C G M w' := by
  refine ⟨hi.n, fun b i v hv => ?_, fun b o ho => ?_, fun k o hk => ?_, hi.apart, hi.gl, hi.tab⟩
  · have := hi.st b i v hv; simpa [World.cell?, h] using this
  · rw [h]; exact hi.keep b o ho
  · exact (hi.obj k o hk).keeps (.refl _) (by rw [hi.n]; exact getElem?_lt hk) rfl ⟨rfl, rfl⟩ (fun _ _ _ _ h => h) (fun _ => rfl) (fun _ _ => by rw [h])

/-! ### the environment -/
def Env.put (T : Env) (d : Option Nat) (v : AV) : Env := match d with
  | none => T
  | some d => fun j => if j = d then v else T j

@[simp] theorem Env.put_none (T : Env) (v : AV) : T.put none v = T := rfl
theorem Env.put_some (T : Env) (d : Nat) (v : AV) (j : Nat) : T.put (some d) v j = if j = d then v else T j := rfl

def Env.of (args : List AV) : Env := fun i => args.getD i .poison

structure RepEnv (G : Ghost) (N : Nat) (T : Env) (a : Act) : Prop where
  defers : a.defers = []
  size : a.tmps.size = N
  at_ : ∀ i, i < N → Rep G (T i) (a.tmps.getD i undef)

theorem RepEnv.mono {G G' : Ghost} (h : G.le G') {N : Nat} {T : Env} {a : Act} (k : RepEnv G N T a) : RepEnv G' N T a :=
  ⟨k.defers, k.size, fun i hi => Rep.mono h _ _ (k.at_ i hi)⟩

theorem RepEnv.put {G : Ghost} {N : Nat} {T : Env} {a : Act} (k : RepEnv G N T a) {d : Option Nat} {v : AV} {x : Value} (hv : Rep G v x) : RepEnv G N (T.put d v) (a.put d x) := by
  cases d with
  | none => exact k
  | some d =>
    refine ⟨k.defers, by simpa [Act.put] using k.size, fun i hi => ?_⟩
    have h0 := k.at_ i hi
    have hs := k.size
    rw [Env.put_some]
    by_cases e : i = d
    · subst e
      rw [if_pos rfl]
      simpa [Act.put, Array.getD, hi, hs] using hv
    · rw [if_neg e]
      have hne : d ≠ i := fun h => e h.symm
      simpa [Act.put, Array.getD, hi, hs, Array.getElem_setIfInBounds, hne] using h0

theorem RepEnv.of {G : Ghost} {args : List AV} {vs : List Value} (n : Nat) (k : RepL G args vs) :
    RepEnv G (vs.length + n) (Env.of args) { tmps := vs.toArray ++ Array.replicate n undef, defers := [] } := by
  refine ⟨rfl, by simp, fun i hi => ?_⟩
  by_cases h : i < args.length
  · obtain ⟨y, hy, hr⟩ := k.get (i := i) (c := args[i]) (by simp [h])
    have hlen := k.length
    have hlt : i < vs.length := by omega
    have e1 : Env.of args i = args[i] := by simp [Env.of, h]
    rw [e1]
    have : vs[i] = y := by rw [List.getElem?_eq_getElem hlt] at hy; exact Option.some.inj hy
    simpa [Array.getD, hlt, Array.getElem_append, this, hi] using hr
  · have e1 : Env.of args i = .poison := by
      have : args.length ≤ i := by omega
      simp [Env.of, List.getD, List.getElem?_eq_none this]
    rw [e1]
    simp [Rep]

/-- operands -/
def Env.ev (C : Ctx) (T : Env) : Operand → AV
  | .tmp t => T t
  | .const v => .val v
  | .global g => C.gl g
  | .func f => .func (.func f) [] []

/-- all slots that are read lie in the frame -/
def Operand.inside (N : Nat) : Operand → Bool
  | .tmp t => decide (t < N)
  | _ => true

theorem ev_rep {C : Ctx} {G : Ghost} {M : Mem} {w : World} {N : Nat} {T : Env} {a : Act} (hi : Inv C G M w) (he : RepEnv G N T a) (x : Operand) (hx : Operand.inside N x = true) : Rep G (T.ev C x) (a.eval x) := by
  cases x with
  | tmp t => simp only [Env.ev, Act.eval]; exact he.at_ t (by simpa [Operand.inside] using hx)
  | const v => simp [Env.ev, Act.eval, Rep]
  | global g => exact hi.gl g
  | func f => simp [Env.ev, Act.eval, Rep, RepL]

/-! ### what is said of code -/
def Lift (C : Ctx) (N : Nat) (Q : Exit → Env → Mem → Prop) (G : Ghost) (w : World) : Exit → Act → World → Prop :=
  fun e a' w' => ∃ T' M' G', Q e T' M' ∧ G.le G' ∧ Inv C G' M' w' ∧ RepEnv G' N T' a' ∧ Ext w w'

theorem Lift.mono {C : Ctx} {N : Nat} {Q : Exit → Env → Mem → Prop} {G G' : Ghost} {w w' : World} (h : G.le G') (k : Ext w w') {e : Exit} {a : Act} {v : World}
    (l : Lift C N Q G' w' e a v) : Lift C N Q G w e a v := by
  obtain ⟨T', M', G'', h1, h2, h3, h4, h5⟩ := l
  exact ⟨T', M', G'', h1, h.trans h2, h3, h4, k.trans h5⟩

theorem Lift.weaken {C : Ctx} {N : Nat} {Q Q' : Exit → Env → Mem → Prop} {G : Ghost} {w : World} (h : ∀ e T M, Q e T M → Q' e T M) {e : Exit} {a : Act} {v : World}
    (l : Lift C N Q G w e a v) : Lift C N Q' G w e a v := by
  obtain ⟨T', M', G'', h1, h2⟩ := l
  exact ⟨T', M', G'', h _ _ _ h1, h2⟩

def AWp (C : Ctx) (N : Nat) (c : Code) (Q : Exit → Env → Mem → Prop) (T : Env) (M : Mem) : Prop :=
  ∀ G w a, Inv C G M w → RepEnv G N T a → c.wp C.P (Lift C N Q G w) a w

def ACalls (C : Ctx) (f : FuncId) (args : List AV) (M : Mem) (Q : AV → Mem → Prop) : Prop :=
  ∀ G w (vs : List Value), Inv C G M w → RepL G args vs →
    Calls C.P f vs.toArray w fun e w' => ∃ r M' G' v, e = .returned v ∧ Q r M' ∧ G.le G' ∧ Inv C G' M' w' ∧ Rep G' r v ∧ Ext w w'

theorem ACalls.mono {C : Ctx} {f : FuncId} {args : List AV} {M : Mem} {Q Q' : AV → Mem → Prop} (h : ACalls C f args M Q) (hq : ∀ r M', Q r M' → Q' r M') : ACalls C f args M Q' := by
  intro G w vs hi hr
  refine Calls.mono (h G w vs hi hr) ?_
  rintro e w' ⟨r, M', G', v, rfl, h1, h2⟩
  exact ⟨r, M', G', v, rfl, hq _ _ h1, h2⟩

section control
variable {C : Ctx} {N : Nat} {Q Q' : Exit → Env → Mem → Prop} {T : Env} {M : Mem}

theorem AWp.mono {c : Code} (h : AWp C N c Q T M) (hq : ∀ e T M, Q e T M → Q' e T M) : AWp C N c Q' T M :=
  fun G w a hi he => wp_mono (h G w a hi he) fun _ _ _ l => Lift.weaken hq l

def thenK (K : Env → Mem → Prop) (Q : Exit → Env → Mem → Prop) : Exit → Env → Mem → Prop
  | .normal, T, M => K T M
  | e, T, M => Q e T M

theorem awp_skip (h : Q .normal T M) : AWp C N .skip Q T M :=
  fun G w a hi he => wp_skip ⟨T, M, G, h, .refl _, hi, he, .refl _⟩
theorem awp_label {l : Nat} (h : Q .normal T M) : AWp C N (.label l) Q T M :=
  fun G w a hi he => wp_label ⟨T, M, G, h, .refl _, hi, he, .refl _⟩
theorem awp_exit {id : Nat} (h : Q (.exit id) T M) : AWp C N (.exit id) Q T M :=
  fun G w a hi he => wp_exit ⟨T, M, G, h, .refl _, hi, he, .refl _⟩
theorem awp_ret (h : Q .ret T M) : AWp C N .ret Q T M :=
  fun G w a hi he => wp_ret ⟨T, M, G, h, .refl _, hi, he, .refl _⟩

theorem awp_seq {x y : Code} (h : AWp C N x (thenK (AWp C N y Q) Q) T M) : AWp C N (.seq x y) Q T M := by
  intro G w a hi he
  refine wp_seq (wp_mono (h G w a hi he) ?_)
  rintro e a' w' ⟨T', M', G', h1, h2, h3, h4, h5⟩
  cases e with
  | normal => exact wp_mono (h1 G' w' a' h3 h4) fun _ _ _ l => Lift.mono h2 h5 l
  | _ => exact ⟨T', M', G', h1, h2, h3, h4, h5⟩

def inBlockK (id : Nat) (Q : Exit → Env → Mem → Prop) : Exit → Env → Mem → Prop
  | .exit id', T, M => if id' = id then Q .normal T M else Q (.exit id') T M
  | e, T, M => Q e T M

theorem awp_block {id : Nat} {c : Code} (h : AWp C N c (inBlockK id Q) T M) : AWp C N (.block id c) Q T M := by
  intro G w a hi he
  refine wp_block (wp_mono (h G w a hi he) ?_)
  rintro e a' w' ⟨T', M', G', h1, h2⟩
  cases e with
  | exit id' =>
    simp only [inBlockK, Exit.inBlock] at h1 ⊢
    by_cases e : id' = id
    · rw [if_pos e] at h1 ⊢; exact ⟨T', M', G', h1, h2⟩
    · rw [if_neg e] at h1 ⊢; exact ⟨T', M', G', h1, h2⟩
  | _ => exact ⟨T', M', G', h1, h2⟩

theorem awp_cond {c : Operand} {x y : Code} {t : Bool} (hin : Operand.inside N c = true) (hc : T.ev C c = .val (.bool t)) (ht : t = true → AWp C N x Q T M) (hf : t = false → AWp C N y Q T M) : AWp C N (.cond c x y) Q T M := by
  intro G w a hi he
  have h := ev_rep hi he c hin
  rw [hc] at h
  simp only [Rep] at h
  exact wp_cond_split h (fun e => ht e G w a hi he) (fun e => hf e G w a hi he)

theorem awp_loop {c : Code} (I : Env → Mem → Prop) (μ : Env → Mem → Nat) (h0 : I T M)
    (round : ∀ T M, I T M → AWp C N c (thenK (fun T' M' => I T' M' ∧ μ T' M' < μ T M) Q) T M) : AWp C N (.loop c) Q T M := by
  intro G w a hi he b k cs
  have key : ∀ n T M G w a, μ T M = n → I T M → Inv C G M w → RepEnv G N T a →
      ∃ e a' w', Lift C N Q G w e a' w' ∧ Arrives C.P (lone (b.at a (.code c :: .inLoop c :: k)) cs w) b k cs e a' w' := by
    intro n
    induction n using Nat.strongRecOn with
    | _ n ih =>
      intro T M G w a hn hI hi he
      obtain ⟨e, a₁, w₁, hq, harr⟩ := round T M hI G w a hi he b (.inLoop c :: k) cs
      obtain ⟨T', M', G', h1, h2, h3, h4, h5⟩ := hq
      cases e with
      | normal =>
        obtain ⟨hI', hlt⟩ := h1
        obtain ⟨e₂, a₂, w₂, hq₂, harr₂⟩ := ih (μ T' M') (hn ▸ hlt) T' M' G' w₁ a₁ rfl hI' h3 h4
        exact ⟨e₂, a₂, w₂, Lift.mono h2 h5 hq₂, .of_steps (Steps.trans harr (.one step_inLoop)) harr₂⟩
      | exit id => exact ⟨_, a₁, w₁, ⟨T', M', G', h1, h2, h3, h4, h5⟩, .pass (x := .inLoop c) rfl (fun _ _ => .inl (by simp)) harr⟩
      | goto l => exact ⟨_, a₁, w₁, ⟨T', M', G', h1, h2, h3, h4, h5⟩, .pass (x := .inLoop c) rfl (fun _ _ => .inl (by simp)) harr⟩
      | ret => exact ⟨_, a₁, w₁, ⟨T', M', G', h1, h2, h3, h4, h5⟩, .pass (x := .inLoop c) rfl (fun _ _ => .inl (by simp)) harr⟩
      | panic ch => exact ⟨_, a₁, w₁, ⟨T', M', G', h1, h2, h3, h4, h5⟩, .pass (x := .inLoop c) rfl (fun _ _ => .inl (by simp)) harr⟩
      | outgrown => exact ⟨_, a₁, w₁, ⟨T', M', G', h1, h2, h3, h4, h5⟩, .pass (x := .inLoop c) rfl (fun _ _ => .inl (by simp)) harr⟩
  obtain ⟨e, a', w', hq, harr⟩ := key _ T M G w a rfl h0 hi he
  exact ⟨e, a', w', hq, .of_steps (.one step_loop) harr⟩
end control
end Go.Abs
end
section
/- What an operation does to the abstract state: memory. -/
set_option linter.unusedVariables false
namespace Go.Abs

/-! ### facts of a program's types, as functions -/
def szOf (P : Program) (t : TypeId) : Option Nat := (P.info? t).map (·.size)
def aggOf (P : Program) (t : TypeId) : Option Bool := (P.underlying t).map fun d => match d with | .struct _ | .array _ _ => true | _ => false
def bytesOf (P : Program) (t : TypeId) : Option Nat := (P.info? t).map (·.bytes)
def elemOf? (P : Program) (t : TypeId) : Option TypeId := match P.underlying t with | some (.slice e) => some e | _ => none
def offOf (P : Program) (t : TypeId) (f : Nat) : Option Nat := match P.underlying t with
  | some (.struct fs) => match fs[f]? with
    | some x => match szOf P x.type with
      | some 0 => none
      | some _ => some x.offset
      | none => none
    | none => none
  | _ => none

section
variable {P : Program}
theorem run_szOf {t : TypeId} {n : Nat} (h : szOf P t = some n) (w : World) : (sizeOf t).run P w = .ok n w := by
  unfold szOf at h
  cases hi : P.info? t with
  | none => simp [hi] at h
  | some i => simp [hi] at h; simp [sizeOf, typeInfo, hi, h]
theorem run_aggOf {t : TypeId} {b : Bool} (h : aggOf P t = some b) (w : World) : (isAgg t).run P w = .ok b w := by
  unfold aggOf at h
  cases hi : P.underlying t with
  | none => simp [hi] at h
  | some d =>
    simp [hi] at h
    simp only [isAgg, Sem.run_bind, run_underlying hi, Result.andThen_ok]
    subst h
    cases d <;> rfl
theorem elemOf_und {t e : TypeId} (h : elemOf? P t = some e) : P.underlying t = some (.slice e) := by
  unfold elemOf? at h
  split at h
  · rename_i e' he; simp at h; subst h; exact he
  · simp at h
end

/-! ### a load -/
def loadCells? (P : Program) (t : TypeId) (cs : List AV) : Option AV :=
  match aggOf P t, szOf P t with
  | some true, some n => if n ≤ cs.length then some (.agg (cs.take n)) else none
  | some false, some _ => match cs with | c :: _ => some c | [] => none
  | _, _ => none

def memOf (M : Mem) : AV → Option (List AV)
  | .cptr cs => some cs
  | .ptr b off => match M[b]? with
    | some (.cells _ cs) => if off ≤ cs.length then some (cs.drop off) else none
    | _ => none
  | .vptr f g off => match M[f]? with
    | some (.vec _ sz cs _ hist) => match hist.lookup g with
      | some n => some ((cs.take (n * sz)).drop off)
      | none => none
    | _ => none
  | _ => none

theorem lookup_mem {l : List (Nat × Nat)} {g n : Nat} (h : l.lookup g = some n) : (g, n) ∈ l := by
  induction l with
  | nil => simp at h
  | cons x xs ih =>
    obtain ⟨a, b⟩ := x
    simp only [List.lookup_cons] at h
    split at h
    · rename_i e
      simp only [beq_iff_eq] at e
      simp only [Option.some.injEq] at h
      subst e h
      exact List.mem_cons_self
    · exact List.mem_cons_of_mem _ (ih h)

/-- the cells behind a pointer, as they lie in the real memory -/
theorem memOf_rep {C : Ctx} {G : Ghost} {M : Mem} {w : World} (hi : Inv C G M w) {p : AV} {x : Value} (hr : Rep G p x) {cs : List AV} (h : memOf M p = some cs) :
    ∃ (b i : Nat) (vs : List Value), x = .pointer (some ⟨b, i, none⟩) ∧ RepL G cs vs ∧ (∀ v ∈ vs, v.oneCell' = true) ∧ ∀ j v, vs[j]? = some v → w.cell? ⟨b, i + j, none⟩ = some v := by
  cases p with
  | cptr ds =>
    simp only [memOf, Option.some.injEq] at h
    subst h
    simp only [Rep] at hr
    obtain ⟨b, i, rfl, hm⟩ := hr
    obtain ⟨vs, h1, h2, h3, h4⟩ := hm.vals
    exact ⟨b, i, vs, rfl, h1, h3, fun j v hv => hi.st _ _ _ (h4 j v hv)⟩
  | ptr b off =>
    simp only [memOf] at h
    simp only [Rep] at hr
    obtain ⟨hb, rfl⟩ := hr
    split at h
    · rename_i ty ds hd
      split at h
      · rename_i hle
        simp only [Option.some.injEq] at h
        subst h
        obtain ⟨vs, hh, h1, h2, h3⟩ := hi.obj b _ hd
        refine ⟨G.blk b, off, vs.toList.drop off, rfl, h1.drop off, fun v hv => h2 v (List.mem_of_mem_drop hv), ?_⟩
        intro j v hv
        rw [List.getElem?_drop] at hv
        simpa [World.cell?, hh] using hv
      · simp at h
    · simp at h
  | vptr f g off =>
    simp only [memOf] at h
    simp only [Rep] at hr
    obtain ⟨hf, hg, a, cap, hd, rfl⟩ := hr
    split at h
    · rename_i ty sz ds g' hist hM
      split at h
      · rename_i n hn
        simp only [Option.some.injEq] at h
        subst h
        obtain ⟨_, h2, _⟩ := hi.obj f _ hM
        obtain ⟨_, _, b, o, cap', vs, q1, q2, q3, q4, q5, q6, q7, q8, q9⟩ := h2 g n (lookup_mem hn)
        rw [hd] at q1
        simp only [Prod.mk.injEq, Option.some.injEq] at q1
        obtain ⟨rfl, rfl⟩ := q1
        refine ⟨b, o + off, ((vs.toList.drop o).take (n * sz)).drop off, rfl, q6.drop off, fun v hv => q7 v (List.mem_of_mem_drop hv), ?_⟩
        intro j v hv
        rw [List.getElem?_drop, List.getElem?_take] at hv
        split at hv
        · rw [List.getElem?_drop] at hv
          rw [cell_of_row _ _ _ _ _ _ q4, show o + off + j = o + (off + j) from by omega]
          simpa using hv
        · simp at hv
      · simp at h
    · simp at h
  | _ => simp [memOf] at h

theorem load_sound {C : Ctx} {G : Ghost} {M : Mem} {w : World} (hi : Inv C G M w) {p : AV} {x : Value} (hr : Rep G p x) {t : TypeId} {cs : List AV} {r : AV}
    (h : memOf M p = some cs) (hl : loadCells? C.P t cs = some r) : ∃ v, (Instr.loadAt t x).run C.P w = .ok v w ∧ Rep G r v := by
  obtain ⟨b, i, vs, rfl, h1, h2, h3⟩ := memOf_rep hi hr h
  have hlen := h1.length
  unfold loadCells? at hl
  split at hl
  · rename_i n ha hs
    split at hl
    · rename_i hle
      simp only [Option.some.injEq] at hl
      subst hl
      have hc := run_loadCells_list (P := C.P) w ⟨b, i, none⟩ (vs.take n) (fun j v hv => by
        rw [List.getElem?_take] at hv
        split at hv
        · rw [Addr.add_lit]; exact h3 j v hv
        · simp at hv)
      have hn : (vs.take n).length = n := by rw [List.length_take]; omega
      rw [hn] at hc
      refine ⟨.agg (vs.take n).toArray, ?_, ?_⟩
      · simp only [Instr.loadAt, Instr.sureAddr, loadVar, Sem.run_bind, Sem.run_pure, Result.andThen_ok, run_aggOf ha, run_szOf hs, if_true, hc]
      · simp only [Rep]
        exact ⟨_, rfl, by simpa using h1.take n, fun v hv => h2 v (List.mem_of_mem_take (by simpa using hv))⟩
    · simp at hl
  · rename_i n ha hs
    split at hl
    · rename_i c cs'
      simp only [Option.some.injEq] at hl
      subst hl
      simp only [RepL] at h1
      obtain ⟨y, ys', rfl, h5, h6⟩ := h1
      refine ⟨y, ?_, h5⟩
      have h0 := h3 0 y rfl
      simp only [Nat.add_zero] at h0
      simp [Instr.loadAt, Instr.sureAddr, loadVar, run_aggOf ha, run_load, h0]
    · simp at hl
  · simp at hl

/-! ### a store into a box -/
def AV.one : AV → Bool
  | .val v => v.oneCell'
  | .poison | .agg _ | .tuple _ => false
  | _ => true
def AV.cells : AV → List AV
  | .agg cs => cs
  | .val (.agg ys) => ys.toList.map .val
  | v => [v]
def AV.storable : AV → Bool
  | .agg _ => true
  | .val (.agg ys) => ys.toList.all (·.oneCell')
  | v => v.one

theorem Rep.one {G : Ghost} {a : AV} {x : Value} (h : Rep G a x) (h1 : a.one = true) : x.oneCell' = true := by
  cases a <;> simp only [AV.one, Bool.false_eq_true] at h1 <;> simp only [Rep] at h
  · subst h; exact h1
  · obtain ⟨_, rfl⟩ := h; rfl
  · obtain ⟨_, _, rfl, _⟩ := h; rfl
  · obtain ⟨_, _, rfl, _⟩ := h; rfl
  · obtain ⟨_, _, _, _, _, _, _, _, rfl, _⟩ := h; rfl
  · obtain ⟨_, _, _, _, _, rfl⟩ := h; rfl
  · obtain ⟨_, rfl⟩ := h; rfl
  · obtain ⟨_, _, rfl, _⟩ := h; rfl
  · obtain ⟨_, rfl, _⟩ := h; rfl

theorem Rep.cells {G : Ghost} {a : AV} {x : Value} (h : Rep G a x) (h1 : a.storable = true) : RepL G a.cells x.cells.toList ∧ ∀ v ∈ x.cells.toList, v.oneCell' = true := by
  by_cases ha : ∃ cs, a = .agg cs
  · obtain ⟨cs, rfl⟩ := ha
    simp only [Rep] at h
    obtain ⟨ys, rfl, h2, h3⟩ := h
    exact ⟨by simpa [AV.cells, Value.cells] using h2, by simpa [Value.cells] using h3⟩
  by_cases hv : ∃ ys, a = .val (.agg ys)
  · obtain ⟨ys, rfl⟩ := hv
    simp only [Rep] at h
    subst h
    simp only [AV.storable, List.all_eq_true] at h1
    refine ⟨?_, by simpa [Value.cells] using h1⟩
    show RepL G (ys.toList.map .val) ys.toList
    generalize ys.toList = l
    induction l with
    | nil => simp [RepL]
    | cons y l ih => exact ⟨y, l, rfl, rfl, ih⟩
  · have hone : a.one = true := by
      cases a with
      | val v => cases v <;> simp_all [AV.storable, AV.one]
      | _ => simp_all [AV.storable, AV.one]
    have hx := h.one hone
    have hc : x.cells = #[x] := by cases x <;> simp_all [Value.cells, Value.oneCell']
    have hac : a.cells = [a] := by
      cases a with
      | val v => cases v <;> simp_all [AV.cells]
      | _ => simp_all [AV.cells]
    rw [hc, hac]
    exact ⟨by simp [RepL, h], by simpa using hx⟩

def overwrite (cs : List AV) (off : Nat) (news : List AV) : List AV := cs.take off ++ news ++ cs.drop (off + news.length)

theorem setRow_cell_ne (w : World) (g : Nat) (c : Array Value) (a : Addr) (h : a.block ≠ g) : (w.setRow g c).cell? a = w.cell? a := by
  have := setRow_other w g a.block c h
  simp [World.cell?, this]

/-- The abstract state behind a box's new contents. -/
theorem Inv.setBox {C : Ctx} {G : Ghost} {M : Mem} {w : World} (hi : Inv C G M w) {k : Nat} {cs cs' : List AV} {t : TypeId} (hk : M[k]? = some (.cells t cs)) {vs : Array Value}
    (hh : w.heap[G.blk k]? = some (.cells vs t (0, 0))) {vs' : Array Value} (hr : RepL G cs' vs'.toList) (h1 : ∀ v ∈ vs'.toList, v.oneCell' = true) :
    Inv C G (M.set k (.cells t cs')) (w.setRow (G.blk k) vs') := by
  obtain ⟨_, _, _, _, hst, hkeep⟩ := hi.obj k _ hk
  refine hi.step k (G.blk k) hk (.inl rfl) (.refl _) rfl (fun _ => rfl) (fun _ _ => ⟨rfl, rfl⟩) (fun b i v h => .inl h) (fun _ => rfl) (fun b _ hne => setRow_other _ _ _ _ hne)
    (fun i v h => by rw [hst i] at h; simp at h) (fun o h => by rw [hkeep] at h; simp at h) ⟨vs', setRow_heap w _ vs vs' t _ hh, hr, h1, hst, hkeep⟩ (fun b hb => .inl hb)

theorem Ext.setRow (w : World) (g : Nat) (c : Array Value) : Ext w (w.setRow g c) := ⟨rfl, rfl, rfl, by simp [World.setRow]⟩

theorem store_sound {C : Ctx} {G : Ghost} {M : Mem} {w : World} (hi : Inv C G M w) {b off : Nat} {x : Value} (hr : Rep G (.ptr b off) x) {t : TypeId} {cs : List AV} {v : AV} {y : Value} {bt : TypeId} (hv : Rep G v y)
    (hb : M[b]? = some (.cells bt cs)) (hs : v.storable = true) (hsz : szOf C.P t = some v.cells.length) (hfit : off + v.cells.length ≤ cs.length) :
    ∃ w', (Instr.storeAt t x y).run C.P w = .ok () w' ∧ Inv C G (M.set b (.cells bt (overwrite cs off v.cells))) w' ∧ Ext w w' := by
  simp only [Rep] at hr
  obtain ⟨hblt, rfl⟩ := hr
  obtain ⟨vs, hh, h1, h2, h3, h4⟩ := hi.obj b _ hb
  obtain ⟨hc1, hc2⟩ := hv.cells hs
  have hlen := h1.length
  have hclen := hc1.length
  have hst := run_storeCells_at C.P (G.blk b) off bt y.cells.toList 0 vs w hh (by simp at hlen hclen ⊢; omega) hc2
  simp only [Nat.add_zero] at hst
  refine ⟨_, ?_, hi.setBox hb hh (vs' := (vs.toList.take off ++ y.cells.toList ++ vs.toList.drop (off + y.cells.toList.length)).toArray) ?_ ?_, Ext.setRow _ _ _⟩
  · have hsz' : y.cells.size = v.cells.length := by simpa using hclen
    simp only [Instr.storeAt, Instr.sureAddr, storeVar, Sem.run_bind, Sem.run_pure, Result.andThen_ok, run_szOf hsz, hsz', ne_eq, not_true_eq_false, if_false, hst]
  · simp only [overwrite]
    have e : y.cells.toList.length = v.cells.length := hclen
    rw [e]
    exact ((h1.take off).append hc1).append (h1.drop _)
  · intro u hu
    simp only [List.mem_append] at hu
    rcases hu with (hu | hu) | hu
    · exact h2 u (List.mem_of_mem_take hu)
    · exact hc2 u hu
    · exact h2 u (List.mem_of_mem_drop hu)
end Go.Abs
end
section
/- A store into an array. -/
set_option linter.unusedVariables false
namespace Go.Abs

theorem RepL.of_get {G : Ghost} : ∀ {cs : List AV} {ys : List Value}, cs.length = ys.length → (∀ (i : Nat) (c : AV) (y : Value), cs[i]? = some c → ys[i]? = some y → Rep G c y) → RepL G cs ys
  | [], [], _, _ => by simp [RepL]
  | [], _ :: _, h, _ => by simp at h
  | _ :: _, [], h, _ => by simp at h
  | c :: cs, y :: ys, h, k => by
    simp only [RepL]
    exact ⟨y, ys, rfl, k 0 c y rfl rfl, RepL.of_get (by simpa using h) (fun i c y h1 h2 => k (i + 1) c y (by simpa using h1) (by simpa using h2))⟩
theorem RepL.get2 {G : Ghost} {cs : List AV} {ys : List Value} (h : RepL G cs ys) {i : Nat} {c : AV} {y : Value} (h1 : cs[i]? = some c) (h2 : ys[i]? = some y) : Rep G c y := by
  obtain ⟨z, hz, hr⟩ := h.get h1
  rw [h2] at hz
  simp only [Option.some.injEq] at hz
  subst hz; exact hr

theorem overwrite_length {cs news : List AV} {off : Nat} (h : off + news.length ≤ cs.length) : (overwrite cs off news).length = cs.length := by
  simp only [overwrite, List.length_append, List.length_take, List.length_drop]; omega
theorem overwrite_get {α : Type} {cs news : List α} {off i : Nat} (h : off + news.length ≤ cs.length) : (cs.take off ++ news ++ cs.drop (off + news.length))[i]? = if off ≤ i ∧ i < off + news.length then news[i - off]? else cs[i]? := by
  by_cases h1 : i < off
  · rw [if_neg (by omega), List.append_assoc, List.getElem?_append_left (by rw [List.length_take]; omega), List.getElem?_take, if_pos h1]
  · by_cases h2 : i < off + news.length
    · rw [if_pos (by omega), List.append_assoc, List.getElem?_append_right (by rw [List.length_take]; omega), List.getElem?_append_left (by rw [List.length_take]; omega), List.length_take]
      congr 1; omega
    · rw [if_neg (by omega), List.getElem?_append_right (by rw [List.length_append, List.length_take]; omega), List.getElem?_drop]
      congr 1; rw [List.length_append, List.length_take]; omega

/-- the slices that a store from cell off on, through the slice of time g, leaves readable -/
def keepHist (sz g off : Nat) (hist : List (Nat × Nat)) : List (Nat × Nat) := hist.filter fun x => x.1 == g || decide (x.2 * sz ≤ off)

theorem vset_sound {C : Ctx} {G : Ghost} {M : Mem} {w : World} (hi : Inv C G M w) {f g off : Nat} {x : Value} (hr : Rep G (.vptr f g off) x) {ty : TypeId} {sz g' n : Nat} {cs : List AV} {hist : List (Nat × Nat)} {news : List AV} {ys : List Value} (hc1 : RepL G news ys) (hc2 : ∀ u ∈ ys, u.oneCell' = true)
    (hM : M[f]? = some (.vec ty sz cs g' hist)) (hn : hist.lookup g = some n) (hfit : off + news.length ≤ n * sz) :
    ∃ a w', x = .pointer (some a) ∧ (storeCells a ys).run C.P w = .ok () w' ∧ Inv C G (M.set f (.vec ty sz (overwrite cs off news) g' (keepHist sz g off hist))) w' ∧ Ext w w' := by
  simp only [Rep] at hr
  obtain ⟨hf, hg, a, cap, hd, rfl⟩ := hr
  have hclen := hc1.length
  obtain ⟨p0, p2, p3⟩ := hi.obj f _ hM
  have hmem := lookup_mem hn
  obtain ⟨_, hle, b, o, cap', vs, q1, q2, q3, q4, q5, q6, q7, q8, q9⟩ := p2 g n hmem
  have q1' := q1
  rw [hd] at q1
  simp only [Prod.mk.injEq, Option.some.injEq] at q1
  obtain ⟨rfl, rfl⟩ := q1
  have hcap : n * sz ≤ cap * sz := Nat.mul_le_mul_right _ q2
  have hst := run_storeCells_at C.P b (o + off) ty ys 0 vs w q4 (by rw [hclen]; omega) hc2
  simp only [Nat.add_zero, hclen] at hst
  have hheap := setRow_heap w b vs (vs.toList.take (o + off) ++ ys ++ vs.toList.drop (o + off + news.length)).toArray ty (0, 0) q4
  generalize hnew : (vs.toList.take (o + off) ++ ys ++ vs.toList.drop (o + off + news.length)) = nl at hst hheap
  have hnlen : nl.length = vs.size := by
    rw [← hnew]; simp only [List.length_append, List.length_take, List.length_drop, Array.length_toList, hclen]; omega
  have hget : ∀ i, nl[i]? = if o + off ≤ i ∧ i < o + off + news.length then ys[i - (o + off)]? else vs.toList[i]? := by
    intro i
    have := overwrite_get (cs := vs.toList) (news := ys) (off := o + off) (i := i) (by rw [hclen]; simp; omega)
    rw [hclen] at this
    rw [← hnew]; exact this
  have hown : owns G f (.vec ty sz cs g' hist) b := ⟨g, n, _, hmem, by rw [hd], rfl⟩
  have hi' := hi.step (w' := w.setRow b nl.toArray) (o' := .vec ty sz (overwrite cs off news) g' (keepHist sz g off hist)) f b hM (.inl hown) (.refl _) rfl (fun _ => rfl) (fun _ _ => ⟨rfl, rfl⟩) (fun _ _ _ h => .inl h) (fun _ => rfl)
    (fun b' _ hne => setRow_other _ _ _ _ hne) (fun i v h => by rw [q8 i] at h; simp at h) (fun o h => by rw [q9] at h; simp at h)
    ⟨p0, fun h' n' hm => ?_, fun h1 n1 h2 n2 a1 a2 c1 c2 m1 m2 => p3 h1 n1 h2 n2 a1 a2 c1 c2 ((List.mem_filter.1 m1).1) ((List.mem_filter.1 m2).1)⟩
    (fun b' ⟨h1, n1, a1, m1, e1, e2⟩ => .inr ⟨h1, n1, a1, (List.mem_filter.1 m1).1, e1, e2⟩)
  · exact ⟨_, _, rfl, hst, hi', Ext.setRow _ _ _⟩
  · have hm' := (List.mem_filter.1 hm).1
    have hcond : h' = g ∨ n' * sz ≤ off := by simpa using (List.mem_filter.1 hm).2
    obtain ⟨r0, r1, b', o', cap2, vs', s1, s2, s3, s4, s5, s6, s7, s8, s9⟩ := p2 h' n' hm'
    have hlen2 : (overwrite cs off news).length = cs.length := overwrite_length (by omega)
    refine ⟨r0, by rw [hlen2]; exact r1, ?_⟩
    have hcap2 : n' * sz ≤ cap2 * sz := Nat.mul_le_mul_right _ s2
    by_cases e : b' = b
    · subst e
      have eo : (⟨b', o', none⟩ : Addr) = ⟨b', o, none⟩ := p3 h' n' g n _ _ _ _ hm' hmem s1 hd rfl
      simp only [Addr.mk.injEq, true_and, and_true] at eo
      subst eo
      rw [q4] at s4
      simp only [Option.some.injEq, Obj.cells.injEq, and_true] at s4
      subst s4
      have hlens := s6.length
      simp only [List.length_take, List.length_drop, Array.length_toList] at hlens
      have gl : ∀ i, i < n' * sz → ((nl.drop o').take (n' * sz))[i]? = if off ≤ i ∧ i < off + news.length then ys[i - off]? else ((vs.toList.drop o').take (n' * sz))[i]? := by
        intro i hlt
        rw [List.getElem?_take, if_pos hlt, List.getElem?_drop, hget, List.getElem?_take, if_pos hlt, List.getElem?_drop]
        by_cases hc : off ≤ i ∧ i < off + news.length
        · rw [if_pos (by omega), if_pos hc]; congr 1; omega
        · rw [if_neg (by omega), if_neg hc]
      refine ⟨b', o', cap2, nl.toArray, s1, s2, s3, hheap, by simp only [List.size_toArray]; omega, ?_, ?_, s8, s9⟩
      · refine RepL.of_get ?_ ?_
        · simp only [List.length_take, List.length_drop, hlen2]; omega
        · intro i c z hc hz
          have hlt : i < n' * sz := by
            have := getElem?_lt hz
            simp only [List.length_take] at this; omega
          have hz' := gl i hlt
          rw [show (nl.toArray.toList : List Value) = nl from rfl] at hz
          rw [hz'] at hz
          rw [List.getElem?_take, if_pos hlt] at hc
          simp only [overwrite] at hc
          rw [overwrite_get (by omega)] at hc
          by_cases hcc : off ≤ i ∧ i < off + news.length
          · rw [if_pos hcc] at hz hc
            exact hc1.get2 hc hz
          · rw [if_neg hcc] at hz hc
            exact s6.get2 (by rw [List.getElem?_take, if_pos hlt]; exact hc) hz
      · intro u hu
        obtain ⟨i, hi2⟩ := List.mem_iff_getElem?.1 hu
        have hlt : i < n' * sz := by
          have := getElem?_lt hi2
          simp only [List.length_take] at this; omega
        have hz' := gl i hlt
        rw [show (nl.toArray.toList : List Value) = nl from rfl, hz'] at hi2
        by_cases hcc : off ≤ i ∧ i < off + news.length
        · rw [if_pos hcc] at hi2; exact hc2 u (List.mem_of_getElem? hi2)
        · rw [if_neg hcc] at hi2; exact s7 u (List.mem_of_getElem? hi2)
    · have hoff : n' * sz ≤ off := by
        rcases hcond with h | h
        · subst h
          rw [hd] at s1
          simp only [Prod.mk.injEq, Option.some.injEq, Addr.mk.injEq] at s1
          exact absurd s1.1.1.symm e
        · exact h
      refine ⟨b', o', cap2, vs', s1, s2, s3, by rw [setRow_other _ _ _ _ e]; exact s4, s5, ?_, s7, s8, s9⟩
      have : (overwrite cs off news).take (n' * sz) = cs.take (n' * sz) := by
        simp only [overwrite]
        rw [List.append_assoc, List.take_append_of_le_length (by rw [List.length_take]; omega), List.take_take, Nat.min_eq_left hoff]
      rw [this]; exact s6
theorem vstore_sound {C : Ctx} {G : Ghost} {M : Mem} {w : World} (hi : Inv C G M w) {f g off : Nat} {x : Value} (hr : Rep G (.vptr f g off) x) {t : TypeId} {ty : TypeId} {sz g' n : Nat} {cs : List AV} {hist : List (Nat × Nat)} {v : AV} {y : Value} (hv : Rep G v y)
    (hM : M[f]? = some (.vec ty sz cs g' hist)) (hn : hist.lookup g = some n) (hs : v.storable = true) (hsz : szOf C.P t = some v.cells.length) (hfit : off + v.cells.length ≤ n * sz) :
    ∃ w', (Instr.storeAt t x y).run C.P w = .ok () w' ∧ Inv C G (M.set f (.vec ty sz (overwrite cs off v.cells) g' (keepHist sz g off hist))) w' ∧ Ext w w' := by
  obtain ⟨hc1, hc2⟩ := hv.cells hs
  obtain ⟨a, w', rfl, hst, h2, h3⟩ := vset_sound hi hr hc1 hc2 hM hn hfit
  refine ⟨w', ?_, h2, h3⟩
  have hclen := hc1.length
  have hsz' : y.cells.size = v.cells.length := by simpa using hclen
  simp only [Instr.storeAt, Instr.sureAddr, storeVar, Sem.run_bind, Sem.run_pure, Result.andThen_ok, run_szOf hsz, hsz', ne_eq, not_true_eq_false, if_false, hst]
end Go.Abs
end
