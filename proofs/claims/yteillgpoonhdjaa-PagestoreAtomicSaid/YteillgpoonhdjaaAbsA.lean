/- Abstract values for Go walks: immutable data is kept as trees of values, mutable objects as numbered boxes. -/
import Derived.WalkKit
namespace Go.Abs

/-- what is known of the spare places of a slice: nothing; there are none; they belong to the family f -/
inductive Own where
  | no
  | full
  | fam (f : Nat)

inductive AV where
  | poison
  | val (v : Value)
  | ptr (b off : Nat)
  | cptr (cells : List AV)
  | list (sz : Nat) (rows : List (List AV)) (own : Own)
  | mapr (b : Nat)
  | func (fn : Fn) (first captured : List AV)
  | iface (t : TypeId) (v : AV)
  | agg (cells : List AV)
  | tuple (vs : List AV)

structure Ghost where
  n : Nat
  blk : Nat → Nat
  st : Nat → Nat → Option Value
  keep : Nat → Option Obj
  hdr : Nat → Nat → Option Addr × Nat
  top : Nat → Nat

structure Ghost.le (G G' : Ghost) : Prop where
  n : G.n ≤ G'.n
  blk : ∀ b, b < G.n → G'.blk b = G.blk b
  st : ∀ b i v, G.st b i = some v → G'.st b i = some v
  keep : ∀ b o, G.keep b = some o → G'.keep b = some o
  top : ∀ f, f < G.n → G.top f ≤ G'.top f
  hdr : ∀ f, f < G.n → ∀ k, k ≤ G.top f → G'.hdr f k = G.hdr f k

theorem Ghost.le.refl (G : Ghost) : G.le G := ⟨Nat.le_refl _, fun _ _ => rfl, fun _ _ _ h => h, fun _ _ h => h, fun _ _ => Nat.le_refl _, fun _ _ _ _ => rfl⟩
theorem Ghost.le.trans {A B C : Ghost} (h : A.le B) (k : B.le C) : A.le C :=
  ⟨Nat.le_trans h.n k.n, fun b hb => (k.blk b (Nat.lt_of_lt_of_le hb h.n)).trans (h.blk b hb), fun b i v hv => k.st b i v (h.st b i v hv),
    fun b o ho => k.keep b o (h.keep b o ho), fun f hf => Nat.le_trans (h.top f hf) (k.top f (Nat.lt_of_lt_of_le hf h.n)),
    fun f hf j hj => (k.hdr f (Nat.lt_of_lt_of_le hf h.n) j (Nat.le_trans hj (h.top f hf))).trans (h.hdr f hf j hj)⟩

def RepOwn (G : Ghost) (own : Own) (len : Nat) (base : Option Addr) (cap : Nat) : Prop :=
  match own with
  | .no => True
  | .full => cap = len
  | .fam f => f < G.n ∧ len ≤ G.top f ∧ G.hdr f len = (base, cap)

theorem RepOwn.mono {G G' : Ghost} (h : G.le G') {own : Own} {len : Nat} {base : Option Addr} {cap : Nat} (k : RepOwn G own len base cap) : RepOwn G' own len base cap := by
  cases own with
  | no => trivial
  | full => exact k
  | fam f =>
    obtain ⟨h1, h2, h3⟩ := k
    exact ⟨Nat.lt_of_lt_of_le h1 h.n, Nat.le_trans h2 (h.top f h1), (h.hdr f h1 _ h2).trans h3⟩

mutual
def Rep (G : Ghost) : AV → Value → Prop
  | .poison, _ => True
  | .val v, x => x = v
  | .ptr b off, x => b < G.n ∧ x = .pointer (some ⟨G.blk b, off, none⟩)
  | .cptr cs, x => ∃ b i, x = .pointer (some ⟨b, i, none⟩) ∧ RepMem G cs b i
  | .list sz rows own, x => ∃ base cap, x = .slice base rows.length cap ∧ rows.length ≤ cap ∧ cap ≤ maxLen ∧
      (match base with | none => rows = [] ∧ cap = 0 | some a => a.spot = none ∧ RepRows G sz rows a.block a.off) ∧ RepOwn G own rows.length base cap
  | .mapr b, x => b < G.n ∧ x = .map (some (G.blk b))
  | .func fn f c, x => ∃ fs cs : Array Value, x = .func fn fs cs ∧ RepL G f fs.toList ∧ RepL G c cs.toList
  | .iface t v, x => ∃ y, x = .iface t y ∧ Rep G v y
  | .agg cs, x => ∃ ys : Array Value, x = .agg ys ∧ RepL G cs ys.toList ∧ ∀ y ∈ ys.toList, y.oneCell' = true
  | .tuple cs, x => ∃ ys : Array Value, x = .tuple ys ∧ RepL G cs ys.toList
def RepL (G : Ghost) : List AV → List Value → Prop
  | [], ys => ys = []
  | c :: cs, ys => ∃ y ys', ys = y :: ys' ∧ Rep G c y ∧ RepL G cs ys'
def RepMem (G : Ghost) : List AV → Nat → Nat → Prop
  | [], _, _ => True
  | c :: cs, b, i => (∃ v, G.st b i = some v ∧ v.oneCell' = true ∧ Rep G c v) ∧ RepMem G cs b (i + 1)
def RepRows (G : Ghost) (sz : Nat) : List (List AV) → Nat → Nat → Prop
  | [], _, _ => True
  | r :: rs, b, i => (r.length = sz ∧ RepMem G r b i) ∧ RepRows G sz rs b (i + sz)
end

mutual
theorem Rep.mono {G G' : Ghost} (h : G.le G') : ∀ (a : AV) (x : Value), Rep G a x → Rep G' a x
  | .poison, _, _ => by simp [Rep]
  | .val v, x, k => by simpa [Rep] using k
  | .ptr b off, x, k => by
    simp only [Rep] at k ⊢
    exact ⟨Nat.lt_of_lt_of_le k.1 h.n, by rw [h.blk b k.1]; exact k.2⟩
  | .cptr cs, x, k => by
    simp only [Rep] at k ⊢
    obtain ⟨b, i, hx, hm⟩ := k
    exact ⟨b, i, hx, RepMem.mono h cs b i hm⟩
  | .list sz rows own, x, k => by
    simp only [Rep] at k ⊢
    obtain ⟨base, cap, hx, hl, hm, hb, ho⟩ := k
    refine ⟨base, cap, hx, hl, hm, ?_, ho.mono h⟩
    cases base with
    | none => exact hb
    | some a => exact ⟨hb.1, RepRows.mono h sz rows _ _ hb.2⟩
  | .mapr b, x, k => by
    simp only [Rep] at k ⊢
    exact ⟨Nat.lt_of_lt_of_le k.1 h.n, by rw [h.blk b k.1]; exact k.2⟩
  | .func fn f c, x, k => by
    simp only [Rep] at k ⊢
    obtain ⟨fs, cs, hx, h1, h2⟩ := k
    exact ⟨fs, cs, hx, RepL.mono h f _ h1, RepL.mono h c _ h2⟩
  | .iface t v, x, k => by
    simp only [Rep] at k ⊢
    obtain ⟨y, hx, h1⟩ := k
    exact ⟨y, hx, Rep.mono h v y h1⟩
  | .agg cs, x, k => by
    simp only [Rep] at k ⊢
    obtain ⟨ys, hx, h1, h2⟩ := k
    exact ⟨ys, hx, RepL.mono h cs _ h1, h2⟩
  | .tuple cs, x, k => by
    simp only [Rep] at k ⊢
    obtain ⟨ys, hx, h1⟩ := k
    exact ⟨ys, hx, RepL.mono h cs _ h1⟩
theorem RepL.mono {G G' : Ghost} (h : G.le G') : ∀ (cs : List AV) (ys : List Value), RepL G cs ys → RepL G' cs ys
  | [], ys, k => by simpa [RepL] using k
  | c :: cs, ys, k => by
    simp only [RepL] at k ⊢
    obtain ⟨y, ys', hy, h1, h2⟩ := k
    exact ⟨y, ys', hy, Rep.mono h c y h1, RepL.mono h cs ys' h2⟩
theorem RepMem.mono {G G' : Ghost} (h : G.le G') : ∀ (cs : List AV) (b i : Nat), RepMem G cs b i → RepMem G' cs b i
  | [], _, _, _ => by simp [RepMem]
  | c :: cs, b, i, k => by
    simp only [RepMem] at k ⊢
    obtain ⟨⟨v, hv, ho, h1⟩, h2⟩ := k
    exact ⟨⟨v, h.st b i v hv, ho, Rep.mono h c v h1⟩, RepMem.mono h cs b (i + 1) h2⟩
theorem RepRows.mono {G G' : Ghost} (h : G.le G') (sz : Nat) : ∀ (rs : List (List AV)) (b i : Nat), RepRows G sz rs b i → RepRows G' sz rs b i
  | [], _, _, _ => by simp [RepRows]
  | r :: rs, b, i, k => by
    simp only [RepRows] at k ⊢
    exact ⟨⟨k.1.1, RepMem.mono h r b i k.1.2⟩, RepRows.mono h sz rs b (i + sz) k.2⟩
end

/-! lists -/
theorem RepL.length {G : Ghost} : ∀ {cs : List AV} {ys : List Value}, RepL G cs ys → ys.length = cs.length
  | [], ys, k => by simp only [RepL] at k; subst k; rfl
  | c :: cs, ys, k => by
    simp only [RepL] at k
    obtain ⟨y, ys', rfl, _, h2⟩ := k
    simp [RepL.length h2]
theorem RepL.get {G : Ghost} : ∀ {cs : List AV} {ys : List Value}, RepL G cs ys → ∀ {i : Nat} {c : AV}, cs[i]? = some c → ∃ y, ys[i]? = some y ∧ Rep G c y
  | [], _, _, i, c, hc => by simp at hc
  | c :: cs, ys, k, i, c', hc => by
    simp only [RepL] at k
    obtain ⟨y, ys', rfl, h1, h2⟩ := k
    cases i with
    | zero => simp at hc; subst hc; exact ⟨y, rfl, h1⟩
    | succ i => simpa using RepL.get h2 (i := i) (by simpa using hc)
theorem RepL.set {G : Ghost} : ∀ {cs : List AV} {ys : List Value}, RepL G cs ys → ∀ (i : Nat) {c : AV} {y : Value}, Rep G c y → RepL G (cs.set i c) (ys.set i y)
  | [], ys, k, i, c, y, h => by simp only [RepL] at k; subst k; simp [RepL]
  | c :: cs, ys, k, i, c', y', h => by
    simp only [RepL] at k
    obtain ⟨y, ys', rfl, h1, h2⟩ := k
    cases i with
    | zero => simp only [List.set_cons_zero, RepL]; exact ⟨_, _, rfl, h, h2⟩
    | succ i => simp only [List.set_cons_succ, RepL]; exact ⟨_, _, rfl, h1, RepL.set h2 i h⟩
theorem RepL.append {G : Ghost} : ∀ {cs ds : List AV} {ys zs : List Value}, RepL G cs ys → RepL G ds zs → RepL G (cs ++ ds) (ys ++ zs)
  | [], ds, ys, zs, k, h => by simp only [RepL] at k; subst k; exact h
  | c :: cs, ds, ys, zs, k, h => by
    simp only [RepL] at k
    obtain ⟨y, ys', rfl, h1, h2⟩ := k
    simp only [List.cons_append, RepL]
    exact ⟨_, _, rfl, h1, RepL.append h2 h⟩
theorem RepL.take {G : Ghost} : ∀ {cs : List AV} {ys : List Value}, RepL G cs ys → ∀ n, RepL G (cs.take n) (ys.take n)
  | [], ys, k, n => by simp only [RepL] at k; subst k; simp [RepL]
  | c :: cs, ys, k, n => by
    simp only [RepL] at k
    obtain ⟨y, ys', rfl, h1, h2⟩ := k
    cases n with
    | zero => simp [RepL]
    | succ n => simp only [List.take_succ_cons, RepL]; exact ⟨_, _, rfl, h1, RepL.take h2 n⟩
theorem RepL.drop {G : Ghost} : ∀ {cs : List AV} {ys : List Value}, RepL G cs ys → ∀ n, RepL G (cs.drop n) (ys.drop n)
  | [], ys, k, n => by simp only [RepL] at k; subst k; simp [RepL]
  | c :: cs, ys, k, n => by
    cases n with
    | zero => simpa using k
    | succ n =>
      simp only [RepL] at k
      obtain ⟨y, ys', rfl, h1, h2⟩ := k
      simpa using RepL.drop h2 n
theorem RepMem.get {G : Ghost} : ∀ {cs : List AV} {b i : Nat}, RepMem G cs b i → ∀ {j : Nat} {c : AV}, cs[j]? = some c → ∃ v, G.st b (i + j) = some v ∧ v.oneCell' = true ∧ Rep G c v
  | [], _, _, _, j, c, hc => by simp at hc
  | c :: cs, b, i, k, j, c', hc => by
    simp only [RepMem] at k
    obtain ⟨⟨v, hv⟩, h2⟩ := k
    cases j with
    | zero => simp at hc; subst hc; exact ⟨v, hv⟩
    | succ j =>
      obtain ⟨v', h⟩ := RepMem.get h2 (j := j) (by simpa using hc)
      exact ⟨v', by rw [show i + (j + 1) = i + 1 + j from by omega]; exact h.1, h.2⟩
theorem RepMem.drop {G : Ghost} : ∀ {cs : List AV} {b i : Nat}, RepMem G cs b i → ∀ n, RepMem G (cs.drop n) b (i + n)
  | [], _, _, _, n => by simp [RepMem]
  | c :: cs, b, i, k, n => by
    cases n with
    | zero => simpa using k
    | succ n =>
      simp only [RepMem] at k
      rw [show i + (n + 1) = i + 1 + n from by omega]
      simpa using RepMem.drop k.2 n
theorem RepMem.take {G : Ghost} : ∀ {cs : List AV} {b i : Nat}, RepMem G cs b i → ∀ n, RepMem G (cs.take n) b i
  | [], _, _, _, n => by simp [RepMem]
  | c :: cs, b, i, k, n => by
    cases n with
    | zero => simp [RepMem]
    | succ n =>
      simp only [RepMem, List.take_succ_cons] at k ⊢
      exact ⟨k.1, RepMem.take k.2 n⟩
theorem RepMem.append {G : Ghost} : ∀ {cs ds : List AV} {b i : Nat}, RepMem G cs b i → RepMem G ds b (i + cs.length) → RepMem G (cs ++ ds) b i
  | [], _, _, _, _, h => by simpa using h
  | c :: cs, ds, b, i, k, h => by
    simp only [RepMem, List.cons_append] at k ⊢
    exact ⟨k.1, RepMem.append k.2 (by rw [show i + 1 + cs.length = i + (c :: cs).length from by simp; omega]; exact h)⟩
/-- the values behind a piece of fixed memory -/
theorem RepMem.vals {G : Ghost} : ∀ {cs : List AV} {b i : Nat}, RepMem G cs b i → ∃ vs : List Value, RepL G cs vs ∧ vs.length = cs.length ∧ (∀ v ∈ vs, v.oneCell' = true) ∧ ∀ j v, vs[j]? = some v → G.st b (i + j) = some v
  | [], _, _, _ => ⟨[], by simp [RepL], rfl, by simp, by simp⟩
  | c :: cs, b, i, k => by
    simp only [RepMem] at k
    obtain ⟨⟨v, hv, ho, h1⟩, h2⟩ := k
    obtain ⟨vs, h3, h4, h5, h6⟩ := RepMem.vals h2
    refine ⟨v :: vs, by simp only [RepL]; exact ⟨v, vs, rfl, h1, h3⟩, by simp [h4], by simpa [ho] using h5, ?_⟩
    intro j u hu
    cases j with
    | zero => simp at hu; subst hu; exact hv
    | succ j => rw [show i + (j + 1) = i + 1 + j from by omega]; exact h6 j u (by simpa using hu)
theorem RepMem.mk {G : Ghost} : ∀ {cs : List AV} {vs : List Value} {b i : Nat}, RepL G cs vs → (∀ v ∈ vs, v.oneCell' = true) → (∀ j v, vs[j]? = some v → G.st b (i + j) = some v) → RepMem G cs b i
  | [], _, _, _, _, _, _ => by simp [RepMem]
  | c :: cs, vs, b, i, k, ho, h => by
    simp only [RepL] at k
    obtain ⟨y, ys', rfl, h1, h2⟩ := k
    simp only [RepMem]
    exact ⟨⟨y, by simpa using h 0 y rfl, ho y (by simp), h1⟩, RepMem.mk h2 (fun v hv => ho v (by simp [hv])) (fun j v hv => by rw [show i + 1 + j = i + (j + 1) from by omega]; exact h (j + 1) v (by simpa using hv))⟩
theorem RepRows.row {G : Ghost} {sz : Nat} : ∀ {rs : List (List AV)} {b i : Nat}, RepRows G sz rs b i → ∀ {j : Nat} {r : List AV}, rs[j]? = some r → r.length = sz ∧ RepMem G r b (i + j * sz)
  | [], _, _, _, j, r, hr => by simp at hr
  | r :: rs, b, i, k, j, r', hr => by
    simp only [RepRows] at k
    cases j with
    | zero => simp at hr; subst hr; simpa using k.1
    | succ j =>
      have := RepRows.row k.2 (j := j) (by simpa using hr)
      refine ⟨this.1, ?_⟩
      rw [show i + (j + 1) * sz = i + sz + j * sz from by rw [Nat.add_mul]; omega]
      exact this.2
theorem RepRows.flat {G : Ghost} {sz : Nat} : ∀ {rs : List (List AV)} {b i : Nat}, RepRows G sz rs b i → RepMem G rs.flatten b i ∧ rs.flatten.length = rs.length * sz
  | [], _, _, _ => by simp [RepMem]
  | r :: rs, b, i, k => by
    simp only [RepRows] at k
    have h := RepRows.flat k.2
    refine ⟨?_, ?_⟩
    · simp only [List.flatten_cons]
      exact RepMem.append k.1.2 (by rw [k.1.1]; exact h.1)
    · simp only [List.flatten_cons, List.length_append, List.length_cons, h.2, k.1.1, Nat.add_mul]; omega
theorem RepRows.mk {G : Ghost} {sz : Nat} : ∀ {rs : List (List AV)} {b i : Nat}, (∀ r ∈ rs, r.length = sz) → RepMem G rs.flatten b i → RepRows G sz rs b i
  | [], _, _, _, _ => by simp [RepRows]
  | r :: rs, b, i, hs, k => by
    simp only [RepRows]
    have hr : r.length = sz := hs r (by simp)
    have h1 := RepMem.take k r.length
    have h2 := RepMem.drop k r.length
    simp only [List.flatten_cons, List.take_left, List.drop_left] at h1 h2
    exact ⟨⟨hr, h1⟩, RepRows.mk (fun x hx => hs x (by simp [hx])) (by rw [← hr]; exact h2)⟩
theorem RepRows.sizes {G : Ghost} {sz : Nat} {rs : List (List AV)} {b i : Nat} (k : RepRows G sz rs b i) : ∀ r ∈ rs, r.length = sz := by
  intro r hr
  obtain ⟨j, hj, rfl⟩ := List.mem_iff_getElem.1 hr
  exact (RepRows.row k (j := j) (by simp [hj])).1
theorem RepRows.take {G : Ghost} {sz : Nat} : ∀ {rs : List (List AV)} {b i : Nat}, RepRows G sz rs b i → ∀ n, RepRows G sz (rs.take n) b i
  | [], _, _, _, n => by simp [RepRows]
  | r :: rs, b, i, k, n => by
    cases n with
    | zero => simp [RepRows]
    | succ n => simp only [RepRows, List.take_succ_cons] at k ⊢; exact ⟨k.1, RepRows.take k.2 n⟩
theorem RepRows.drop {G : Ghost} {sz : Nat} : ∀ {rs : List (List AV)} {b i : Nat}, RepRows G sz rs b i → ∀ n, RepRows G sz (rs.drop n) b (i + n * sz)
  | [], _, _, _, n => by simp [RepRows]
  | r :: rs, b, i, k, n => by
    cases n with
    | zero => simpa using k
    | succ n =>
      simp only [RepRows] at k
      rw [show i + (n + 1) * sz = i + sz + n * sz from by rw [Nat.add_mul]; omega]
      simpa using RepRows.drop k.2 n
end Go.Abs
