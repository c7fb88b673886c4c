/- Sorting in place, in plain words: swaps, rotations, what a merge needs. No program in sight. -/
set_option linter.unusedVariables false
namespace Go.Abs
variable {α : Type}

def upd (D : Nat → α) (i : Nat) (x : α) : Nat → α := fun k => if k = i then x else D k
def swp (D : Nat → α) (i j : Nat) : Nat → α := upd (upd D i (D j)) j (D i)
def ofD (D : Nat → α) (n : Nat) : List α := (List.range n).map D
@[simp] theorem ofD_length (D : Nat → α) (n : Nat) : (ofD D n).length = n := by simp [ofD]
theorem ofD_get (D : Nat → α) (n i : Nat) (h : i < (ofD D n).length) : (ofD D n)[i] = D i := by simp [ofD]
theorem ofD_set (D : Nat → α) (n i : Nat) (x : α) : (ofD D n).set i x = ofD (upd D i x) n := by
  apply List.ext_getElem
  · simp
  · intro k h1 h2
    rw [List.getElem_set, ofD_get, ofD_get]
    simp only [upd]
    by_cases e : i = k
    · simp [e]
    · rw [if_neg e, if_neg (fun h => e h.symm)]
theorem ofD_congr {D E : Nat → α} {n : Nat} (h : ∀ k, k < n → D k = E k) : ofD D n = ofD E n := List.map_congr_left fun k hk => h k (List.mem_range.1 hk)
theorem ofD_mem {D : Nat → α} {n : Nat} {x : α} : x ∈ ofD D n ↔ ∃ k, k < n ∧ D k = x := by simp [ofD]
theorem swp_perm (D : Nat → α) {n i j : Nat} (hi : i < n) (hj : j < n) : (ofD (swp D i j) n).Perm (ofD D n) := by
  have h := @List.set_set_perm α (ofD D n) i j (by simpa using hi) (by simpa using hj)
  rw [ofD_get, ofD_get, ofD_set, ofD_set] at h
  exact h
theorem swp_apply (D : Nat → α) (i j k : Nat) : swp D i j k = if k = j then D i else if k = i then D j else D k := rfl

/-- E is D turned round within [a, b) -/
structure Mix (n a b : Nat) (D E : Nat → α) : Prop where
  perm : (ofD E n).Perm (ofD D n)
  out : ∀ k, k < a ∨ b ≤ k → E k = D k
  mem : ∀ k, a ≤ k → k < b → ∃ j, a ≤ j ∧ j < b ∧ E k = D j
theorem Mix.refl (n a b : Nat) (D : Nat → α) : Mix n a b D D := ⟨.refl _, fun _ _ => rfl, fun k h1 h2 => ⟨k, h1, h2, rfl⟩⟩
theorem Mix.trans {n a b : Nat} {D E F : Nat → α} (h : Mix n a b D E) (k : Mix n a b E F) : Mix n a b D F :=
  ⟨k.perm.trans h.perm, fun i hi => (k.out i hi).trans (h.out i hi), fun i h1 h2 => by
    obtain ⟨j, q1, q2, q3⟩ := k.mem i h1 h2
    obtain ⟨j', r1, r2, r3⟩ := h.mem j q1 q2
    exact ⟨j', r1, r2, q3.trans r3⟩⟩
theorem Mix.wide {n a b a' b' : Nat} {D E : Nat → α} (h : Mix n a b D E) (ha : a' ≤ a) (hb : b ≤ b') : Mix n a' b' D E :=
  ⟨h.perm, fun k hk => h.out k (by omega), fun k h1 h2 => by
    by_cases c : a ≤ k ∧ k < b
    · obtain ⟨j, q1, q2, q3⟩ := h.mem k c.1 c.2; exact ⟨j, by omega, by omega, q3⟩
    · exact ⟨k, h1, h2, h.out k (by omega)⟩⟩
theorem Mix.swap {n a b : Nat} (D : Nat → α) {i j : Nat} (hb : b ≤ n) (h1 : a ≤ i) (h2 : i < b) (h3 : a ≤ j) (h4 : j < b) : Mix n a b D (swp D i j) :=
  ⟨swp_perm D (by omega) (by omega), fun k hk => by rw [swp_apply, if_neg (by omega), if_neg (by omega)], fun k k1 k2 => by
    rw [swp_apply]
    split
    · exact ⟨i, h1, h2, rfl⟩
    · split
      · exact ⟨j, h3, h4, rfl⟩
      · exact ⟨k, k1, k2, rfl⟩⟩

/-- an order, told by a comparison -/
structure Ord3 (c : α → α → Int) : Prop where
  asymm : ∀ x y, c x y < 0 → ¬ c y x < 0
  trans : ∀ x y z, ¬ c y x < 0 → ¬ c z y < 0 → ¬ c z x < 0
def Srt (c : α → α → Int) (a b : Nat) (D : Nat → α) : Prop := ∀ i j, a ≤ i → i < j → j < b → ¬ c (D j) (D i) < 0
theorem Srt.part {c : α → α → Int} {a b a' b' : Nat} {D : Nat → α} (h : Srt c a b D) (ha : a ≤ a') (hb : b' ≤ b) : Srt c a' b' D := fun i j h1 h2 h3 => h i j (by omega) h2 (by omega)
theorem Srt.congr {c : α → α → Int} {a b : Nat} {D E : Nat → α} (h : Srt c a b D) (he : ∀ k, a ≤ k → k < b → E k = D k) : Srt c a b E := fun i j h1 h2 h3 => by
  rw [he i h1 (by omega), he j (by omega) h3]; exact h i j h1 h2 h3
theorem Ord3.lt_of {c : α → α → Int} (o : Ord3 c) {x y z : α} (h1 : ¬ c y x < 0) (h2 : c y z < 0) : c x z < 0 := Classical.byContradiction fun h => o.trans z x y h h1 h2
theorem Ord3.lt_of' {c : α → α → Int} (o : Ord3 c) {x y z : α} (h1 : c x y < 0) (h2 : ¬ c z y < 0) : c x z < 0 := Classical.byContradiction fun h => o.trans y z x h2 h h1

/-! ### insertion -/
/-- sorted on [a, i] but for the pairs that end at j -/
def SrtBut (c : α → α → Int) (a i j : Nat) (D : Nat → α) : Prop := ∀ p q, a ≤ p → p < q → q ≤ i → q ≠ j → ¬ c (D q) (D p) < 0
theorem SrtBut.start {c : α → α → Int} {a i : Nat} {D : Nat → α} (h : Srt c a i D) : SrtBut c a i i D := fun p q h1 h2 h3 h4 => h p q h1 h2 (by omega)
theorem SrtBut.stop {c : α → α → Int} (o : Ord3 c) {a i j : Nat} {D : Nat → α} (h : SrtBut c a i j D) (hj : j ≤ i) (he : j ≤ a ∨ ¬ c (D j) (D (j - 1)) < 0) : Srt c a (i + 1) D := by
  intro p q h1 h2 h3
  by_cases hq : q = j
  · subst hq
    rcases he with he | he
    · omega
    · by_cases hp : p = q - 1
      · subst hp; exact he
      · exact o.trans (D p) (D (q - 1)) (D q) (h p (q - 1) h1 (by omega) (by omega) (by omega)) he
  · exact h p q h1 h2 (by omega) hq
theorem SrtBut.step {c : α → α → Int} (o : Ord3 c) {a i j : Nat} {D : Nat → α} (h : SrtBut c a i j D) (ha : a < j) (hj : j ≤ i) (hlt : c (D j) (D (j - 1)) < 0) : SrtBut c a i (j - 1) (swp D j (j - 1)) := by
  intro p q h1 h2 h3 h4
  rw [swp_apply, swp_apply, if_neg h4]
  by_cases hq : q = j
  · subst hq
    rw [if_pos rfl]
    by_cases hp : p = q - 1
    · rw [if_pos hp]; exact o.asymm _ _ hlt
    · rw [if_neg hp, if_neg (by omega)]; exact h p (q - 1) h1 (by omega) (by omega) (by omega)
  · rw [if_neg hq]
    by_cases hp : p = j - 1
    · rw [if_pos hp]; exact h j q (by omega) (by omega) h3 hq
    · rw [if_neg hp]
      by_cases hp2 : p = j
      · rw [if_pos hp2]; exact h (j - 1) q (by omega) (by omega) h3 hq
      · rw [if_neg hp2]; exact h p q h1 h2 h3 hq

/-! ### one element put in its place -/
def shUp (D : Nat → α) (a k : Nat) : Nat → α := fun x => if a ≤ x ∧ x < k then D (x + 1) else if x = k then D a else D x
theorem shUp_zero (D : Nat → α) (a : Nat) : shUp D a a = D := by
  funext x; simp only [shUp]; rw [if_neg (by omega)]; split
  · rename_i h; rw [h]
  · rfl
theorem shUp_step (D : Nat → α) {a k : Nat} (h : a ≤ k) : swp (shUp D a k) k (k + 1) = shUp D a (k + 1) := by
  funext x
  rw [swp_apply]
  simp only [shUp]
  repeat' split
  all_goals first | rfl | contradiction | (exfalso; omega) | (congr 1; omega)
theorem shUp_srt {c : α → α → Int} (o : Ord3 c) {D : Nat → α} {a b i : Nat} (hs : Srt c (a + 1) b D) (h1 : a < i) (h2 : i ≤ b) (hl : a + 1 < i → c (D (i - 1)) (D a) < 0) (hr : i < b → ¬ c (D i) (D a) < 0) : Srt c a b (shUp D a (i - 1)) := by
  have lo : ∀ q, a + 1 ≤ q → q < i → c (D q) (D a) < 0 := by
    intro q q1 q2
    by_cases e : q = i - 1
    · rw [e]; exact hl (by omega)
    · exact o.lt_of (hs q (i - 1) q1 (by omega) (by omega)) (hl (by omega))
  have hi : ∀ q, i ≤ q → q < b → ¬ c (D q) (D a) < 0 := by
    intro q q1 q2
    by_cases e : q = i
    · rw [e]; exact hr (by omega)
    · exact o.trans _ _ _ (hr (by omega)) (hs i q (by omega) (by omega) q2)
  intro p q p1 p2 p3
  simp only [shUp]
  by_cases hp : p < i - 1
  · rw [if_pos (show a ≤ p ∧ p < i - 1 from ⟨p1, hp⟩)]
    by_cases hq : q < i - 1
    · rw [if_pos (show a ≤ q ∧ q < i - 1 from ⟨by omega, hq⟩)]; exact hs _ _ (by omega) (by omega) (by omega)
    · rw [if_neg (by omega)]
      by_cases hq2 : q = i - 1
      · rw [if_pos hq2]; exact o.asymm _ _ (lo _ (by omega) (by omega))
      · rw [if_neg hq2]; exact hs _ _ (by omega) (by omega) (by omega)
  · rw [if_neg (by omega), if_neg (by omega), if_neg (show ¬ (a ≤ p ∧ p < i - 1) by omega)]
    by_cases hp2 : p = i - 1
    · rw [if_pos hp2]; exact hi q (by omega) p3
    · rw [if_neg hp2]; exact hs _ _ (by omega) p2 p3

def shDown (D : Nat → α) (k m : Nat) : Nat → α := fun x => if k < x ∧ x ≤ m then D (x - 1) else if x = k then D m else D x
theorem shDown_zero (D : Nat → α) (m : Nat) : shDown D m m = D := by
  funext x; simp only [shDown]; rw [if_neg (by omega)]; split
  · rename_i h; rw [h]
  · rfl
theorem shDown_step (D : Nat → α) {k m : Nat} (h : k ≤ m) (h0 : 0 < k) : swp (shDown D k m) k (k - 1) = shDown D (k - 1) m := by
  funext x
  rw [swp_apply]
  simp only [shDown]
  repeat' split
  all_goals first | rfl | (exfalso; rename_i h _; exact h trivial) | (exfalso; rename_i h _ _; exact h trivial) | contradiction | (exfalso; omega) | (congr 1; omega)
theorem shDown_srt {c : α → α → Int} (o : Ord3 c) {D : Nat → α} {a m i : Nat} (hs : Srt c a m D) (h1 : a ≤ i) (h2 : i ≤ m) (hl : a < i → ¬ c (D m) (D (i - 1)) < 0) (hr : i < m → c (D m) (D i) < 0) : Srt c a (m + 1) (shDown D i m) := by
  have lo : ∀ q, a ≤ q → q < i → ¬ c (D m) (D q) < 0 := by
    intro q q1 q2
    by_cases e : q = i - 1
    · rw [e]; exact hl (by omega)
    · exact o.trans _ _ _ (hs q (i - 1) q1 (by omega) (by omega)) (hl (by omega))
  have hi : ∀ q, i ≤ q → q < m → c (D m) (D q) < 0 := by
    intro q q1 q2
    by_cases e : q = i
    · rw [e]; exact hr (by omega)
    · exact o.lt_of' (hr (by omega)) (hs i q (by omega) (by omega) q2)
  intro p q p1 p2 p3
  simp only [shDown]
  by_cases hp : p < i
  · rw [if_neg (show ¬ (i < p ∧ p ≤ m) by omega), if_neg (show ¬ p = i by omega)]
    by_cases hq : q < i
    · rw [if_neg (show ¬ (i < q ∧ q ≤ m) by omega), if_neg (show ¬ q = i by omega)]; exact hs _ _ p1 p2 (by omega)
    · by_cases hq2 : q = i
      · rw [if_neg (show ¬ (i < q ∧ q ≤ m) by omega), if_pos hq2]; exact lo p p1 hp
      · rw [if_pos (show i < q ∧ q ≤ m by omega)]
        by_cases hq3 : q - 1 = p
        · omega
        · exact hs _ _ p1 (by omega) (by omega)
  · rw [if_pos (show i < q ∧ q ≤ m by omega)]
    by_cases hp2 : p = i
    · rw [if_neg (show ¬ (i < p ∧ p ≤ m) by omega), if_pos hp2]
      exact o.asymm _ _ (hi _ (by omega) (by omega))
    · rw [if_pos (show i < p ∧ p ≤ m by omega)]; exact hs _ _ (by omega) (by omega) (by omega)

/-! ### rotation -/
def rot (D : Nat → α) (s m e : Nat) : Nat → α := fun k => if k < s ∨ e ≤ k then D k else if k < s + (e - m) then D (k + (m - s)) else D (k - (e - m))
/-- [i, i + l) and [j, j + l) change places -/
def xch (D : Nat → α) (i j l : Nat) : Nat → α := fun k => if i ≤ k ∧ k < i + l then D (k - i + j) else if j ≤ k ∧ k < j + l then D (k - j + i) else D k
theorem xch_zero (D : Nat → α) (i j : Nat) : xch D i j 0 = D := by
  funext x; simp only [xch]; rw [if_neg (by omega), if_neg (by omega)]
theorem xch_step (D : Nat → α) {i j l : Nat} (h : i + l < j) : swp (xch D i j l) (i + l) (j + l) = xch D i j (l + 1) := by
  funext x
  rw [swp_apply]
  simp only [xch]
  repeat' split
  all_goals first | rfl | (exfalso; rename_i h _; exact h trivial) | (exfalso; rename_i h _ _; exact h trivial) | contradiction | (exfalso; omega) | (congr 1; omega)
theorem rot_more (D : Nat → α) {i j m : Nat} (him : i ≤ m) (h : j < i) (hj : 0 < j) : rot (xch D (m - i) m j) (m - (i - j)) m (m + j) = rot D (m - i) m (m + j) := by
  funext k
  simp only [rot, xch]
  repeat' split
  all_goals first | rfl | (exfalso; omega) | (congr 1; omega)
theorem rot_less (D : Nat → α) {i j m : Nat} (him : i ≤ m) (h : i < j) (hi : 0 < i) : rot (xch D (m - i) (m + j - i) i) (m - i) m (m + (j - i)) = rot D (m - i) m (m + j) := by
  funext k
  simp only [rot, xch]
  repeat' split
  all_goals first | rfl | (exfalso; omega) | (congr 1; omega)
theorem rot_same (D : Nat → α) {i m : Nat} (him : i ≤ m) : xch D (m - i) m i = rot D (m - i) m (m + i) := by
  funext k
  simp only [rot, xch]
  repeat' split
  all_goals first | rfl | (exfalso; omega) | (congr 1; omega)
theorem rot_none (D : Nat → α) {s m e : Nat} (h1 : s ≤ m) (h2 : m ≤ e) (h : ¬ (s < m ∧ m < e)) : rot D s m e = D := by
  funext k
  simp only [rot]
  by_cases c1 : k < s ∨ e ≤ k
  · rw [if_pos c1]
  · rw [if_neg c1]
    by_cases c2 : k < s + (e - m)
    · rw [if_pos c2]; congr 1; omega
    · rw [if_neg c2]; congr 1; omega

/-! ### the merge: behind the rotation, all of the left half goes ahead of all of the right one -/
theorem merge_cross {c : α → α → Int} (o : Ord3 c) {D : Nat → α} {a m b mid s e : Nat} (hs1 : Srt c a m D) (hs2 : Srt c m b D) (h1 : a ≤ s) (h2 : s ≤ m) (h3 : m ≤ e) (h4 : e ≤ b) (h5 : e + s = mid + m)
    (hl : (a < s ∧ e < b) → ¬ c (D e) (D (s - 1)) < 0) (hr : (s < m ∧ m < e) → c (D (e - 1)) (D s) < 0) : ∀ i j, a ≤ i → i < mid → mid ≤ j → j < b → ¬ c (rot D s m e j) (rot D s m e i) < 0 := by
  intro i j i1 i2 j1 j2
  simp only [rot]
  by_cases ci : i < s
  · rw [if_pos (show i < s ∨ e ≤ i from .inl ci)]
    by_cases cj : e ≤ j
    · rw [if_pos (show j < s ∨ e ≤ j from .inr cj)]
      -- U1 and V2
      have k1 : ¬ c (D e) (D (s - 1)) < 0 := hl ⟨by omega, by omega⟩
      have k2 : ¬ c (D e) (D i) < 0 := by
        by_cases q : i = s - 1
        · rw [q]; exact k1
        · exact o.trans _ _ _ (hs1 i (s - 1) i1 (by omega) (by omega)) k1
      by_cases q : j = e
      · rw [q]; exact k2
      · exact o.trans _ _ _ k2 (hs2 e j (by omega) (by omega) j2)
    · rw [if_neg (show ¬ (j < s ∨ e ≤ j) by omega), if_neg (show ¬ j < s + (e - m) by omega)]
      exact hs1 _ _ i1 (by omega) (by omega)
  · rw [if_neg (show ¬ (i < s ∨ e ≤ i) by omega), if_pos (show i < s + (e - m) by omega)]
    by_cases cj : e ≤ j
    · rw [if_pos (show j < s ∨ e ≤ j from .inr cj)]
      exact hs2 _ _ (by omega) (by omega) j2
    · rw [if_neg (show ¬ (j < s ∨ e ≤ j) by omega), if_neg (show ¬ j < s + (e - m) by omega)]
      have k1 : c (D (e - 1)) (D s) < 0 := hr ⟨by omega, by omega⟩
      have k2 : c (D (i + (m - s))) (D s) < 0 := by
        by_cases q : i + (m - s) = e - 1
        · rw [q]; exact k1
        · exact o.lt_of (hs2 _ (e - 1) (by omega) (by omega) (by omega)) k1
      refine o.asymm _ _ ?_
      by_cases q : j - (e - m) = s
      · rw [q]; exact k2
      · exact o.lt_of' k2 (hs1 s _ (by omega) (by omega) (by omega))
theorem rot_parts {c : α → α → Int} {D : Nat → α} {a m b mid s e : Nat} (hs1 : Srt c a m D) (hs2 : Srt c m b D) (h1 : a ≤ s) (h2 : s ≤ m) (h3 : m ≤ e) (h4 : e ≤ b) (h5 : e + s = mid + m) :
    Srt c a s (rot D s m e) ∧ Srt c s mid (rot D s m e) ∧ Srt c mid e (rot D s m e) ∧ Srt c e b (rot D s m e) := by
  have lo : ∀ k, k < s → rot D s m e k = D k := fun k h => if_pos (.inl h)
  have v : ∀ k, s ≤ k → k < mid → rot D s m e k = D (k + (m - s)) := fun k k1 k2 => by simp only [rot]; rw [if_neg (by omega), if_pos (by omega)]
  have u : ∀ k, mid ≤ k → k < e → rot D s m e k = D (k - (e - m)) := fun k k1 k2 => by simp only [rot]; rw [if_neg (by omega), if_neg (by omega)]
  have up : ∀ k, e ≤ k → rot D s m e k = D k := fun k h => if_pos (.inr h)
  refine ⟨?_, ?_, ?_, ?_⟩ <;> intro i j i1 i2 i3
  · rw [lo i (by omega), lo j (by omega)]; exact hs1 _ _ (by omega) (by omega) (by omega)
  · rw [v i (by omega) (by omega), v j (by omega) (by omega)]; exact hs2 _ _ (by omega) (by omega) (by omega)
  · rw [u i (by omega) (by omega), u j (by omega) (by omega)]; exact hs1 _ _ (by omega) (by omega) (by omega)
  · rw [up i (by omega), up j (by omega)]; exact hs2 _ _ (by omega) (by omega) (by omega)
/-- the two halves, each merged -/
theorem merge_join {c : α → α → Int} {D E F : Nat → α} {n a b mid : Nat} (hm1 : a ≤ mid) (hm2 : mid ≤ b) (hx : ∀ i j, a ≤ i → i < mid → mid ≤ j → j < b → ¬ c (D j) (D i) < 0)
    (h1 : Mix n a mid D E) (h2 : Mix n mid b E F) (s1 : Srt c a mid E) (s2 : Srt c mid b F) : Srt c a b F := by
  intro i j i1 i2 i3
  by_cases ci : i < mid
  · rw [h2.out i (.inl ci)]
    by_cases cj : j < mid
    · rw [h2.out j (.inl cj)]; exact s1 i j i1 i2 cj
    · obtain ⟨j', q1, q2, q3⟩ := h2.mem j (by omega) i3
      obtain ⟨i', r1, r2, r3⟩ := h1.mem i i1 ci
      rw [q3, h1.out j' (.inr q1), r3]
      exact hx i' j' r1 r2 q1 q2
  · exact s2 i j (by omega) i2 i3
/-! ### each is made of swaps -/
theorem xch_mix (D : Nat → α) {n lo hi i j : Nat} (h1 : lo ≤ i) (hn : hi ≤ n) : ∀ l, i + l ≤ j → j + l ≤ hi → Mix n lo hi D (xch D i j l)
  | 0, _, _ => by rw [xch_zero]; exact .refl ..
  | l + 1, h2, h3 => by
    rw [← xch_step D (show i + l < j by omega)]
    exact (xch_mix D h1 hn l (by omega) (by omega)).trans (.swap _ hn (by omega) (by omega) (by omega) (by omega))
theorem shUp_mix (D : Nat → α) {n lo hi a : Nat} (h1 : lo ≤ a) (hn : hi ≤ n) : ∀ d, a + d < hi → Mix n lo hi D (shUp D a (a + d))
  | 0, _ => by rw [Nat.add_zero, shUp_zero]; exact .refl ..
  | d + 1, h2 => by
    rw [← Nat.add_assoc, ← shUp_step D (show a ≤ a + d by omega)]
    exact (shUp_mix D h1 hn d (by omega)).trans (.swap _ hn (by omega) (by omega) (by omega) (by omega))
theorem shDown_mix (D : Nat → α) {n lo hi m : Nat} (h1 : m < hi) (hn : hi ≤ n) : ∀ d, d ≤ m → lo ≤ m - d → Mix n lo hi D (shDown D (m - d) m)
  | 0, _, _ => by rw [Nat.sub_zero, shDown_zero]; exact .refl ..
  | d + 1, h2, h3 => by
    have e := shDown_step D (show m - d ≤ m by omega) (by omega)
    rw [show m - (d + 1) = m - d - 1 by omega, ← e]
    exact (shDown_mix D h1 hn d (by omega) (by omega)).trans (.swap _ hn (by omega) (by omega) (by omega) (by omega))
theorem Srt.short {c : α → α → Int} {a b : Nat} {D : Nat → α} (h : b ≤ a + 1) : Srt c a b D := fun i j h1 h2 h3 => by omega
end Go.Abs
