/- The texts AbsT, AbsU2, AbsU3, AbsU, AbsV: what each proves stands at its head. -/
import Derived.Test.YtiipcnbedgamdaaGreatDoorVG12
section
/- What a call has made and does not hand back is let go. -/
set_option linter.unusedVariables false
namespace Go.Abs

mutual
def bdd (n : Nat) : AV → Prop
  | .poison | .val _ => True
  | .ptr b _ => b < n
  | .cptr cs => bddL n cs
  | .list _ rows own => bddR n rows ∧ (match own with | .fam f => f < n | _ => True)
  | .vref f _ _ _ _ => f < n
  | .vptr f _ _ => f < n
  | .mapr b => b < n
  | .func _ f c => bddL n f ∧ bddL n c
  | .iface _ v => bdd n v
  | .agg cs => bddL n cs
  | .tuple cs => bddL n cs
def bddL (n : Nat) : List AV → Prop
  | [] => True
  | c :: cs => bdd n c ∧ bddL n cs
def bddR (n : Nat) : List (List AV) → Prop
  | [] => True
  | r :: rs => bddL n r ∧ bddR n rs
end

mutual
theorem bdd_of {G : Ghost} : ∀ (a : AV) (x : Value), Rep G a x → bdd G.n a
  | .poison, _, _ => by simp [bdd]
  | .val v, x, k => by simp [bdd]
  | .ptr b off, x, k => by simp only [Rep] at k; simp only [bdd]; exact k.1
  | .cptr cs, x, k => by
    simp only [Rep] at k; simp only [bdd]
    obtain ⟨b, i, _, hm⟩ := k
    exact bdd_mem cs b i hm
  | .list sz rows own, x, k => by
    simp only [Rep] at k; simp only [bdd]
    obtain ⟨base, cap, _, _, _, hb, ho⟩ := k
    refine ⟨?_, ?_⟩
    · cases base with
      | none => obtain ⟨rfl, _⟩ := hb; simp [bddR]
      | some a => exact bdd_rows sz rows _ _ hb.2
    · cases own with
      | fam f => exact ho.1
      | _ => trivial
  | .vref f g sz lo len, x, k => by simp only [Rep] at k; simp only [bdd]; exact k.1
  | .vptr f g off, x, k => by simp only [Rep] at k; simp only [bdd]; exact k.1
  | .mapr b, x, k => by simp only [Rep] at k; simp only [bdd]; exact k.1
  | .func fn f c, x, k => by
    simp only [Rep] at k; simp only [bdd]
    obtain ⟨fs, cs, _, h1, h2⟩ := k
    exact ⟨bdd_l f _ h1, bdd_l c _ h2⟩
  | .iface t v, x, k => by
    simp only [Rep] at k; simp only [bdd]
    obtain ⟨y, _, h1⟩ := k
    exact bdd_of v y h1
  | .agg cs, x, k => by
    simp only [Rep] at k; simp only [bdd]
    obtain ⟨ys, _, h1, _⟩ := k
    exact bdd_l cs _ h1
  | .tuple cs, x, k => by
    simp only [Rep] at k; simp only [bdd]
    obtain ⟨ys, _, h1⟩ := k
    exact bdd_l cs _ h1
theorem bdd_l {G : Ghost} : ∀ (cs : List AV) (ys : List Value), RepL G cs ys → bddL G.n cs
  | [], ys, k => by simp [bddL]
  | c :: cs, ys, k => by
    simp only [RepL] at k; simp only [bddL]
    obtain ⟨y, ys', _, h1, h2⟩ := k
    exact ⟨bdd_of c y h1, bdd_l cs ys' h2⟩
theorem bdd_mem {G : Ghost} : ∀ (cs : List AV) (b i : Nat), RepMem G cs b i → bddL G.n cs
  | [], _, _, _ => by simp [bddL]
  | c :: cs, b, i, k => by
    simp only [RepMem] at k; simp only [bddL]
    obtain ⟨⟨v, _, _, h1⟩, h2⟩ := k
    exact ⟨bdd_of c v h1, bdd_mem cs b (i + 1) h2⟩
theorem bdd_rows {G : Ghost} (sz : Nat) : ∀ (rs : List (List AV)) (b i : Nat), RepRows G sz rs b i → bddR G.n rs
  | [], _, _, _ => by simp [bddR]
  | r :: rs, b, i, k => by
    simp only [RepRows] at k; simp only [bddR]
    exact ⟨bdd_mem r b i k.1.2, bdd_rows sz rs b (i + sz) k.2⟩
end

def Ghost.cut (G : Ghost) (n : Nat) : Ghost := { G with n := n }

mutual
theorem Rep.cut {G : Ghost} {n : Nat} : ∀ (a : AV) (x : Value), Rep G a x → bdd n a → Rep (G.cut n) a x
  | .poison, _, _, _ => by simp [Rep]
  | .val v, x, k, _ => by simpa [Rep] using k
  | .ptr b off, x, k, h => by simp only [Rep, bdd] at k h ⊢; exact ⟨h, k.2⟩
  | .cptr cs, x, k, h => by
    simp only [Rep, bdd] at k h ⊢
    obtain ⟨b, i, hx, hm⟩ := k
    exact ⟨b, i, hx, RepMem.cut cs b i hm h⟩
  | .list sz rows own, x, k, h => by
    simp only [Rep, bdd] at k h ⊢
    obtain ⟨base, cap, hx, hl, hm, hb, ho⟩ := k
    refine ⟨base, cap, hx, hl, hm, ?_, ?_⟩
    · cases base with
      | none => exact hb
      | some a => exact ⟨hb.1, RepRows.cut sz rows _ _ hb.2 h.1⟩
    · cases own with
      | fam f => exact ⟨h.2, ho.2⟩
      | full => exact ho
      | no => trivial
  | .vref f g sz lo len, x, k, h => by simp only [Rep, bdd] at k h ⊢; exact ⟨h, k.2⟩
  | .vptr f g off, x, k, h => by simp only [Rep, bdd] at k h ⊢; exact ⟨h, k.2⟩
  | .mapr b, x, k, h => by simp only [Rep, bdd] at k h ⊢; exact ⟨h, k.2⟩
  | .func fn f c, x, k, h => by
    simp only [Rep, bdd] at k h ⊢
    obtain ⟨fs, cs, hx, h1, h2⟩ := k
    exact ⟨fs, cs, hx, RepL.cut f _ h1 h.1, RepL.cut c _ h2 h.2⟩
  | .iface t v, x, k, h => by
    simp only [Rep, bdd] at k h ⊢
    obtain ⟨y, hx, h1⟩ := k
    exact ⟨y, hx, Rep.cut v y h1 h⟩
  | .agg cs, x, k, h => by
    simp only [Rep, bdd] at k h ⊢
    obtain ⟨ys, hx, h1, h2⟩ := k
    exact ⟨ys, hx, RepL.cut cs _ h1 h, h2⟩
  | .tuple cs, x, k, h => by
    simp only [Rep, bdd] at k h ⊢
    obtain ⟨ys, hx, h1⟩ := k
    exact ⟨ys, hx, RepL.cut cs _ h1 h⟩
theorem RepL.cut {G : Ghost} {n : Nat} : ∀ (cs : List AV) (ys : List Value), RepL G cs ys → bddL n cs → RepL (G.cut n) cs ys
  | [], ys, k, _ => by simpa [RepL] using k
  | c :: cs, ys, k, h => by
    simp only [RepL, bddL] at k h ⊢
    obtain ⟨y, ys', hy, h1, h2⟩ := k
    exact ⟨y, ys', hy, Rep.cut c y h1 h.1, RepL.cut cs ys' h2 h.2⟩
theorem RepMem.cut {G : Ghost} {n : Nat} : ∀ (cs : List AV) (b i : Nat), RepMem G cs b i → bddL n cs → RepMem (G.cut n) cs b i
  | [], _, _, _, _ => by simp [RepMem]
  | c :: cs, b, i, k, h => by
    simp only [RepMem, bddL] at k h ⊢
    obtain ⟨⟨v, hv, ho, h1⟩, h2⟩ := k
    exact ⟨⟨v, hv, ho, Rep.cut c v h1 h.1⟩, RepMem.cut cs b (i + 1) h2 h.2⟩
theorem RepRows.cut {G : Ghost} {n : Nat} (sz : Nat) : ∀ (rs : List (List AV)) (b i : Nat), RepRows G sz rs b i → bddR n rs → RepRows (G.cut n) sz rs b i
  | [], _, _, _, _ => by simp [RepRows]
  | r :: rs, b, i, k, h => by
    simp only [RepRows, bddR] at k h ⊢
    exact ⟨⟨k.1.1, RepMem.cut r b i k.1.2 h.1⟩, RepRows.cut sz rs b (i + sz) k.2 h.2⟩
end

theorem bddL_take {n m : Nat} : ∀ {cs : List AV}, bddL n cs → bddL n (cs.take m)
  | [], _ => by simp [bddL]
  | c :: cs, h => by
    cases m with
    | zero => simp [bddL]
    | succ m => simp only [List.take_succ_cons, bddL] at h ⊢; exact ⟨h.1, bddL_take h.2⟩
theorem entries_bdd {G : Ghost} {es : List (AV × AV × Nat)} {xs : List MapEntry} (h : RepEntries G es xs) : ∀ e ∈ es, bdd G.n e.1 ∧ bdd G.n e.2.1 := by
  induction h with
  | nil => simp
  | cons h1 _ ih =>
    intro e he
    rcases List.mem_cons.1 he with rfl | he
    · exact ⟨bdd_of _ _ h1.1, bdd_of _ _ h1.2.1⟩
    · exact ih e he
theorem RepEntries.cut {G : Ghost} {n : Nat} {es : List (AV × AV × Nat)} {xs : List MapEntry} (h : RepEntries G es xs) : (∀ e ∈ es, bdd n e.1 ∧ bdd n e.2.1) → RepEntries (G.cut n) es xs := by
  induction h with
  | nil => intro _; exact .nil
  | cons h1 _ ih => intro hb; exact .cons ⟨Rep.cut _ _ h1.1 (hb _ (by simp)).1, Rep.cut _ _ h1.2.1 (hb _ (by simp)).2, h1.2.2⟩ (ih fun e he => hb e (by simp [he]))

/-- what lies in an object reaches no further than the memory did -/
def objBdd (n : Nat) : AObj → Prop
  | .cells _ cs => bddL n cs
  | .vec _ sz cs _ hist => ∀ h m, (h, m) ∈ hist → bddL n (cs.take (m * sz))
  | .map es _ => ∀ e ∈ es, bdd n e.1 ∧ bdd n e.2.1
  | .miter m _ _ _ => ∀ b ∈ m, b < n
  | _ => True
theorem ObjInv.bdd {G : Ghost} {w : World} {k : Nat} {o : AObj} (h : ObjInv G w k o) : objBdd G.n o := by
  cases o with
  | cells t cs => obtain ⟨vs, _, h2, _⟩ := h; exact bdd_l _ _ h2
  | vec e sz cs g hist =>
    intro h' m hm
    obtain ⟨_, _, b, o, cap, vs, _, _, _, _, _, q, _⟩ := h.2.1 h' m hm
    exact bdd_l _ _ q
  | map es clock => obtain ⟨xs, _, h2, _⟩ := h; exact entries_bdd h2
  | miter m since seen stepped => exact h.2.1
  | _ => trivial
theorem ObjInv.cut {G : Ghost} {w : World} {k n : Nat} {o : AObj} (h : ObjInv G w k o) (hb : objBdd n o) : ObjInv (G.cut n) w k o := by
  cases o with
  | gone => trivial
  | fam m sz => exact h
  | cells t cs => obtain ⟨vs, h1, h2, h3⟩ := h; exact ⟨vs, h1, RepL.cut _ _ h2 hb, h3⟩
  | vec e sz cs g hist =>
    refine ⟨h.1, fun h' m hm => ?_, h.2.2⟩
    obtain ⟨p1, p2, b, o, cap, vs, q1, q2, q3, q4, q5, q6, q7⟩ := h.2.1 h' m hm
    exact ⟨p1, p2, b, o, cap, vs, q1, q2, q3, q4, q5, RepL.cut _ _ q6 (hb h' m hm), q7⟩
  | map es clock => obtain ⟨xs, h1, h2, h3⟩ := h; exact ⟨xs, h1, h2.cut hb, h3⟩
  | siter s pos => exact h
  | miter m since seen stepped => exact ⟨h.1, hb, h.2.2⟩

/-- the memory is cut back to what was there before the call -/
theorem Inv.cut {C : Ctx} {G G' : Ghost} {M X : Mem} {w w' : World} (hi : Inv C G M w) (hle : G.le G') (hi' : Inv C G' (M ++ X) w') : Inv C (G'.cut M.length) M w' ∧ G.le (G'.cut M.length) := by
  have hn := hi.n
  refine ⟨⟨rfl, hi'.st, hi'.keep, fun k o hk => ?_, fun j k x y b hx hy ox oy => ?_, fun g => ?_, hi'.tab⟩, ⟨by simp [Ghost.cut, hn], hle.blk, hle.st, hle.keep, hle.top, hle.hdr⟩⟩
  · have h1 := hi'.obj k o (by rw [List.getElem?_append_left (getElem?_lt hk)]; exact hk)
    have h2 := (hi.obj k o hk).bdd
    rw [hn] at h2
    exact h1.cut h2
  · refine hi'.apart j k x y b (by rw [List.getElem?_append_left (getElem?_lt hx)]; exact hx) (by rw [List.getElem?_append_left (getElem?_lt hy)]; exact hy) ?_ ?_
    · cases x <;> exact ox
    · cases y <;> exact oy
  · have h2 := bdd_of _ _ (hi.gl g)
    rw [hn] at h2
    exact Rep.cut _ _ (hi'.gl g) h2

/-- a call's leavings are let go where its result does not lead to them -/
theorem ACalls.cut {C : Ctx} {f : FuncId} {args : List AV} {M : Mem} {Q : AV → Mem → Prop} (h : ACalls C f args M Q) {Q' : AV → Mem → Prop} (hq : ∀ r M', Q r M' → ∃ X, M' = M ++ X ∧ bdd M.length r ∧ Q' r M) : ACalls C f args M Q' := by
  intro G w vs hi hr
  refine Calls.mono (h G w vs hi hr) ?_
  rintro e w' ⟨r, M', G', v, rfl, h1, h2, h3, h4, h5⟩
  obtain ⟨X, rfl, hb, hq'⟩ := hq r M' h1
  obtain ⟨k1, k2⟩ := hi.cut h2 h3
  exact ⟨r, M, _, v, rfl, hq', k2, k1, Rep.cut _ _ h4 hb, h5⟩

mutual
def flat : AV → Bool
  | .val _ => true
  | .agg cs => flatL cs
  | .tuple cs => flatL cs
  | .iface _ v => flat v
  | _ => false
def flatL : List AV → Bool
  | [] => true
  | c :: cs => flat c && flatL cs
end
mutual
theorem flat_bdd {n : Nat} : ∀ (a : AV), flat a = true → bdd n a
  | .val v, _ => by simp [bdd]
  | .agg cs, h => by simp only [flat] at h; simp only [bdd]; exact flatL_bdd cs h
  | .tuple cs, h => by simp only [flat] at h; simp only [bdd]; exact flatL_bdd cs h
  | .iface t v, h => by simp only [flat] at h; simp only [bdd]; exact flat_bdd v h
  | .poison, h | .ptr _ _, h | .cptr _, h | .list _ _ _, h | .vref _ _ _ _ _, h | .vptr _ _ _, h | .mapr _, h | .func _ _ _, h => by simp [flat] at h
theorem flatL_bdd {n : Nat} : ∀ (cs : List AV), flatL cs = true → bddL n cs
  | [], _ => by simp [bddL]
  | c :: cs, h => by simp only [flatL, Bool.and_eq_true] at h; simp only [bddL]; exact ⟨flat_bdd c h.1, flatL_bdd cs h.2⟩
end
end Go.Abs
end
section
/- What an operation writes, and that it does not lean on the reserved places. -/
set_option linter.unusedVariables false
namespace Go.Abs

structure Acts (f : Mem → Option (AV × Mem)) (M : Mem) (v : AV) (M1 : Mem) (ws : List Nat) : Prop where
  grow : M.length ≤ M1.length
  old : ∀ i, i < M.length → i ∉ ws → M1[i]? = M[i]?
  keep : KeepsBlank M M1
  fill : ∀ (s : Nat) (X : AObj), M[s]? = some blank → f (M.set s X) = some (v, M1.set s X)

theorem Acts.same {f : Mem → Option (AV × Mem)} {M : Mem} {v : AV} {ws : List Nat} (h : ∀ (s : Nat) (X : AObj), M[s]? = some blank → f (M.set s X) = some (v, M.set s X)) : Acts f M v M ws :=
  ⟨Nat.le_refl _, fun _ _ _ => rfl, fun _ h => h, h⟩
theorem Acts.put {f : Mem → Option (AV × Mem)} {M : Mem} {v : AV} {b : Nat} {o ob : AObj} {ws : List Nat} (hb : M[b]? = some ob) (hne : ob ≠ blank) (hw : b ∈ ws) (h : ∀ (s : Nat) (X : AObj), M[s]? = some blank → f (M.set s X) = some (v, (M.set s X).set b o)) : Acts f M v (M.set b o) ws := by
  have ne : ∀ s : Nat, M[s]? = some blank → b ≠ s := fun s hs e => by subst e; rw [hb] at hs; simp at hs; exact hne hs
  refine ⟨by simp, fun i hi hn => ?_, fun s hs => ?_, fun s X hs => ?_⟩
  · rw [List.getElem?_set_ne (fun e : b = i => hn (by rw [← e]; exact hw))]
  · rw [List.getElem?_set_ne (ne s hs)]; exact hs
  · rw [h s X hs, List.set_comm _ _ (ne s hs).symm]
theorem Acts.app {f : Mem → Option (AV × Mem)} {M Y : Mem} {v : AV} {ws : List Nat} (h : ∀ (s : Nat) (X : AObj), M[s]? = some blank → f (M.set s X) = some (v, M.set s X ++ Y)) : Acts f M v (M ++ Y) ws := by
  refine ⟨by simp, fun i hi _ => by rw [List.getElem?_append_left hi], fun s hs => by rw [List.getElem?_append_left (getElem?_lt hs)]; exact hs, fun s X hs => ?_⟩
  rw [h s X hs, List.set_append_left _ _ (getElem?_lt hs)]

theorem fill_get1 {M : Mem} {s b : Nat} {X ob : AObj} (hs : M[s]? = some blank) (hb : M[b]? = some ob) (hne : ob ≠ blank) : (M.set s X)[b]? = some ob := by
  rw [List.getElem?_set_ne (fun e => by subst e; rw [hb] at hs; simp at hs; exact hne hs)]; exact hb
theorem vec_ne_blank {e sz : Nat} {cs : List AV} {g h n : Nat} {hist : List (Nat × Nat)} (hn : hist.lookup h = some n) : AObj.vec e sz cs g hist ≠ blank := by
  intro e; simp only [blank, AObj.vec.injEq] at e
  rw [e.2.2.2.2] at hn; simp at hn

section
variable {M : Mem} {s : Nat} {X : AObj} (hs : M[s]? = some blank)
include hs
theorem memOf_fill {a : AV} {cs : List AV} (h : memOf M a = some cs) : memOf (M.set s X) a = some cs := by
  unfold memOf at h ⊢
  split at h
  · exact h
  · rename_i b off
    split at h
    case h_2 => simp at h
    rename_i t cs' hb
    rw [fill_get1 hs hb (by simp [blank])]
    exact h
  · rename_i f g off
    split at h
    case h_2 => simp at h
    rename_i e sz cs' g' hist hb
    split at h
    case h_2 => simp at h
    rename_i n hn
    rw [fill_get1 hs hb (vec_ne_blank hn)]
    simp only [hn]
    exact h
  · simp at h
theorem srcCells_fill {sz : Nat} {a : AV} {r : List AV × Nat} (h : srcCells M sz a = some r) : srcCells (M.set s X) sz a = some r := by
  unfold srcCells at h ⊢
  split at h
  · exact h
  · exact h
  · exact h
  · rename_i f h' s' lo len
    split at h
    case h_2 => simp at h
    rename_i e sz' cs' g' hist hb
    split at h
    case h_2 => simp at h
    rename_i n hn
    rw [fill_get1 hs hb (vec_ne_blank hn)]
    simp only [hn]
    exact h
  · simp at h
theorem entriesOf_fill {a : AV} {es : List (AV × AV × Nat)} (h : entriesOf M a = some es) : entriesOf (M.set s X) a = some es := by
  unfold entriesOf at h ⊢
  split at h
  · exact h
  · rename_i b
    split at h
    case h_2 => simp at h
    rename_i es' c hb
    rw [fill_get1 hs hb (by simp [blank])]
    exact h
  · simp at h
theorem lenMore_fill {P : Program} {t : TypeId} {x : AV} {n : Nat} (h : lenMore P t M x = some n) : lenMore P t (M.set s X) x = some n := by
  unfold lenMore at h ⊢
  split at h
  · rename_i b
    split at h
    case h_2 => simp at h
    rename_i k e es c hu hb
    rw [fill_get1 hs hb (by simp [blank]), hu]
    exact h
  · simp at h
end

/-- the objects that an operation may turn -/
def writesOf (o : Oper) (ρ : Operand → AV) : List Nat := match o.op with
  | .store _ a _ => match ρ a with | .ptr b _ => [b] | .vptr f _ _ => [f] | _ => []
  | .mapUpdate _ m _ _ => match ρ m with | .mapr b => [b] | _ => []
  | .insert _ m _ _ => match ρ m with | .mapr b => [b] | _ => []
  | .next x _ => match ρ x with | .ptr b _ => [b] | _ => []
  | .call { callee := .builtin _, args, .. } => match args.toList with
    | d :: _ => match ρ d with | .vref f _ _ _ _ => [f] | .vptr f _ _ => [f] | _ => []
    | [] => []
  | _ => []

theorem evalMem_acts {C : Ctx} {h : Hint} {o : Oper} {ρ : Operand → AV} {M M' : Mem} {v : AV} (he : evalMem C h o ρ M = some (v, M')) : Acts (evalMem C h o ρ) M v M' (writesOf o ρ) := by
  obtain ⟨d, op, t, p, af, g⟩ := o
  have he' := he
  unfold evalMem at he
  simp only at he
  split at he
  · rename_i ty x
    split at he
    case h_3 => simp at he
    all_goals
      rename_i hx
      simp only [Option.map_eq_some_iff, Prod.mk.injEq, Option.bind_eq_some_iff] at he
      obtain ⟨u, ⟨cs, h1, h2⟩, rfl, rfl⟩ := he
      refine .same fun s X hs => ?_
      simp only [evalMem, hx, memOf_fill hs h1, Option.bind_some, h2, Option.map_some]
  · rename_i ty a x
    split at he
    case h_3 => simp at he
    · rename_i b off hb
      split at he
      case h_2 => simp at he
      rename_i bt cs hM
      split at he
      case isFalse => simp at he
      rename_i hc
      simp only [Option.some.injEq, Prod.mk.injEq] at he
      obtain ⟨rfl, rfl⟩ := he
      refine .put hM (by simp [blank]) (by simp [writesOf, hb]) fun s X hs => ?_
      simp only [evalMem, hb, fill_get1 hs hM (by simp [blank]), hc, if_true]
    · rename_i f g' off hb
      split at he
      case h_2 => simp at he
      rename_i vt sz cs g2 hist hM
      split at he
      case h_2 => simp at he
      rename_i n hn
      split at he
      case isFalse => simp at he
      rename_i hc
      simp only [Option.some.injEq, Prod.mk.injEq] at he
      obtain ⟨rfl, rfl⟩ := he
      refine .put hM (vec_ne_blank hn) (by simp [writesOf, hb]) fun s X hs => ?_
      simp only [evalMem, hb, fill_get1 hs hM (vec_ne_blank hn), hn, hc, if_true]
  · rename_i e
    split at he
    case h_2 => simp at he
    rename_i z hz
    split at he
    case isFalse => simp at he
    rename_i hc
    simp only [Option.some.injEq, Prod.mk.injEq] at he
    obtain ⟨rfl, rfl⟩ := he
    refine .app fun s X hs => ?_
    simp only [evalMem, hz, hc, if_true, List.length_set]
  · rename_i e x
    split at he
    case isFalse => simp at he
    rename_i hc
    simp only [Option.some.injEq, Prod.mk.injEq] at he
    obtain ⟨rfl, rfl⟩ := he
    refine .app fun s X hs => ?_
    simp only [evalMem, hc, if_true, List.length_set]
  · simp at he

theorem lookupAV_fill {P : Program} {t : TypeId} {m k : AV} {ok : Bool} {M : Mem} {s : Nat} {X : AObj} (hs : M[s]? = some blank) {v : AV} (h : lookupAV P t M m k ok = some v) : lookupAV P t (M.set s X) m k ok = some v := by
  unfold lookupAV at h ⊢
  cases he : entriesOf M m with
  | none => rw [he] at h; cases hk : mapKV? P t <;> rw [hk] at h <;> simp at h
  | some es => rw [entriesOf_fill hs he]; rw [he] at h; exact h
theorem mapPut_acts {P : Program} {t : TypeId} {m k x v0 : AV} {M M' : Mem} {ws : List Nat} (h : mapPutAV P t M m k x = some M') (hw : ∀ b, m = .mapr b → b ∈ ws) : Acts (fun M => (mapPutAV P t M m k x).map fun M' => (v0, M')) M v0 M' ws := by
  have key : ∃ b es c o, m = .mapr b ∧ M[b]? = some (.map es c) ∧ M' = M.set b o ∧ ∀ M2 : Mem, M2[b]? = some (.map es c) → mapPutAV P t M2 m k x = some (M2.set b o) := by
    unfold mapPutAV at h
    split at h
    case h_2 => simp at h
    rename_i kt et b hkv
    split at h
    case h_2 => simp at h
    rename_i es clock hM
    split at h
    case isFalse => simp at h
    rename_i hc
    split at h
    · rename_i i e0 hf
      split at h
      case h_2 => simp at h
      rename_i ok e1 born hes
      split at h
      case h_2 => simp at h
      rename_i a c ha hc2
      split at h
      case isFalse => simp at h
      rename_i hsb
      simp only [Option.some.injEq] at h
      subst h
      exact ⟨b, es, clock, _, rfl, hM, rfl, fun M2 h2 => by simp only [mapPutAV, hkv, h2, hc, if_true, hf, hes, ha, hc2, hsb]⟩
    · rename_i hf
      simp only [Option.some.injEq] at h
      subst h
      exact ⟨b, es, clock, _, rfl, hM, rfl, fun M2 h2 => by simp only [mapPutAV, hkv, h2, hc, if_true, hf]⟩
    · simp at h
  obtain ⟨b, es, c, o, hm, hM, rfl, hf⟩ := key
  refine .put hM (by simp [blank]) (hw b hm) fun s X hs => ?_
  simp only [hf _ (fill_get1 hs hM (by simp [blank])), Option.map_some]
theorem copy_acts {P : Program} {t u : TypeId} {d s0 v : AV} {M M' : Mem} {ws : List Nat} (h : copyAV P t u M d s0 = some (v, M')) (hw : ∀ f g sz lo len, d = .vref f g sz lo len → f ∈ ws) : Acts (fun M => copyAV P t u M d s0) M v M' ws := by
  unfold copyAV at h
  split at h
  case h_2 => simp at h
  rename_i e he
  split at h
  case h_2 => simp at h
  rename_i sz hsz
  split at h
  case h_2 => simp at h
  rename_i news m hsrc
  split at h
  case h_2 => simp at h
  rename_i f g sz' lo len
  split at h
  case h_2 => simp at h
  rename_i ety sz2 cs g' hist hM
  split at h
  case h_2 => simp at h
  rename_i n hn
  split at h
  case isFalse => simp at h
  rename_i hc
  split at h
  · rename_i h0
    simp only [Option.some.injEq, Prod.mk.injEq] at h
    obtain ⟨rfl, rfl⟩ := h
    refine .same fun s X hs => ?_
    simp only [copyAV, he, hsz, srcCells_fill hs hsrc, fill_get1 hs hM (vec_ne_blank hn), hn, if_pos hc, if_pos h0]
  · rename_i h0
    simp only [Option.some.injEq, Prod.mk.injEq] at h
    obtain ⟨rfl, rfl⟩ := h
    refine .put hM (vec_ne_blank hn) (hw _ _ _ _ _ rfl) fun s X hs => ?_
    simp only [copyAV, he, hsz, srcCells_fill hs hsrc, fill_get1 hs hM (vec_ne_blank hn), hn, if_pos hc, if_neg h0]
theorem vbuild_acts {P : Program} {t : TypeId} {n : Nat} {parts : List (Nat × AV)} {v : AV} {M M' : Mem} {ws : List Nat} (h : vbuildAV P t n parts M = some (v, M')) : Acts (vbuildAV P t n parts) M v M' ws := by
  unfold vbuildAV at h
  split at h
  case h_2 => simp at h
  rename_i e he
  split at h
  case h_2 => simp at h
  rename_i sz z hs hz
  split at h
  case isFalse => simp at h
  rename_i hc
  simp only [Option.map_eq_some_iff, Prod.mk.injEq] at h
  obtain ⟨rows, hr, rfl, rfl⟩ := h
  refine .app fun s X hs' => ?_
  simp only [vbuildAV, he, hs, hz, if_pos hc, hr, Option.map_some, List.length_set]
theorem vmake_acts {P : Program} {t : TypeId} {l c v : AV} {M M' : Mem} {ws : List Nat} (h : vmakeAV P t l c M = some (v, M')) : Acts (vmakeAV P t l c) M v M' ws := by
  unfold vmakeAV at h
  split at h
  case h_2 => simp at h
  rename_i e kl l kc c he
  split at h
  case h_2 => simp at h
  rename_i sz z b hs hz hb
  split at h
  case isFalse => simp at h
  rename_i hc
  simp only [Option.some.injEq, Prod.mk.injEq] at h
  obtain ⟨rfl, rfl⟩ := h
  refine .app fun s X hs' => ?_
  simp only [vmakeAV, he, hs, hz, hb, if_pos hc, List.length_set]

theorem evalMore_acts {C : Ctx} {h : Hint} {o : Oper} {ρ : Operand → AV} {M M' : Mem} {v : AV} (he : evalMore C h o ρ M = some (v, M')) : Acts (evalMore C h o ρ) M v M' (writesOf o ρ) := by
  obtain ⟨d, op, t, p, af, g⟩ := o
  unfold evalMore at he
  simp only at he
  split at he
  · rename_i ty n parts
    split at he
    case isFalse => simp at he
    rename_i hv
    have e : evalMore C h ⟨d, .buildSlice ty n parts, t, p, af, g⟩ ρ = vbuildAV C.P ty n (parts.toList.map fun p => (p.1, ρ p.2)) := by funext M2; simp only [evalMore, hv, if_true]
    rw [e]; exact vbuild_acts he
  · rename_i ty l c; exact vmake_acts he
  · rename_i ty
    simp only [Option.some.injEq, Prod.mk.injEq] at he
    obtain ⟨rfl, rfl⟩ := he
    refine .app fun s X hs => ?_
    simp only [evalMore, List.length_set]
  · rename_i ty m k ok
    simp only [Option.map_eq_some_iff, Prod.mk.injEq] at he
    obtain ⟨v', hv, rfl, rfl⟩ := he
    refine .same fun s X hs => ?_
    simp only [evalMore, lookupAV_fill hs hv, Option.map_some]
  · rename_i ty m k x
    simp only [Option.map_eq_some_iff, Prod.mk.injEq] at he
    obtain ⟨M2, hM2, rfl, rfl⟩ := he
    exact mapPut_acts hM2 (fun b hb => by simp [writesOf, hb])
  · rename_i ty m k x
    simp only [Option.map_eq_some_iff, Prod.mk.injEq] at he
    obtain ⟨M2, hM2, rfl, rfl⟩ := he
    exact mapPut_acts hM2 (fun b hb => by simp [writesOf, hb])
  · rename_i b args ts
    have e : evalMore C h ⟨d, .call { callee := .builtin b, args := args, argTypes := ts }, t, p, af, g⟩ ρ = builtinMore C.P b ts.toList (args.toList.map ρ) := rfl
    rw [e]
    unfold builtinMore at he
    split at he
    · rename_i t' x hts hargs
      simp only [Option.map_eq_some_iff, Prod.mk.injEq] at he
      obtain ⟨n, hn, rfl, rfl⟩ := he
      cases hl : lenMore C.P t' M x with
      | none => rw [hl] at hn; simp at hn
      | some m =>
        refine .same fun s X hs => ?_
        rw [hts, hargs]
        rw [hl] at hn
        simp only [builtinMore, lenMore_fill hs hl]
        rw [hn]; rfl
    · rename_i t' hts hargs
      split at he
      · rename_i hu
        simp only [Option.some.injEq, Prod.mk.injEq] at he
        obtain ⟨rfl, rfl⟩ := he
        refine .same fun s X hs => ?_
        rw [hts, hargs]
        simp only [builtinMore, hu]
      · simp at he
    · rename_i t' u x s0 hts hargs
      rw [hts, hargs]
      refine copy_acts he (fun f g sz lo len hx => ?_)
      cases hl : args.toList with
      | nil => rw [hl] at hargs; simp at hargs
      | cons a l =>
        rw [hl] at hargs
        simp only [List.map_cons, List.cons.injEq] at hargs
        simp only [writesOf, hl]
        rw [hargs.1, hx]; simp
    · simp at he
  · simp at he

theorem evalX_acts {C : Ctx} {o : Oper} {ρ : Operand → AV} {M M' : Mem} {v : AV} (he : evalX C o ρ M = some (v, M')) : Acts (evalX C o ρ) M v M' (writesOf o ρ) := by
  obtain ⟨d, op, t, p, af, g⟩ := o
  unfold evalX at he
  simp only at he
  split at he
  · rename_i ty x
    unfold rangeAV at he
    split at he
    case h_2 => simp at he
    rename_i str hu hx
    simp only [Option.some.injEq, Prod.mk.injEq] at he
    obtain ⟨rfl, rfl⟩ := he
    refine .app fun s X hs => ?_
    simp only [evalX, rangeAV, hu, hx, List.length_set]
  · rename_i x
    unfold nextAV at he
    split at he
    case h_2 => simp at he
    rename_i b hx
    split at he
    case h_2 => simp at he
    rename_i str pos hM
    split at he
    · rename_i hlt
      simp only [Option.some.injEq, Prod.mk.injEq] at he
      obtain ⟨rfl, rfl⟩ := he
      refine .put hM (by simp [blank]) (by simp [writesOf, hx]) fun s X hs => ?_
      simp only [evalX, hx, nextAV, fill_get1 hs hM (by simp [blank]), if_pos hlt]
    · rename_i hlt
      simp only [Option.some.injEq, Prod.mk.injEq] at he
      obtain ⟨rfl, rfl⟩ := he
      refine .same fun s X hs => ?_
      simp only [evalX, hx, nextAV, fill_get1 hs hM (by simp [blank]), if_neg hlt]
  · rename_i ty x lo hi mx
    simp only [Option.map_eq_some_iff, Prod.mk.injEq] at he
    obtain ⟨v', hv, rfl, rfl⟩ := he
    refine .same fun s X hs => ?_
    have key : sliceMore C.P ty (M.set s X) (ρ x) (lo.map ρ) (hi.map ρ) (mx.map ρ) = some v' := by
      unfold sliceMore at hv ⊢
      split at hv
      case h_2 => simp at hv
      rename_i f g' sz lo0 len
      split at hv
      case h_2 => simp at hv
      rename_i hA e1 s1 cs g1 hist hM hM2
      split at hv
      case h_2 => simp at hv
      rename_i n hn
      simp only [hM, fill_get1 hs hM2 (vec_ne_blank hn), hn]
      exact hv
    simp only [evalX, key, Option.map_some]
  · rename_i a b x
    split at he
    · rename_i v' hv
      simp only [Option.some.injEq, Prod.mk.injEq] at he
      obtain ⟨rfl, rfl⟩ := he
      refine .same fun s X hs => ?_
      simp only [evalX, hv]
    · rename_i hnone
      simp only [Option.map_eq_some_iff, Prod.mk.injEq] at he
      obtain ⟨v', hv, rfl, rfl⟩ := he
      refine .same fun s X hs => ?_
      have key : convU C.P a b (M.set s X) (ρ x) = some v' := by
        unfold convU at hv ⊢
        split at hv
        · split at hv
          case h_2 => simp at hv
          rename_i bt cs n hM hn
          rw [fill_get1 hs hM (by simp [blank])]
          simp only [hn]; exact hv
        · split at hv
          case h_2 => simp at hv
          rename_i bt cs n hM hn
          rw [fill_get1 hs hM (by simp [blank])]
          simp only [hn]; exact hv
        · simp at hv
      simp only [evalX, hnone, key, Option.map_some]
  · rename_i b args ts
    have e : evalX C ⟨d, .call { callee := .builtin b, args := args, argTypes := ts }, t, p, af, g⟩ ρ = builtinX C.P b ts.toList (args.toList.map ρ) := rfl
    rw [e]
    have hd : ∀ x l, args.toList.map ρ = x :: l → ∀ f, (∃ g' sz lo len, x = .vref f g' sz lo len) ∨ (∃ g' off, x = .vptr f g' off) → f ∈ writesOf ⟨d, .call { callee := .builtin b, args := args, argTypes := ts }, t, p, af, g⟩ ρ := by
      intro x l hl f hf
      cases ha : args.toList with
      | nil => rw [ha] at hl; simp at hl
      | cons a l2 =>
        rw [ha] at hl
        simp only [List.map_cons, List.cons.injEq] at hl
        simp only [writesOf, ha]
        rw [hl.1]
        rcases hf with ⟨_, _, _, _, rfl⟩ | ⟨_, _, rfl⟩ <;> simp
    unfold builtinX at he
    split at he
    · rename_i ty x hts hargs
      rw [hts, hargs]
      unfold clearAV at he
      split at he
      case h_2 => simp at he
      rename_i f g' sz lo len
      split at he
      case h_2 => simp at he
      rename_i e0 hel
      split at he
      case h_2 => simp at he
      rename_i z ety sz2 cs g2 hist hz hM
      split at he
      case h_2 => simp at he
      rename_i n hn
      split at he
      case isFalse => simp at he
      rename_i hc
      split at he
      · rename_i h0
        simp only [Option.some.injEq, Prod.mk.injEq] at he
        obtain ⟨rfl, rfl⟩ := he
        refine .same fun s X hs => ?_
        simp only [builtinX, clearAV, hel, hz, fill_get1 hs hM (vec_ne_blank hn), hn, if_pos hc, if_pos h0]
      · rename_i h0
        simp only [Option.some.injEq, Prod.mk.injEq] at he
        obtain ⟨rfl, rfl⟩ := he
        refine .put hM (vec_ne_blank hn) (hd _ _ hargs f (.inl ⟨_, _, _, _, rfl⟩)) fun s X hs => ?_
        simp only [builtinX, clearAV, hel, hz, fill_get1 hs hM (vec_ne_blank hn), hn, if_pos hc, if_neg h0]
    · rename_i x hargs
      simp only [Option.map_eq_some_iff, Prod.mk.injEq] at he
      obtain ⟨v', hv, rfl, rfl⟩ := he
      refine .same fun s X hs => ?_
      rw [hargs]
      have key : sliceDataAV (M.set s X) x = some v' := by
        unfold sliceDataAV at hv ⊢
        split at hv
        · exact hv
        · split at hv
          case h_2 => simp at hv
          rename_i ety sz2 cs g2 hist hM
          split at hv
          case h_2 => simp at hv
          rename_i n hn
          simp only [fill_get1 hs hM (vec_ne_blank hn), hn]
          exact hv
        · simp at hv
      simp only [builtinX, key, Option.map_some]
    · rename_i pt it pp nn hts hargs
      rw [hts, hargs]
      unfold unsafeStrAV at he
      split at he
      case h_2 => simp at he
      rename_i n
      split at he
      · rename_i h0
        subst h0
        refine ?_
        split at he
        · simp only [Option.some.injEq, Prod.mk.injEq] at he
          obtain ⟨rfl, rfl⟩ := he
          exact .same fun s X hs => by simp only [builtinX, unsafeStrAV, if_true]
        · simp only [Option.some.injEq, Prod.mk.injEq] at he
          obtain ⟨rfl, rfl⟩ := he
          exact .same fun s X hs => by simp only [builtinX, unsafeStrAV, if_true]
        · simp at he
      · rename_i h0
        split at he
        case h_2 => simp at he
        rename_i f g' off
        split at he
        case h_2 => simp at he
        rename_i e0 ety cs g2 hist hu hM
        split at he
        case h_2 => simp at he
        rename_i m hm
        split at he
        case isFalse => simp at he
        rename_i hc
        split at he
        case h_2 => simp at he
        rename_i l hl
        simp only [Option.some.injEq, Prod.mk.injEq] at he
        obtain ⟨rfl, rfl⟩ := he
        refine .put hM (vec_ne_blank hm) (hd _ _ hargs f (.inr ⟨_, _, rfl⟩)) fun s X hs => ?_
        simp only [builtinX, unsafeStrAV, if_neg h0, hu, fill_get1 hs hM (vec_ne_blank hm), hm, if_pos hc, hl]
    · simp at he
  · simp at he

theorem Acts.of {f g : Mem → Option (AV × Mem)} {M M1 : Mem} {v : AV} {ws : List Nat} (h : Acts f M v M1 ws) (hfg : ∀ M2 v M', f M2 = some (v, M') → g M2 = some (v, M')) : Acts g M v M1 ws :=
  ⟨h.grow, h.old, h.keep, fun s X hs => hfg _ _ _ (h.fill s X hs)⟩
theorem evalMem_only {C : Ctx} {h : Hint} {o : Oper} {ρ : Operand → AV} {M : Mem} {r : AV × Mem} (he : evalMore C h o ρ M = some r) : ∀ M2, evalMem C h o ρ M2 = none := by
  obtain ⟨d, op, t, p, af, g⟩ := o
  intro M2
  cases op <;> first | rfl | (simp [evalMore] at he; done)
theorem evalX_only {C : Ctx} {h : Hint} {o : Oper} {ρ : Operand → AV} {M : Mem} {r : AV × Mem} (he : evalX C o ρ M = some r) : ∀ M2, evalMem C h o ρ M2 = none ∧ evalMore C h o ρ M2 = none := by
  obtain ⟨d, op, t, p, af, g⟩ := o
  intro M2
  cases op <;> first | exact ⟨rfl, rfl⟩ | (simp [evalX] at he; done) | skip
  case call c =>
    obtain ⟨callee, args, ts⟩ := c
    cases callee with
    | builtin b =>
      refine ⟨rfl, ?_⟩
      cases b <;> first | rfl | (simp [evalX, builtinX] at he; done)
    | _ => simp [evalX] at he
theorem evalPure1_only {C : Ctx} {h : Hint} {o : Oper} {ρ : Operand → AV} {v : AV} (he : evalPure1 C o ρ = some v) : ∀ M2, evalMem C h o ρ M2 = none ∧ evalMore C h o ρ M2 = none := by
  obtain ⟨d, op, t, p, af, g⟩ := o
  intro M2
  cases op <;> first | exact ⟨rfl, rfl⟩ | (simp [evalPure1] at he; done)
theorem evalOp_acts {C : Ctx} {h : Hint} {o : Oper} {ρ : Operand → AV} {M M' : Mem} {v : AV} (he : evalOp C h o ρ M = some (v, M')) : Acts (evalOp C h o ρ) M v M' (writesOf o ρ) := by
  unfold evalOp at he
  split at he
  · rename_i u hu
    simp only [Option.some.injEq, Prod.mk.injEq] at he
    obtain ⟨rfl, rfl⟩ := he
    exact .same fun s X hs => by simp only [evalOp, hu]
  rename_i hp
  split at he
  · rename_i r hr
    simp only [Option.some.injEq] at he
    subst he
    exact (evalMem_acts hr).of fun M2 v2 M3 h2 => by simp only [evalOp, hp, h2]
  split at he
  · rename_i r hr
    simp only [Option.some.injEq] at he
    subst he
    exact (evalMore_acts hr).of fun M2 v2 M3 h2 => by simp only [evalOp, hp, evalMem_only hr, h2]
  split at he
  · rename_i u hu
    simp only [Option.some.injEq, Prod.mk.injEq] at he
    obtain ⟨rfl, rfl⟩ := he
    have h1 := evalPure1_only (h := h) hu
    exact .same fun s X hs => by simp only [evalOp, hp, (h1 _).1, (h1 _).2, hu]
  · rename_i hp1
    have h1 := evalX_only (h := h) he
    exact (evalX_acts he).of fun M2 v2 M3 h2 => by simp only [evalOp, hp, (h1 _).1, (h1 _).2, hp1, h2]
end Go.Abs
end
section
/- append: what it writes. -/
set_option linter.unusedVariables false
namespace Go.Abs
def appWrites (s : AV) : List Nat := match s with
  | .vref f _ _ _ _ => [f]
  | _ => []
theorem vappIn_acts {e : TypeId} {sz : Nat} {s0 x v : AV} {M M' : Mem} (h : vappIn e sz s0 x M = some (v, M')) : Acts (vappIn e sz s0 x) M v M' (appWrites s0) := by
  unfold vappIn at h
  split at h
  case h_2 => simp at h
  rename_i news m f h' s' lo len hsrc
  split at h
  case h_2 => simp at h
  rename_i e2 s2 cs g hist hM
  split at h
  case h_2 => simp at h
  rename_i n hn
  split at h
  case isFalse => simp at h
  rename_i hc
  simp only [Option.some.injEq, Prod.mk.injEq] at h
  obtain ⟨rfl, rfl⟩ := h
  refine .put hM (vec_ne_blank hn) (by simp [appWrites]) fun s X hs => ?_
  simp only [vappIn, srcCells_fill hs hsrc, fill_get1 hs hM (vec_ne_blank hn), hn, if_pos hc]
theorem vappAV_acts {e : TypeId} {sz : Nat} {s0 x v : AV} {M M' : Mem} (h : vappAV e sz s0 x M = some (v, M')) : Acts (vappAV e sz s0 x) M v M' (appWrites s0) := by
  unfold vappAV at h
  split at h
  · simp at h
  rename_i news m hsrc
  split at h
  · split at h
    · rename_i h0
      simp only [Option.some.injEq, Prod.mk.injEq] at h
      obtain ⟨rfl, rfl⟩ := h
      exact .same fun s X hs => by simp only [vappAV, srcCells_fill hs hsrc, if_pos h0]
    · rename_i h0
      simp only [Option.some.injEq, Prod.mk.injEq] at h
      obtain ⟨rfl, rfl⟩ := h
      exact .app fun s X hs => by simp only [vappAV, srcCells_fill hs hsrc, if_neg h0, List.length_set]
  · split at h
    case isFalse => simp at h
    rename_i hss
    split at h
    · rename_i h0
      simp only [Option.some.injEq, Prod.mk.injEq] at h
      obtain ⟨rfl, rfl⟩ := h
      exact .same fun s X hs => by simp only [vappAV, srcCells_fill hs hsrc, if_pos hss, if_pos h0]
    · rename_i h0
      simp only [Option.some.injEq, Prod.mk.injEq] at h
      obtain ⟨rfl, rfl⟩ := h
      exact .app fun s X hs => by simp only [vappAV, srcCells_fill hs hsrc, if_pos hss, if_neg h0, List.length_set]
  · rename_i f h' s' lo len
    split at h
    case h_2 => simp at h
    rename_i e2 s2 cs g hist hM
    split at h
    case h_2 => simp at h
    rename_i n hn
    split at h
    case isFalse => simp at h
    rename_i hc
    split at h
    · rename_i h0
      simp only [Option.some.injEq, Prod.mk.injEq] at h
      obtain ⟨rfl, rfl⟩ := h
      exact .same fun s X hs => by simp only [vappAV, srcCells_fill hs hsrc, fill_get1 hs hM (vec_ne_blank hn), hn, if_pos hc, if_pos h0]
    · rename_i h0
      simp only [Option.some.injEq, Prod.mk.injEq] at h
      obtain ⟨rfl, rfl⟩ := h
      exact .put hM (vec_ne_blank hn) (by simp [appWrites]) fun s X hs => by simp only [vappAV, srcCells_fill hs hsrc, fill_get1 hs hM (vec_ne_blank hn), hn, if_pos hc, if_neg h0]
  · simp at h
end Go.Abs
end
section
/- The evaluator's slots; append as a whole. -/
set_option linter.unusedVariables false
namespace Go.Abs

/-! ### slots in a tree -/
inductive BT where
  | leaf (v : AV)
  | node (l r : BT)
def BT.get : BT → Nat → AV
  | .leaf v, n => match n with | 0 => v | _ => .poison
  | .node l r, n => match n % 2 with
    | 0 => l.get (n / 2)
    | _ => r.get (n / 2)
/-- none: the slot lies outside -/
def BT.put : BT → Nat → AV → Option BT
  | .leaf _, n, v => match n with | 0 => some (.leaf v) | _ => none
  | .node l r, n, v => match n % 2 with
    | 0 => match l.put (n / 2) v with | some l => some (.node l r) | none => none
    | _ => match r.put (n / 2) v with | some r => some (.node l r) | none => none
def BT.mk : Nat → BT
  | 0 => .leaf .poison
  | k + 1 => .node (BT.mk k) (BT.mk k)

theorem BT.get_put : ∀ (t t' : BT) (n : Nat) (v : AV), t.put n v = some t' → ∀ m, t'.get m = if m = n then v else t.get m
  | .leaf u, t', n, v, h, m => by
    simp only [BT.put] at h
    split at h
    · simp only [Option.some.injEq] at h
      subst h
      by_cases e : m = 0
      · subst e; simp [BT.get]
      · rw [if_neg e]; cases m with
        | zero => exact absurd rfl e
        | succ m => rfl
    · simp at h
  | .node l r, t', n, v, h, m => by
    simp only [BT.put] at h
    split at h
    · rename_i a
      split at h
      · rename_i l' hl
        simp only [Option.some.injEq] at h
        subst h
        have ih := BT.get_put l l' (n / 2) v hl (m / 2)
        simp only [BT.get]
        split
        · rw [ih]
          rename_i b
          by_cases e : m / 2 = n / 2
          · have : m = n := by omega
            rw [if_pos e, if_pos this]
          · have : ¬ m = n := by intro h; subst h; exact e rfl
            rw [if_neg e, if_neg this]
        · rename_i b
          have : ¬ m = n := by intro h; subst h; exact b a
          rw [if_neg this]
      · simp at h
    · rename_i a
      split at h
      · rename_i r' hr
        simp only [Option.some.injEq] at h
        subst h
        have ih := BT.get_put r r' (n / 2) v hr (m / 2)
        simp only [BT.get]
        split
        · rename_i b
          rw [if_neg (by intro e; subst e; exact a b)]
        · rename_i b
          rw [ih]
          by_cases e : m / 2 = n / 2
          · have : m = n := by
              have a' : ¬ n % 2 = 0 := a
              have b' : ¬ m % 2 = 0 := b
              omega
            rw [if_pos e, if_pos this]
          · have : ¬ m = n := by intro h; subst h; exact e rfl
            rw [if_neg e, if_neg this]
      · simp at h
theorem BT.get_mk : ∀ (k n : Nat), (BT.mk k).get n = .poison
  | 0, n => by cases n <;> rfl
  | k + 1, n => by
    simp only [BT.get, BT.mk]
    split <;> exact BT.get_mk k _

def BT.fn (t : BT) : Env := t.get
def BT.set (t : BT) (d : Option Nat) (v : AV) : Option BT := match d with
  | none => some t
  | some d => t.put d v
theorem BT.set_fn {t t' : BT} {d : Option Nat} {v : AV} (h : t.set d v = some t') : t'.fn = t.fn.put d v := by
  cases d with
  | none => simp only [BT.set, Option.some.injEq] at h; subst h; rfl
  | some d => funext j; exact BT.get_put t t' d v h j
def BT.args : List AV → Nat → BT → Option BT
  | [], _, t => some t
  | a :: l, i, t => match t.put i a with
    | some t => BT.args l (i + 1) t
    | none => none
theorem BT.args_fn : ∀ (l : List AV) (i : Nat) (t t' : BT), BT.args l i t = some t' → ∀ j, t'.get j = if i ≤ j ∧ j < i + l.length then l.getD (j - i) .poison else t.get j
  | [], i, t, t', h, j => by
    simp only [BT.args, Option.some.injEq] at h
    subst h
    rw [if_neg (by simp only [List.length_nil]; omega)]
  | a :: l, i, t, t', h, j => by
    simp only [BT.args] at h
    split at h
    · rename_i t1 h1
      rw [BT.args_fn l (i + 1) t1 t' h j, BT.get_put _ _ _ _ h1]
      by_cases e : j = i
      · subst e
        rw [if_neg (by omega), if_pos rfl, if_pos (by simp)]
        simp
      · by_cases e2 : i + 1 ≤ j ∧ j < i + 1 + l.length
        · rw [if_pos e2, if_pos (by simp only [List.length_cons]; omega)]
          obtain ⟨m, rfl⟩ : ∃ m, j = i + 1 + m := ⟨j - (i + 1), by omega⟩
          rw [show i + 1 + m - (i + 1) = m from by omega, show i + 1 + m - i = m + 1 from by omega]
          simp
        · rw [if_neg e2, if_neg e, if_neg (by simp only [List.length_cons]; omega)]
    · simp at h
theorem BT.args_of {k : Nat} {l : List AV} {t : BT} (h : BT.args l 0 (BT.mk k) = some t) : t.fn = Env.of l := by
  funext j
  show t.get j = _
  rw [BT.args_fn l 0 _ _ h j]
  simp only [Nat.zero_le, true_and, Nat.zero_add, Nat.sub_zero, Env.of]
  split
  · rfl
  · rename_i hj
    rw [BT.get_mk, List.getD_eq_getElem?_getD, List.getElem?_eq_none (by omega)]; rfl

/-! ### append as a whole -/
theorem vappIn_none {e : TypeId} {sz b : Nat} {s0 x : AV} {M : Mem} {X : AObj} {r1 r2 : List AV × Nat} (hs : M[b]? = some blank) (h1 : srcCells M sz s0 = some r1) (h2 : srcCells M sz x = some r2) (h : vappIn e sz s0 x M = none) : vappIn e sz s0 x (M.set b X) = none := by
  cases s0 with
  | vref f h' s' lo len =>
    simp only [srcCells] at h1
    split at h1
    case h_2 => simp at h1
    rename_i e2 s2 cs g hist hM
    split at h1
    case h_2 => simp at h1
    rename_i n hn
    simp only [vappIn, h2, hM, hn] at h
    simp only [vappIn, srcCells_fill hs h2, fill_get1 hs hM (vec_ne_blank hn), hn]
    split at h
    · simp at h
    · rename_i hc; rw [if_neg hc]
  | _ => simp [vappIn]
theorem appMem_acts {e : TypeId} {sz bytes : Nat} {s0 x v : AV} {M M' : Mem} (hv : vecLike true s0 = true) (h : appMem false true e sz bytes s0 x M = some (v, M')) : Acts (appMem false true e sz bytes s0 x) M v M' (appWrites s0) := by
  unfold appMem at h
  rw [if_pos hv] at h
  split at h
  case h_2 => simp at h
  rename_i c1 k c2 m h1 h2
  split at h
  case isFalse => simp at h
  rename_i hb
  split at h
  · rename_i r hr
    simp only [Option.some.injEq] at h
    subst h
    have ha := vappIn_acts hr
    exact ⟨ha.grow, ha.old, ha.keep, fun s X hs => by simp only [appMem, if_pos hv, srcCells_fill hs h1, srcCells_fill hs h2, if_pos hb, ha.fill s X hs]⟩
  · rename_i hr
    have ha := vappAV_acts h
    exact ⟨ha.grow, ha.old, ha.keep, fun s X hs => by simp only [appMem, if_pos hv, srcCells_fill hs h1, srcCells_fill hs h2, if_pos hb, vappIn_none hs h1 h2 hr, ha.fill s X hs]⟩
end Go.Abs
end
section
/- The evaluator: a call without unknowns is run on abstract values, and what it answers is its contract. -/
set_option linter.unusedVariables false
namespace Go.Abs

def HX : Hint := ⟨fun _ => false, fun _ => false, fun _ => true⟩

abbrev XR := AV × Mem × List Nat
abbrev CallF := FuncId → List AV → Mem → Option XR

structure XActs (f : Mem → Option XR) (M : Mem) (v : AV) (M1 : Mem) (ws : List Nat) : Prop where
  grow : M.length ≤ M1.length
  old : ∀ i, i < M.length → i ∉ ws → M1[i]? = M[i]?
  keep : KeepsBlank M M1
  fill : ∀ (s : Nat) (X : AObj), M[s]? = some blank → f (M.set s X) = some (v, M1.set s X, ws)
theorem Acts.x {f : Mem → Option (AV × Mem)} {M M1 : Mem} {v : AV} {ws : List Nat} (h : Acts f M v M1 ws) {g : Mem → Option XR} (hg : ∀ M2 M3, f M2 = some (v, M3) → g M2 = some (v, M3, ws)) : XActs g M v M1 ws :=
  ⟨h.grow, h.old, h.keep, fun s X hs => hg _ _ (h.fill s X hs)⟩
theorem XActs.same {f : Mem → Option XR} {M : Mem} {v : AV} {ws : List Nat} (h : ∀ (s : Nat) (X : AObj), M[s]? = some blank → f (M.set s X) = some (v, M.set s X, ws)) : XActs f M v M ws :=
  ⟨Nat.le_refl _, fun _ _ _ => rfl, fun _ h => h, h⟩
theorem blanks_tail {M : Mem} {p : Nat × AObj} {l : List (Nat × AObj)} (hb : Blanks M (p :: l)) : M[p.1]? = some blank ∧ Blanks (M.set p.1 p.2) l := by
  obtain ⟨h1, h2⟩ := hb
  simp only [List.map_cons, List.nodup_cons] at h2
  refine ⟨h1 p (by simp), fun q hq => ?_, h2.2⟩
  rw [List.getElem?_set_ne (fun e => h2.1 (by rw [e]; exact List.mem_map_of_mem hq))]
  exact h1 q (by simp [hq])
theorem fills_of {f : Mem → Option XR} (ha : ∀ M v M1 ws, f M = some (v, M1, ws) → XActs f M v M1 ws) : ∀ (l : List (Nat × AObj)) (M M1 : Mem) (v : AV) (ws : List Nat), f M = some (v, M1, ws) → Blanks M l → f (Go.Abs.fill M l) = some (v, Go.Abs.fill M1 l, ws)
  | [], M, M1, v, ws, h, _ => h
  | p :: l, M, M1, v, ws, h, hb => by
    obtain ⟨h1, h2⟩ := blanks_tail hb
    exact fills_of ha l (M.set p.1 p.2) (M1.set p.1 p.2) v ws ((ha _ _ _ _ h).fill p.1 p.2 h1) h2

def CallOK (C : Ctx) (call : CallF) : Prop := ∀ g args M v M1 ws, call g args M = some (v, M1, ws) → Invk C g args M (fun r m => r = v ∧ m = M1) ∧ XActs (call g args) M v M1 ws

/-! ### append -/
def srcOkB (P : Program) (u : TypeId) : Bool := match P.underlying u with | some (.slice _) | some .string => true | _ => false
def elemFacts (P : Program) (e : TypeId) : Option (Nat × Nat) := match P.info? e with
  | some i => match i.zero with
    | some z => if z.cells.size = i.size ∧ 0 < i.bytes then some (i.size, i.bytes) else none
    | none => none
  | none => none
theorem elemFacts_ok {P : Program} {e : TypeId} {sz bytes : Nat} (h : elemFacts P e = some (sz, bytes)) : elemOk P e sz bytes := by
  unfold elemFacts at h
  split at h
  · rename_i i hi
    split at h
    · rename_i z hz
      split at h
      · rename_i hc
        simp only [Option.some.injEq, Prod.mk.injEq] at h
        obtain ⟨rfl, rfl⟩ := h
        exact ⟨i, z, hi, hz, rfl, rfl, hc.1, hc.2⟩
      · simp at h
    · simp at h
  · simp at h
theorem srcOkB_ok {P : Program} {u : TypeId} (h : srcOkB P u = true) : srcOk P u := by
  unfold srcOkB at h
  split at h
  · rename_i e hu; exact .inl ⟨e, hu⟩
  · rename_i hu; exact .inr hu
  · simp at h
def xAppend (P : Program) (t u : TypeId) (s x : AV) (M : Mem) : Option XR := match elemOf? P t with
  | some e => match elemFacts P e with
    | some (sz, bytes) => match srcOkB P u, vecLike true s with
      | true, true => match appMem false true e sz bytes s x M with
        | some (v, M') => some (v, M', appWrites s)
        | none => none
      | _, _ => none
    | none => none
  | none => none
theorem xAppend_ok {C : Ctx} {t u : TypeId} {s x v : AV} {M M' : Mem} {ws : List Nat} (h : xAppend C.P t u s x M = some (v, M', ws)) :
    (∃ e sz bytes, appendOk C.P t u sz bytes e ∧ appMem false true e sz bytes s x M = some (v, M') ∧ Acts (appMem false true e sz bytes s x) M v M' ws) ∧ XActs (xAppend C.P t u s x) M v M' ws := by
  unfold xAppend at h
  split at h
  case h_2 => simp at h
  rename_i e he
  split at h
  case h_2 => simp at h
  rename_i sz bytes hf
  split at h
  case h_2 => simp at h
  rename_i hu hv
  split at h
  case h_2 => simp at h
  rename_i v1 M1 ha
  simp only [Option.some.injEq, Prod.mk.injEq] at h
  obtain ⟨rfl, rfl, rfl⟩ := h
  have hact := appMem_acts hv ha
  refine ⟨⟨e, sz, bytes, ⟨he, srcOkB_ok hu, elemFacts_ok hf⟩, ha, hact⟩, hact.x fun M2 M3 h2 => ?_⟩
  simp only [xAppend, he, hf, hu, hv, h2]

/-! ### one operation -/
def xOp (call : CallF) (C : Ctx) (o : Oper) (ρ : Operand → AV) (M : Mem) : Option XR :=
  match o.op with
  | .call { callee := .value f, args, .. } => match ρ f with
    | .func (.func g) first captured => call g (first ++ args.toList.map ρ ++ captured) M
    | _ => none
  | .call { callee := .builtin .append, args, argTypes } => match args.toList, argTypes.toList with
    | [s, x], [t, u] => match o.dst with
      | some _ => xAppend C.P t u (ρ s) (ρ x) M
      | none => none
    | _, _ => none
  | _ => match evalPure C HX o ρ with
    | some v => some (v, M, [])
    | none => match evalOp C HX o ρ M with
      | some (v, M') => some (v, M', writesOf o ρ)
      | none => none

theorem xOp_ok {call : CallF} {C : Ctx} (hc : CallOK C call) {o : Oper} {ρ : Operand → AV} {M M' : Mem} {v : AV} {ws : List Nat} (h : xOp call C o ρ M = some (v, M', ws)) :
    (∀ K : AV → Mem → Prop, K v M' → vcOp C HX o K ρ M) ∧ XActs (xOp call C o ρ) M v M' ws := by
  obtain ⟨d, op, t, p, af, g⟩ := o
  unfold xOp at h
  simp only at h
  split at h
  · rename_i f args ts
    split at h
    case h_2 => simp at h
    rename_i g' first captured hf
    obtain ⟨h1, h2⟩ := hc _ _ _ _ _ _ h
    refine ⟨fun K hk => ?_, ⟨h2.grow, h2.old, h2.keep, fun s X hs => by simp only [xOp, hf]; exact h2.fill s X hs⟩⟩
    simp only [vcOp, hf]
    refine h1.mono ?_
    rintro r m ⟨rfl, rfl⟩
    exact hk
  · rename_i args ts
    split at h
    case h_2 => simp at h
    rename_i s x t' u ha ht
    split at h
    case h_2 => simp at h
    rename_i d0
    obtain ⟨⟨e, sz, bytes, q1, q2, _⟩, q3⟩ := xAppend_ok h
    refine ⟨fun K hk => ?_, ⟨q3.grow, q3.old, q3.keep, fun s X hs => by simp only [xOp, ha, ht]; exact q3.fill s X hs⟩⟩
    simp only [vcOp, ha, ht]
    refine ⟨e, sz, bytes, q1, ?_⟩
    have : appMem (hintAt HX.own (some d0)) (hintAt HX.vec (some d0)) e sz bytes (ρ s) (ρ x) M = some (v, M') := q2
    rw [this]; exact hk
  · rename_i hne1 hne2
    have vc : ∀ v M', evalOp C HX ⟨d, op, t, p, af, g⟩ ρ M = some (v, M') → ∀ K : AV → Mem → Prop, K v M' → vcOp C HX ⟨d, op, t, p, af, g⟩ K ρ M := by
      intro v M' he K hk
      unfold vcOp
      split
      · rename_i heq; exact absurd heq (by intro e; exact hne1 _ _ _ e)
      · rename_i heq; exact absurd heq (by intro e; exact hne2 _ _ e)
      · rw [he]; exact hk
    have xo : ∀ M2, xOp call C ⟨d, op, t, p, af, g⟩ ρ M2 = (match evalPure C HX ⟨d, op, t, p, af, g⟩ ρ with
    | some v => some (v, M2, [])
    | none => match evalOp C HX ⟨d, op, t, p, af, g⟩ ρ M2 with
      | some (v, M') => some (v, M', writesOf ⟨d, op, t, p, af, g⟩ ρ)
      | none => none) := by
      intro M2
      unfold xOp
      split
      · rename_i heq; exact absurd heq (by intro e; exact hne1 _ _ _ e)
      · rename_i heq; exact absurd heq (by intro e; exact hne2 _ _ e)
      · rfl
    split at h
    · rename_i v1 hp
      simp only [Option.some.injEq, Prod.mk.injEq] at h
      obtain ⟨rfl, rfl, rfl⟩ := h
      exact ⟨vc _ _ (by simp only [evalOp, hp]), .same fun s X _ => by simp only [xo, hp]⟩
    · rename_i hp
      split at h
      · rename_i v1 M1 he
        simp only [Option.some.injEq, Prod.mk.injEq] at h
        obtain ⟨rfl, rfl, rfl⟩ := h
        exact ⟨vc _ _ he, (evalOp_acts he).x fun M2 M3 h2 => by simp only [xo, hp, h2]⟩
      · simp at h

/-! ### what is written -/
def memN : Nat → List Nat → Bool
  | _, [] => false
  | n, a :: l => match Nat.beq n a with
    | true => true
    | false => memN n l
theorem memN_iff {n : Nat} : ∀ {l : List Nat}, memN n l = true ↔ n ∈ l
  | [] => by simp [memN]
  | a :: l => by
    simp only [memN]
    split
    · rename_i h; simp [Nat.eq_of_beq_eq_true h]
    · rename_i h
      rw [memN_iff (l := l)]
      have : n ≠ a := by intro e; subst e; rw [Nat.beq_refl] at h; simp at h
      simp [this]
def wsAdd (base : Nat) : List Nat → List Nat → List Nat
  | [], ws => ws
  | b :: l, ws => match Nat.ble base b, memN b ws with
    | false, false => wsAdd base l (b :: ws)
    | _, _ => wsAdd base l ws
theorem wsAdd_old {base : Nat} : ∀ {l ws : List Nat} {i : Nat}, i < base → i ∉ wsAdd base l ws → i ∉ l ∧ i ∉ ws
  | [], ws, i, _, h => ⟨by simp, h⟩
  | b :: l, ws, i, hi, h => by
    simp only [wsAdd] at h
    split at h
    · have := wsAdd_old hi h
      simp only [List.mem_cons, not_or] at this ⊢
      exact ⟨⟨this.2.1, this.1⟩, this.2.2⟩
    · rename_i hne
      have := wsAdd_old hi h
      refine ⟨?_, this.2⟩
      simp only [List.mem_cons, not_or]
      refine ⟨?_, this.1⟩
      intro e
      subst e
      have h1 : Nat.ble base i = false := by
        cases hb : Nat.ble base i with
        | false => rfl
        | true => have := Nat.le_of_ble_eq_true hb; omega
      have h2 : memN i ws = false := by
        cases hm : memN i ws with
        | false => rfl
        | true => exact absurd (memN_iff.1 hm) this.2
      exact hne h1 h2
def Old (base : Nat) (ws : List Nat) (M0 M : Mem) : Prop := ∀ i, i < base → i ∉ ws → M[i]? = M0[i]?
theorem Old.add {base : Nat} {l ws : List Nat} {M0 M M1 : Mem} (h : Old base ws M0 M) (hb : base ≤ M.length) (hs : ∀ i, i < M.length → i ∉ l → M1[i]? = M[i]?) : Old base (wsAdd base l ws) M0 M1 := by
  intro i hi hn
  obtain ⟨h1, h2⟩ := wsAdd_old hi hn
  rw [hs i (by omega) h1, h i hi h2]

structure Goes {R : Type} (base : Nat) (f : Mem → Option R) (mk : Mem → R) (M M' : Mem) (ws ws' : List Nat) : Prop where
  grow : M.length ≤ M'.length
  keep : KeepsBlank M M'
  old : base ≤ M.length → ∀ M0, Old base ws M0 M → Old base ws' M0 M'
  fill : ∀ (s : Nat) (X : AObj), M[s]? = some blank → f (M.set s X) = some (mk (M'.set s X))
theorem Goes.same {R : Type} {base : Nat} {f : Mem → Option R} {mk : Mem → R} {M : Mem} {ws : List Nat} (h : ∀ (s : Nat) (X : AObj), M[s]? = some blank → f (M.set s X) = some (mk (M.set s X))) : Goes base f mk M M ws ws :=
  ⟨Nat.le_refl _, fun _ h => h, fun _ _ h => h, h⟩
/-- two steps, the second behind the first -/
theorem Goes.trans {R R2 : Type} {base : Nat} {f : Mem → Option R} {mk : Mem → R} {f2 : Mem → Option R2} {mk2 : Mem → R2} {f3 : Mem → Option R2} {M M1 M2 : Mem} {ws ws1 ws2 : List Nat} (h : Goes base f mk M M1 ws ws1) (k : Goes base f2 mk2 M1 M2 ws1 ws2)
    (hf : ∀ A B, f A = some (mk B) → f3 A = f2 B) : Goes base f3 mk2 M M2 ws ws2 :=
  ⟨Nat.le_trans h.grow k.grow, fun s hs => k.keep s (h.keep s hs), fun hb M0 h0 => k.old (Nat.le_trans hb h.grow) M0 (h.old hb M0 h0), fun s X hs => by rw [hf _ _ (h.fill s X hs)]; exact k.fill s X (h.keep s hs)⟩
theorem XActs.goes {R : Type} {base : Nat} {g : Mem → Option XR} {f : Mem → Option R} {mk : Mem → R} {M M1 : Mem} {v : AV} {l ws : List Nat} (h : XActs g M v M1 l) (hf : ∀ A B, g A = some (v, B, l) → f A = some (mk B)) : Goes base f mk M M1 ws (wsAdd base l ws) :=
  ⟨h.grow, h.keep, fun hb M0 h0 => h0.add hb h.old, fun s X hs => hf _ _ (h.fill s X hs)⟩
theorem Goes.turn {R R2 : Type} {base : Nat} {f : Mem → Option R} {mk : Mem → R} {f2 : Mem → Option R2} {mk2 : Mem → R2} {M M1 : Mem} {ws ws1 : List Nat} (h : Goes base f mk M M1 ws ws1) (hf : ∀ A B, f A = some (mk B) → f2 A = some (mk2 B)) : Goes base f2 mk2 M M1 ws ws1 :=
  ⟨h.grow, h.keep, h.old, fun s X hs => hf _ _ (h.fill s X hs)⟩

/-! ### regions -/
def xGuard (ops : Array Oper) (o : Oper) (t : BT) : Option Bool := match o.guard with
  | none => some true
  | some (j, want) => match (ops[j]?).bind (·.dst) with
    | some d => match t.get d with
      | .val (.bool b) => some (b == want)
      | .val (.tuple _) => some false
      | _ => none
    | none => none
theorem xGuard_ok {ops : Array Oper} {o : Oper} {t : BT} {b : Bool} (h : xGuard ops o t = some b) (run skip : Prop) : vcGuard ops o t.fn run skip = if b = true then run else skip := by
  unfold xGuard at h
  unfold vcGuard
  split at h
  · rename_i hg
    simp only [Option.some.injEq] at h
    subst h
    rw [hg]; simp
  · rename_i j want hg
    rw [hg]
    simp only
    split at h
    · rename_i d hd
      rw [hd]
      simp only [BT.fn]
      split at h
      · rename_i b' hb
        simp only [Option.some.injEq] at h
        subst h
        rw [hb]
        simp only [beq_iff_eq]
      · rename_i hb
        simp only [Option.some.injEq] at h
        subst h
        rw [hb]; simp
      · simp at h
    · simp at h

def xOps (call : CallF) (C : Ctx) (base : Nat) (ops : Array Oper) : List Oper → BT → Mem → List Nat → Option (BT × Mem × List Nat)
  | [], t, M, ws => some (t, M, ws)
  | o :: rest, t, M, ws => match xGuard ops o t with
    | some true => match xOp call C o (t.fn.ev C) M with
      | some (v, M', l) => match t.set o.dst v with
        | some t' => xOps call C base ops rest t' M' (wsAdd base l ws)
        | none => none
      | none => none
    | some false => match t.set o.dst (.val undef) with
      | some t' => xOps call C base ops rest t' M ws
      | none => none
    | none => none

theorem xOps_ok {call : CallF} {C : Ctx} (hc : CallOK C call) {base : Nat} {ops : Array Oper} : ∀ (l : List Oper) (t : BT) (M : Mem) (ws : List Nat) (t' : BT) (M' : Mem) (ws' : List Nat), xOps call C base ops l t M ws = some (t', M', ws') →
    vcOps C HX ops l (fun T m => T = t'.fn ∧ m = M') t.fn M ∧ Goes base (fun m => xOps call C base ops l t m ws) (fun m => (t', m, ws')) M M' ws ws'
  | [], t, M, ws, t', M', ws', h => by
    simp only [xOps, Option.some.injEq, Prod.mk.injEq] at h
    obtain ⟨rfl, rfl, rfl⟩ := h
    exact ⟨⟨rfl, rfl⟩, .same fun _ _ _ => rfl⟩
  | o :: rest, t, M, ws, t', M', ws', h => by
    simp only [xOps] at h
    simp only [vcOps]
    split at h
    · rename_i hgd
      split at h
      case h_2 => simp at h
      rename_i v M1 l2 ho
      split at h
      case h_2 => simp at h
      rename_i t1 ht
      obtain ⟨h1, h2⟩ := xOp_ok hc ho
      obtain ⟨h3, h4⟩ := xOps_ok hc rest t1 M1 (wsAdd base l2 ws) t' M' ws' h
      refine ⟨?_, (h2.goes (base := base) (ws := ws) (f := xOp call C o (t.fn.ev C)) (mk := fun B => (v, B, l2)) (fun A B e => e)).trans h4 (fun A B e => ?_)⟩
      · rw [xGuard_ok hgd, if_pos rfl]
        refine h1 _ ?_
        rw [← BT.set_fn ht]; exact h3
      · simp only [xOps, hgd, e, ht]
    · rename_i hgd
      split at h
      case h_2 => simp at h
      rename_i t1 ht
      obtain ⟨h3, h4⟩ := xOps_ok hc rest t1 M ws t' M' ws' h
      refine ⟨?_, h4.turn (fun A B e => by simp only [xOps, hgd, ht]; exact e)⟩
      rw [xGuard_ok hgd, if_neg (by simp), ← BT.set_fn ht]; exact h3
    · simp at h
end Go.Abs
end
