/- The texts AbsT, AbsU2, AbsU3: what each proves stands at its head. -/
import Derived.Test.YtlihfpfgogncbaaGreatDoorG16
section
/- What a call has made and does not hand back is let go. -/
set_option linter.unusedVariables false
namespace Go.Abs

mutual
def bdd (n : Nat) : AV → Prop
  | .poison | .val _ => True
  | .ptr b _ => b < n
  | .cptr cs => bddL n cs
  | .list _ rows own => bddR n rows ∧ (match own with | .fam f => f < n | _ => True)
  | .vref f _ _ _ _ => f < n
  | .vptr f _ _ => f < n
  | .mapr b => b < n
  | .func _ f c => bddL n f ∧ bddL n c
  | .iface _ v => bdd n v
  | .agg cs => bddL n cs
  | .tuple cs => bddL n cs
def bddL (n : Nat) : List AV → Prop
  | [] => True
  | c :: cs => bdd n c ∧ bddL n cs
def bddR (n : Nat) : List (List AV) → Prop
  | [] => True
  | r :: rs => bddL n r ∧ bddR n rs
end

mutual
theorem bdd_of {G : Ghost} : ∀ (a : AV) (x : Value), Rep G a x → bdd G.n a
  | .poison, _, _ => by simp [bdd]
  | .val v, x, k => by simp [bdd]
  | .ptr b off, x, k => by simp only [Rep] at k; simp only [bdd]; exact k.1
  | .cptr cs, x, k => by
    simp only [Rep] at k; simp only [bdd]
    obtain ⟨b, i, _, hm⟩ := k
    exact bdd_mem cs b i hm
  | .list sz rows own, x, k => by
    simp only [Rep] at k; simp only [bdd]
    obtain ⟨base, cap, _, _, _, hb, ho⟩ := k
    refine ⟨?_, ?_⟩
    · cases base with
      | none => obtain ⟨rfl, _⟩ := hb; simp [bddR]
      | some a => exact bdd_rows sz rows _ _ hb.2
    · cases own with
      | fam f => exact ho.1
      | _ => trivial
  | .vref f g sz lo len, x, k => by simp only [Rep] at k; simp only [bdd]; exact k.1
  | .vptr f g off, x, k => by simp only [Rep] at k; simp only [bdd]; exact k.1
  | .mapr b, x, k => by simp only [Rep] at k; simp only [bdd]; exact k.1
  | .func fn f c, x, k => by
    simp only [Rep] at k; simp only [bdd]
    obtain ⟨fs, cs, _, h1, h2⟩ := k
    exact ⟨bdd_l f _ h1, bdd_l c _ h2⟩
  | .iface t v, x, k => by
    simp only [Rep] at k; simp only [bdd]
    obtain ⟨y, _, h1⟩ := k
    exact bdd_of v y h1
  | .agg cs, x, k => by
    simp only [Rep] at k; simp only [bdd]
    obtain ⟨ys, _, h1, _⟩ := k
    exact bdd_l cs _ h1
  | .tuple cs, x, k => by
    simp only [Rep] at k; simp only [bdd]
    obtain ⟨ys, _, h1⟩ := k
    exact bdd_l cs _ h1
theorem bdd_l {G : Ghost} : ∀ (cs : List AV) (ys : List Value), RepL G cs ys → bddL G.n cs
  | [], ys, k => by simp [bddL]
  | c :: cs, ys, k => by
    simp only [RepL] at k; simp only [bddL]
    obtain ⟨y, ys', _, h1, h2⟩ := k
    exact ⟨bdd_of c y h1, bdd_l cs ys' h2⟩
theorem bdd_mem {G : Ghost} : ∀ (cs : List AV) (b i : Nat), RepMem G cs b i → bddL G.n cs
  | [], _, _, _ => by simp [bddL]
  | c :: cs, b, i, k => by
    simp only [RepMem] at k; simp only [bddL]
    obtain ⟨⟨v, _, _, h1⟩, h2⟩ := k
    exact ⟨bdd_of c v h1, bdd_mem cs b (i + 1) h2⟩
theorem bdd_rows {G : Ghost} (sz : Nat) : ∀ (rs : List (List AV)) (b i : Nat), RepRows G sz rs b i → bddR G.n rs
  | [], _, _, _ => by simp [bddR]
  | r :: rs, b, i, k => by
    simp only [RepRows] at k; simp only [bddR]
    exact ⟨bdd_mem r b i k.1.2, bdd_rows sz rs b (i + sz) k.2⟩
end

def Ghost.cut (G : Ghost) (n : Nat) : Ghost := { G with n := n }

mutual
theorem Rep.cut {G : Ghost} {n : Nat} : ∀ (a : AV) (x : Value), Rep G a x → bdd n a → Rep (G.cut n) a x
  | .poison, _, _, _ => by simp [Rep]
  | .val v, x, k, _ => by simpa [Rep] using k
  | .ptr b off, x, k, h => by simp only [Rep, bdd] at k h ⊢; exact ⟨h, k.2⟩
  | .cptr cs, x, k, h => by
    simp only [Rep, bdd] at k h ⊢
    obtain ⟨b, i, hx, hm⟩ := k
    exact ⟨b, i, hx, RepMem.cut cs b i hm h⟩
  | .list sz rows own, x, k, h => by
    simp only [Rep, bdd] at k h ⊢
    obtain ⟨base, cap, hx, hl, hm, hb, ho⟩ := k
    refine ⟨base, cap, hx, hl, hm, ?_, ?_⟩
    · cases base with
      | none => exact hb
      | some a => exact ⟨hb.1, RepRows.cut sz rows _ _ hb.2 h.1⟩
    · cases own with
      | fam f => exact ⟨h.2, ho.2⟩
      | full => exact ho
      | no => trivial
  | .vref f g sz lo len, x, k, h => by simp only [Rep, bdd] at k h ⊢; exact ⟨h, k.2⟩
  | .vptr f g off, x, k, h => by simp only [Rep, bdd] at k h ⊢; exact ⟨h, k.2⟩
  | .mapr b, x, k, h => by simp only [Rep, bdd] at k h ⊢; exact ⟨h, k.2⟩
  | .func fn f c, x, k, h => by
    simp only [Rep, bdd] at k h ⊢
    obtain ⟨fs, cs, hx, h1, h2⟩ := k
    exact ⟨fs, cs, hx, RepL.cut f _ h1 h.1, RepL.cut c _ h2 h.2⟩
  | .iface t v, x, k, h => by
    simp only [Rep, bdd] at k h ⊢
    obtain ⟨y, hx, h1⟩ := k
    exact ⟨y, hx, Rep.cut v y h1 h⟩
  | .agg cs, x, k, h => by
    simp only [Rep, bdd] at k h ⊢
    obtain ⟨ys, hx, h1, h2⟩ := k
    exact ⟨ys, hx, RepL.cut cs _ h1 h, h2⟩
  | .tuple cs, x, k, h => by
    simp only [Rep, bdd] at k h ⊢
    obtain ⟨ys, hx, h1⟩ := k
    exact ⟨ys, hx, RepL.cut cs _ h1 h⟩
theorem RepL.cut {G : Ghost} {n : Nat} : ∀ (cs : List AV) (ys : List Value), RepL G cs ys → bddL n cs → RepL (G.cut n) cs ys
  | [], ys, k, _ => by simpa [RepL] using k
  | c :: cs, ys, k, h => by
    simp only [RepL, bddL] at k h ⊢
    obtain ⟨y, ys', hy, h1, h2⟩ := k
    exact ⟨y, ys', hy, Rep.cut c y h1 h.1, RepL.cut cs ys' h2 h.2⟩
theorem RepMem.cut {G : Ghost} {n : Nat} : ∀ (cs : List AV) (b i : Nat), RepMem G cs b i → bddL n cs → RepMem (G.cut n) cs b i
  | [], _, _, _, _ => by simp [RepMem]
  | c :: cs, b, i, k, h => by
    simp only [RepMem, bddL] at k h ⊢
    obtain ⟨⟨v, hv, ho, h1⟩, h2⟩ := k
    exact ⟨⟨v, hv, ho, Rep.cut c v h1 h.1⟩, RepMem.cut cs b (i + 1) h2 h.2⟩
theorem RepRows.cut {G : Ghost} {n : Nat} (sz : Nat) : ∀ (rs : List (List AV)) (b i : Nat), RepRows G sz rs b i → bddR n rs → RepRows (G.cut n) sz rs b i
  | [], _, _, _, _ => by simp [RepRows]
  | r :: rs, b, i, k, h => by
    simp only [RepRows, bddR] at k h ⊢
    exact ⟨⟨k.1.1, RepMem.cut r b i k.1.2 h.1⟩, RepRows.cut sz rs b (i + sz) k.2 h.2⟩
end

theorem bddL_take {n m : Nat} : ∀ {cs : List AV}, bddL n cs → bddL n (cs.take m)
  | [], _ => by simp [bddL]
  | c :: cs, h => by
    cases m with
    | zero => simp [bddL]
    | succ m => simp only [List.take_succ_cons, bddL] at h ⊢; exact ⟨h.1, bddL_take h.2⟩
theorem entries_bdd {G : Ghost} {es : List (AV × AV × Nat)} {xs : List MapEntry} (h : RepEntries G es xs) : ∀ e ∈ es, bdd G.n e.1 ∧ bdd G.n e.2.1 := by
  induction h with
  | nil => simp
  | cons h1 _ ih =>
    intro e he
    rcases List.mem_cons.1 he with rfl | he
    · exact ⟨bdd_of _ _ h1.1, bdd_of _ _ h1.2.1⟩
    · exact ih e he
theorem RepEntries.cut {G : Ghost} {n : Nat} {es : List (AV × AV × Nat)} {xs : List MapEntry} (h : RepEntries G es xs) : (∀ e ∈ es, bdd n e.1 ∧ bdd n e.2.1) → RepEntries (G.cut n) es xs := by
  induction h with
  | nil => intro _; exact .nil
  | cons h1 _ ih => intro hb; exact .cons ⟨Rep.cut _ _ h1.1 (hb _ (by simp)).1, Rep.cut _ _ h1.2.1 (hb _ (by simp)).2, h1.2.2⟩ (ih fun e he => hb e (by simp [he]))

/-- what lies in an object reaches no further than the memory did -/
def objBdd (n : Nat) : AObj → Prop
  | .cells _ cs => bddL n cs
  | .vec _ sz cs _ hist => ∀ h m, (h, m) ∈ hist → bddL n (cs.take (m * sz))
  | .map es _ => ∀ e ∈ es, bdd n e.1 ∧ bdd n e.2.1
  | .miter m _ _ _ => ∀ b ∈ m, b < n
  | _ => True
theorem ObjInv.bdd {G : Ghost} {w : World} {k : Nat} {o : AObj} (h : ObjInv G w k o) : objBdd G.n o := by
  cases o with
  | cells t cs => obtain ⟨vs, _, h2, _⟩ := h; exact bdd_l _ _ h2
  | vec e sz cs g hist =>
    intro h' m hm
    obtain ⟨_, _, b, o, cap, vs, _, _, _, _, _, q, _⟩ := h.2.1 h' m hm
    exact bdd_l _ _ q
  | map es clock => obtain ⟨xs, _, h2, _⟩ := h; exact entries_bdd h2
  | miter m since seen stepped => exact h.2.1
  | _ => trivial
theorem ObjInv.cut {G : Ghost} {w : World} {k n : Nat} {o : AObj} (h : ObjInv G w k o) (hb : objBdd n o) : ObjInv (G.cut n) w k o := by
  cases o with
  | gone => trivial
  | fam m sz => exact h
  | cells t cs => obtain ⟨vs, h1, h2, h3⟩ := h; exact ⟨vs, h1, RepL.cut _ _ h2 hb, h3⟩
  | vec e sz cs g hist =>
    refine ⟨h.1, fun h' m hm => ?_, h.2.2⟩
    obtain ⟨p1, p2, b, o, cap, vs, q1, q2, q3, q4, q5, q6, q7⟩ := h.2.1 h' m hm
    exact ⟨p1, p2, b, o, cap, vs, q1, q2, q3, q4, q5, RepL.cut _ _ q6 (hb h' m hm), q7⟩
  | map es clock => obtain ⟨xs, h1, h2, h3⟩ := h; exact ⟨xs, h1, h2.cut hb, h3⟩
  | siter s pos => exact h
  | miter m since seen stepped => exact ⟨h.1, hb, h.2.2⟩

/-- the memory is cut back to what was there before the call -/
theorem Inv.cut {C : Ctx} {G G' : Ghost} {M X : Mem} {w w' : World} (hi : Inv C G M w) (hle : G.le G') (hi' : Inv C G' (M ++ X) w') : Inv C (G'.cut M.length) M w' ∧ G.le (G'.cut M.length) := by
  have hn := hi.n
  refine ⟨⟨rfl, hi'.st, hi'.keep, fun k o hk => ?_, fun j k x y b hx hy ox oy => ?_, fun g => ?_, hi'.tab⟩, ⟨by simp [Ghost.cut, hn], hle.blk, hle.st, hle.keep, hle.top, hle.hdr⟩⟩
  · have h1 := hi'.obj k o (by rw [List.getElem?_append_left (getElem?_lt hk)]; exact hk)
    have h2 := (hi.obj k o hk).bdd
    rw [hn] at h2
    exact h1.cut h2
  · refine hi'.apart j k x y b (by rw [List.getElem?_append_left (getElem?_lt hx)]; exact hx) (by rw [List.getElem?_append_left (getElem?_lt hy)]; exact hy) ?_ ?_
    · cases x <;> exact ox
    · cases y <;> exact oy
  · have h2 := bdd_of _ _ (hi.gl g)
    rw [hn] at h2
    exact Rep.cut _ _ (hi'.gl g) h2

/-- a call's leavings are let go where its result does not lead to them -/
theorem ACalls.cut {C : Ctx} {f : FuncId} {args : List AV} {M : Mem} {Q : AV → Mem → Prop} (h : ACalls C f args M Q) {Q' : AV → Mem → Prop} (hq : ∀ r M', Q r M' → ∃ X, M' = M ++ X ∧ bdd M.length r ∧ Q' r M) : ACalls C f args M Q' := by
  intro G w vs hi hr
  refine Calls.mono (h G w vs hi hr) ?_
  rintro e w' ⟨r, M', G', v, rfl, h1, h2, h3, h4, h5⟩
  obtain ⟨X, rfl, hb, hq'⟩ := hq r M' h1
  obtain ⟨k1, k2⟩ := hi.cut h2 h3
  exact ⟨r, M, _, v, rfl, hq', k2, k1, Rep.cut _ _ h4 hb, h5⟩

mutual
def flat : AV → Bool
  | .val _ => true
  | .agg cs => flatL cs
  | .tuple cs => flatL cs
  | .iface _ v => flat v
  | _ => false
def flatL : List AV → Bool
  | [] => true
  | c :: cs => flat c && flatL cs
end
mutual
theorem flat_bdd {n : Nat} : ∀ (a : AV), flat a = true → bdd n a
  | .val v, _ => by simp [bdd]
  | .agg cs, h => by simp only [flat] at h; simp only [bdd]; exact flatL_bdd cs h
  | .tuple cs, h => by simp only [flat] at h; simp only [bdd]; exact flatL_bdd cs h
  | .iface t v, h => by simp only [flat] at h; simp only [bdd]; exact flat_bdd v h
  | .poison, h | .ptr _ _, h | .cptr _, h | .list _ _ _, h | .vref _ _ _ _ _, h | .vptr _ _ _, h | .mapr _, h | .func _ _ _, h => by simp [flat] at h
theorem flatL_bdd {n : Nat} : ∀ (cs : List AV), flatL cs = true → bddL n cs
  | [], _ => by simp [bddL]
  | c :: cs, h => by simp only [flatL, Bool.and_eq_true] at h; simp only [bddL]; exact ⟨flat_bdd c h.1, flatL_bdd cs h.2⟩
end
end Go.Abs
end
section
/- What an operation writes, and that it does not lean on the reserved places. -/
set_option linter.unusedVariables false
namespace Go.Abs

structure Acts (f : Mem → Option (AV × Mem)) (M : Mem) (v : AV) (M1 : Mem) (ws : List Nat) : Prop where
  grow : M.length ≤ M1.length
  old : ∀ i, i < M.length → i ∉ ws → M1[i]? = M[i]?
  keep : KeepsBlank M M1
  fill : ∀ (s : Nat) (X : AObj), M[s]? = some blank → f (M.set s X) = some (v, M1.set s X)

theorem Acts.same {f : Mem → Option (AV × Mem)} {M : Mem} {v : AV} {ws : List Nat} (h : ∀ (s : Nat) (X : AObj), M[s]? = some blank → f (M.set s X) = some (v, M.set s X)) : Acts f M v M ws :=
  ⟨Nat.le_refl _, fun _ _ _ => rfl, fun _ h => h, h⟩
theorem Acts.put {f : Mem → Option (AV × Mem)} {M : Mem} {v : AV} {b : Nat} {o ob : AObj} {ws : List Nat} (hb : M[b]? = some ob) (hne : ob ≠ blank) (hw : b ∈ ws) (h : ∀ (s : Nat) (X : AObj), M[s]? = some blank → f (M.set s X) = some (v, (M.set s X).set b o)) : Acts f M v (M.set b o) ws := by
  have ne : ∀ s : Nat, M[s]? = some blank → b ≠ s := fun s hs e => by subst e; rw [hb] at hs; simp at hs; exact hne hs
  refine ⟨by simp, fun i hi hn => ?_, fun s hs => ?_, fun s X hs => ?_⟩
  · rw [List.getElem?_set_ne (fun e : b = i => hn (by rw [← e]; exact hw))]
  · rw [List.getElem?_set_ne (ne s hs)]; exact hs
  · rw [h s X hs, List.set_comm _ _ (ne s hs).symm]
theorem Acts.app {f : Mem → Option (AV × Mem)} {M Y : Mem} {v : AV} {ws : List Nat} (h : ∀ (s : Nat) (X : AObj), M[s]? = some blank → f (M.set s X) = some (v, M.set s X ++ Y)) : Acts f M v (M ++ Y) ws := by
  refine ⟨by simp, fun i hi _ => by rw [List.getElem?_append_left hi], fun s hs => by rw [List.getElem?_append_left (getElem?_lt hs)]; exact hs, fun s X hs => ?_⟩
  rw [h s X hs, List.set_append_left _ _ (getElem?_lt hs)]

theorem fill_get1 {M : Mem} {s b : Nat} {X ob : AObj} (hs : M[s]? = some blank) (hb : M[b]? = some ob) (hne : ob ≠ blank) : (M.set s X)[b]? = some ob := by
  rw [List.getElem?_set_ne (fun e => by subst e; rw [hb] at hs; simp at hs; exact hne hs)]; exact hb
theorem vec_ne_blank {e sz : Nat} {cs : List AV} {g h n : Nat} {hist : List (Nat × Nat)} (hn : hist.lookup h = some n) : AObj.vec e sz cs g hist ≠ blank := by
  intro e; simp only [blank, AObj.vec.injEq] at e
  rw [e.2.2.2.2] at hn; simp at hn

section
variable {M : Mem} {s : Nat} {X : AObj} (hs : M[s]? = some blank)
include hs
theorem memOf_fill {a : AV} {cs : List AV} (h : memOf M a = some cs) : memOf (M.set s X) a = some cs := by
  unfold memOf at h ⊢
  split at h
  · exact h
  · rename_i b off
    split at h
    case h_2 => simp at h
    rename_i t cs' hb
    rw [fill_get1 hs hb (by simp [blank])]
    exact h
  · rename_i f g off
    split at h
    case h_2 => simp at h
    rename_i e sz cs' g' hist hb
    split at h
    case h_2 => simp at h
    rename_i n hn
    rw [fill_get1 hs hb (vec_ne_blank hn)]
    simp only [hn]
    exact h
  · simp at h
theorem srcCells_fill {sz : Nat} {a : AV} {r : List AV × Nat} (h : srcCells M sz a = some r) : srcCells (M.set s X) sz a = some r := by
  unfold srcCells at h ⊢
  split at h
  · exact h
  · exact h
  · exact h
  · rename_i f h' s' lo len
    split at h
    case h_2 => simp at h
    rename_i e sz' cs' g' hist hb
    split at h
    case h_2 => simp at h
    rename_i n hn
    rw [fill_get1 hs hb (vec_ne_blank hn)]
    simp only [hn]
    exact h
  · simp at h
theorem entriesOf_fill {a : AV} {es : List (AV × AV × Nat)} (h : entriesOf M a = some es) : entriesOf (M.set s X) a = some es := by
  unfold entriesOf at h ⊢
  split at h
  · exact h
  · rename_i b
    split at h
    case h_2 => simp at h
    rename_i es' c hb
    rw [fill_get1 hs hb (by simp [blank])]
    exact h
  · simp at h
theorem lenMore_fill {P : Program} {t : TypeId} {x : AV} {n : Nat} (h : lenMore P t M x = some n) : lenMore P t (M.set s X) x = some n := by
  unfold lenMore at h ⊢
  split at h
  · rename_i b
    split at h
    case h_2 => simp at h
    rename_i k e es c hu hb
    rw [fill_get1 hs hb (by simp [blank]), hu]
    exact h
  · simp at h
end

/-- the objects that an operation may turn -/
def writesOf (o : Oper) (ρ : Operand → AV) : List Nat := match o.op with
  | .store _ a _ => match ρ a with | .ptr b _ => [b] | .vptr f _ _ => [f] | _ => []
  | .mapUpdate _ m _ _ => match ρ m with | .mapr b => [b] | _ => []
  | .insert _ m _ _ => match ρ m with | .mapr b => [b] | _ => []
  | .next x _ => match ρ x with | .ptr b _ => [b] | _ => []
  | .call { callee := .builtin _, args, .. } => match args.toList with
    | d :: _ => match ρ d with | .vref f _ _ _ _ => [f] | .vptr f _ _ => [f] | _ => []
    | [] => []
  | _ => []

theorem evalMem_acts {C : Ctx} {h : Hint} {o : Oper} {ρ : Operand → AV} {M M' : Mem} {v : AV} (he : evalMem C h o ρ M = some (v, M')) : Acts (evalMem C h o ρ) M v M' (writesOf o ρ) := by
  obtain ⟨d, op, t, p, af, g⟩ := o
  have he' := he
  unfold evalMem at he
  simp only at he
  split at he
  · rename_i ty x
    split at he
    case h_3 => simp at he
    all_goals
      rename_i hx
      simp only [Option.map_eq_some_iff, Prod.mk.injEq, Option.bind_eq_some_iff] at he
      obtain ⟨u, ⟨cs, h1, h2⟩, rfl, rfl⟩ := he
      refine .same fun s X hs => ?_
      simp only [evalMem, hx, memOf_fill hs h1, Option.bind_some, h2, Option.map_some]
  · rename_i ty a x
    split at he
    case h_3 => simp at he
    · rename_i b off hb
      split at he
      case h_2 => simp at he
      rename_i bt cs hM
      split at he
      case isFalse => simp at he
      rename_i hc
      simp only [Option.some.injEq, Prod.mk.injEq] at he
      obtain ⟨rfl, rfl⟩ := he
      refine .put hM (by simp [blank]) (by simp [writesOf, hb]) fun s X hs => ?_
      simp only [evalMem, hb, fill_get1 hs hM (by simp [blank]), hc, if_true]
    · rename_i f g' off hb
      split at he
      case h_2 => simp at he
      rename_i vt sz cs g2 hist hM
      split at he
      case h_2 => simp at he
      rename_i n hn
      split at he
      case isFalse => simp at he
      rename_i hc
      simp only [Option.some.injEq, Prod.mk.injEq] at he
      obtain ⟨rfl, rfl⟩ := he
      refine .put hM (vec_ne_blank hn) (by simp [writesOf, hb]) fun s X hs => ?_
      simp only [evalMem, hb, fill_get1 hs hM (vec_ne_blank hn), hn, hc, if_true]
  · rename_i e
    split at he
    case h_2 => simp at he
    rename_i z hz
    split at he
    case isFalse => simp at he
    rename_i hc
    simp only [Option.some.injEq, Prod.mk.injEq] at he
    obtain ⟨rfl, rfl⟩ := he
    refine .app fun s X hs => ?_
    simp only [evalMem, hz, hc, if_true, List.length_set]
  · rename_i e x
    split at he
    case isFalse => simp at he
    rename_i hc
    simp only [Option.some.injEq, Prod.mk.injEq] at he
    obtain ⟨rfl, rfl⟩ := he
    refine .app fun s X hs => ?_
    simp only [evalMem, hc, if_true, List.length_set]
  · simp at he

theorem lookupAV_fill {P : Program} {t : TypeId} {m k : AV} {ok : Bool} {M : Mem} {s : Nat} {X : AObj} (hs : M[s]? = some blank) {v : AV} (h : lookupAV P t M m k ok = some v) : lookupAV P t (M.set s X) m k ok = some v := by
  unfold lookupAV at h ⊢
  cases he : entriesOf M m with
  | none => rw [he] at h; cases hk : mapKV? P t <;> rw [hk] at h <;> simp at h
  | some es => rw [entriesOf_fill hs he]; rw [he] at h; exact h
theorem mapPut_acts {P : Program} {t : TypeId} {m k x v0 : AV} {M M' : Mem} {ws : List Nat} (h : mapPutAV P t M m k x = some M') (hw : ∀ b, m = .mapr b → b ∈ ws) : Acts (fun M => (mapPutAV P t M m k x).map fun M' => (v0, M')) M v0 M' ws := by
  have key : ∃ b es c o, m = .mapr b ∧ M[b]? = some (.map es c) ∧ M' = M.set b o ∧ ∀ M2 : Mem, M2[b]? = some (.map es c) → mapPutAV P t M2 m k x = some (M2.set b o) := by
    unfold mapPutAV at h
    split at h
    case h_2 => simp at h
    rename_i kt et b hkv
    split at h
    case h_2 => simp at h
    rename_i es clock hM
    split at h
    case isFalse => simp at h
    rename_i hc
    split at h
    · rename_i i e0 hf
      split at h
      case h_2 => simp at h
      rename_i ok e1 born hes
      split at h
      case h_2 => simp at h
      rename_i a c ha hc2
      split at h
      case isFalse => simp at h
      rename_i hsb
      simp only [Option.some.injEq] at h
      subst h
      exact ⟨b, es, clock, _, rfl, hM, rfl, fun M2 h2 => by simp only [mapPutAV, hkv, h2, hc, if_true, hf, hes, ha, hc2, hsb]⟩
    · rename_i hf
      simp only [Option.some.injEq] at h
      subst h
      exact ⟨b, es, clock, _, rfl, hM, rfl, fun M2 h2 => by simp only [mapPutAV, hkv, h2, hc, if_true, hf]⟩
    · simp at h
  obtain ⟨b, es, c, o, hm, hM, rfl, hf⟩ := key
  refine .put hM (by simp [blank]) (hw b hm) fun s X hs => ?_
  simp only [hf _ (fill_get1 hs hM (by simp [blank])), Option.map_some]
theorem copy_acts {P : Program} {t u : TypeId} {d s0 v : AV} {M M' : Mem} {ws : List Nat} (h : copyAV P t u M d s0 = some (v, M')) (hw : ∀ f g sz lo len, d = .vref f g sz lo len → f ∈ ws) : Acts (fun M => copyAV P t u M d s0) M v M' ws := by
  unfold copyAV at h
  split at h
  case h_2 => simp at h
  rename_i e he
  split at h
  case h_2 => simp at h
  rename_i sz hsz
  split at h
  case h_2 => simp at h
  rename_i news m hsrc
  split at h
  case h_2 => simp at h
  rename_i f g sz' lo len
  split at h
  case h_2 => simp at h
  rename_i ety sz2 cs g' hist hM
  split at h
  case h_2 => simp at h
  rename_i n hn
  split at h
  case isFalse => simp at h
  rename_i hc
  split at h
  · rename_i h0
    simp only [Option.some.injEq, Prod.mk.injEq] at h
    obtain ⟨rfl, rfl⟩ := h
    refine .same fun s X hs => ?_
    simp only [copyAV, he, hsz, srcCells_fill hs hsrc, fill_get1 hs hM (vec_ne_blank hn), hn, if_pos hc, if_pos h0]
  · rename_i h0
    simp only [Option.some.injEq, Prod.mk.injEq] at h
    obtain ⟨rfl, rfl⟩ := h
    refine .put hM (vec_ne_blank hn) (hw _ _ _ _ _ rfl) fun s X hs => ?_
    simp only [copyAV, he, hsz, srcCells_fill hs hsrc, fill_get1 hs hM (vec_ne_blank hn), hn, if_pos hc, if_neg h0]
theorem vbuild_acts {P : Program} {t : TypeId} {n : Nat} {parts : List (Nat × AV)} {v : AV} {M M' : Mem} {ws : List Nat} (h : vbuildAV P t n parts M = some (v, M')) : Acts (vbuildAV P t n parts) M v M' ws := by
  unfold vbuildAV at h
  split at h
  case h_2 => simp at h
  rename_i e he
  split at h
  case h_2 => simp at h
  rename_i sz z hs hz
  split at h
  case isFalse => simp at h
  rename_i hc
  simp only [Option.map_eq_some_iff, Prod.mk.injEq] at h
  obtain ⟨rows, hr, rfl, rfl⟩ := h
  refine .app fun s X hs' => ?_
  simp only [vbuildAV, he, hs, hz, if_pos hc, hr, Option.map_some, List.length_set]
theorem vmake_acts {P : Program} {t : TypeId} {l c v : AV} {M M' : Mem} {ws : List Nat} (h : vmakeAV P t l c M = some (v, M')) : Acts (vmakeAV P t l c) M v M' ws := by
  unfold vmakeAV at h
  split at h
  case h_2 => simp at h
  rename_i e kl l kc c he
  split at h
  case h_2 => simp at h
  rename_i sz z b hs hz hb
  split at h
  case isFalse => simp at h
  rename_i hc
  simp only [Option.some.injEq, Prod.mk.injEq] at h
  obtain ⟨rfl, rfl⟩ := h
  refine .app fun s X hs' => ?_
  simp only [vmakeAV, he, hs, hz, hb, if_pos hc, List.length_set]

theorem evalMore_acts {C : Ctx} {h : Hint} {o : Oper} {ρ : Operand → AV} {M M' : Mem} {v : AV} (he : evalMore C h o ρ M = some (v, M')) : Acts (evalMore C h o ρ) M v M' (writesOf o ρ) := by
  obtain ⟨d, op, t, p, af, g⟩ := o
  unfold evalMore at he
  simp only at he
  split at he
  · rename_i ty n parts
    split at he
    case isFalse => simp at he
    rename_i hv
    have e : evalMore C h ⟨d, .buildSlice ty n parts, t, p, af, g⟩ ρ = vbuildAV C.P ty n (parts.toList.map fun p => (p.1, ρ p.2)) := by funext M2; simp only [evalMore, hv, if_true]
    rw [e]; exact vbuild_acts he
  · rename_i ty l c; exact vmake_acts he
  · rename_i ty
    simp only [Option.some.injEq, Prod.mk.injEq] at he
    obtain ⟨rfl, rfl⟩ := he
    refine .app fun s X hs => ?_
    simp only [evalMore, List.length_set]
  · rename_i ty m k ok
    simp only [Option.map_eq_some_iff, Prod.mk.injEq] at he
    obtain ⟨v', hv, rfl, rfl⟩ := he
    refine .same fun s X hs => ?_
    simp only [evalMore, lookupAV_fill hs hv, Option.map_some]
  · rename_i ty m k x
    simp only [Option.map_eq_some_iff, Prod.mk.injEq] at he
    obtain ⟨M2, hM2, rfl, rfl⟩ := he
    exact mapPut_acts hM2 (fun b hb => by simp [writesOf, hb])
  · rename_i ty m k x
    simp only [Option.map_eq_some_iff, Prod.mk.injEq] at he
    obtain ⟨M2, hM2, rfl, rfl⟩ := he
    exact mapPut_acts hM2 (fun b hb => by simp [writesOf, hb])
  · rename_i b args ts
    have e : evalMore C h ⟨d, .call { callee := .builtin b, args := args, argTypes := ts }, t, p, af, g⟩ ρ = builtinMore C.P b ts.toList (args.toList.map ρ) := rfl
    rw [e]
    unfold builtinMore at he
    split at he
    · rename_i t' x hts hargs
      simp only [Option.map_eq_some_iff, Prod.mk.injEq] at he
      obtain ⟨n, hn, rfl, rfl⟩ := he
      cases hl : lenMore C.P t' M x with
      | none => rw [hl] at hn; simp at hn
      | some m =>
        refine .same fun s X hs => ?_
        rw [hts, hargs]
        rw [hl] at hn
        simp only [builtinMore, lenMore_fill hs hl]
        rw [hn]; rfl
    · rename_i t' hts hargs
      split at he
      · rename_i hu
        simp only [Option.some.injEq, Prod.mk.injEq] at he
        obtain ⟨rfl, rfl⟩ := he
        refine .same fun s X hs => ?_
        rw [hts, hargs]
        simp only [builtinMore, hu]
      · simp at he
    · rename_i t' u x s0 hts hargs
      rw [hts, hargs]
      refine copy_acts he (fun f g sz lo len hx => ?_)
      cases hl : args.toList with
      | nil => rw [hl] at hargs; simp at hargs
      | cons a l =>
        rw [hl] at hargs
        simp only [List.map_cons, List.cons.injEq] at hargs
        simp only [writesOf, hl]
        rw [hargs.1, hx]; simp
    · simp at he
  · simp at he

theorem evalX_acts {C : Ctx} {o : Oper} {ρ : Operand → AV} {M M' : Mem} {v : AV} (he : evalX C o ρ M = some (v, M')) : Acts (evalX C o ρ) M v M' (writesOf o ρ) := by
  obtain ⟨d, op, t, p, af, g⟩ := o
  unfold evalX at he
  simp only at he
  split at he
  · rename_i ty x
    unfold rangeAV at he
    split at he
    case h_2 => simp at he
    rename_i str hu hx
    simp only [Option.some.injEq, Prod.mk.injEq] at he
    obtain ⟨rfl, rfl⟩ := he
    refine .app fun s X hs => ?_
    simp only [evalX, rangeAV, hu, hx, List.length_set]
  · rename_i x
    unfold nextAV at he
    split at he
    case h_2 => simp at he
    rename_i b hx
    split at he
    case h_2 => simp at he
    rename_i str pos hM
    split at he
    · rename_i hlt
      simp only [Option.some.injEq, Prod.mk.injEq] at he
      obtain ⟨rfl, rfl⟩ := he
      refine .put hM (by simp [blank]) (by simp [writesOf, hx]) fun s X hs => ?_
      simp only [evalX, hx, nextAV, fill_get1 hs hM (by simp [blank]), if_pos hlt]
    · rename_i hlt
      simp only [Option.some.injEq, Prod.mk.injEq] at he
      obtain ⟨rfl, rfl⟩ := he
      refine .same fun s X hs => ?_
      simp only [evalX, hx, nextAV, fill_get1 hs hM (by simp [blank]), if_neg hlt]
  · rename_i ty x lo hi mx
    simp only [Option.map_eq_some_iff, Prod.mk.injEq] at he
    obtain ⟨v', hv, rfl, rfl⟩ := he
    refine .same fun s X hs => ?_
    have key : sliceMore C.P ty (M.set s X) (ρ x) (lo.map ρ) (hi.map ρ) (mx.map ρ) = some v' := by
      unfold sliceMore at hv ⊢
      split at hv
      case h_2 => simp at hv
      rename_i f g' sz lo0 len
      split at hv
      case h_2 => simp at hv
      rename_i hA e1 s1 cs g1 hist hM hM2
      split at hv
      case h_2 => simp at hv
      rename_i n hn
      simp only [hM, fill_get1 hs hM2 (vec_ne_blank hn), hn]
      exact hv
    simp only [evalX, key, Option.map_some]
  · rename_i a b x
    split at he
    · rename_i v' hv
      simp only [Option.some.injEq, Prod.mk.injEq] at he
      obtain ⟨rfl, rfl⟩ := he
      refine .same fun s X hs => ?_
      simp only [evalX, hv]
    · rename_i hnone
      simp only [Option.map_eq_some_iff, Prod.mk.injEq] at he
      obtain ⟨v', hv, rfl, rfl⟩ := he
      refine .same fun s X hs => ?_
      have key : convU C.P a b (M.set s X) (ρ x) = some v' := by
        unfold convU at hv ⊢
        split at hv
        · split at hv
          case h_2 => simp at hv
          rename_i bt cs n hM hn
          rw [fill_get1 hs hM (by simp [blank])]
          simp only [hn]; exact hv
        · split at hv
          case h_2 => simp at hv
          rename_i bt cs n hM hn
          rw [fill_get1 hs hM (by simp [blank])]
          simp only [hn]; exact hv
        · simp at hv
      simp only [evalX, hnone, key, Option.map_some]
  · rename_i b args ts
    have e : evalX C ⟨d, .call { callee := .builtin b, args := args, argTypes := ts }, t, p, af, g⟩ ρ = builtinX C.P b ts.toList (args.toList.map ρ) := rfl
    rw [e]
    have hd : ∀ x l, args.toList.map ρ = x :: l → ∀ f, (∃ g' sz lo len, x = .vref f g' sz lo len) ∨ (∃ g' off, x = .vptr f g' off) → f ∈ writesOf ⟨d, .call { callee := .builtin b, args := args, argTypes := ts }, t, p, af, g⟩ ρ := by
      intro x l hl f hf
      cases ha : args.toList with
      | nil => rw [ha] at hl; simp at hl
      | cons a l2 =>
        rw [ha] at hl
        simp only [List.map_cons, List.cons.injEq] at hl
        simp only [writesOf, ha]
        rw [hl.1]
        rcases hf with ⟨_, _, _, _, rfl⟩ | ⟨_, _, rfl⟩ <;> simp
    unfold builtinX at he
    split at he
    · rename_i ty x hts hargs
      rw [hts, hargs]
      unfold clearAV at he
      split at he
      case h_2 => simp at he
      rename_i f g' sz lo len
      split at he
      case h_2 => simp at he
      rename_i e0 hel
      split at he
      case h_2 => simp at he
      rename_i z ety sz2 cs g2 hist hz hM
      split at he
      case h_2 => simp at he
      rename_i n hn
      split at he
      case isFalse => simp at he
      rename_i hc
      split at he
      · rename_i h0
        simp only [Option.some.injEq, Prod.mk.injEq] at he
        obtain ⟨rfl, rfl⟩ := he
        refine .same fun s X hs => ?_
        simp only [builtinX, clearAV, hel, hz, fill_get1 hs hM (vec_ne_blank hn), hn, if_pos hc, if_pos h0]
      · rename_i h0
        simp only [Option.some.injEq, Prod.mk.injEq] at he
        obtain ⟨rfl, rfl⟩ := he
        refine .put hM (vec_ne_blank hn) (hd _ _ hargs f (.inl ⟨_, _, _, _, rfl⟩)) fun s X hs => ?_
        simp only [builtinX, clearAV, hel, hz, fill_get1 hs hM (vec_ne_blank hn), hn, if_pos hc, if_neg h0]
    · rename_i x hargs
      simp only [Option.map_eq_some_iff, Prod.mk.injEq] at he
      obtain ⟨v', hv, rfl, rfl⟩ := he
      refine .same fun s X hs => ?_
      rw [hargs]
      have key : sliceDataAV (M.set s X) x = some v' := by
        unfold sliceDataAV at hv ⊢
        split at hv
        · exact hv
        · split at hv
          case h_2 => simp at hv
          rename_i ety sz2 cs g2 hist hM
          split at hv
          case h_2 => simp at hv
          rename_i n hn
          simp only [fill_get1 hs hM (vec_ne_blank hn), hn]
          exact hv
        · simp at hv
      simp only [builtinX, key, Option.map_some]
    · rename_i pt it pp nn hts hargs
      rw [hts, hargs]
      unfold unsafeStrAV at he
      split at he
      case h_2 => simp at he
      rename_i n
      split at he
      · rename_i h0
        subst h0
        refine ?_
        split at he
        · simp only [Option.some.injEq, Prod.mk.injEq] at he
          obtain ⟨rfl, rfl⟩ := he
          exact .same fun s X hs => by simp only [builtinX, unsafeStrAV, if_true]
        · simp only [Option.some.injEq, Prod.mk.injEq] at he
          obtain ⟨rfl, rfl⟩ := he
          exact .same fun s X hs => by simp only [builtinX, unsafeStrAV, if_true]
        · simp at he
      · rename_i h0
        split at he
        case h_2 => simp at he
        rename_i f g' off
        split at he
        case h_2 => simp at he
        rename_i e0 ety cs g2 hist hu hM
        split at he
        case h_2 => simp at he
        rename_i m hm
        split at he
        case isFalse => simp at he
        rename_i hc
        split at he
        case h_2 => simp at he
        rename_i l hl
        simp only [Option.some.injEq, Prod.mk.injEq] at he
        obtain ⟨rfl, rfl⟩ := he
        refine .put hM (vec_ne_blank hm) (hd _ _ hargs f (.inr ⟨_, _, rfl⟩)) fun s X hs => ?_
        simp only [builtinX, unsafeStrAV, if_neg h0, hu, fill_get1 hs hM (vec_ne_blank hm), hm, if_pos hc, hl]
    · simp at he
  · simp at he

theorem Acts.of {f g : Mem → Option (AV × Mem)} {M M1 : Mem} {v : AV} {ws : List Nat} (h : Acts f M v M1 ws) (hfg : ∀ M2 v M', f M2 = some (v, M') → g M2 = some (v, M')) : Acts g M v M1 ws :=
  ⟨h.grow, h.old, h.keep, fun s X hs => hfg _ _ _ (h.fill s X hs)⟩
theorem evalMem_only {C : Ctx} {h : Hint} {o : Oper} {ρ : Operand → AV} {M : Mem} {r : AV × Mem} (he : evalMore C h o ρ M = some r) : ∀ M2, evalMem C h o ρ M2 = none := by
  obtain ⟨d, op, t, p, af, g⟩ := o
  intro M2
  cases op <;> first | rfl | (simp [evalMore] at he; done)
theorem evalX_only {C : Ctx} {h : Hint} {o : Oper} {ρ : Operand → AV} {M : Mem} {r : AV × Mem} (he : evalX C o ρ M = some r) : ∀ M2, evalMem C h o ρ M2 = none ∧ evalMore C h o ρ M2 = none := by
  obtain ⟨d, op, t, p, af, g⟩ := o
  intro M2
  cases op <;> first | exact ⟨rfl, rfl⟩ | (simp [evalX] at he; done) | skip
  case call c =>
    obtain ⟨callee, args, ts⟩ := c
    cases callee with
    | builtin b =>
      refine ⟨rfl, ?_⟩
      cases b <;> first | rfl | (simp [evalX, builtinX] at he; done)
    | _ => simp [evalX] at he
theorem evalPure1_only {C : Ctx} {h : Hint} {o : Oper} {ρ : Operand → AV} {v : AV} (he : evalPure1 C o ρ = some v) : ∀ M2, evalMem C h o ρ M2 = none ∧ evalMore C h o ρ M2 = none := by
  obtain ⟨d, op, t, p, af, g⟩ := o
  intro M2
  cases op <;> first | exact ⟨rfl, rfl⟩ | (simp [evalPure1] at he; done)
theorem evalOp_acts {C : Ctx} {h : Hint} {o : Oper} {ρ : Operand → AV} {M M' : Mem} {v : AV} (he : evalOp C h o ρ M = some (v, M')) : Acts (evalOp C h o ρ) M v M' (writesOf o ρ) := by
  unfold evalOp at he
  split at he
  · rename_i u hu
    simp only [Option.some.injEq, Prod.mk.injEq] at he
    obtain ⟨rfl, rfl⟩ := he
    exact .same fun s X hs => by simp only [evalOp, hu]
  rename_i hp
  split at he
  · rename_i r hr
    simp only [Option.some.injEq] at he
    subst he
    exact (evalMem_acts hr).of fun M2 v2 M3 h2 => by simp only [evalOp, hp, h2]
  split at he
  · rename_i r hr
    simp only [Option.some.injEq] at he
    subst he
    exact (evalMore_acts hr).of fun M2 v2 M3 h2 => by simp only [evalOp, hp, evalMem_only hr, h2]
  split at he
  · rename_i u hu
    simp only [Option.some.injEq, Prod.mk.injEq] at he
    obtain ⟨rfl, rfl⟩ := he
    have h1 := evalPure1_only (h := h) hu
    exact .same fun s X hs => by simp only [evalOp, hp, (h1 _).1, (h1 _).2, hu]
  · rename_i hp1
    have h1 := evalX_only (h := h) he
    exact (evalX_acts he).of fun M2 v2 M3 h2 => by simp only [evalOp, hp, (h1 _).1, (h1 _).2, hp1, h2]
end Go.Abs
end
section
/- append: what it writes. -/
set_option linter.unusedVariables false
namespace Go.Abs
def appWrites (s : AV) : List Nat := match s with
  | .vref f _ _ _ _ => [f]
  | _ => []
theorem vappIn_acts {e : TypeId} {sz : Nat} {s0 x v : AV} {M M' : Mem} (h : vappIn e sz s0 x M = some (v, M')) : Acts (vappIn e sz s0 x) M v M' (appWrites s0) := by
  unfold vappIn at h
  split at h
  case h_2 => simp at h
  rename_i news m f h' s' lo len hsrc
  split at h
  case h_2 => simp at h
  rename_i e2 s2 cs g hist hM
  split at h
  case h_2 => simp at h
  rename_i n hn
  split at h
  case isFalse => simp at h
  rename_i hc
  simp only [Option.some.injEq, Prod.mk.injEq] at h
  obtain ⟨rfl, rfl⟩ := h
  refine .put hM (vec_ne_blank hn) (by simp [appWrites]) fun s X hs => ?_
  simp only [vappIn, srcCells_fill hs hsrc, fill_get1 hs hM (vec_ne_blank hn), hn, if_pos hc]
theorem vappAV_acts {e : TypeId} {sz : Nat} {s0 x v : AV} {M M' : Mem} (h : vappAV e sz s0 x M = some (v, M')) : Acts (vappAV e sz s0 x) M v M' (appWrites s0) := by
  unfold vappAV at h
  split at h
  · simp at h
  rename_i news m hsrc
  split at h
  · split at h
    · rename_i h0
      simp only [Option.some.injEq, Prod.mk.injEq] at h
      obtain ⟨rfl, rfl⟩ := h
      exact .same fun s X hs => by simp only [vappAV, srcCells_fill hs hsrc, if_pos h0]
    · rename_i h0
      simp only [Option.some.injEq, Prod.mk.injEq] at h
      obtain ⟨rfl, rfl⟩ := h
      exact .app fun s X hs => by simp only [vappAV, srcCells_fill hs hsrc, if_neg h0, List.length_set]
  · split at h
    case isFalse => simp at h
    rename_i hss
    split at h
    · rename_i h0
      simp only [Option.some.injEq, Prod.mk.injEq] at h
      obtain ⟨rfl, rfl⟩ := h
      exact .same fun s X hs => by simp only [vappAV, srcCells_fill hs hsrc, if_pos hss, if_pos h0]
    · rename_i h0
      simp only [Option.some.injEq, Prod.mk.injEq] at h
      obtain ⟨rfl, rfl⟩ := h
      exact .app fun s X hs => by simp only [vappAV, srcCells_fill hs hsrc, if_pos hss, if_neg h0, List.length_set]
  · rename_i f h' s' lo len
    split at h
    case h_2 => simp at h
    rename_i e2 s2 cs g hist hM
    split at h
    case h_2 => simp at h
    rename_i n hn
    split at h
    case isFalse => simp at h
    rename_i hc
    split at h
    · rename_i h0
      simp only [Option.some.injEq, Prod.mk.injEq] at h
      obtain ⟨rfl, rfl⟩ := h
      exact .same fun s X hs => by simp only [vappAV, srcCells_fill hs hsrc, fill_get1 hs hM (vec_ne_blank hn), hn, if_pos hc, if_pos h0]
    · rename_i h0
      simp only [Option.some.injEq, Prod.mk.injEq] at h
      obtain ⟨rfl, rfl⟩ := h
      exact .put hM (vec_ne_blank hn) (by simp [appWrites]) fun s X hs => by simp only [vappAV, srcCells_fill hs hsrc, fill_get1 hs hM (vec_ne_blank hn), hn, if_pos hc, if_neg h0]
  · simp at h
end Go.Abs
end
