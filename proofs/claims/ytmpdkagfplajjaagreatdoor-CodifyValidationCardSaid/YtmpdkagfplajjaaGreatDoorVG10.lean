/- The texts AbsT, AbsU2, AbsU3, AbsU, AbsV, AbsV2, AbsVo: what each proves stands at its head. -/
import Derived.Test.YtmpdkagfplajjaaGreatDoorVG09
section
/- What a call has made and does not hand back is let go. -/
set_option linter.unusedVariables false
namespace Go.Abs

mutual
def bdd (n : Nat) : AV → Prop
  | .poison | .val _ => True
  | .ptr b _ => b < n
  | .cptr cs => bddL n cs
  | .list _ rows own => bddR n rows ∧ (match own with | .fam f => f < n | _ => True)
  | .vref f _ _ _ _ => f < n
  | .vptr f _ _ => f < n
  | .mapr b => b < n
  | .func _ f c => bddL n f ∧ bddL n c
  | .iface _ v => bdd n v
  | .agg cs => bddL n cs
  | .tuple cs => bddL n cs
def bddL (n : Nat) : List AV → Prop
  | [] => True
  | c :: cs => bdd n c ∧ bddL n cs
def bddR (n : Nat) : List (List AV) → Prop
  | [] => True
  | r :: rs => bddL n r ∧ bddR n rs
end

mutual
theorem bdd_of {G : Ghost} : ∀ (a : AV) (x : Value), Rep G a x → bdd G.n a
  | .poison, _, _ => by simp [bdd]
  | .val v, x, k => by simp [bdd]
  | .ptr b off, x, k => by simp only [Rep] at k; simp only [bdd]; exact k.1
  | .cptr cs, x, k => by
    simp only [Rep] at k; simp only [bdd]
    obtain ⟨b, i, _, hm⟩ := k
    exact bdd_mem cs b i hm
  | .list sz rows own, x, k => by
    simp only [Rep] at k; simp only [bdd]
    obtain ⟨base, cap, _, _, _, hb, ho⟩ := k
    refine ⟨?_, ?_⟩
    · cases base with
      | none => obtain ⟨rfl, _⟩ := hb; simp [bddR]
      | some a => exact bdd_rows sz rows _ _ hb.2
    · cases own with
      | fam f => exact ho.1
      | _ => trivial
  | .vref f g sz lo len, x, k => by simp only [Rep] at k; simp only [bdd]; exact k.1
  | .vptr f g off, x, k => by simp only [Rep] at k; simp only [bdd]; exact k.1
  | .mapr b, x, k => by simp only [Rep] at k; simp only [bdd]; exact k.1
  | .func fn f c, x, k => by
    simp only [Rep] at k; simp only [bdd]
    obtain ⟨fs, cs, _, h1, h2⟩ := k
    exact ⟨bdd_l f _ h1, bdd_l c _ h2⟩
  | .iface t v, x, k => by
    simp only [Rep] at k; simp only [bdd]
    obtain ⟨y, _, h1⟩ := k
    exact bdd_of v y h1
  | .agg cs, x, k => by
    simp only [Rep] at k; simp only [bdd]
    obtain ⟨ys, _, h1, _⟩ := k
    exact bdd_l cs _ h1
  | .tuple cs, x, k => by
    simp only [Rep] at k; simp only [bdd]
    obtain ⟨ys, _, h1⟩ := k
    exact bdd_l cs _ h1
theorem bdd_l {G : Ghost} : ∀ (cs : List AV) (ys : List Value), RepL G cs ys → bddL G.n cs
  | [], ys, k => by simp [bddL]
  | c :: cs, ys, k => by
    simp only [RepL] at k; simp only [bddL]
    obtain ⟨y, ys', _, h1, h2⟩ := k
    exact ⟨bdd_of c y h1, bdd_l cs ys' h2⟩
theorem bdd_mem {G : Ghost} : ∀ (cs : List AV) (b i : Nat), RepMem G cs b i → bddL G.n cs
  | [], _, _, _ => by simp [bddL]
  | c :: cs, b, i, k => by
    simp only [RepMem] at k; simp only [bddL]
    obtain ⟨⟨v, _, _, h1⟩, h2⟩ := k
    exact ⟨bdd_of c v h1, bdd_mem cs b (i + 1) h2⟩
theorem bdd_rows {G : Ghost} (sz : Nat) : ∀ (rs : List (List AV)) (b i : Nat), RepRows G sz rs b i → bddR G.n rs
  | [], _, _, _ => by simp [bddR]
  | r :: rs, b, i, k => by
    simp only [RepRows] at k; simp only [bddR]
    exact ⟨bdd_mem r b i k.1.2, bdd_rows sz rs b (i + sz) k.2⟩
end

def Ghost.cut (G : Ghost) (n : Nat) : Ghost := { G with n := n }

mutual
theorem Rep.cut {G : Ghost} {n : Nat} : ∀ (a : AV) (x : Value), Rep G a x → bdd n a → Rep (G.cut n) a x
  | .poison, _, _, _ => by simp [Rep]
  | .val v, x, k, _ => by simpa [Rep] using k
  | .ptr b off, x, k, h => by simp only [Rep, bdd] at k h ⊢; exact ⟨h, k.2⟩
  | .cptr cs, x, k, h => by
    simp only [Rep, bdd] at k h ⊢
    obtain ⟨b, i, hx, hm⟩ := k
    exact ⟨b, i, hx, RepMem.cut cs b i hm h⟩
  | .list sz rows own, x, k, h => by
    simp only [Rep, bdd] at k h ⊢
    obtain ⟨base, cap, hx, hl, hm, hb, ho⟩ := k
    refine ⟨base, cap, hx, hl, hm, ?_, ?_⟩
    · cases base with
      | none => exact hb
      | some a => exact ⟨hb.1, RepRows.cut sz rows _ _ hb.2 h.1⟩
    · cases own with
      | fam f => exact ⟨h.2, ho.2⟩
      | full => exact ho
      | no => trivial
  | .vref f g sz lo len, x, k, h => by simp only [Rep, bdd] at k h ⊢; exact ⟨h, k.2⟩
  | .vptr f g off, x, k, h => by simp only [Rep, bdd] at k h ⊢; exact ⟨h, k.2⟩
  | .mapr b, x, k, h => by simp only [Rep, bdd] at k h ⊢; exact ⟨h, k.2⟩
  | .func fn f c, x, k, h => by
    simp only [Rep, bdd] at k h ⊢
    obtain ⟨fs, cs, hx, h1, h2⟩ := k
    exact ⟨fs, cs, hx, RepL.cut f _ h1 h.1, RepL.cut c _ h2 h.2⟩
  | .iface t v, x, k, h => by
    simp only [Rep, bdd] at k h ⊢
    obtain ⟨y, hx, h1⟩ := k
    exact ⟨y, hx, Rep.cut v y h1 h⟩
  | .agg cs, x, k, h => by
    simp only [Rep, bdd] at k h ⊢
    obtain ⟨ys, hx, h1, h2⟩ := k
    exact ⟨ys, hx, RepL.cut cs _ h1 h, h2⟩
  | .tuple cs, x, k, h => by
    simp only [Rep, bdd] at k h ⊢
    obtain ⟨ys, hx, h1⟩ := k
    exact ⟨ys, hx, RepL.cut cs _ h1 h⟩
theorem RepL.cut {G : Ghost} {n : Nat} : ∀ (cs : List AV) (ys : List Value), RepL G cs ys → bddL n cs → RepL (G.cut n) cs ys
  | [], ys, k, _ => by simpa [RepL] using k
  | c :: cs, ys, k, h => by
    simp only [RepL, bddL] at k h ⊢
    obtain ⟨y, ys', hy, h1, h2⟩ := k
    exact ⟨y, ys', hy, Rep.cut c y h1 h.1, RepL.cut cs ys' h2 h.2⟩
theorem RepMem.cut {G : Ghost} {n : Nat} : ∀ (cs : List AV) (b i : Nat), RepMem G cs b i → bddL n cs → RepMem (G.cut n) cs b i
  | [], _, _, _, _ => by simp [RepMem]
  | c :: cs, b, i, k, h => by
    simp only [RepMem, bddL] at k h ⊢
    obtain ⟨⟨v, hv, ho, h1⟩, h2⟩ := k
    exact ⟨⟨v, hv, ho, Rep.cut c v h1 h.1⟩, RepMem.cut cs b (i + 1) h2 h.2⟩
theorem RepRows.cut {G : Ghost} {n : Nat} (sz : Nat) : ∀ (rs : List (List AV)) (b i : Nat), RepRows G sz rs b i → bddR n rs → RepRows (G.cut n) sz rs b i
  | [], _, _, _, _ => by simp [RepRows]
  | r :: rs, b, i, k, h => by
    simp only [RepRows, bddR] at k h ⊢
    exact ⟨⟨k.1.1, RepMem.cut r b i k.1.2 h.1⟩, RepRows.cut sz rs b (i + sz) k.2 h.2⟩
end

theorem bddL_take {n m : Nat} : ∀ {cs : List AV}, bddL n cs → bddL n (cs.take m)
  | [], _ => by simp [bddL]
  | c :: cs, h => by
    cases m with
    | zero => simp [bddL]
    | succ m => simp only [List.take_succ_cons, bddL] at h ⊢; exact ⟨h.1, bddL_take h.2⟩
theorem entries_bdd {G : Ghost} {es : List (AV × AV × Nat)} {xs : List MapEntry} (h : RepEntries G es xs) : ∀ e ∈ es, bdd G.n e.1 ∧ bdd G.n e.2.1 := by
  induction h with
  | nil => simp
  | cons h1 _ ih =>
    intro e he
    rcases List.mem_cons.1 he with rfl | he
    · exact ⟨bdd_of _ _ h1.1, bdd_of _ _ h1.2.1⟩
    · exact ih e he
theorem RepEntries.cut {G : Ghost} {n : Nat} {es : List (AV × AV × Nat)} {xs : List MapEntry} (h : RepEntries G es xs) : (∀ e ∈ es, bdd n e.1 ∧ bdd n e.2.1) → RepEntries (G.cut n) es xs := by
  induction h with
  | nil => intro _; exact .nil
  | cons h1 _ ih => intro hb; exact .cons ⟨Rep.cut _ _ h1.1 (hb _ (by simp)).1, Rep.cut _ _ h1.2.1 (hb _ (by simp)).2, h1.2.2⟩ (ih fun e he => hb e (by simp [he]))

/-- what lies in an object reaches no further than the memory did -/
def objBdd (n : Nat) : AObj → Prop
  | .cells _ cs => bddL n cs
  | .vec _ sz cs _ hist => ∀ h m, (h, m) ∈ hist → bddL n (cs.take (m * sz))
  | .map es _ => ∀ e ∈ es, bdd n e.1 ∧ bdd n e.2.1
  | .miter m _ _ _ => ∀ b ∈ m, b < n
  | _ => True
theorem ObjInv.bdd {G : Ghost} {w : World} {k : Nat} {o : AObj} (h : ObjInv G w k o) : objBdd G.n o := by
  cases o with
  | cells t cs => obtain ⟨vs, _, h2, _⟩ := h; exact bdd_l _ _ h2
  | vec e sz cs g hist =>
    intro h' m hm
    obtain ⟨_, _, b, o, cap, vs, _, _, _, _, _, q, _⟩ := h.2.1 h' m hm
    exact bdd_l _ _ q
  | map es clock => obtain ⟨xs, _, h2, _⟩ := h; exact entries_bdd h2
  | miter m since seen stepped => exact h.2.1
  | _ => trivial
theorem ObjInv.cut {G : Ghost} {w : World} {k n : Nat} {o : AObj} (h : ObjInv G w k o) (hb : objBdd n o) : ObjInv (G.cut n) w k o := by
  cases o with
  | gone => trivial
  | fam m sz => exact h
  | cells t cs => obtain ⟨vs, h1, h2, h3⟩ := h; exact ⟨vs, h1, RepL.cut _ _ h2 hb, h3⟩
  | vec e sz cs g hist =>
    refine ⟨h.1, fun h' m hm => ?_, h.2.2⟩
    obtain ⟨p1, p2, b, o, cap, vs, q1, q2, q3, q4, q5, q6, q7⟩ := h.2.1 h' m hm
    exact ⟨p1, p2, b, o, cap, vs, q1, q2, q3, q4, q5, RepL.cut _ _ q6 (hb h' m hm), q7⟩
  | map es clock => obtain ⟨xs, h1, h2, h3⟩ := h; exact ⟨xs, h1, h2.cut hb, h3⟩
  | siter s pos => exact h
  | miter m since seen stepped => exact ⟨h.1, hb, h.2.2⟩

/-- the memory is cut back to what was there before the call -/
theorem Inv.cut {C : Ctx} {G G' : Ghost} {M X : Mem} {w w' : World} (hi : Inv C G M w) (hle : G.le G') (hi' : Inv C G' (M ++ X) w') : Inv C (G'.cut M.length) M w' ∧ G.le (G'.cut M.length) := by
  have hn := hi.n
  refine ⟨⟨rfl, hi'.st, hi'.keep, fun k o hk => ?_, fun j k x y b hx hy ox oy => ?_, fun g => ?_, hi'.tab⟩, ⟨by simp [Ghost.cut, hn], hle.blk, hle.st, hle.keep, hle.top, hle.hdr⟩⟩
  · have h1 := hi'.obj k o (by rw [List.getElem?_append_left (getElem?_lt hk)]; exact hk)
    have h2 := (hi.obj k o hk).bdd
    rw [hn] at h2
    exact h1.cut h2
  · refine hi'.apart j k x y b (by rw [List.getElem?_append_left (getElem?_lt hx)]; exact hx) (by rw [List.getElem?_append_left (getElem?_lt hy)]; exact hy) ?_ ?_
    · cases x <;> exact ox
    · cases y <;> exact oy
  · have h2 := bdd_of _ _ (hi.gl g)
    rw [hn] at h2
    exact Rep.cut _ _ (hi'.gl g) h2

/-- a call's leavings are let go where its result does not lead to them -/
theorem ACalls.cut {C : Ctx} {f : FuncId} {args : List AV} {M : Mem} {Q : AV → Mem → Prop} (h : ACalls C f args M Q) {Q' : AV → Mem → Prop} (hq : ∀ r M', Q r M' → ∃ X, M' = M ++ X ∧ bdd M.length r ∧ Q' r M) : ACalls C f args M Q' := by
  intro G w vs hi hr
  refine Calls.mono (h G w vs hi hr) ?_
  rintro e w' ⟨r, M', G', v, rfl, h1, h2, h3, h4, h5⟩
  obtain ⟨X, rfl, hb, hq'⟩ := hq r M' h1
  obtain ⟨k1, k2⟩ := hi.cut h2 h3
  exact ⟨r, M, _, v, rfl, hq', k2, k1, Rep.cut _ _ h4 hb, h5⟩

mutual
def flat : AV → Bool
  | .val _ => true
  | .agg cs => flatL cs
  | .tuple cs => flatL cs
  | .iface _ v => flat v
  | _ => false
def flatL : List AV → Bool
  | [] => true
  | c :: cs => flat c && flatL cs
end
mutual
theorem flat_bdd {n : Nat} : ∀ (a : AV), flat a = true → bdd n a
  | .val v, _ => by simp [bdd]
  | .agg cs, h => by simp only [flat] at h; simp only [bdd]; exact flatL_bdd cs h
  | .tuple cs, h => by simp only [flat] at h; simp only [bdd]; exact flatL_bdd cs h
  | .iface t v, h => by simp only [flat] at h; simp only [bdd]; exact flat_bdd v h
  | .poison, h | .ptr _ _, h | .cptr _, h | .list _ _ _, h | .vref _ _ _ _ _, h | .vptr _ _ _, h | .mapr _, h | .func _ _ _, h => by simp [flat] at h
theorem flatL_bdd {n : Nat} : ∀ (cs : List AV), flatL cs = true → bddL n cs
  | [], _ => by simp [bddL]
  | c :: cs, h => by simp only [flatL, Bool.and_eq_true] at h; simp only [bddL]; exact ⟨flat_bdd c h.1, flatL_bdd cs h.2⟩
end
end Go.Abs
end
section
/- What an operation writes, and that it does not lean on the reserved places. -/
set_option linter.unusedVariables false
namespace Go.Abs

structure Acts (f : Mem → Option (AV × Mem)) (M : Mem) (v : AV) (M1 : Mem) (ws : List Nat) : Prop where
  grow : M.length ≤ M1.length
  old : ∀ i, i < M.length → i ∉ ws → M1[i]? = M[i]?
  keep : KeepsBlank M M1
  fill : ∀ (s : Nat) (X : AObj), M[s]? = some blank → f (M.set s X) = some (v, M1.set s X)

theorem Acts.same {f : Mem → Option (AV × Mem)} {M : Mem} {v : AV} {ws : List Nat} (h : ∀ (s : Nat) (X : AObj), M[s]? = some blank → f (M.set s X) = some (v, M.set s X)) : Acts f M v M ws :=
  ⟨Nat.le_refl _, fun _ _ _ => rfl, fun _ h => h, h⟩
theorem Acts.put {f : Mem → Option (AV × Mem)} {M : Mem} {v : AV} {b : Nat} {o ob : AObj} {ws : List Nat} (hb : M[b]? = some ob) (hne : ob ≠ blank) (hw : b ∈ ws) (h : ∀ (s : Nat) (X : AObj), M[s]? = some blank → f (M.set s X) = some (v, (M.set s X).set b o)) : Acts f M v (M.set b o) ws := by
  have ne : ∀ s : Nat, M[s]? = some blank → b ≠ s := fun s hs e => by subst e; rw [hb] at hs; simp at hs; exact hne hs
  refine ⟨by simp, fun i hi hn => ?_, fun s hs => ?_, fun s X hs => ?_⟩
  · rw [List.getElem?_set_ne (fun e : b = i => hn (by rw [← e]; exact hw))]
  · rw [List.getElem?_set_ne (ne s hs)]; exact hs
  · rw [h s X hs, List.set_comm _ _ (ne s hs).symm]
theorem Acts.app {f : Mem → Option (AV × Mem)} {M Y : Mem} {v : AV} {ws : List Nat} (h : ∀ (s : Nat) (X : AObj), M[s]? = some blank → f (M.set s X) = some (v, M.set s X ++ Y)) : Acts f M v (M ++ Y) ws := by
  refine ⟨by simp, fun i hi _ => by rw [List.getElem?_append_left hi], fun s hs => by rw [List.getElem?_append_left (getElem?_lt hs)]; exact hs, fun s X hs => ?_⟩
  rw [h s X hs, List.set_append_left _ _ (getElem?_lt hs)]

theorem fill_get1 {M : Mem} {s b : Nat} {X ob : AObj} (hs : M[s]? = some blank) (hb : M[b]? = some ob) (hne : ob ≠ blank) : (M.set s X)[b]? = some ob := by
  rw [List.getElem?_set_ne (fun e => by subst e; rw [hb] at hs; simp at hs; exact hne hs)]; exact hb
theorem vec_ne_blank {e sz : Nat} {cs : List AV} {g h n : Nat} {hist : List (Nat × Nat)} (hn : hist.lookup h = some n) : AObj.vec e sz cs g hist ≠ blank := by
  intro e; simp only [blank, AObj.vec.injEq] at e
  rw [e.2.2.2.2] at hn; simp at hn

section
variable {M : Mem} {s : Nat} {X : AObj} (hs : M[s]? = some blank)
include hs
theorem memOf_fill {a : AV} {cs : List AV} (h : memOf M a = some cs) : memOf (M.set s X) a = some cs := by
  unfold memOf at h ⊢
  split at h
  · exact h
  · rename_i b off
    split at h
    case h_2 => simp at h
    rename_i t cs' hb
    rw [fill_get1 hs hb (by simp [blank])]
    exact h
  · rename_i f g off
    split at h
    case h_2 => simp at h
    rename_i e sz cs' g' hist hb
    split at h
    case h_2 => simp at h
    rename_i n hn
    rw [fill_get1 hs hb (vec_ne_blank hn)]
    simp only [hn]
    exact h
  · simp at h
theorem srcCells_fill {sz : Nat} {a : AV} {r : List AV × Nat} (h : srcCells M sz a = some r) : srcCells (M.set s X) sz a = some r := by
  unfold srcCells at h ⊢
  split at h
  · exact h
  · exact h
  · exact h
  · rename_i f h' s' lo len
    split at h
    case h_2 => simp at h
    rename_i e sz' cs' g' hist hb
    split at h
    case h_2 => simp at h
    rename_i n hn
    rw [fill_get1 hs hb (vec_ne_blank hn)]
    simp only [hn]
    exact h
  · simp at h
theorem entriesOf_fill {a : AV} {es : List (AV × AV × Nat)} (h : entriesOf M a = some es) : entriesOf (M.set s X) a = some es := by
  unfold entriesOf at h ⊢
  split at h
  · exact h
  · rename_i b
    split at h
    case h_2 => simp at h
    rename_i es' c hb
    rw [fill_get1 hs hb (by simp [blank])]
    exact h
  · simp at h
theorem lenMore_fill {P : Program} {t : TypeId} {x : AV} {n : Nat} (h : lenMore P t M x = some n) : lenMore P t (M.set s X) x = some n := by
  unfold lenMore at h ⊢
  split at h
  · rename_i b
    split at h
    case h_2 => simp at h
    rename_i k e es c hu hb
    rw [fill_get1 hs hb (by simp [blank]), hu]
    exact h
  · simp at h
end

/-- the objects that an operation may turn -/
def writesOf (o : Oper) (ρ : Operand → AV) : List Nat := match o.op with
  | .store _ a _ => match ρ a with | .ptr b _ => [b] | .vptr f _ _ => [f] | _ => []
  | .mapUpdate _ m _ _ => match ρ m with | .mapr b => [b] | _ => []
  | .insert _ m _ _ => match ρ m with | .mapr b => [b] | _ => []
  | .next x _ => match ρ x with | .ptr b _ => [b] | _ => []
  | .call { callee := .builtin _, args, .. } => match args.toList with
    | d :: _ => match ρ d with | .vref f _ _ _ _ => [f] | .vptr f _ _ => [f] | _ => []
    | [] => []
  | _ => []

theorem evalMem_acts {C : Ctx} {h : Hint} {o : Oper} {ρ : Operand → AV} {M M' : Mem} {v : AV} (he : evalMem C h o ρ M = some (v, M')) : Acts (evalMem C h o ρ) M v M' (writesOf o ρ) := by
  obtain ⟨d, op, t, p, af, g⟩ := o
  have he' := he
  unfold evalMem at he
  simp only at he
  split at he
  · rename_i ty x
    split at he
    case h_3 => simp at he
    all_goals
      rename_i hx
      simp only [Option.map_eq_some_iff, Prod.mk.injEq, Option.bind_eq_some_iff] at he
      obtain ⟨u, ⟨cs, h1, h2⟩, rfl, rfl⟩ := he
      refine .same fun s X hs => ?_
      simp only [evalMem, hx, memOf_fill hs h1, Option.bind_some, h2, Option.map_some]
  · rename_i ty a x
    split at he
    case h_3 => simp at he
    · rename_i b off hb
      split at he
      case h_2 => simp at he
      rename_i bt cs hM
      split at he
      case isFalse => simp at he
      rename_i hc
      simp only [Option.some.injEq, Prod.mk.injEq] at he
      obtain ⟨rfl, rfl⟩ := he
      refine .put hM (by simp [blank]) (by simp [writesOf, hb]) fun s X hs => ?_
      simp only [evalMem, hb, fill_get1 hs hM (by simp [blank]), hc, if_true]
    · rename_i f g' off hb
      split at he
      case h_2 => simp at he
      rename_i vt sz cs g2 hist hM
      split at he
      case h_2 => simp at he
      rename_i n hn
      split at he
      case isFalse => simp at he
      rename_i hc
      simp only [Option.some.injEq, Prod.mk.injEq] at he
      obtain ⟨rfl, rfl⟩ := he
      refine .put hM (vec_ne_blank hn) (by simp [writesOf, hb]) fun s X hs => ?_
      simp only [evalMem, hb, fill_get1 hs hM (vec_ne_blank hn), hn, hc, if_true]
  · rename_i e
    split at he
    case h_2 => simp at he
    rename_i z hz
    split at he
    case isFalse => simp at he
    rename_i hc
    simp only [Option.some.injEq, Prod.mk.injEq] at he
    obtain ⟨rfl, rfl⟩ := he
    refine .app fun s X hs => ?_
    simp only [evalMem, hz, hc, if_true, List.length_set]
  · rename_i e x
    split at he
    case isFalse => simp at he
    rename_i hc
    simp only [Option.some.injEq, Prod.mk.injEq] at he
    obtain ⟨rfl, rfl⟩ := he
    refine .app fun s X hs => ?_
    simp only [evalMem, hc, if_true, List.length_set]
  · simp at he

theorem lookupAV_fill {P : Program} {t : TypeId} {m k : AV} {ok : Bool} {M : Mem} {s : Nat} {X : AObj} (hs : M[s]? = some blank) {v : AV} (h : lookupAV P t M m k ok = some v) : lookupAV P t (M.set s X) m k ok = some v := by
  unfold lookupAV at h ⊢
  cases he : entriesOf M m with
  | none => rw [he] at h; cases hk : mapKV? P t <;> rw [hk] at h <;> simp at h
  | some es => rw [entriesOf_fill hs he]; rw [he] at h; exact h
theorem mapPut_acts {P : Program} {t : TypeId} {m k x v0 : AV} {M M' : Mem} {ws : List Nat} (h : mapPutAV P t M m k x = some M') (hw : ∀ b, m = .mapr b → b ∈ ws) : Acts (fun M => (mapPutAV P t M m k x).map fun M' => (v0, M')) M v0 M' ws := by
  have key : ∃ b es c o, m = .mapr b ∧ M[b]? = some (.map es c) ∧ M' = M.set b o ∧ ∀ M2 : Mem, M2[b]? = some (.map es c) → mapPutAV P t M2 m k x = some (M2.set b o) := by
    unfold mapPutAV at h
    split at h
    case h_2 => simp at h
    rename_i kt et b hkv
    split at h
    case h_2 => simp at h
    rename_i es clock hM
    split at h
    case isFalse => simp at h
    rename_i hc
    split at h
    · rename_i i e0 hf
      split at h
      case h_2 => simp at h
      rename_i ok e1 born hes
      split at h
      case h_2 => simp at h
      rename_i a c ha hc2
      split at h
      case isFalse => simp at h
      rename_i hsb
      simp only [Option.some.injEq] at h
      subst h
      exact ⟨b, es, clock, _, rfl, hM, rfl, fun M2 h2 => by simp only [mapPutAV, hkv, h2, hc, if_true, hf, hes, ha, hc2, hsb]⟩
    · rename_i hf
      simp only [Option.some.injEq] at h
      subst h
      exact ⟨b, es, clock, _, rfl, hM, rfl, fun M2 h2 => by simp only [mapPutAV, hkv, h2, hc, if_true, hf]⟩
    · simp at h
  obtain ⟨b, es, c, o, hm, hM, rfl, hf⟩ := key
  refine .put hM (by simp [blank]) (hw b hm) fun s X hs => ?_
  simp only [hf _ (fill_get1 hs hM (by simp [blank])), Option.map_some]
theorem copy_acts {P : Program} {t u : TypeId} {d s0 v : AV} {M M' : Mem} {ws : List Nat} (h : copyAV P t u M d s0 = some (v, M')) (hw : ∀ f g sz lo len, d = .vref f g sz lo len → f ∈ ws) : Acts (fun M => copyAV P t u M d s0) M v M' ws := by
  unfold copyAV at h
  split at h
  case h_2 => simp at h
  rename_i e he
  split at h
  case h_2 => simp at h
  rename_i sz hsz
  split at h
  case h_2 => simp at h
  rename_i news m hsrc
  split at h
  case h_2 => simp at h
  rename_i f g sz' lo len
  split at h
  case h_2 => simp at h
  rename_i ety sz2 cs g' hist hM
  split at h
  case h_2 => simp at h
  rename_i n hn
  split at h
  case isFalse => simp at h
  rename_i hc
  split at h
  · rename_i h0
    simp only [Option.some.injEq, Prod.mk.injEq] at h
    obtain ⟨rfl, rfl⟩ := h
    refine .same fun s X hs => ?_
    simp only [copyAV, he, hsz, srcCells_fill hs hsrc, fill_get1 hs hM (vec_ne_blank hn), hn, if_pos hc, if_pos h0]
  · rename_i h0
    simp only [Option.some.injEq, Prod.mk.injEq] at h
    obtain ⟨rfl, rfl⟩ := h
    refine .put hM (vec_ne_blank hn) (hw _ _ _ _ _ rfl) fun s X hs => ?_
    simp only [copyAV, he, hsz, srcCells_fill hs hsrc, fill_get1 hs hM (vec_ne_blank hn), hn, if_pos hc, if_neg h0]
theorem vbuild_acts {P : Program} {t : TypeId} {n : Nat} {parts : List (Nat × AV)} {v : AV} {M M' : Mem} {ws : List Nat} (h : vbuildAV P t n parts M = some (v, M')) : Acts (vbuildAV P t n parts) M v M' ws := by
  unfold vbuildAV at h
  split at h
  case h_2 => simp at h
  rename_i e he
  split at h
  case h_2 => simp at h
  rename_i sz z hs hz
  split at h
  case isFalse => simp at h
  rename_i hc
  simp only [Option.map_eq_some_iff, Prod.mk.injEq] at h
  obtain ⟨rows, hr, rfl, rfl⟩ := h
  refine .app fun s X hs' => ?_
  simp only [vbuildAV, he, hs, hz, if_pos hc, hr, Option.map_some, List.length_set]
theorem vmake_acts {P : Program} {t : TypeId} {l c v : AV} {M M' : Mem} {ws : List Nat} (h : vmakeAV P t l c M = some (v, M')) : Acts (vmakeAV P t l c) M v M' ws := by
  unfold vmakeAV at h
  split at h
  case h_2 => simp at h
  rename_i e kl l kc c he
  split at h
  case h_2 => simp at h
  rename_i sz z b hs hz hb
  split at h
  case isFalse => simp at h
  rename_i hc
  simp only [Option.some.injEq, Prod.mk.injEq] at h
  obtain ⟨rfl, rfl⟩ := h
  refine .app fun s X hs' => ?_
  simp only [vmakeAV, he, hs, hz, hb, if_pos hc, List.length_set]

theorem evalMore_acts {C : Ctx} {h : Hint} {o : Oper} {ρ : Operand → AV} {M M' : Mem} {v : AV} (he : evalMore C h o ρ M = some (v, M')) : Acts (evalMore C h o ρ) M v M' (writesOf o ρ) := by
  obtain ⟨d, op, t, p, af, g⟩ := o
  unfold evalMore at he
  simp only at he
  split at he
  · rename_i ty n parts
    split at he
    case isFalse => simp at he
    rename_i hv
    have e : evalMore C h ⟨d, .buildSlice ty n parts, t, p, af, g⟩ ρ = vbuildAV C.P ty n (parts.toList.map fun p => (p.1, ρ p.2)) := by funext M2; simp only [evalMore, hv, if_true]
    rw [e]; exact vbuild_acts he
  · rename_i ty l c; exact vmake_acts he
  · rename_i ty
    simp only [Option.some.injEq, Prod.mk.injEq] at he
    obtain ⟨rfl, rfl⟩ := he
    refine .app fun s X hs => ?_
    simp only [evalMore, List.length_set]
  · rename_i ty m k ok
    simp only [Option.map_eq_some_iff, Prod.mk.injEq] at he
    obtain ⟨v', hv, rfl, rfl⟩ := he
    refine .same fun s X hs => ?_
    simp only [evalMore, lookupAV_fill hs hv, Option.map_some]
  · rename_i ty m k x
    simp only [Option.map_eq_some_iff, Prod.mk.injEq] at he
    obtain ⟨M2, hM2, rfl, rfl⟩ := he
    exact mapPut_acts hM2 (fun b hb => by simp [writesOf, hb])
  · rename_i ty m k x
    simp only [Option.map_eq_some_iff, Prod.mk.injEq] at he
    obtain ⟨M2, hM2, rfl, rfl⟩ := he
    exact mapPut_acts hM2 (fun b hb => by simp [writesOf, hb])
  · rename_i b args ts
    have e : evalMore C h ⟨d, .call { callee := .builtin b, args := args, argTypes := ts }, t, p, af, g⟩ ρ = builtinMore C.P b ts.toList (args.toList.map ρ) := rfl
    rw [e]
    unfold builtinMore at he
    split at he
    · rename_i t' x hts hargs
      simp only [Option.map_eq_some_iff, Prod.mk.injEq] at he
      obtain ⟨n, hn, rfl, rfl⟩ := he
      cases hl : lenMore C.P t' M x with
      | none => rw [hl] at hn; simp at hn
      | some m =>
        refine .same fun s X hs => ?_
        rw [hts, hargs]
        rw [hl] at hn
        simp only [builtinMore, lenMore_fill hs hl]
        rw [hn]; rfl
    · rename_i t' hts hargs
      split at he
      · rename_i hu
        simp only [Option.some.injEq, Prod.mk.injEq] at he
        obtain ⟨rfl, rfl⟩ := he
        refine .same fun s X hs => ?_
        rw [hts, hargs]
        simp only [builtinMore, hu]
      · simp at he
    · rename_i t' u x s0 hts hargs
      rw [hts, hargs]
      refine copy_acts he (fun f g sz lo len hx => ?_)
      cases hl : args.toList with
      | nil => rw [hl] at hargs; simp at hargs
      | cons a l =>
        rw [hl] at hargs
        simp only [List.map_cons, List.cons.injEq] at hargs
        simp only [writesOf, hl]
        rw [hargs.1, hx]; simp
    · simp at he
  · simp at he

theorem evalX_acts {C : Ctx} {o : Oper} {ρ : Operand → AV} {M M' : Mem} {v : AV} (he : evalX C o ρ M = some (v, M')) : Acts (evalX C o ρ) M v M' (writesOf o ρ) := by
  obtain ⟨d, op, t, p, af, g⟩ := o
  unfold evalX at he
  simp only at he
  split at he
  · rename_i ty x
    unfold rangeAV at he
    split at he
    case h_2 => simp at he
    rename_i str hu hx
    simp only [Option.some.injEq, Prod.mk.injEq] at he
    obtain ⟨rfl, rfl⟩ := he
    refine .app fun s X hs => ?_
    simp only [evalX, rangeAV, hu, hx, List.length_set]
  · rename_i x
    unfold nextAV at he
    split at he
    case h_2 => simp at he
    rename_i b hx
    split at he
    case h_2 => simp at he
    rename_i str pos hM
    split at he
    · rename_i hlt
      simp only [Option.some.injEq, Prod.mk.injEq] at he
      obtain ⟨rfl, rfl⟩ := he
      refine .put hM (by simp [blank]) (by simp [writesOf, hx]) fun s X hs => ?_
      simp only [evalX, hx, nextAV, fill_get1 hs hM (by simp [blank]), if_pos hlt]
    · rename_i hlt
      simp only [Option.some.injEq, Prod.mk.injEq] at he
      obtain ⟨rfl, rfl⟩ := he
      refine .same fun s X hs => ?_
      simp only [evalX, hx, nextAV, fill_get1 hs hM (by simp [blank]), if_neg hlt]
  · rename_i ty x lo hi mx
    simp only [Option.map_eq_some_iff, Prod.mk.injEq] at he
    obtain ⟨v', hv, rfl, rfl⟩ := he
    refine .same fun s X hs => ?_
    have key : sliceMore C.P ty (M.set s X) (ρ x) (lo.map ρ) (hi.map ρ) (mx.map ρ) = some v' := by
      unfold sliceMore at hv ⊢
      split at hv
      case h_2 => simp at hv
      rename_i f g' sz lo0 len
      split at hv
      case h_2 => simp at hv
      rename_i hA e1 s1 cs g1 hist hM hM2
      split at hv
      case h_2 => simp at hv
      rename_i n hn
      simp only [hM, fill_get1 hs hM2 (vec_ne_blank hn), hn]
      exact hv
    simp only [evalX, key, Option.map_some]
  · rename_i a b x
    split at he
    · rename_i v' hv
      simp only [Option.some.injEq, Prod.mk.injEq] at he
      obtain ⟨rfl, rfl⟩ := he
      refine .same fun s X hs => ?_
      simp only [evalX, hv]
    · rename_i hnone
      simp only [Option.map_eq_some_iff, Prod.mk.injEq] at he
      obtain ⟨v', hv, rfl, rfl⟩ := he
      refine .same fun s X hs => ?_
      have key : convU C.P a b (M.set s X) (ρ x) = some v' := by
        unfold convU at hv ⊢
        split at hv
        · split at hv
          case h_2 => simp at hv
          rename_i bt cs n hM hn
          rw [fill_get1 hs hM (by simp [blank])]
          simp only [hn]; exact hv
        · split at hv
          case h_2 => simp at hv
          rename_i bt cs n hM hn
          rw [fill_get1 hs hM (by simp [blank])]
          simp only [hn]; exact hv
        · simp at hv
      simp only [evalX, hnone, key, Option.map_some]
  · rename_i b args ts
    have e : evalX C ⟨d, .call { callee := .builtin b, args := args, argTypes := ts }, t, p, af, g⟩ ρ = builtinX C.P b ts.toList (args.toList.map ρ) := rfl
    rw [e]
    have hd : ∀ x l, args.toList.map ρ = x :: l → ∀ f, (∃ g' sz lo len, x = .vref f g' sz lo len) ∨ (∃ g' off, x = .vptr f g' off) → f ∈ writesOf ⟨d, .call { callee := .builtin b, args := args, argTypes := ts }, t, p, af, g⟩ ρ := by
      intro x l hl f hf
      cases ha : args.toList with
      | nil => rw [ha] at hl; simp at hl
      | cons a l2 =>
        rw [ha] at hl
        simp only [List.map_cons, List.cons.injEq] at hl
        simp only [writesOf, ha]
        rw [hl.1]
        rcases hf with ⟨_, _, _, _, rfl⟩ | ⟨_, _, rfl⟩ <;> simp
    unfold builtinX at he
    split at he
    · rename_i ty x hts hargs
      rw [hts, hargs]
      unfold clearAV at he
      split at he
      case h_2 => simp at he
      rename_i f g' sz lo len
      split at he
      case h_2 => simp at he
      rename_i e0 hel
      split at he
      case h_2 => simp at he
      rename_i z ety sz2 cs g2 hist hz hM
      split at he
      case h_2 => simp at he
      rename_i n hn
      split at he
      case isFalse => simp at he
      rename_i hc
      split at he
      · rename_i h0
        simp only [Option.some.injEq, Prod.mk.injEq] at he
        obtain ⟨rfl, rfl⟩ := he
        refine .same fun s X hs => ?_
        simp only [builtinX, clearAV, hel, hz, fill_get1 hs hM (vec_ne_blank hn), hn, if_pos hc, if_pos h0]
      · rename_i h0
        simp only [Option.some.injEq, Prod.mk.injEq] at he
        obtain ⟨rfl, rfl⟩ := he
        refine .put hM (vec_ne_blank hn) (hd _ _ hargs f (.inl ⟨_, _, _, _, rfl⟩)) fun s X hs => ?_
        simp only [builtinX, clearAV, hel, hz, fill_get1 hs hM (vec_ne_blank hn), hn, if_pos hc, if_neg h0]
    · rename_i x hargs
      simp only [Option.map_eq_some_iff, Prod.mk.injEq] at he
      obtain ⟨v', hv, rfl, rfl⟩ := he
      refine .same fun s X hs => ?_
      rw [hargs]
      have key : sliceDataAV (M.set s X) x = some v' := by
        unfold sliceDataAV at hv ⊢
        split at hv
        · exact hv
        · split at hv
          case h_2 => simp at hv
          rename_i ety sz2 cs g2 hist hM
          split at hv
          case h_2 => simp at hv
          rename_i n hn
          simp only [fill_get1 hs hM (vec_ne_blank hn), hn]
          exact hv
        · simp at hv
      simp only [builtinX, key, Option.map_some]
    · rename_i pt it pp nn hts hargs
      rw [hts, hargs]
      unfold unsafeStrAV at he
      split at he
      case h_2 => simp at he
      rename_i n
      split at he
      · rename_i h0
        subst h0
        refine ?_
        split at he
        · simp only [Option.some.injEq, Prod.mk.injEq] at he
          obtain ⟨rfl, rfl⟩ := he
          exact .same fun s X hs => by simp only [builtinX, unsafeStrAV, if_true]
        · simp only [Option.some.injEq, Prod.mk.injEq] at he
          obtain ⟨rfl, rfl⟩ := he
          exact .same fun s X hs => by simp only [builtinX, unsafeStrAV, if_true]
        · simp at he
      · rename_i h0
        split at he
        case h_2 => simp at he
        rename_i f g' off
        split at he
        case h_2 => simp at he
        rename_i e0 ety cs g2 hist hu hM
        split at he
        case h_2 => simp at he
        rename_i m hm
        split at he
        case isFalse => simp at he
        rename_i hc
        split at he
        case h_2 => simp at he
        rename_i l hl
        simp only [Option.some.injEq, Prod.mk.injEq] at he
        obtain ⟨rfl, rfl⟩ := he
        refine .put hM (vec_ne_blank hm) (hd _ _ hargs f (.inr ⟨_, _, rfl⟩)) fun s X hs => ?_
        simp only [builtinX, unsafeStrAV, if_neg h0, hu, fill_get1 hs hM (vec_ne_blank hm), hm, if_pos hc, hl]
    · simp at he
  · simp at he

theorem Acts.of {f g : Mem → Option (AV × Mem)} {M M1 : Mem} {v : AV} {ws : List Nat} (h : Acts f M v M1 ws) (hfg : ∀ M2 v M', f M2 = some (v, M') → g M2 = some (v, M')) : Acts g M v M1 ws :=
  ⟨h.grow, h.old, h.keep, fun s X hs => hfg _ _ _ (h.fill s X hs)⟩
theorem evalMem_only {C : Ctx} {h : Hint} {o : Oper} {ρ : Operand → AV} {M : Mem} {r : AV × Mem} (he : evalMore C h o ρ M = some r) : ∀ M2, evalMem C h o ρ M2 = none := by
  obtain ⟨d, op, t, p, af, g⟩ := o
  intro M2
  cases op <;> first | rfl | (simp [evalMore] at he; done)
theorem evalX_only {C : Ctx} {h : Hint} {o : Oper} {ρ : Operand → AV} {M : Mem} {r : AV × Mem} (he : evalX C o ρ M = some r) : ∀ M2, evalMem C h o ρ M2 = none ∧ evalMore C h o ρ M2 = none := by
  obtain ⟨d, op, t, p, af, g⟩ := o
  intro M2
  cases op <;> first | exact ⟨rfl, rfl⟩ | (simp [evalX] at he; done) | skip
  case call c =>
    obtain ⟨callee, args, ts⟩ := c
    cases callee with
    | builtin b =>
      refine ⟨rfl, ?_⟩
      cases b <;> first | rfl | (simp [evalX, builtinX] at he; done)
    | _ => simp [evalX] at he
theorem evalPure1_only {C : Ctx} {h : Hint} {o : Oper} {ρ : Operand → AV} {v : AV} (he : evalPure1 C o ρ = some v) : ∀ M2, evalMem C h o ρ M2 = none ∧ evalMore C h o ρ M2 = none := by
  obtain ⟨d, op, t, p, af, g⟩ := o
  intro M2
  cases op <;> first | exact ⟨rfl, rfl⟩ | (simp [evalPure1] at he; done)
theorem evalOp_acts {C : Ctx} {h : Hint} {o : Oper} {ρ : Operand → AV} {M M' : Mem} {v : AV} (he : evalOp C h o ρ M = some (v, M')) : Acts (evalOp C h o ρ) M v M' (writesOf o ρ) := by
  unfold evalOp at he
  split at he
  · rename_i u hu
    simp only [Option.some.injEq, Prod.mk.injEq] at he
    obtain ⟨rfl, rfl⟩ := he
    exact .same fun s X hs => by simp only [evalOp, hu]
  rename_i hp
  split at he
  · rename_i r hr
    simp only [Option.some.injEq] at he
    subst he
    exact (evalMem_acts hr).of fun M2 v2 M3 h2 => by simp only [evalOp, hp, h2]
  split at he
  · rename_i r hr
    simp only [Option.some.injEq] at he
    subst he
    exact (evalMore_acts hr).of fun M2 v2 M3 h2 => by simp only [evalOp, hp, evalMem_only hr, h2]
  split at he
  · rename_i u hu
    simp only [Option.some.injEq, Prod.mk.injEq] at he
    obtain ⟨rfl, rfl⟩ := he
    have h1 := evalPure1_only (h := h) hu
    exact .same fun s X hs => by simp only [evalOp, hp, (h1 _).1, (h1 _).2, hu]
  · rename_i hp1
    have h1 := evalX_only (h := h) he
    exact (evalX_acts he).of fun M2 v2 M3 h2 => by simp only [evalOp, hp, (h1 _).1, (h1 _).2, hp1, h2]
end Go.Abs
end
section
/- append: what it writes. -/
set_option linter.unusedVariables false
namespace Go.Abs
def appWrites (s : AV) : List Nat := match s with
  | .vref f _ _ _ _ => [f]
  | _ => []
theorem vappIn_acts {e : TypeId} {sz : Nat} {s0 x v : AV} {M M' : Mem} (h : vappIn e sz s0 x M = some (v, M')) : Acts (vappIn e sz s0 x) M v M' (appWrites s0) := by
  unfold vappIn at h
  split at h
  case h_2 => simp at h
  rename_i news m f h' s' lo len hsrc
  split at h
  case h_2 => simp at h
  rename_i e2 s2 cs g hist hM
  split at h
  case h_2 => simp at h
  rename_i n hn
  split at h
  case isFalse => simp at h
  rename_i hc
  simp only [Option.some.injEq, Prod.mk.injEq] at h
  obtain ⟨rfl, rfl⟩ := h
  refine .put hM (vec_ne_blank hn) (by simp [appWrites]) fun s X hs => ?_
  simp only [vappIn, srcCells_fill hs hsrc, fill_get1 hs hM (vec_ne_blank hn), hn, if_pos hc]
theorem vappAV_acts {e : TypeId} {sz : Nat} {s0 x v : AV} {M M' : Mem} (h : vappAV e sz s0 x M = some (v, M')) : Acts (vappAV e sz s0 x) M v M' (appWrites s0) := by
  unfold vappAV at h
  split at h
  · simp at h
  rename_i news m hsrc
  split at h
  · split at h
    · rename_i h0
      simp only [Option.some.injEq, Prod.mk.injEq] at h
      obtain ⟨rfl, rfl⟩ := h
      exact .same fun s X hs => by simp only [vappAV, srcCells_fill hs hsrc, if_pos h0]
    · rename_i h0
      simp only [Option.some.injEq, Prod.mk.injEq] at h
      obtain ⟨rfl, rfl⟩ := h
      exact .app fun s X hs => by simp only [vappAV, srcCells_fill hs hsrc, if_neg h0, List.length_set]
  · split at h
    case isFalse => simp at h
    rename_i hss
    split at h
    · rename_i h0
      simp only [Option.some.injEq, Prod.mk.injEq] at h
      obtain ⟨rfl, rfl⟩ := h
      exact .same fun s X hs => by simp only [vappAV, srcCells_fill hs hsrc, if_pos hss, if_pos h0]
    · rename_i h0
      simp only [Option.some.injEq, Prod.mk.injEq] at h
      obtain ⟨rfl, rfl⟩ := h
      exact .app fun s X hs => by simp only [vappAV, srcCells_fill hs hsrc, if_pos hss, if_neg h0, List.length_set]
  · rename_i f h' s' lo len
    split at h
    case h_2 => simp at h
    rename_i e2 s2 cs g hist hM
    split at h
    case h_2 => simp at h
    rename_i n hn
    split at h
    case isFalse => simp at h
    rename_i hc
    split at h
    · rename_i h0
      simp only [Option.some.injEq, Prod.mk.injEq] at h
      obtain ⟨rfl, rfl⟩ := h
      exact .same fun s X hs => by simp only [vappAV, srcCells_fill hs hsrc, fill_get1 hs hM (vec_ne_blank hn), hn, if_pos hc, if_pos h0]
    · rename_i h0
      simp only [Option.some.injEq, Prod.mk.injEq] at h
      obtain ⟨rfl, rfl⟩ := h
      exact .put hM (vec_ne_blank hn) (by simp [appWrites]) fun s X hs => by simp only [vappAV, srcCells_fill hs hsrc, fill_get1 hs hM (vec_ne_blank hn), hn, if_pos hc, if_neg h0]
  · simp at h
end Go.Abs
end
section
/- The evaluator's slots; append as a whole. -/
set_option linter.unusedVariables false
namespace Go.Abs

/-! ### slots in a tree -/
inductive BT where
  | leaf (v : AV)
  | node (l r : BT)
def BT.get : BT → Nat → AV
  | .leaf v, n => match n with | 0 => v | _ => .poison
  | .node l r, n => match n % 2 with
    | 0 => l.get (n / 2)
    | _ => r.get (n / 2)
/-- none: the slot lies outside -/
def BT.put : BT → Nat → AV → Option BT
  | .leaf _, n, v => match n with | 0 => some (.leaf v) | _ => none
  | .node l r, n, v => match n % 2 with
    | 0 => match l.put (n / 2) v with | some l => some (.node l r) | none => none
    | _ => match r.put (n / 2) v with | some r => some (.node l r) | none => none
def BT.mk : Nat → BT
  | 0 => .leaf .poison
  | k + 1 => .node (BT.mk k) (BT.mk k)

theorem BT.get_put : ∀ (t t' : BT) (n : Nat) (v : AV), t.put n v = some t' → ∀ m, t'.get m = if m = n then v else t.get m
  | .leaf u, t', n, v, h, m => by
    simp only [BT.put] at h
    split at h
    · simp only [Option.some.injEq] at h
      subst h
      by_cases e : m = 0
      · subst e; simp [BT.get]
      · rw [if_neg e]; cases m with
        | zero => exact absurd rfl e
        | succ m => rfl
    · simp at h
  | .node l r, t', n, v, h, m => by
    simp only [BT.put] at h
    split at h
    · rename_i a
      split at h
      · rename_i l' hl
        simp only [Option.some.injEq] at h
        subst h
        have ih := BT.get_put l l' (n / 2) v hl (m / 2)
        simp only [BT.get]
        split
        · rw [ih]
          rename_i b
          by_cases e : m / 2 = n / 2
          · have : m = n := by omega
            rw [if_pos e, if_pos this]
          · have : ¬ m = n := by intro h; subst h; exact e rfl
            rw [if_neg e, if_neg this]
        · rename_i b
          have : ¬ m = n := by intro h; subst h; exact b a
          rw [if_neg this]
      · simp at h
    · rename_i a
      split at h
      · rename_i r' hr
        simp only [Option.some.injEq] at h
        subst h
        have ih := BT.get_put r r' (n / 2) v hr (m / 2)
        simp only [BT.get]
        split
        · rename_i b
          rw [if_neg (by intro e; subst e; exact a b)]
        · rename_i b
          rw [ih]
          by_cases e : m / 2 = n / 2
          · have : m = n := by
              have a' : ¬ n % 2 = 0 := a
              have b' : ¬ m % 2 = 0 := b
              omega
            rw [if_pos e, if_pos this]
          · have : ¬ m = n := by intro h; subst h; exact e rfl
            rw [if_neg e, if_neg this]
      · simp at h
theorem BT.get_mk : ∀ (k n : Nat), (BT.mk k).get n = .poison
  | 0, n => by cases n <;> rfl
  | k + 1, n => by
    simp only [BT.get, BT.mk]
    split <;> exact BT.get_mk k _

def BT.fn (t : BT) : Env := t.get
def BT.set (t : BT) (d : Option Nat) (v : AV) : Option BT := match d with
  | none => some t
  | some d => t.put d v
theorem BT.set_fn {t t' : BT} {d : Option Nat} {v : AV} (h : t.set d v = some t') : t'.fn = t.fn.put d v := by
  cases d with
  | none => simp only [BT.set, Option.some.injEq] at h; subst h; rfl
  | some d => funext j; exact BT.get_put t t' d v h j
def BT.args : List AV → Nat → BT → Option BT
  | [], _, t => some t
  | a :: l, i, t => match t.put i a with
    | some t => BT.args l (i + 1) t
    | none => none
theorem BT.args_fn : ∀ (l : List AV) (i : Nat) (t t' : BT), BT.args l i t = some t' → ∀ j, t'.get j = if i ≤ j ∧ j < i + l.length then l.getD (j - i) .poison else t.get j
  | [], i, t, t', h, j => by
    simp only [BT.args, Option.some.injEq] at h
    subst h
    rw [if_neg (by simp only [List.length_nil]; omega)]
  | a :: l, i, t, t', h, j => by
    simp only [BT.args] at h
    split at h
    · rename_i t1 h1
      rw [BT.args_fn l (i + 1) t1 t' h j, BT.get_put _ _ _ _ h1]
      by_cases e : j = i
      · subst e
        rw [if_neg (by omega), if_pos rfl, if_pos (by simp)]
        simp
      · by_cases e2 : i + 1 ≤ j ∧ j < i + 1 + l.length
        · rw [if_pos e2, if_pos (by simp only [List.length_cons]; omega)]
          obtain ⟨m, rfl⟩ : ∃ m, j = i + 1 + m := ⟨j - (i + 1), by omega⟩
          rw [show i + 1 + m - (i + 1) = m from by omega, show i + 1 + m - i = m + 1 from by omega]
          simp
        · rw [if_neg e2, if_neg e, if_neg (by simp only [List.length_cons]; omega)]
    · simp at h
theorem BT.args_of {k : Nat} {l : List AV} {t : BT} (h : BT.args l 0 (BT.mk k) = some t) : t.fn = Env.of l := by
  funext j
  show t.get j = _
  rw [BT.args_fn l 0 _ _ h j]
  simp only [Nat.zero_le, true_and, Nat.zero_add, Nat.sub_zero, Env.of]
  split
  · rfl
  · rename_i hj
    rw [BT.get_mk, List.getD_eq_getElem?_getD, List.getElem?_eq_none (by omega)]; rfl

/-! ### append as a whole -/
theorem vappIn_none {e : TypeId} {sz b : Nat} {s0 x : AV} {M : Mem} {X : AObj} {r1 r2 : List AV × Nat} (hs : M[b]? = some blank) (h1 : srcCells M sz s0 = some r1) (h2 : srcCells M sz x = some r2) (h : vappIn e sz s0 x M = none) : vappIn e sz s0 x (M.set b X) = none := by
  cases s0 with
  | vref f h' s' lo len =>
    simp only [srcCells] at h1
    split at h1
    case h_2 => simp at h1
    rename_i e2 s2 cs g hist hM
    split at h1
    case h_2 => simp at h1
    rename_i n hn
    simp only [vappIn, h2, hM, hn] at h
    simp only [vappIn, srcCells_fill hs h2, fill_get1 hs hM (vec_ne_blank hn), hn]
    split at h
    · simp at h
    · rename_i hc; rw [if_neg hc]
  | _ => simp [vappIn]
theorem appMem_acts {e : TypeId} {sz bytes : Nat} {s0 x v : AV} {M M' : Mem} (hv : vecLike true s0 = true) (h : appMem false true e sz bytes s0 x M = some (v, M')) : Acts (appMem false true e sz bytes s0 x) M v M' (appWrites s0) := by
  unfold appMem at h
  rw [if_pos hv] at h
  split at h
  case h_2 => simp at h
  rename_i c1 k c2 m h1 h2
  split at h
  case isFalse => simp at h
  rename_i hb
  split at h
  · rename_i r hr
    simp only [Option.some.injEq] at h
    subst h
    have ha := vappIn_acts hr
    exact ⟨ha.grow, ha.old, ha.keep, fun s X hs => by simp only [appMem, if_pos hv, srcCells_fill hs h1, srcCells_fill hs h2, if_pos hb, ha.fill s X hs]⟩
  · rename_i hr
    have ha := vappAV_acts h
    exact ⟨ha.grow, ha.old, ha.keep, fun s X hs => by simp only [appMem, if_pos hv, srcCells_fill hs h1, srcCells_fill hs h2, if_pos hb, vappIn_none hs h1 h2 hr, ha.fill s X hs]⟩
end Go.Abs
end
section
/- The evaluator: a call without unknowns is run on abstract values, and what it answers is its contract. -/
set_option linter.unusedVariables false
namespace Go.Abs

def HX : Hint := ⟨fun _ => false, fun _ => false, fun _ => true⟩

abbrev XR := AV × Mem × List Nat
abbrev CallF := FuncId → List AV → Mem → Option XR

structure XActs (f : Mem → Option XR) (M : Mem) (v : AV) (M1 : Mem) (ws : List Nat) : Prop where
  grow : M.length ≤ M1.length
  old : ∀ i, i < M.length → i ∉ ws → M1[i]? = M[i]?
  keep : KeepsBlank M M1
  fill : ∀ (s : Nat) (X : AObj), M[s]? = some blank → f (M.set s X) = some (v, M1.set s X, ws)
theorem Acts.x {f : Mem → Option (AV × Mem)} {M M1 : Mem} {v : AV} {ws : List Nat} (h : Acts f M v M1 ws) {g : Mem → Option XR} (hg : ∀ M2 M3, f M2 = some (v, M3) → g M2 = some (v, M3, ws)) : XActs g M v M1 ws :=
  ⟨h.grow, h.old, h.keep, fun s X hs => hg _ _ (h.fill s X hs)⟩
theorem XActs.same {f : Mem → Option XR} {M : Mem} {v : AV} {ws : List Nat} (h : ∀ (s : Nat) (X : AObj), M[s]? = some blank → f (M.set s X) = some (v, M.set s X, ws)) : XActs f M v M ws :=
  ⟨Nat.le_refl _, fun _ _ _ => rfl, fun _ h => h, h⟩
theorem blanks_tail {M : Mem} {p : Nat × AObj} {l : List (Nat × AObj)} (hb : Blanks M (p :: l)) : M[p.1]? = some blank ∧ Blanks (M.set p.1 p.2) l := by
  obtain ⟨h1, h2⟩ := hb
  simp only [List.map_cons, List.nodup_cons] at h2
  refine ⟨h1 p (by simp), fun q hq => ?_, h2.2⟩
  rw [List.getElem?_set_ne (fun e => h2.1 (by rw [e]; exact List.mem_map_of_mem hq))]
  exact h1 q (by simp [hq])
theorem fills_of {f : Mem → Option XR} (ha : ∀ M v M1 ws, f M = some (v, M1, ws) → XActs f M v M1 ws) : ∀ (l : List (Nat × AObj)) (M M1 : Mem) (v : AV) (ws : List Nat), f M = some (v, M1, ws) → Blanks M l → f (Go.Abs.fill M l) = some (v, Go.Abs.fill M1 l, ws)
  | [], M, M1, v, ws, h, _ => h
  | p :: l, M, M1, v, ws, h, hb => by
    obtain ⟨h1, h2⟩ := blanks_tail hb
    exact fills_of ha l (M.set p.1 p.2) (M1.set p.1 p.2) v ws ((ha _ _ _ _ h).fill p.1 p.2 h1) h2

def CallOK (C : Ctx) (call : CallF) : Prop := ∀ g args M v M1 ws, call g args M = some (v, M1, ws) → Invk C g args M (fun r m => r = v ∧ m = M1) ∧ XActs (call g args) M v M1 ws

/-! ### append -/
def srcOkB (P : Program) (u : TypeId) : Bool := match P.underlying u with | some (.slice _) | some .string => true | _ => false
def elemFacts (P : Program) (e : TypeId) : Option (Nat × Nat) := match P.info? e with
  | some i => match i.zero with
    | some z => if z.cells.size = i.size ∧ 0 < i.bytes then some (i.size, i.bytes) else none
    | none => none
  | none => none
theorem elemFacts_ok {P : Program} {e : TypeId} {sz bytes : Nat} (h : elemFacts P e = some (sz, bytes)) : elemOk P e sz bytes := by
  unfold elemFacts at h
  split at h
  · rename_i i hi
    split at h
    · rename_i z hz
      split at h
      · rename_i hc
        simp only [Option.some.injEq, Prod.mk.injEq] at h
        obtain ⟨rfl, rfl⟩ := h
        exact ⟨i, z, hi, hz, rfl, rfl, hc.1, hc.2⟩
      · simp at h
    · simp at h
  · simp at h
theorem srcOkB_ok {P : Program} {u : TypeId} (h : srcOkB P u = true) : srcOk P u := by
  unfold srcOkB at h
  split at h
  · rename_i e hu; exact .inl ⟨e, hu⟩
  · rename_i hu; exact .inr hu
  · simp at h
def xAppend (P : Program) (t u : TypeId) (s x : AV) (M : Mem) : Option XR := match elemOf? P t with
  | some e => match elemFacts P e with
    | some (sz, bytes) => match srcOkB P u, vecLike true s with
      | true, true => match appMem false true e sz bytes s x M with
        | some (v, M') => some (v, M', appWrites s)
        | none => none
      | _, _ => none
    | none => none
  | none => none
theorem xAppend_ok {C : Ctx} {t u : TypeId} {s x v : AV} {M M' : Mem} {ws : List Nat} (h : xAppend C.P t u s x M = some (v, M', ws)) :
    (∃ e sz bytes, appendOk C.P t u sz bytes e ∧ appMem false true e sz bytes s x M = some (v, M') ∧ Acts (appMem false true e sz bytes s x) M v M' ws) ∧ XActs (xAppend C.P t u s x) M v M' ws := by
  unfold xAppend at h
  split at h
  case h_2 => simp at h
  rename_i e he
  split at h
  case h_2 => simp at h
  rename_i sz bytes hf
  split at h
  case h_2 => simp at h
  rename_i hu hv
  split at h
  case h_2 => simp at h
  rename_i v1 M1 ha
  simp only [Option.some.injEq, Prod.mk.injEq] at h
  obtain ⟨rfl, rfl, rfl⟩ := h
  have hact := appMem_acts hv ha
  refine ⟨⟨e, sz, bytes, ⟨he, srcOkB_ok hu, elemFacts_ok hf⟩, ha, hact⟩, hact.x fun M2 M3 h2 => ?_⟩
  simp only [xAppend, he, hf, hu, hv, h2]

/-! ### one operation -/
def xOp (call : CallF) (C : Ctx) (o : Oper) (ρ : Operand → AV) (M : Mem) : Option XR :=
  match o.op with
  | .call { callee := .value f, args, .. } => match ρ f with
    | .func (.func g) first captured => call g (first ++ args.toList.map ρ ++ captured) M
    | _ => none
  | .call { callee := .builtin .append, args, argTypes } => match args.toList, argTypes.toList with
    | [s, x], [t, u] => match o.dst with
      | some _ => xAppend C.P t u (ρ s) (ρ x) M
      | none => none
    | _, _ => none
  | _ => match evalPure C HX o ρ with
    | some v => some (v, M, [])
    | none => match evalOp C HX o ρ M with
      | some (v, M') => some (v, M', writesOf o ρ)
      | none => none

theorem xOp_ok {call : CallF} {C : Ctx} (hc : CallOK C call) {o : Oper} {ρ : Operand → AV} {M M' : Mem} {v : AV} {ws : List Nat} (h : xOp call C o ρ M = some (v, M', ws)) :
    (∀ K : AV → Mem → Prop, K v M' → vcOp C HX o K ρ M) ∧ XActs (xOp call C o ρ) M v M' ws := by
  obtain ⟨d, op, t, p, af, g⟩ := o
  unfold xOp at h
  simp only at h
  split at h
  · rename_i f args ts
    split at h
    case h_2 => simp at h
    rename_i g' first captured hf
    obtain ⟨h1, h2⟩ := hc _ _ _ _ _ _ h
    refine ⟨fun K hk => ?_, ⟨h2.grow, h2.old, h2.keep, fun s X hs => by simp only [xOp, hf]; exact h2.fill s X hs⟩⟩
    simp only [vcOp, hf]
    refine h1.mono ?_
    rintro r m ⟨rfl, rfl⟩
    exact hk
  · rename_i args ts
    split at h
    case h_2 => simp at h
    rename_i s x t' u ha ht
    split at h
    case h_2 => simp at h
    rename_i d0
    obtain ⟨⟨e, sz, bytes, q1, q2, _⟩, q3⟩ := xAppend_ok h
    refine ⟨fun K hk => ?_, ⟨q3.grow, q3.old, q3.keep, fun s X hs => by simp only [xOp, ha, ht]; exact q3.fill s X hs⟩⟩
    simp only [vcOp, ha, ht]
    refine ⟨e, sz, bytes, q1, ?_⟩
    have : appMem (hintAt HX.own (some d0)) (hintAt HX.vec (some d0)) e sz bytes (ρ s) (ρ x) M = some (v, M') := q2
    rw [this]; exact hk
  · rename_i hne1 hne2
    have vc : ∀ v M', evalOp C HX ⟨d, op, t, p, af, g⟩ ρ M = some (v, M') → ∀ K : AV → Mem → Prop, K v M' → vcOp C HX ⟨d, op, t, p, af, g⟩ K ρ M := by
      intro v M' he K hk
      unfold vcOp
      split
      · rename_i heq; exact absurd heq (by intro e; exact hne1 _ _ _ e)
      · rename_i heq; exact absurd heq (by intro e; exact hne2 _ _ e)
      · rw [he]; exact hk
    have xo : ∀ M2, xOp call C ⟨d, op, t, p, af, g⟩ ρ M2 = (match evalPure C HX ⟨d, op, t, p, af, g⟩ ρ with
    | some v => some (v, M2, [])
    | none => match evalOp C HX ⟨d, op, t, p, af, g⟩ ρ M2 with
      | some (v, M') => some (v, M', writesOf ⟨d, op, t, p, af, g⟩ ρ)
      | none => none) := by
      intro M2
      unfold xOp
      split
      · rename_i heq; exact absurd heq (by intro e; exact hne1 _ _ _ e)
      · rename_i heq; exact absurd heq (by intro e; exact hne2 _ _ e)
      · rfl
    split at h
    · rename_i v1 hp
      simp only [Option.some.injEq, Prod.mk.injEq] at h
      obtain ⟨rfl, rfl, rfl⟩ := h
      exact ⟨vc _ _ (by simp only [evalOp, hp]), .same fun s X _ => by simp only [xo, hp]⟩
    · rename_i hp
      split at h
      · rename_i v1 M1 he
        simp only [Option.some.injEq, Prod.mk.injEq] at h
        obtain ⟨rfl, rfl, rfl⟩ := h
        exact ⟨vc _ _ he, (evalOp_acts he).x fun M2 M3 h2 => by simp only [xo, hp, h2]⟩
      · simp at h

/-! ### what is written -/
def memN : Nat → List Nat → Bool
  | _, [] => false
  | n, a :: l => match Nat.beq n a with
    | true => true
    | false => memN n l
theorem memN_iff {n : Nat} : ∀ {l : List Nat}, memN n l = true ↔ n ∈ l
  | [] => by simp [memN]
  | a :: l => by
    simp only [memN]
    split
    · rename_i h; simp [Nat.eq_of_beq_eq_true h]
    · rename_i h
      rw [memN_iff (l := l)]
      have : n ≠ a := by intro e; subst e; rw [Nat.beq_refl] at h; simp at h
      simp [this]
def wsAdd (base : Nat) : List Nat → List Nat → List Nat
  | [], ws => ws
  | b :: l, ws => match Nat.ble base b, memN b ws with
    | false, false => wsAdd base l (b :: ws)
    | _, _ => wsAdd base l ws
theorem wsAdd_old {base : Nat} : ∀ {l ws : List Nat} {i : Nat}, i < base → i ∉ wsAdd base l ws → i ∉ l ∧ i ∉ ws
  | [], ws, i, _, h => ⟨by simp, h⟩
  | b :: l, ws, i, hi, h => by
    simp only [wsAdd] at h
    split at h
    · have := wsAdd_old hi h
      simp only [List.mem_cons, not_or] at this ⊢
      exact ⟨⟨this.2.1, this.1⟩, this.2.2⟩
    · rename_i hne
      have := wsAdd_old hi h
      refine ⟨?_, this.2⟩
      simp only [List.mem_cons, not_or]
      refine ⟨?_, this.1⟩
      intro e
      subst e
      have h1 : Nat.ble base i = false := by
        cases hb : Nat.ble base i with
        | false => rfl
        | true => have := Nat.le_of_ble_eq_true hb; omega
      have h2 : memN i ws = false := by
        cases hm : memN i ws with
        | false => rfl
        | true => exact absurd (memN_iff.1 hm) this.2
      exact hne h1 h2
def Old (base : Nat) (ws : List Nat) (M0 M : Mem) : Prop := ∀ i, i < base → i ∉ ws → M[i]? = M0[i]?
theorem Old.add {base : Nat} {l ws : List Nat} {M0 M M1 : Mem} (h : Old base ws M0 M) (hb : base ≤ M.length) (hs : ∀ i, i < M.length → i ∉ l → M1[i]? = M[i]?) : Old base (wsAdd base l ws) M0 M1 := by
  intro i hi hn
  obtain ⟨h1, h2⟩ := wsAdd_old hi hn
  rw [hs i (by omega) h1, h i hi h2]

structure Goes {R : Type} (base : Nat) (f : Mem → Option R) (mk : Mem → R) (M M' : Mem) (ws ws' : List Nat) : Prop where
  grow : M.length ≤ M'.length
  keep : KeepsBlank M M'
  old : base ≤ M.length → ∀ M0, Old base ws M0 M → Old base ws' M0 M'
  fill : ∀ (s : Nat) (X : AObj), M[s]? = some blank → f (M.set s X) = some (mk (M'.set s X))
theorem Goes.same {R : Type} {base : Nat} {f : Mem → Option R} {mk : Mem → R} {M : Mem} {ws : List Nat} (h : ∀ (s : Nat) (X : AObj), M[s]? = some blank → f (M.set s X) = some (mk (M.set s X))) : Goes base f mk M M ws ws :=
  ⟨Nat.le_refl _, fun _ h => h, fun _ _ h => h, h⟩
/-- two steps, the second behind the first -/
theorem Goes.trans {R R2 : Type} {base : Nat} {f : Mem → Option R} {mk : Mem → R} {f2 : Mem → Option R2} {mk2 : Mem → R2} {f3 : Mem → Option R2} {M M1 M2 : Mem} {ws ws1 ws2 : List Nat} (h : Goes base f mk M M1 ws ws1) (k : Goes base f2 mk2 M1 M2 ws1 ws2)
    (hf : ∀ A B, f A = some (mk B) → f3 A = f2 B) : Goes base f3 mk2 M M2 ws ws2 :=
  ⟨Nat.le_trans h.grow k.grow, fun s hs => k.keep s (h.keep s hs), fun hb M0 h0 => k.old (Nat.le_trans hb h.grow) M0 (h.old hb M0 h0), fun s X hs => by rw [hf _ _ (h.fill s X hs)]; exact k.fill s X (h.keep s hs)⟩
theorem XActs.goes {R : Type} {base : Nat} {g : Mem → Option XR} {f : Mem → Option R} {mk : Mem → R} {M M1 : Mem} {v : AV} {l ws : List Nat} (h : XActs g M v M1 l) (hf : ∀ A B, g A = some (v, B, l) → f A = some (mk B)) : Goes base f mk M M1 ws (wsAdd base l ws) :=
  ⟨h.grow, h.keep, fun hb M0 h0 => h0.add hb h.old, fun s X hs => hf _ _ (h.fill s X hs)⟩
theorem Goes.turn {R R2 : Type} {base : Nat} {f : Mem → Option R} {mk : Mem → R} {f2 : Mem → Option R2} {mk2 : Mem → R2} {M M1 : Mem} {ws ws1 : List Nat} (h : Goes base f mk M M1 ws ws1) (hf : ∀ A B, f A = some (mk B) → f2 A = some (mk2 B)) : Goes base f2 mk2 M M1 ws ws1 :=
  ⟨h.grow, h.keep, h.old, fun s X hs => hf _ _ (h.fill s X hs)⟩

/-! ### regions -/
def xGuard (ops : Array Oper) (o : Oper) (t : BT) : Option Bool := match o.guard with
  | none => some true
  | some (j, want) => match (ops[j]?).bind (·.dst) with
    | some d => match t.get d with
      | .val (.bool b) => some (b == want)
      | .val (.tuple _) => some false
      | _ => none
    | none => none
theorem xGuard_ok {ops : Array Oper} {o : Oper} {t : BT} {b : Bool} (h : xGuard ops o t = some b) (run skip : Prop) : vcGuard ops o t.fn run skip = if b = true then run else skip := by
  unfold xGuard at h
  unfold vcGuard
  split at h
  · rename_i hg
    simp only [Option.some.injEq] at h
    subst h
    rw [hg]; simp
  · rename_i j want hg
    rw [hg]
    simp only
    split at h
    · rename_i d hd
      rw [hd]
      simp only [BT.fn]
      split at h
      · rename_i b' hb
        simp only [Option.some.injEq] at h
        subst h
        rw [hb]
        simp only [beq_iff_eq]
      · rename_i hb
        simp only [Option.some.injEq] at h
        subst h
        rw [hb]; simp
      · simp at h
    · simp at h

def xOps (call : CallF) (C : Ctx) (base : Nat) (ops : Array Oper) : List Oper → BT → Mem → List Nat → Option (BT × Mem × List Nat)
  | [], t, M, ws => some (t, M, ws)
  | o :: rest, t, M, ws => match xGuard ops o t with
    | some true => match xOp call C o (t.fn.ev C) M with
      | some (v, M', l) => match t.set o.dst v with
        | some t' => xOps call C base ops rest t' M' (wsAdd base l ws)
        | none => none
      | none => none
    | some false => match t.set o.dst (.val undef) with
      | some t' => xOps call C base ops rest t' M ws
      | none => none
    | none => none

theorem xOps_ok {call : CallF} {C : Ctx} (hc : CallOK C call) {base : Nat} {ops : Array Oper} : ∀ (l : List Oper) (t : BT) (M : Mem) (ws : List Nat) (t' : BT) (M' : Mem) (ws' : List Nat), xOps call C base ops l t M ws = some (t', M', ws') →
    vcOps C HX ops l (fun T m => T = t'.fn ∧ m = M') t.fn M ∧ Goes base (fun m => xOps call C base ops l t m ws) (fun m => (t', m, ws')) M M' ws ws'
  | [], t, M, ws, t', M', ws', h => by
    simp only [xOps, Option.some.injEq, Prod.mk.injEq] at h
    obtain ⟨rfl, rfl, rfl⟩ := h
    exact ⟨⟨rfl, rfl⟩, .same fun _ _ _ => rfl⟩
  | o :: rest, t, M, ws, t', M', ws', h => by
    simp only [xOps] at h
    simp only [vcOps]
    split at h
    · rename_i hgd
      split at h
      case h_2 => simp at h
      rename_i v M1 l2 ho
      split at h
      case h_2 => simp at h
      rename_i t1 ht
      obtain ⟨h1, h2⟩ := xOp_ok hc ho
      obtain ⟨h3, h4⟩ := xOps_ok hc rest t1 M1 (wsAdd base l2 ws) t' M' ws' h
      refine ⟨?_, (h2.goes (base := base) (ws := ws) (f := xOp call C o (t.fn.ev C)) (mk := fun B => (v, B, l2)) (fun A B e => e)).trans h4 (fun A B e => ?_)⟩
      · rw [xGuard_ok hgd, if_pos rfl]
        refine h1 _ ?_
        rw [← BT.set_fn ht]; exact h3
      · simp only [xOps, hgd, e, ht]
    · rename_i hgd
      split at h
      case h_2 => simp at h
      rename_i t1 ht
      obtain ⟨h3, h4⟩ := xOps_ok hc rest t1 M ws t' M' ws' h
      refine ⟨?_, h4.turn (fun A B e => by simp only [xOps, hgd, ht]; exact e)⟩
      rw [xGuard_ok hgd, if_neg (by simp), ← BT.set_fn ht]; exact h3
    · simp at h
end Go.Abs
end
section
/- The evaluator: regions whose order is open. -/
set_option linter.unusedVariables false
namespace Go.Abs

structure Foot where
  cls : Nat
  rob : Nat
  slot : Nat
  ws : List Nat
  len : Nat
def isAlloc (o : Oper) : Bool := match o.op with
  | .alloc _ => true
  | _ => false
def xDrawOp (call : CallF) (C : Ctx) (o : Oper) (ρ : Operand → AV) (M : Mem) (slot : Nat) : Option (Foot × AV × Mem) :=
  match o.op with
  | .call { callee := .value f, args, .. } => match ρ f with
    | .func (.func g) first captured => match call g (first ++ args.toList.map ρ ++ captured) M with
      | some (v, M', l) => some (⟨2, 0, 0, l, M.length⟩, v, M')
      | none => none
    | _ => none
  | .call { callee := .builtin .append, args, argTypes } => match args.toList, argTypes.toList with
    | [s, x], [t, u] => match o.dst with
      | some _ => match xAppend C.P t u (ρ s) (ρ x) M with
        | some (v, M', l) => some (⟨2, 0, 0, l, M.length⟩, v, M')
        | none => none
      | none => none
    | _, _ => none
  | .alloc e => match slotObj C.P e, M[slot]? with
    | some X, some (.vec 0 1 [] 0 []) => some (⟨4, 0, slot, [slot], M.length⟩, .vptr slot 1 0, M.set slot X)
    | _, _ => none
  | _ => match (evalPure C HX o ρ).or (evalPure1 C o ρ) with
    | some v => some (⟨0, 0, 0, [], 0⟩, v, M)
    | none => match readObj o ρ with
      | some r => match readAV C o ρ M with
        | some v => some (⟨1, r, 0, [], 0⟩, v, M)
        | none => none
      | none => match evalOp C HX o ρ M with
        | some (v, M') => some (⟨2, 0, 0, writesOf o ρ, M.length⟩, v, M')
        | none => none

theorem readAV_fill {C : Ctx} {o : Oper} {ρ : Operand → AV} {M : Mem} {v : AV} {s r : Nat} {X : AObj} (hs : M[s]? = some blank) (hr : readObj o ρ = some r) (h : readAV C o ρ M = some v) : readAV C o ρ (M.set s X) = some v := by
  obtain ⟨d, op, t, p, af, g⟩ := o
  unfold readAV at h
  simp only at h
  split at h
  · rename_i t' x
    simp only [readAV]
    unfold loadAV at h ⊢
    cases hm : memOf M (ρ x) with
    | none => rw [hm] at h; simp at h
    | some cs => rw [memOf_fill hs hm]; rw [hm] at h; exact h
  · simp only [readAV]
    exact lookupAV_fill hs h
  · rename_i args ts
    split at h
    case h_2 => simp at h
    rename_i x t' ha ht
    simp only [readAV, ha, ht]
    cases hl : lenAV C.P t' (ρ x) with
    | some n => rw [hl] at h; simp only [Option.some_or] at h ⊢; exact h
    | none =>
      rw [hl] at h
      simp only [Option.none_or] at h ⊢
      cases hm : lenMore C.P t' M (ρ x) with
      | none => rw [hm] at h; simp at h
      | some n => rw [lenMore_fill hs hm]; rw [hm] at h; exact h
  · simp at h

def isStore (o : Oper) : Bool := match o.op with
  | .store .. => true
  | _ => false
theorem storeObj_of {o : Oper} {ρ : Operand → AV} {r : Nat} (hs : isStore o = true) (hw : writesOf o ρ = [r]) : storeObj o ρ = some r := by
  obtain ⟨d, op, t, p, af, g⟩ := o
  cases op <;> first | (simp [isStore] at hs; done) | skip
  case store st a x =>
    simp only [writesOf] at hw
    simp only [storeObj]
    split at hw <;> simp_all
/-- what is known of one operation of such a region -/
structure DrawOK (C : Ctx) (o : Oper) (ρ : Operand → AV) (g : Mem → Option (Foot × AV × Mem)) (M : Mem) (f : Foot) (v : AV) (M' : Mem) (slot R : Nat) : Prop where
  run : ∀ K : AV → Mem → Prop, K v M' → dOp C HX true f.cls f.rob f.slot o ρ M K
  grow : M.length ≤ M'.length
  len : M' = M ∨ f.len = M.length
  old : ∀ i, i < M.length → i ∉ f.ws → M'[i]? = M[i]?
  keep : ∀ s, s < R → M[s]? = some blank → M'[s]? = some blank
  fill : ∀ (s : Nat) (X : AObj), s < R → M[s]? = some blank → g (M.set s X) = some (f, v, M'.set s X)
  slot : f.cls = 4 → f.slot = slot ∧ isAlloc o = true ∧ ∃ X, M' = M.set slot X
  run5 : ∀ r, isStore o = true → f.cls = 2 → f.ws = [r] → ∀ K : AV → Mem → Prop, K v M' → dOp C HX true 5 f.rob r o ρ M K
  no5 : f.cls ≠ 5

theorem xDrawOp_ok {call : CallF} {C : Ctx} (hc : CallOK C call) {o : Oper} {ρ : Operand → AV} {M M' : Mem} {v : AV} {f : Foot} {slot R : Nat} (hR : R ≤ slot) (h : xDrawOp call C o ρ M slot = some (f, v, M')) :
    DrawOK C o ρ (fun m => xDrawOp call C o ρ m slot) M f v M' slot R := by
  obtain ⟨d, op, t, p, af, g⟩ := o
  unfold xDrawOp at h
  simp only at h
  split at h
  · rename_i fo args ts
    split at h
    case h_2 => simp at h
    rename_i g' first captured hf
    split at h
    case h_2 => simp at h
    rename_i v1 M1 l1 hcall
    simp only [Option.some.injEq, Prod.mk.injEq] at h
    obtain ⟨rfl, rfl, rfl⟩ := h
    obtain ⟨h1, h2⟩ := hc _ _ _ _ _ _ hcall
    refine ⟨fun K hk => ?_, h2.grow, .inr rfl, h2.old, fun s _ => h2.keep s, fun s X _ hs => by simp only [xDrawOp, hf, h2.fill s X hs, List.length_set], fun e => by simp at e, fun r hs => by simp [isStore] at hs, by simp⟩
    simp only [dOp, hf]
    rw [if_neg (by simp)]
    exact ⟨v1, M1, by trivial, h1, fun _ => ⟨h2.keep, fun l hl => (hc _ _ _ _ _ _ (fills_of (f := call g' (first ++ args.toList.map ρ ++ captured)) (fun M v M1 ws h => (hc _ _ _ _ _ _ h).2) l M M1 v1 l1 hcall hl)).1⟩, hk⟩
  · rename_i args ts
    split at h
    case h_2 => simp at h
    rename_i s x t' u ha ht
    split at h
    case h_2 => simp at h
    rename_i d0
    split at h
    case h_2 => simp at h
    rename_i v1 M1 l1 happ
    simp only [Option.some.injEq, Prod.mk.injEq] at h
    obtain ⟨rfl, rfl, rfl⟩ := h
    obtain ⟨⟨e, sz, bytes, q1, q2, q4⟩, q3⟩ := xAppend_ok happ
    refine ⟨fun K hk => ?_, q3.grow, .inr rfl, q3.old, fun s _ => q3.keep s, fun s X _ hs => by simp only [xDrawOp, ha, ht, q3.fill s X hs, List.length_set], fun e => by simp at e, fun r hs => by simp [isStore] at hs, by simp⟩
    simp only [dOp, ha, ht]
    refine ⟨e, sz, bytes, q1, ?_, ?_⟩
    · trivial
    have q2' : appMem (hintAt HX.own (some d0)) (hintAt HX.vec (some d0)) e sz bytes (ρ s) (ρ x) M = some (v1, M1) := q2
    unfold resOK
    rw [q2']
    refine ⟨fun _ => ⟨q3.keep, fun l hl => ?_⟩, hk⟩
    have hv : vecLike true (ρ s) = true := by
      unfold xAppend at happ
      split at happ
      case h_2 => simp at happ
      split at happ
      case h_2 => simp at happ
      split at happ
      case h_2 => simp at happ
      rename_i hv; exact hv
    have gen : ∀ (l : List (Nat × AObj)) (M M1 : Mem) (v : AV), appMem false true e sz bytes (ρ s) (ρ x) M = some (v, M1) → Blanks M l → appMem false true e sz bytes (ρ s) (ρ x) (Go.Abs.fill M l) = some (v, Go.Abs.fill M1 l) := by
      intro l
      induction l with
      | nil => intro M M1 v h _; exact h
      | cons p l ih =>
        intro M M1 v h hb
        obtain ⟨b1, b2⟩ := blanks_tail hb
        exact ih (M.set p.1 p.2) (M1.set p.1 p.2) v ((appMem_acts hv h).fill p.1 p.2 b1) b2
    exact gen l M M1 v1 q2 hl
  · rename_i e
    split at h
    case h_2 => simp at h
    rename_i X hX hM
    simp only [Option.some.injEq, Prod.mk.injEq] at h
    obtain ⟨rfl, rfl, rfl⟩ := h
    have hM' : M[slot]? = some blank := hM
    refine ⟨fun K hk => ?_, by simp, .inr rfl, fun i _ hn => ?_, fun s hs hb => ?_, fun s Y hs hb => ?_, fun _ => ⟨rfl, rfl, X, rfl⟩, fun r hs => by simp [isStore] at hs, by simp⟩
    · simp only [dOp]
      rw [if_pos trivial]
      exact ⟨trivial, hM', by rw [hX]; exact hk⟩
    · rw [List.getElem?_set_ne (fun e => hn (by simp [e]))]
    · rw [List.getElem?_set_ne (by omega)]; exact hb
    · have : (M.set s Y)[slot]? = some (.vec 0 1 [] 0 []) := by rw [List.getElem?_set_ne (by omega)]; exact hM
      simp only [xDrawOp, hX, this, List.length_set]
      rw [List.set_comm _ _ (by omega)]
  · rename_i hne1 hne2 hne3
    have key : ∀ c r s M K, dOp C HX true c r s ⟨d, op, t, p, af, g⟩ ρ M K = (if c = 0 then onSome ((evalPure C HX ⟨d, op, t, p, af, g⟩ ρ).or (evalPure1 C ⟨d, op, t, p, af, g⟩ ρ)) (fun v => K v M) else if c = 1 then readObj ⟨d, op, t, p, af, g⟩ ρ = some r ∧ onSome (readAV C ⟨d, op, t, p, af, g⟩ ρ M) (fun v => K v M)
      else if c = 5 then storeObj ⟨d, op, t, p, af, g⟩ ρ = some s ∧ onSome (evalOp C HX ⟨d, op, t, p, af, g⟩ ρ M) (fun r => K r.1 r.2)
      else c = 2 ∧ resOK true (evalOp C HX ⟨d, op, t, p, af, g⟩ ρ) M K) := by
      intro c r s M K
      unfold dOp
      split
      · rename_i heq; exact absurd heq (by intro e; exact hne1 _ _ _ e)
      · rename_i heq; exact absurd heq (by intro e; exact hne2 _ _ e)
      · rename_i heq; exact absurd heq (by intro e; exact hne3 _ e)
      · rfl
    have xkey : ∀ M2, xDrawOp call C ⟨d, op, t, p, af, g⟩ ρ M2 slot = (match (evalPure C HX ⟨d, op, t, p, af, g⟩ ρ).or (evalPure1 C ⟨d, op, t, p, af, g⟩ ρ) with
    | some v => some (⟨0, 0, 0, [], 0⟩, v, M2)
    | none => match readObj ⟨d, op, t, p, af, g⟩ ρ with
      | some r => match readAV C ⟨d, op, t, p, af, g⟩ ρ M2 with
        | some v => some (⟨1, r, 0, [], 0⟩, v, M2)
        | none => none
      | none => match evalOp C HX ⟨d, op, t, p, af, g⟩ ρ M2 with
        | some (v, M') => some (⟨2, 0, 0, writesOf ⟨d, op, t, p, af, g⟩ ρ, M2.length⟩, v, M')
        | none => none) := by
      intro M2
      unfold xDrawOp
      split
      · rename_i heq; exact absurd heq (by intro e; exact hne1 _ _ _ e)
      · rename_i heq; exact absurd heq (by intro e; exact hne2 _ _ e)
      · rename_i heq; exact absurd heq (by intro e; exact hne3 _ e)
      · rfl
    split at h
    · rename_i v1 he
      simp only [Option.some.injEq, Prod.mk.injEq] at h
      obtain ⟨rfl, rfl, rfl⟩ := h
      exact ⟨fun K hk => by rw [key, if_pos rfl, he]; exact hk, Nat.le_refl _, .inl rfl, fun _ _ _ => rfl, fun _ _ h => h, fun s X _ _ => by simp only [xkey, he], fun e => by simp at e, fun r _ hc => by simp at hc, by simp⟩
    · rename_i hnone
      split at h
      · rename_i r hr
        split at h
        case h_2 => simp at h
        rename_i v1 hrd
        simp only [Option.some.injEq, Prod.mk.injEq] at h
        obtain ⟨rfl, rfl, rfl⟩ := h
        exact ⟨fun K hk => by rw [key, if_neg (by simp), if_pos rfl, hrd]; exact ⟨hr, hk⟩, Nat.le_refl _, .inl rfl, fun _ _ _ => rfl, fun _ _ h => h, fun s X _ hs => by simp only [xkey, hnone, hr, readAV_fill hs hr hrd], fun e => by simp at e, fun r _ hc => by simp at hc, by simp⟩
      · rename_i hno
        split at h
        case h_2 => simp at h
        rename_i v1 M1 he
        simp only [Option.some.injEq, Prod.mk.injEq] at h
        obtain ⟨rfl, rfl, rfl⟩ := h
        have ha := evalOp_acts he
        refine ⟨fun K hk => ?_, ha.grow, .inr rfl, ha.old, fun s _ => ha.keep s, fun s X _ hs => ?_, fun e => by simp at e, fun r hst _ hw K hk => by rw [key, if_neg (by simp), if_neg (by simp), if_pos rfl, he]; exact ⟨storeObj_of hst hw, hk⟩, by simp⟩
        · rw [key, if_neg (by simp), if_neg (by simp), if_neg (by simp)]
          refine ⟨rfl, ?_⟩
          unfold resOK
          rw [he]
          refine ⟨fun _ => ⟨ha.keep, fun l hl => ?_⟩, hk⟩
          have gen : ∀ (l : List (Nat × AObj)) (M M1 : Mem) (v : AV), evalOp C HX ⟨d, op, t, p, af, g⟩ ρ M = some (v, M1) → Blanks M l → evalOp C HX ⟨d, op, t, p, af, g⟩ ρ (Go.Abs.fill M l) = some (v, Go.Abs.fill M1 l) := by
            intro l
            induction l with
            | nil => intro M M1 v h _; exact h
            | cons p l ih =>
              intro M M1 v h hb
              obtain ⟨b1, b2⟩ := blanks_tail hb
              exact ih (M.set p.1 p.2) (M1.set p.1 p.2) v ((evalOp_acts h).fill p.1 p.2 b1) b2
          exact gen l M M1 v1 he hl
        · simp only [xkey, hnone]
          simp only [hno, ha.fill s X hs, List.length_set]
end Go.Abs
end
section
/- Whether a region's order matters: a check that the kernel runs quickly. -/
set_option linter.unusedVariables false
set_option linter.unnecessarySimpa false
namespace Go.Abs

def F0 : Foot := ⟨0, 0, 0, [], 0⟩
def footOf (fs : List Foot) (k : Nat) : Foot := fs.getD k F0
def planOf (fs : List Foot) : Plan :=
  { cls := fun k => (footOf fs k).cls, rob := fun k => (footOf fs k).rob, slot := fun k => (footOf fs k).slot,
    aff := fun i k => memN (footOf fs i).rob (footOf fs k).ws || Nat.ble (footOf fs k).len (footOf fs i).rob, fl := true }

def bindsOn (o : Oper) : List Nat := (o.after.toList.filter (Region.binds .any)).map (·.on)
def maskOf (ms : List Nat) : List Nat → Nat
  | [] => 0
  | on :: l => Nat.lor (Nat.lor (Nat.shiftLeft 1 on) (ms.getD on 0)) (maskOf ms l)
/-- for each operation the earlier ones that it may come ahead of; none: slots conflict -/
def scan (ops : Array Oper) : List Oper → Nat → List Nat → Option (List (List Nat))
  | [], _, _ => some []
  | o :: l, i, ms => match (bindsOn o).all (fun on => Nat.blt on i) with
    | true => match ((List.range i).filter fun j => !(Nat.testBit (maskOf ms (bindsOn o)) j)).all (fun j => match ops[j]? with | some x => !slotConf ops x o | none => true) with
      | true => match scan ops l (i + 1) (ms ++ [maskOf ms (bindsOn o)]) with
        | some r => some (((List.range i).filter fun j => !(Nat.testBit (maskOf ms (bindsOn o)) j)) :: r)
        | none => none
      | false => none
    | false => none
/-- a ahead of b in the text: must they keep that order -/
def confF (a b : Foot) : Bool := match a.cls with
  | 0 => false
  | 1 => match b.cls with
    | 2 => memN a.rob b.ws || Nat.ble b.len a.rob
    | 4 => Nat.beq a.rob b.slot
    | 5 => Nat.beq a.rob b.slot
    | _ => false
  | 2 => match b.cls with
    | 2 => true
    | 5 => true
    | 1 => memN b.rob a.ws || Nat.ble a.len b.rob
    | _ => false
  | 4 => match b.cls with
    | 2 => true
    | 1 => Nat.beq b.rob a.slot
    | _ => false
  | 5 => match b.cls with
    | 2 => true
    | 1 => Nat.beq b.rob a.slot
    | _ => false
  | _ => true
def freeOf (all : List Foot) (f : Foot) : List Nat → Bool
  | [] => true
  | j :: l => match confF (footOf all j) f with
    | true => false
    | false => freeOf all f l
def chkF (all : List Foot) : List (List Nat) → List Foot → Bool
  | free :: r, f :: fs => match f.cls with
    | 0 => chkF all r fs
    | _ => match freeOf all f free with
      | true => chkF all r fs
      | false => false
  | [], [] => true
  | _, _ => false
def okF0 (ops : Array Oper) (fs : List Foot) : Bool := match scan ops ops.toList 0 [] with
  | some r => chkF fs r fs
  | none => false
/-- a store that is taken as turning its own object alone -/
def promo1 (o : Oper) (f : Foot) : Foot := match isStore o, f with
  | true, ⟨2, rob, _, [r], len⟩ => ⟨5, rob, r, [r], len⟩
  | _, f => f
def promote : List Oper → List Foot → List Foot
  | o :: l, f :: fs => promo1 o f :: promote l fs
  | _, fs => fs
def putSlots : List Foot → List Nat
  | [] => []
  | f :: fs => match isPut f.cls with
    | true => f.slot :: putSlots fs
    | false => putSlots fs
def nodupN : List Nat → Bool
  | [] => true
  | a :: l => !memN a l && nodupN l
def okF (ops : Array Oper) (fs : List Foot) : Bool := match okF0 ops fs with
  | true => true
  | false => okF0 ops (promote ops.toList fs) && nodupN (putSlots (promote ops.toList fs))

theorem mem_bindsOn {o : Oper} {e : Edge} (he : e ∈ o.after.toList) (hb : Region.binds .any e = true) : e.on ∈ bindsOn o :=
  List.mem_map.2 ⟨e, List.mem_filter.2 ⟨he, hb⟩, rfl⟩
theorem of_bindsOn {o : Oper} {j : Nat} (h : j ∈ bindsOn o) : ∃ e ∈ o.after.toList, Region.binds .any e = true ∧ e.on = j := by
  obtain ⟨e, he, rfl⟩ := List.mem_map.1 h
  obtain ⟨h1, h2⟩ := List.mem_filter.1 he
  exact ⟨e, h1, h2, rfl⟩
theorem testBit_maskOf {ms : List Nat} {j : Nat} : ∀ {l : List Nat}, Nat.testBit (maskOf ms l) j = true → ∃ on ∈ l, on = j ∨ Nat.testBit (ms.getD on 0) j = true
  | [], h => by simp [maskOf] at h
  | on :: l, h => by
    simp only [maskOf] at h
    have e : Nat.lor (Nat.lor (Nat.shiftLeft 1 on) (ms.getD on 0)) (maskOf ms l) = ((1 <<< on) ||| ms.getD on 0) ||| maskOf ms l := rfl
    rw [e, Nat.testBit_or, Nat.testBit_or, Nat.testBit_shiftLeft] at h
    simp only [Bool.or_eq_true, Bool.and_eq_true, decide_eq_true_eq] at h
    rcases h with (h | h) | h
    · refine ⟨on, by simp, .inl ?_⟩
      obtain ⟨h1, h2⟩ := h
      rw [Nat.testBit_one_eq_true_iff_self_eq_zero] at h2
      omega
    · exact ⟨on, by simp, .inr h⟩
    · obtain ⟨x, hx, h2⟩ := testBit_maskOf h
      exact ⟨x, by simp [hx], h2⟩

theorem reach_succ {ops : Array Oper} : ∀ (f j i : Nat), reach ops f j i = true → reach ops (f + 1) j i = true
  | 0, j, i, h => by simp [reach] at h
  | f + 1, j, i, h => by
    rw [reach] at h ⊢
    split at h
    case h_2 => simp at h
    rename_i o ho
    rw [← Array.any_toList] at h ⊢
    obtain ⟨e, he, hb⟩ := List.any_eq_true.1 h
    refine List.any_eq_true.2 ⟨e, he, ?_⟩
    simp only [Bool.and_eq_true, Bool.or_eq_true] at hb ⊢
    exact ⟨hb.1, hb.2.imp id (reach_succ f j e.on)⟩
theorem reach_le {ops : Array Oper} {f g j i : Nat} (h : reach ops f j i = true) (hfg : f ≤ g) : reach ops g j i = true := by
  induction hfg with
  | refl => exact h
  | step _ ih => exact reach_succ _ _ _ ih

/-- what the masks say -/
def MasksOK (ops : Array Oper) (ms : List Nat) : Prop := ∀ i j, i < ms.length → Nat.testBit (ms.getD i 0) j = true → reach ops (i + 1) j i = true

theorem maskOf_reach {ops : Array Oper} {ms : List Nat} (hm : MasksOK ops ms) {o : Oper} {i j : Nat} (ho : ops[i]? = some o) (hi : i = ms.length) (hb : (bindsOn o).all (fun on => Nat.blt on i) = true) (h : Nat.testBit (maskOf ms (bindsOn o)) j = true) : reach ops (i + 1) j i = true := by
  obtain ⟨on, hon, hc⟩ := testBit_maskOf h
  have hlt : on < i := by
    have h1 := List.all_eq_true.1 hb on hon
    have : on + 1 ≤ i := Nat.le_of_ble_eq_true h1
    omega
  obtain ⟨e, he, hbe, rfl⟩ := of_bindsOn hon
  rw [reach, ho]
  simp only
  rw [← Array.any_toList]
  refine List.any_eq_true.2 ⟨e, he, ?_⟩
  simp only [Bool.and_eq_true, Bool.or_eq_true, beq_iff_eq]
  refine ⟨hbe, ?_⟩
  rcases hc with hc | hc
  · exact .inl hc
  · exact .inr (reach_le (hm e.on j (by omega) hc) (by omega))

/-- the scan's word -/
theorem scan_ok {ops : Array Oper} : ∀ (l : List Oper) (i : Nat) (ms : List Nat) (r : List (List Nat)), scan ops l i ms = some r → i = ms.length → MasksOK ops ms → (∀ k o, l[k]? = some o → ops[i + k]? = some o) →
    r.length = l.length ∧ ∀ k o, l[k]? = some o → (∀ e ∈ o.after.toList, Region.binds .any e = true → e.on < i + k) ∧ ∀ j x, j < i + k → ops[j]? = some x → (reach ops (i + k + 1) j (i + k) = true ∨ (slotConf ops x o = false ∧ ∃ fr, r[k]? = some fr ∧ j ∈ fr))
  | [], i, ms, r, h, _, _, _ => by
    simp only [scan, Option.some.injEq] at h
    subst h
    exact ⟨rfl, by simp⟩
  | o :: l, i, ms, r, h, hi, hm, hl => by
    simp only [scan] at h
    split at h
    case h_2 => simp at h
    rename_i hb
    split at h
    case h_2 => simp at h
    rename_i hs
    split at h
    case h_2 => simp at h
    rename_i r1 hr
    simp only [Option.some.injEq] at h
    subst h
    have ho : ops[i]? = some o := by have := hl 0 o rfl; simpa using this
    have hm' : MasksOK ops (ms ++ [maskOf ms (bindsOn o)]) := by
      intro i' j hi' ht
      by_cases e : i' < ms.length
      · refine hm i' j e ?_
        rw [List.getD_eq_getElem?_getD, List.getElem?_append_left e, ← List.getD_eq_getElem?_getD] at ht
        exact ht
      · have e2 : i' = i := by simp at hi'; omega
        subst e2
        rw [List.getD_eq_getElem?_getD, hi, List.getElem?_append_right (Nat.le_refl _)] at ht
        simp at ht
        exact maskOf_reach hm ho hi hb ht
    obtain ⟨i1, i2⟩ := scan_ok l (i + 1) _ r1 hr (by simp [hi]) hm' (fun k o' h' => by
      have := hl (k + 1) o' (by simpa using h')
      rwa [show i + (k + 1) = i + 1 + k from by omega] at this)
    refine ⟨by simp [i1], fun k o' hk => ?_⟩
    cases k with
    | zero =>
      simp only [List.getElem?_cons_zero, Option.some.injEq] at hk
      subst hk
      refine ⟨fun e he hbe => ?_, fun j x hj hx => ?_⟩
      · have h1 := List.all_eq_true.1 hb _ (mem_bindsOn he hbe)
        have : e.on + 1 ≤ i := Nat.le_of_ble_eq_true h1
        omega
      · cases ht : Nat.testBit (maskOf ms (bindsOn o)) j with
        | true => exact .inl (maskOf_reach hm ho hi hb ht)
        | false =>
          have hmem : j ∈ (List.range i).filter fun j => !(Nat.testBit (maskOf ms (bindsOn o)) j) := List.mem_filter.2 ⟨List.mem_range.2 (by omega), by simp [ht]⟩
          have h1 := List.all_eq_true.1 hs j hmem
          rw [hx] at h1
          exact .inr ⟨by simpa using h1, _, rfl, hmem⟩
    | succ k =>
      have := i2 k o' (by simpa using hk)
      rw [show i + (k + 1) = i + 1 + k from by omega]
      simpa using this

theorem freeOf_at {all : List Foot} {f : Foot} : ∀ {l : List Nat}, freeOf all f l = true → ∀ j ∈ l, confF (footOf all j) f = false
  | [], _, j, hj => by simp at hj
  | x :: l, h, j, hj => by
    simp only [freeOf] at h
    split at h
    · simp at h
    · rename_i hc
      rcases List.mem_cons.1 hj with rfl | hj
      · exact hc
      · exact freeOf_at h j hj
theorem chkF_at {all : List Foot} : ∀ (r : List (List Nat)) (fs : List Foot), chkF all r fs = true → r.length = fs.length ∧ ∀ (k : Nat) (fr : List Nat) (f : Foot), r[k]? = some fr → fs[k]? = some f → f.cls = 0 ∨ ∀ j ∈ fr, confF (footOf all j) f = false
  | [], [], _ => ⟨rfl, by simp⟩
  | [], f :: fs, h => by simp [chkF] at h
  | fr :: r, [], h => by simp [chkF] at h
  | fr :: r, f :: fs, h => by
    have step : ∀ hh : chkF all r fs = true, (f.cls = 0 ∨ ∀ j ∈ fr, confF (footOf all j) f = false) → (fr :: r).length = (f :: fs).length ∧ ∀ (k : Nat) (fr' : List Nat) (f' : Foot), (fr :: r)[k]? = some fr' → (f :: fs)[k]? = some f' → f'.cls = 0 ∨ ∀ j ∈ fr', confF (footOf all j) f' = false := by
      intro hh h0
      obtain ⟨i1, i2⟩ := chkF_at r fs hh
      refine ⟨by simp [i1], fun k fr' f' e1 e2 => ?_⟩
      cases k with
      | zero => simp at e1 e2; subst e1; subst e2; exact h0
      | succ k => exact i2 k fr' f' (by simpa using e1) (by simpa using e2)
    simp only [chkF] at h
    split at h
    · rename_i hc; exact step h (.inl hc)
    · split at h
      · rename_i hf; exact step h (.inr (freeOf_at hf))
      · simp at h

theorem confF_mem {fs : List Foot} {j i : Nat} (h : confF (footOf fs j) (footOf fs i) = false) : memConf (planOf fs) j i = false := by
  simp only [memConf, planOf]
  revert h
  generalize footOf fs j = a
  generalize footOf fs i = b
  intro h
  obtain ⟨ac, ar, asl, aw, al⟩ := a
  obtain ⟨bc, br, bs, bw, bl⟩ := b
  simp only [confF] at h ⊢
  have beqN : ∀ a b : Nat, Nat.beq a b = false → (a == b) = false := fun a b h => by
    rw [beq_eq_false_iff_ne]
    intro e; subst e; rw [Nat.beq_refl] at h; simp at h
  split at h
  · simp [isPut]
  · split at h
    · simp [h, isPut]
    · simp [beqN _ _ h, isPut]
    · simp [beqN _ _ h, isPut]
    · rename_i e2 e3 e4
      have n2 : (bc == 2) = false := by rw [beq_eq_false_iff_ne]; exact e2
      have n4 : (bc == 4) = false := by rw [beq_eq_false_iff_ne]; exact e3
      have n5 : (bc == 5) = false := by rw [beq_eq_false_iff_ne]; exact e4
      simp [n2, n4, n5, isPut]
  · split at h
    · simp at h
    · simp at h
    · simp [h, isPut]
    · rename_i e2 e4 e3
      have n2 : (bc == 2) = false := by rw [beq_eq_false_iff_ne]; exact e2
      have n1 : (bc == 1) = false := by rw [beq_eq_false_iff_ne]; exact e3
      have n5 : (bc == 5) = false := by rw [beq_eq_false_iff_ne]; exact e4
      simp [n2, n1, n5, isPut]
  · split at h
    · simp at h
    · simp [beqN _ _ h, isPut]
    · rename_i e2 e3
      have n2 : (bc == 2) = false := by rw [beq_eq_false_iff_ne]; exact e2
      have n1 : (bc == 1) = false := by rw [beq_eq_false_iff_ne]; exact e3
      simp [n2, n1, isPut]
  · split at h
    · simp at h
    · simp [beqN _ _ h, isPut]
    · rename_i e2 e3
      have n2 : (bc == 2) = false := by rw [beq_eq_false_iff_ne]; exact e2
      have n1 : (bc == 1) = false := by rw [beq_eq_false_iff_ne]; exact e3
      simp [n2, n1, isPut]
  · simp at h

theorem okF0_ok {ops : Array Oper} {fs : List Foot} (h : okF0 ops fs = true) (hsl : ∀ j i, j < i → ((footOf fs j).cls = 4 ∨ (footOf fs j).cls = 5) → ((footOf fs i).cls = 4 ∨ (footOf fs i).cls = 5) → (footOf fs j).slot ≠ (footOf fs i).slot) : okDraw ops (planOf fs) = true := by
  unfold okF0 at h
  split at h
  case h_2 => simp at h
  rename_i r hr
  obtain ⟨s1, s2⟩ := scan_ok ops.toList 0 [] r hr rfl (fun i j hi => by simp at hi) (fun k o hk => by simpa using hk)
  obtain ⟨c1, c2⟩ := chkF_at r fs h
  refine List.all_eq_true.2 fun i hi => ?_
  have hi' := List.mem_range.1 hi
  have ho : ops[i]? = some ops[i] := Array.getElem?_eq_getElem hi'
  rw [ho]
  obtain ⟨q1, q2⟩ := s2 i ops[i] (by simpa using ho)
  simp only [Nat.zero_add] at q1 q2
  simp only [Bool.and_eq_true]
  refine ⟨⟨?_, by simp [planOf]⟩, List.all_eq_true.2 fun j hj => ?_⟩
  · rw [← Array.all_toList]
    refine List.all_eq_true.2 fun e he => ?_
    cases hb : Region.binds .any e with
    | false => rfl
    | true => simp [q1 e he hb]
  · have hj' := List.mem_range.1 hj
    have hx : ops[j]? = some ops[j] := Array.getElem?_eq_getElem (by omega)
    rw [hx]
    simp only [Bool.and_eq_true]
    refine ⟨?_, ?_⟩
    · rcases q2 j _ hj' hx with hc | ⟨hc, fr, hfr, hm⟩
      · rw [reach_le hc (by omega)]; simp
      · have hfi : fs[i]? = some (footOf fs i) := by
          have : i < fs.length := by rw [← c1, s1]; simpa using hi'
          simp [footOf, List.getD_eq_getElem?_getD, List.getElem?_eq_getElem this]
        have hmc : memConf (planOf fs) j i = false := by
          rcases c2 i fr _ hfr hfi with h0 | h0
          · simp only [memConf, planOf]
            simp [h0, isPut]
          · exact confF_mem (h0 j hm)
        rw [hc, hmc]; simp
    · have := hsl j i hj'
      simp only [planOf]
      cases e1 : isPut (footOf fs i).cls with
      | false => rfl
      | true =>
        cases e2 : isPut (footOf fs j).cls with
        | false => rfl
        | true =>
          have := this (isPut_iff.1 e2) (isPut_iff.1 e1)
          simp [this]
theorem nodupN_at {fs : List Foot} : nodupN (putSlots fs) = true → ∀ j i, j < i → ((footOf fs j).cls = 4 ∨ (footOf fs j).cls = 5) → ((footOf fs i).cls = 4 ∨ (footOf fs i).cls = 5) → (footOf fs j).slot ≠ (footOf fs i).slot := by
  have mem : ∀ (fs : List Foot) i, ((footOf fs i).cls = 4 ∨ (footOf fs i).cls = 5) → (footOf fs i).slot ∈ putSlots fs := by
    intro fs
    induction fs with
    | nil => intro i h; simp [footOf, F0] at h
    | cons f fs ih =>
      intro i h
      cases i with
      | zero =>
        simp only [footOf, List.getD_cons_zero] at h ⊢
        simp only [putSlots, isPut_iff.2 h]; simp
      | succ i =>
        have := ih i (by simpa [footOf] using h)
        simp only [putSlots]
        have e : (footOf (f :: fs) (i + 1)).slot = (footOf fs i).slot := by simp [footOf]
        rw [e]
        split
        · exact List.mem_cons_of_mem _ this
        · exact this
  induction fs with
  | nil => intro _ j i _ h; simp [footOf, F0] at h
  | cons f fs ih =>
    intro hn j i hji hj hi
    have hn' : nodupN (putSlots fs) = true := by
      simp only [putSlots] at hn
      split at hn
      · simp only [nodupN, Bool.and_eq_true] at hn; exact hn.2
      · exact hn
    cases i with
    | zero => omega
    | succ i =>
      cases j with
      | succ j =>
        have := ih hn' j i (by omega) (by simpa [footOf] using hj) (by simpa [footOf] using hi)
        simpa [footOf] using this
      | zero =>
        have hm := mem fs i (by simpa [footOf] using hi)
        simp only [footOf, List.getD_cons_zero] at hj
        simp only [putSlots, isPut_iff.2 hj, nodupN, Bool.and_eq_true, Bool.not_eq_true'] at hn
        intro e
        have e1 : (footOf (f :: fs) 0).slot = f.slot := rfl
        have e2 : (footOf (f :: fs) (i + 1)).slot = (footOf fs i).slot := by simp [footOf]
        rw [e1, e2] at e
        rw [← e] at hm
        rw [memN_iff.2 hm] at hn
        simp at hn
end Go.Abs
end
