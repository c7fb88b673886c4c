/- append is sound -/
import Derived.Test.YtlihfpfgogncbaaGreatDoorG02
set_option linter.unusedVariables false
namespace Go.Abs

abbrev BaseOk (G : Ghost) (sz : Nat) (rows : List (List AV)) (base : Option Addr) (cap : Nat) : Prop :=
  match base with | none => rows = [] ∧ cap = 0 | some a => (rows ≠ [] → a.spot = none) ∧ RepRows G sz rows a.block a.off

theorem rep_list {G : Ghost} {sz : Nat} {rows : List (List AV)} {own : Own} {base : Option Addr} {n cap : Nat} (hn : n = rows.length) (h1 : rows.length ≤ cap) (h2 : cap ≤ maxLen) (h3 : BaseOk G sz rows base cap) (h4 : RepOwn G own rows.length base cap) :
    Rep G (.list sz rows own) (.slice base n cap) := by
  subst hn
  simp only [Rep]
  exact ⟨base, cap, rfl, h1, h2, h3, h4⟩

theorem BaseOk.mono {G G' : Ghost} (h : G.le G') {sz : Nat} {rows : List (List AV)} {base : Option Addr} {cap : Nat} (k : BaseOk G sz rows base cap) : BaseOk G' sz rows base cap := by
  cases base with
  | none => exact k
  | some a => exact ⟨k.1, RepRows.mono h sz rows _ _ k.2⟩

/-- a full slice is given a family of its own -/
theorem Inv.adopt {C : Ctx} {G : Ghost} {M : Mem} {w : World} (hi : Inv C G M w) {n sz : Nat} {base : Option Addr} (hn : n ≤ maxLen) :
    ∃ G', Inv C G' (M ++ [.fam n sz]) w ∧ G.le G' ∧ M.length < G'.n ∧ G'.top M.length = n ∧ G'.hdr M.length n = (base, n) := by
  have hm := hi.more w.heap.size (fun _ => (base, n)) n
  have hk : (M ++ [AObj.gone])[M.length]? = some .gone := by simp
  have e1 : (G.more w.heap.size (fun _ => (base, n)) n).hdr M.length n = (base, n) := by simp [Ghost.more, hi.n]
  have e2 : (G.more w.heap.size (fun _ => (base, n)) n).top M.length = n := by simp [Ghost.more, hi.n]
  have hs := hm.step (w' := w) (o' := .fam n sz) M.length w.heap.size hk (.inr (Nat.le_refl _)) (.refl _) rfl (fun _ => rfl) (fun _ _ => ⟨rfl, rfl⟩) (fun _ _ _ h => .inl h) (fun _ => rfl) (fun _ _ _ => rfl)
    (fun i v h => hi.st _ _ _ h) (fun o h => by have := hi.keep_lt (b := w.heap.size) (o := o) h; omega) ⟨e2, by rw [e1]; exact Nat.le_refl _, by rw [e1]; exact hn, fun h => by rw [e1] at h; simp at h⟩ (fun b h => by simp [owns, e1] at h)
  exact ⟨_, by simpa using hs, G.le_more _ _ _, by simp [Ghost.more, hi.n], e2, e1⟩

/-- the new fixed memory of a grown slice -/
theorem RepRows.grown {G G' : Ghost} (hle : G.le G') {sz nb o : Nat} {rows : List (List AV)} {vs : List Value} (hr : RepL G rows.flatten vs) (h1 : ∀ v ∈ vs, v.oneCell' = true) (hsz : ∀ r ∈ rows, r.length = sz)
    (hst : ∀ (i : Nat) (v : Value), vs[i]? = some v → G'.st nb (o + i) = some v) : RepRows G' sz rows nb o :=
  RepRows.mk hsz (RepMem.mk (RepL.mono hle _ _ hr) h1 hst)

theorem append_sound {C : Ctx} {G : Ghost} {M : Mem} {w : World} (hi : Inv C G M w) {s x : AV} {sv xv : Value} (hs : Rep G s sv) (hx : Rep G x xv) {sz bytes : Nat} (hss : sizeOk sz s) (hsx : sizeOk sz x)
    {hint : Bool} {r : AV} {M' : Mem} (h : appendAV hint sz s x M = some (r, M')) {t u e : TypeId} (ty : TypeId) (ht : elemOf? C.P t = some e) (hu : srcOk C.P u) (he : elemOk C.P e sz bytes)
    (hb : (rowsLen s + rowsLen x) * bytes ≤ 140737488355328) :
    ∃ v w' G', (Builtin.append_ #[t, u] ty #[sv, xv]).run C.P w = .ok v w' ∧ G.le G' ∧ Inv C G' M' w' ∧ Rep G' r v ∧ Ext w w' := by
  have ht := elemOf_und ht
  obtain ⟨i, z, hinfo, hz, hisz, hib, hzs, hbpos⟩ := he
  have hszo : szOf C.P e = some sz := by simp [szOf, hinfo, hisz]
  unfold appendAV at h
  split at h
  case h_2 => simp at h
  rename_i r1 own r2 own2 e1 e2
  obtain ⟨base, cap, rfl, hl1, hm1, hb1, ho1⟩ := asList_rep hi hs e1 hss
  obtain ⟨base2, cap2, rfl, hl2, hm2, hb2, ho2⟩ := asList_rep hi hx e2 hsx
  obtain ⟨vs1, hr1, hlen1, hone1, hsz1, hf1⟩ := rows_cells hi (cap := cap) hb1
  obtain ⟨vs2, hr2, hlen2, hone2, hsz2, hf2⟩ := rows_cells hi (cap := cap2) hb2
  have hb' : (r1.length + r2.length) * bytes ≤ 140737488355328 := by simpa [rowsLen, e1, e2] using hb
  have h63 : r1.length + r2.length ≤ maxLen := by
    have : r1.length + r2.length ≤ (r1.length + r2.length) * bytes := Nat.le_mul_of_pos_right _ hbpos
    simp only [maxLen]; omega
  have hr12 : RepL G (r1 ++ r2).flatten (vs1 ++ vs2) := by rw [List.flatten_append]; exact hr1.append hr2
  have hone12 : ∀ v ∈ vs1 ++ vs2, v.oneCell' = true := fun v hv => by
    rcases List.mem_append.1 hv with h | h
    · exact hone1 v h
    · exact hone2 v h
  have hsz12 : ∀ q ∈ r1 ++ r2, q.length = sz := fun v hv => by
    rcases List.mem_append.1 hv with h | h
    · exact hsz1 v h
    · exact hsz2 v h
  have hlen12 : (vs1 ++ vs2).length = (r1.length + r2.length) * sz := by rw [List.length_append, hlen1, hlen2, Nat.add_mul]
  by_cases hm : r2.length = 0
  · -- nothing is appended
    have hr2n : r2 = [] := List.eq_nil_of_length_eq_zero hm
    subst hr2n
    have hfx : (Builtin.firstCells sz 0 (.slice base2 ([] : List (List AV)).length cap2)).run C.P w = .ok #[] w := by
      have := hf2 w rfl
      have hv : vs2 = [] := List.eq_nil_of_length_eq_zero (by simpa using hlen2)
      subst hv
      exact this
    have hrun := run_app_same (P := C.P) (ty := ty) (s := .bool true) (base := base) (n := r1.length) (cap := cap) (x := .slice base2 ([] : List (List AV)).length cap2) ht hszo hu (fun w => lenOf_slice _ _ _ _ _) hfx hl1
    simp only [List.append_nil, List.length_nil, Nat.add_zero] at h
    cases own with
    | no => simp at h
    | full =>
      simp only [RepOwn] at ho1
      subst ho1
      simp only at h
      split at h
      · simp only [Option.some.injEq, Prod.mk.injEq] at h
        obtain ⟨rfl, rfl⟩ := h
        obtain ⟨G', hi', hle, hlt, q1, q2⟩ := hi.adopt (n := r1.length) (sz := sz) (base := base) hm1
        exact ⟨_, w, G', hrun, hle, hi', rep_list rfl (Nat.le_refl _) hm1 (BaseOk.mono hle hb1) ⟨hlt, by omega, q2⟩, .refl _⟩
      · simp only [Option.some.injEq, Prod.mk.injEq] at h
        obtain ⟨rfl, rfl⟩ := h
        exact ⟨_, w, G, hrun, .refl _, hi, rep_list rfl hl1 hm1 hb1 trivial, .refl _⟩
    | fam f =>
      simp only at h
      split at h
      · rename_i m sz' hf
        split at h
        · rename_i hcond
          obtain ⟨rfl, rfl⟩ := hcond
          simp only [Option.some.injEq, Prod.mk.injEq] at h
          obtain ⟨rfl, rfl⟩ := h
          have hM : M.set f (.fam r1.length sz') = M := by
            have hlt := getElem?_lt hf
            rw [List.getElem?_eq_getElem hlt] at hf
            have := Option.some.inj hf
            rw [← this]; exact List.set_getElem_self hlt
          rw [hM]
          exact ⟨_, w, G, hrun, .refl _, hi, rep_list rfl hl1 hm1 hb1 ho1, .refl _⟩
        · simp at h
      · simp at h
  · by_cases hroom : r1.length + r2.length ≤ cap
    · -- in place
      cases own with
      | no => simp at h
      | full => simp only [RepOwn] at ho1; omega
      | fam f =>
        simp only at h
        split at h
        case h_2 => simp at h
        rename_i m sz' hf
        split at h
        case isFalse => simp at h
        rename_i hcond
        obtain ⟨rfl, rfl⟩ := hcond
        simp only [Option.some.injEq, Prod.mk.injEq] at h
        obtain ⟨rfl, rfl⟩ := h
        obtain ⟨hfn, hft, hfh⟩ := ho1
        obtain ⟨htop, hle1, hcm, hsp⟩ := hi.obj f _ hf
        rw [hfh] at hle1 hcm hsp
        obtain ⟨g, cur, ct, hbase, hg, hfit, hfree, hkeep⟩ := hsp (by show r1.length < cap; omega)
        simp only at hbase hfit
        subst hbase
        have hfit2 : r1.length * sz' + vs2.length ≤ cur.size := by
          rw [hlen2, ← Nat.add_mul]
          exact Nat.le_trans (Nat.mul_le_mul_right _ hroom) hfit
        have hrun := run_app_room (P := C.P) (ty := ty) (g := g) (n := r1.length) (cap := cap) (x := .slice base2 r2.length cap2) (m := r2.length) ht hszo hu (fun w => lenOf_slice _ _ _ _ _) (hf2 w rfl) hroom hg hfit2 hone2
        generalize hw' : w.setRow g (cur.toList.take (r1.length * sz') ++ vs2 ++ cur.toList.drop (r1.length * sz' + vs2.length)).toArray = w' at hrun
        have hheap : w'.heap[g]? = some (.cells (cur.toList.take (r1.length * sz') ++ vs2 ++ cur.toList.drop (r1.length * sz' + vs2.length)).toArray ct (0, 0)) := by rw [← hw']; exact setRow_heap w g cur _ ct _ hg
        have htk : (cur.toList.take (r1.length * sz')).length = r1.length * sz' := by rw [List.length_take]; simp; omega
        have hcell : ∀ i : Nat, w'.cell? ⟨g, i, none⟩ = (cur.toList.take (r1.length * sz') ++ vs2 ++ cur.toList.drop (r1.length * sz' + vs2.length))[i]? := by
          intro i; rw [cell_of_row _ _ _ _ _ _ hheap]; simp
        have hold : ∀ i : Nat, i < r1.length * sz' → w'.cell? ⟨g, i, none⟩ = w.cell? ⟨g, i, none⟩ := by
          intro i hi'
          rw [hcell, cell_of_row _ _ _ _ _ _ hg, List.append_assoc, List.getElem?_append_left (by omega), List.getElem?_take, if_pos hi']
          simp
        have hnewc : ∀ i v, r1.length * sz' ≤ i → vs2[i - r1.length * sz']? = some v → w'.cell? ⟨g, i, none⟩ = some v := by
          intro i v hi' hv
          have hlt := getElem?_lt hv
          rw [hcell, List.append_assoc, List.getElem?_append_right (by omega), htk, List.getElem?_append_left hlt]
          exact hv
        have hstn : ∀ i v, G.st g i = some v → i < r1.length * sz' := by
          intro i v hv
          rcases Nat.lt_or_ge i (r1.length * sz') with h | h
          · exact h
          · rw [hfree i h] at hv; simp at hv
        have hle : G.le (G.grow f (r1.length + r2.length) (some ⟨g, 0, none⟩, cap) g (r1.length * sz') vs2) :=
          Ghost.le_grow (.inl (by omega)) (fun i v h1 h2 hv => by have := hstn i v hv; omega)
        have hhdr : (G.grow f (r1.length + r2.length) (some ⟨g, 0, none⟩, cap) g (r1.length * sz') vs2).hdr f (r1.length + r2.length) = (some ⟨g, 0, none⟩, cap) := by simp [Ghost.grow]
        have hob : owns G f (.fam r1.length sz') g := by
          simp only [owns, hfh]
          exact ⟨by omega, _, rfl, rfl⟩
        have hi' := hi.step (w' := w') (o' := .fam (r1.length + r2.length) sz') f g hf (.inl hob) hle rfl (fun _ => rfl) (fun j hj => by simp [Ghost.grow, hj])
          (fun b i v hv => by
            simp only [Ghost.grow] at hv
            split at hv
            · rename_i hc; obtain ⟨rfl, c1, c2⟩ := hc; exact .inr ⟨rfl, hnewc i v c1 hv⟩
            · exact .inl hv)
          (fun _ => rfl) (fun b _ hne => by rw [← hw']; exact setRow_other _ _ _ _ hne) (fun i v hv => by rw [hold i (hstn i v hv)]; exact hi.st _ _ _ hv) (fun o ho => by rw [hkeep] at ho; simp at ho)
          ⟨by simp [Ghost.grow], by rw [hhdr]; exact hroom, by rw [hhdr]; exact hm1, fun hlt => ⟨g, _, ct, by rw [hhdr], hheap, by
            rw [hhdr]
            simp only [List.size_toArray, List.length_append, List.length_take, List.length_drop, Array.length_toList]
            omega, fun i hi' => by
              simp only [Ghost.grow]
              rw [if_neg (by rw [hlen2, ← Nat.add_mul]; omega)]
              exact hfree i (Nat.le_trans (Nat.mul_le_mul_right _ (Nat.le_add_right _ _)) hi'), hkeep⟩⟩
          (fun b hb => .inl (by
            simp only [owns, hhdr, Option.some.injEq] at hb
            obtain ⟨_, a, rfl, rfl⟩ := hb
            rfl))
        refine ⟨_, w', _, hrun, hle, hi', ?_, by rw [← hw']; exact Ext.setRow _ _ _⟩
        refine rep_list (by simp) (by simpa using hroom) hm1 ⟨fun _ => rfl, ?_⟩ ⟨by exact hfn, by simp [Ghost.grow], by simpa using hhdr⟩
        -- the rows: the old ones as they were, the new ones behind
        refine RepRows.grown hle hr12 hone12 hsz12 (fun i v hv => ?_)
        simp only [Nat.zero_add, Ghost.grow]
        by_cases hlt : i < vs1.length
        · rw [List.getElem?_append_left hlt] at hv
          rw [if_neg (by omega)]
          -- the old cell's fixed value is the one of vs1
          obtain ⟨_, hrows⟩ := hb1
          obtain ⟨us, q1, q2, q3, q4⟩ := (RepRows.flat hrows).1.vals
          have hus : us = vs1 := by
            have hfc := hf1 w rfl
            have hfc' := run_firstCells_some (P := C.P) w sz' r1.length ⟨g, 0, none⟩ r1.length cap us (by rw [q2, (RepRows.flat hrows).2]) (fun j v hv => by rw [Addr.add_lit]; exact hi.st _ _ _ (q4 j v hv))
            rw [hfc'] at hfc
            simp at hfc
            exact hfc
          subst hus
          simpa using q4 i v hv
        · rw [List.getElem?_append_right (by omega)] at hv
          have := getElem?_lt hv
          rw [if_pos ⟨trivial, by omega, by omega⟩, ← hlen1]
          exact hv
    · -- a new block
      have hrun := run_app_grow (P := C.P) (ty := ty) (base := base) (n := r1.length) (cap := cap) (x := .slice base2 r2.length cap2) (m := r2.length) (w := w) (i := i) (z := z) (e := e) (t := t) (u := u) (news := vs2) (olds := vs1) ht hinfo hz hu
        (fun w => lenOf_slice _ _ _ _ _) (by rw [hisz]; exact hf2 w.drew rfl) (by rw [hisz]; exact hf1 w.drew rfl) (by omega) (by rw [hib]; exact hb') h63
      have hge := grownCap_ge w (r1.length + r2.length) cap e
      have hcl := grownCap_le_maxLen w (r1.length + r2.length) cap e h63
      generalize grownCap w (r1.length + r2.length) cap e = nc at hrun hge hcl
      generalize hall : vs1.toArray ++ vs2.toArray ++ Builtin.zeroCells z.cells (nc - (r1.length + r2.length)) = all at hrun
      have hallsz : all.size = nc * sz := by
        rw [← hall]
        simp only [Array.size_append, List.size_toArray, size_zeroCells, hzs, hlen1, hlen2, ← Nat.add_mul]
        congr 1; omega
      have hallget : ∀ (i : Nat) (v : Value), (vs1 ++ vs2)[i]? = some v → all[i]? = some v := by
        intro i v hv
        have hlt := getElem?_lt hv
        rw [← hall, Array.getElem?_append_left (by simp at hlt ⊢; omega), ← hv]
        simp
      have hiw : Inv C G M w.drew := hi.world rfl
      have hext : Ext w (w.drew.alloc (.cells all e)) := (Ext.drew w).trans (Ext.alloc _ _)
      have hnewheap := heap_alloc_new w.drew (.cells all e)
      -- with a family f (a new one or the old one)
      have withFam : ∀ (G1 : Ghost) (M1 : Mem) (f : Nat) (o : AObj), Inv C G1 M1 w.drew → G.le G1 → M1[f]? = some o → f < G1.n → (G1.top f < r1.length + r2.length ∨ (∀ h, G1.top f = r1.length + r2.length ∧ G1.hdr f (r1.length + r2.length) = h → True) ∧ G1.top f < r1.length + r2.length) →
          ∃ G', G.le G' ∧ Inv C G' (M1.set f (.fam (r1.length + r2.length) sz)) (w.drew.alloc (.cells all e)) ∧ Rep G' (.list sz (r1 ++ r2) (.fam f)) (.slice (some ⟨w.heap.size, 0, none⟩) (r1.length + r2.length) nc) := by
        intro G1 M1 f o hi1 hle1 hf hfn htop
        have htop : G1.top f < r1.length + r2.length := by rcases htop with h | h; exact h; exact h.2
        have hle : G1.le (G1.grow f (r1.length + r2.length) (some ⟨w.heap.size, 0, none⟩, nc) w.heap.size 0 (vs1 ++ vs2)) :=
          Ghost.le_grow (.inl htop) (fun i v _ _ hv => by have := hi1.st_lt hv; simp at this)
        have hhdr : (G1.grow f (r1.length + r2.length) (some ⟨w.heap.size, 0, none⟩, nc) w.heap.size 0 (vs1 ++ vs2)).hdr f (r1.length + r2.length) = (some ⟨w.heap.size, 0, none⟩, nc) := by simp [Ghost.grow]
        have hst1 : ∀ i, G1.st w.heap.size i = none := by
          intro i
          cases h : G1.st w.heap.size i with
          | none => rfl
          | some v => have := hi1.st_lt h; simp at this
        have hk1 : ∀ o, G1.keep w.heap.size ≠ some o := by
          intro o h
          have := hi1.keep_lt h; simp at this
        have hi' := hi1.step (w' := w.drew.alloc (.cells all e)) (o' := .fam (r1.length + r2.length) sz) f w.heap.size hf (.inr (by simp)) hle rfl (fun _ => rfl) (fun j hj => by simp [Ghost.grow, hj])
          (fun b i v hv => by
            simp only [Ghost.grow] at hv
            split at hv
            · rename_i hc; obtain ⟨rfl, c1, c2⟩ := hc
              refine .inr ⟨rfl, ?_⟩
              rw [cell_of_row _ _ _ _ _ _ (by simpa using hnewheap)]
              exact hallget i v (by simpa using hv)
            · exact .inl hv)
          (fun _ => rfl) (fun b hlt _ => heap_alloc_lt w.drew _ b (by simpa using hlt)) (fun i v hv => by rw [hst1] at hv; simp at hv) hk1
          ⟨by simp [Ghost.grow], by rw [hhdr]; exact hge, by rw [hhdr]; exact hcl, fun hlt => ⟨w.heap.size, all, e, by rw [hhdr], by simpa using hnewheap, by rw [hhdr, hallsz]; exact Nat.le_refl _, fun i hi' => by
              simp only [Ghost.grow]
              rw [if_neg (by rw [hlen12]; omega)]
              exact hst1 i, by
              cases h : G1.keep w.heap.size with
              | none => exact h
              | some o => exact absurd h (hk1 o)⟩⟩
          (fun b hb => .inl (by
            simp only [owns, hhdr, Option.some.injEq] at hb
            obtain ⟨_, a, rfl, rfl⟩ := hb
            rfl))
        refine ⟨_, hle1.trans hle, hi', ?_⟩
        refine rep_list (by simp) (by simpa using hge) hcl ⟨fun _ => rfl, ?_⟩ ⟨hfn, by simp [Ghost.grow], by simpa using hhdr⟩
        refine RepRows.grown (hle1.trans hle) hr12 hone12 hsz12 (fun i v hv => ?_)
        have := getElem?_lt hv
        simp only [Nat.zero_add, Ghost.grow]
        rw [if_pos ⟨trivial, by omega, by omega⟩]
        simpa using hv
      cases own with
      | no => simp at h
      | full =>
        simp only at h
        split at h
        · simp only [Option.some.injEq, Prod.mk.injEq] at h
          obtain ⟨rfl, rfl⟩ := h
          have hm1' := hiw.more 0 (fun _ => (none, 0)) 0
          obtain ⟨G', hle, hi', hrep⟩ := withFam _ (M ++ [.gone]) M.length .gone hm1' (G.le_more _ _ _) (by simp) (by simp [Ghost.more, hi.n]) (.inl (by simp [Ghost.more, hi.n]; omega))
          exact ⟨_, _, G', hrun, hle, by simpa using hi', hrep, hext⟩
        · simp only [Option.some.injEq, Prod.mk.injEq] at h
          obtain ⟨rfl, rfl⟩ := h
          have hle := Ghost.le_fix hiw (vs1 ++ vs2)
          refine ⟨_, _, _, hrun, hle, hiw.fix all e (vs1 ++ vs2) hallget, ?_, hext⟩
          refine rep_list (by simp) (by simpa using hge) hcl ⟨fun _ => rfl, ?_⟩ trivial
          refine RepRows.grown hle hr12 hone12 hsz12 (fun i v hv => ?_)
          simp only [Nat.zero_add, Ghost.fix]
          rw [if_pos (show w.heap.size = w.drew.heap.size from rfl)]
          exact hv
      | fam f =>
        simp only at h
        split at h
        case h_2 => simp at h
        rename_i m sz' hf
        split at h
        case isFalse => simp at h
        rename_i hcond
        obtain ⟨rfl, rfl⟩ := hcond
        simp only [Option.some.injEq, Prod.mk.injEq] at h
        obtain ⟨rfl, rfl⟩ := h
        obtain ⟨hfn, hft, hfh⟩ := ho1
        obtain ⟨htop, _⟩ := hi.obj f _ hf
        obtain ⟨G', hle, hi', hrep⟩ := withFam G M f _ hiw (.refl _) hf hfn (.inl (by omega))
        exact ⟨_, _, G', hrun, hle, hi', hrep, hext⟩
end Go.Abs
