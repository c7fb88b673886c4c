/- The texts AbsF2, AbsG, AbsH: what each proves stands at its head. -/
import Derived.Test.YtiipcnbedgamdaaGreatDoorVG02
section
/- append onto an array that may be written -/
set_option linter.unusedVariables false
namespace Go.Abs

theorem run_app_room' {P : Program} {t u e : TypeId} {ty : TypeId} {sz : Nat} {x : Value} {g o n cap m : Nat} {w : World} (ht : P.underlying t = some (.slice e)) (hsz : szOf P e = some sz)
    (hu : srcOk P u) (hx : ∀ w, (Builtin.lenOf x).run P w = .ok m w)
    {news : List Value} (hfx : (Builtin.firstCells sz m x).run P w = .ok news.toArray w) (hle : n + m ≤ cap) {cur : Array Value} {ct : TypeId} (hg : w.heap[g]? = some (.cells cur ct (0, 0)))
    (hfit : o + n * sz + news.length ≤ cur.size) (h1 : ∀ v ∈ news, v.oneCell' = true) :
    (Builtin.append_ #[t, u] ty #[.slice (some ⟨g, o, none⟩) n cap, x]).run P w =
      .ok (.slice (some ⟨g, o, none⟩) (n + m) cap) (w.setRow g (cur.toList.take (o + n * sz) ++ news ++ cur.toList.drop (o + n * sz + news.length)).toArray) := by
  obtain ⟨e2, hu⟩ | hu := hu
  all_goals
   have hst := run_storeCells_at P g (o + n * sz) ct news 0 cur w hg (by simpa using hfit) h1
   simp only [Nat.add_zero] at hst
   simp [Builtin.append_, run_underlying ht, run_underlying hu, run_szOf hsz, hx, hfx, hle, hst, Addr.add_lit]

/-- the cells that append takes, and how many elements they are -/
def srcCells (M : Mem) (sz : Nat) : AV → Option (List AV × Nat)
  | .val (.slice none 0 0) => some ([], 0)
  | .val (.string s) => if sz = 1 then some (s.data.toList.map fun b => .val (.int .u8 b.toNat), s.size) else none
  | .list s rows _ => if s = sz then some (rows.flatten, rows.length) else none
  | .vref f h s lo len => match M[f]? with
    | some (.vec _ s' cs _ hist) => match hist.lookup h with
      | some n => if s = sz ∧ s' = sz ∧ lo + len ≤ n then some ((cs.drop (lo * sz)).take (len * sz), len) else none
      | none => none
    | _ => none
  | _ => none

theorem run_firstCells_str {P : Program} (s : ByteArray) (w : World) : (Builtin.firstCells 1 s.size (.string s)).run P w = .ok (s.data.map fun b => .int .u8 b.toNat) w := by
  have e : s.extract 0 s.size = s := by simp
  simp [Builtin.firstCells, e]

theorem srcCells_rep {C : Ctx} {G : Ghost} {M : Mem} {w : World} (hi : Inv C G M w) {x : AV} {xv : Value} {sz m : Nat} {news : List AV} (hr : Rep G x xv) (h : srcCells M sz x = some (news, m)) :
    ∃ vs : List Value, RepL G news vs ∧ vs.length = m * sz ∧ (∀ v ∈ vs, v.oneCell' = true) ∧ (∀ w, (Builtin.lenOf xv).run C.P w = .ok m w) ∧ ∀ w', w'.heap = w.heap → (Builtin.firstCells sz m xv).run C.P w' = .ok vs.toArray w' := by
  unfold srcCells at h
  split at h
  · simp only [Option.some.injEq, Prod.mk.injEq] at h
    obtain ⟨rfl, rfl⟩ := h
    simp only [Rep] at hr
    subst hr
    exact ⟨[], by simp [RepL], by simp, by simp, fun w => lenOf_slice _ _ _ _ _, fun w' _ => by simp [Builtin.firstCells]⟩
  · rename_i s
    split at h
    · rename_i hs
      subst hs
      simp only [Option.some.injEq, Prod.mk.injEq] at h
      obtain ⟨rfl, rfl⟩ := h
      simp only [Rep] at hr
      subst hr
      refine ⟨s.data.toList.map fun b => .int .u8 b.toNat, ?_, by simp only [List.length_map, Nat.mul_one]; rfl, ?_, fun w => rfl, fun w' _ => ?_⟩
      · refine RepL.of_get (by simp) ?_
        intro i c y h1 h2
        simp only [List.getElem?_map, Option.map_eq_some_iff] at h1 h2
        obtain ⟨a, ha, rfl⟩ := h1
        obtain ⟨b, hb, rfl⟩ := h2
        rw [ha] at hb
        simp only [Option.some.injEq] at hb
        subst hb
        simp [Rep]
      · intro v hv
        simp only [List.mem_map] at hv
        obtain ⟨_, _, rfl⟩ := hv
        rfl
      · rw [run_firstCells_str]
        congr 1
        apply Array.ext'
        simp
    · simp at h
  · rename_i s rows own
    split at h
    · rename_i hs
      subst hs
      simp only [Option.some.injEq, Prod.mk.injEq] at h
      obtain ⟨rfl, rfl⟩ := h
      simp only [Rep] at hr
      obtain ⟨base, cap, rfl, _, _, hb, _⟩ := hr
      obtain ⟨vs, h1, h2, h3, _, h5⟩ := rows_cells hi (cap := cap) hb
      exact ⟨vs, h1, h2, h3, fun w => lenOf_slice _ _ _ _ _, h5⟩
    · simp at h
  · rename_i f h' s lo len
    split at h
    · rename_i ty s' cs g hist hM
      split at h
      · rename_i n hn
        split at h
        · rename_i hc
          obtain ⟨rfl, rfl, hlen⟩ := hc
          simp only [Option.some.injEq, Prod.mk.injEq] at h
          obtain ⟨rfl, rfl⟩ := h
          simp only [Rep] at hr
          obtain ⟨hf, hg, a, a', cap, hd, hsp, hsp', rfl, hle, _, ha'⟩ := hr
          obtain ⟨_, p2, _⟩ := hi.obj f _ hM
          obtain ⟨_, q0, b, o, cap', vs, q1, q2, q3, q4, q5, q6, q7, q8, q9⟩ := p2 h' n (lookup_mem hn)
          rw [hd] at q1
          simp only [Prod.mk.injEq, Option.some.injEq] at q1
          obtain ⟨rfl, rfl⟩ := q1
          have e1 : (((vs.toList.drop o).take (n * s')).drop (lo * s')).take (len * s') = (vs.toList.drop (o + lo * s')).take (len * s') := by
            rw [List.drop_take, List.drop_drop, List.take_take, Nat.min_eq_left]
            have : lo * s' + len * s' ≤ n * s' := by rw [← Nat.add_mul]; exact Nat.mul_le_mul_right _ hlen
            omega
          have e2 : ((cs.take (n * s')).drop (lo * s')).take (len * s') = (cs.drop (lo * s')).take (len * s') := by
            rw [List.drop_take, List.take_take, Nat.min_eq_left]
            have : lo * s' + len * s' ≤ n * s' := by rw [← Nat.add_mul]; exact Nat.mul_le_mul_right _ hlen
            omega
          have hR := (q6.drop (lo * s')).take (len * s')
          rw [e1, e2] at hR
          have hlen2 : ((vs.toList.drop (o + lo * s')).take (len * s')).length = len * s' := by
            simp only [List.length_take, List.length_drop, Array.length_toList]
            have h1 : lo * s' + len * s' ≤ cap * s' := by rw [← Nat.add_mul]; exact Nat.mul_le_mul_right _ hle
            omega
          have hone : ∀ v ∈ (vs.toList.drop (o + lo * s')).take (len * s'), v.oneCell' = true := by
            rw [← e1]
            intro v hv
            exact q7 v (List.mem_of_mem_drop (List.mem_of_mem_take hv))
          refine ⟨_, hR, hlen2, hone, fun w => lenOf_slice _ _ _ _ _, fun w' hw => ?_⟩
          by_cases hl0 : len = 0
          · subst hl0
            refine run_firstCells_some (P := C.P) w' s' 0 a' 0 (cap - lo) _ (by simp) (fun j v hv => by simp at hv)
          · have ha := ha' (by omega)
            refine run_firstCells_some (P := C.P) w' s' len a' len (cap - lo) _ (by rw [hlen2]) (fun j v hv => ?_)
            rw [ha, Addr.add_lit]
            rw [List.getElem?_take] at hv
            split at hv
            · rw [List.getElem?_drop] at hv
              have hrow : w'.heap[b]? = some (.cells vs ty (0, 0)) := by rw [hw]; exact q4
              rw [cell_of_row _ _ _ _ _ _ hrow]
              simpa using hv
            · simp at hv
        · simp at h
      · simp at h
    · simp at h
  · simp at h

/-- append, where the elements may be written later -/
def vappAV (e : TypeId) (sz : Nat) (s x : AV) (M : Mem) : Option (AV × Mem) :=
  match srcCells M sz x with
  | none => none
  | some (news, m) => match s with
    | .val (.slice none 0 0) => if m = 0 then some (s, M) else some (.vref M.length 0 sz 0 m, M ++ [.vec e sz news 0 [(0, m)]])
    | .list s' [] .full => if s' = sz then (if m = 0 then some (s, M) else some (.vref M.length 0 sz 0 m, M ++ [.vec e sz news 0 [(0, m)]])) else none
    | .vref f h s' lo len => match M[f]? with
      | some (.vec e2 s2 cs g hist) => match hist.lookup h with
        | some n => if e2 = e ∧ s' = sz ∧ s2 = sz ∧ lo + len ≤ n then
            if m = 0 then some (s, M) else
            some (.vref f (g + 1) sz 0 (len + m), M.set f (.vec e sz ((cs.drop (lo * sz)).take (len * sz) ++ news) (g + 1) ((g + 1, len + m) :: if lo = 0 then hist.filter (fun p => decide (p.2 ≤ len)) else [])))
          else none
        | none => none
      | _ => none
    | _ => none

/-- the array f has a new slice, of time n, header h -/
theorem Ghost.le_time {G : Ghost} {f n : Nat} {h : Option Addr × Nat} (hn : G.top f < n) : G.le (G.grow f n h 0 0 []) :=
  Ghost.le_grow (.inl hn) (fun i v h1 h2 _ => by simp at h2)
theorem Ghost.time_st (G : Ghost) (f n : Nat) (h : Option Addr × Nat) (b i : Nat) : (G.grow f n h 0 0 []).st b i = G.st b i := by
  simp only [Ghost.grow, List.length_nil, Nat.add_zero]
  rw [if_neg (by omega)]
theorem Ghost.time_hdr (G : Ghost) (f n : Nat) (h : Option Addr × Nat) : (G.grow f n h 0 0 []).hdr f n = h := by simp [Ghost.grow]
theorem Ghost.time_old (G : Ghost) (f n m : Nat) (h : Option Addr × Nat) (hm : m ≠ n) : (G.grow f n h 0 0 []).hdr f m = G.hdr f m := by simp [Ghost.grow, hm]

theorem vapp_fresh {C : Ctx} {G : Ghost} {M : Mem} {w : World} (hi : Inv C G M w) {s v : AV} {M' : Mem} {xv : Value} {t u e ty : TypeId} {sz bytes m : Nat} {news : List AV} {vs2 : List Value} (he : elemOk C.P e sz bytes)
    (ht : C.P.underlying t = some (.slice e)) (hu : srcOk C.P u) (hr2 : RepL G news vs2) (hlen2 : vs2.length = m * sz) (hone2 : ∀ v ∈ vs2, v.oneCell' = true) (hlx : ∀ w, (Builtin.lenOf xv).run C.P w = .ok m w)
    (hfx : ∀ w', w'.heap = w.heap → (Builtin.firstCells sz m xv).run C.P w' = .ok vs2.toArray w') (base : Option Addr) (hs : Rep G s (.slice base 0 0)) (hfc : ∀ w', (Builtin.firstCells sz 0 (.slice base 0 0)).run C.P w' = .ok ([] : List Value).toArray w')
    (hb' : (0 + m) * bytes ≤ 140737488355328) (h : (if m = 0 then some (s, M) else some (AV.vref M.length 0 sz 0 m, M ++ [.vec e sz news 0 [(0, m)]])) = some (v, M')) :
    ∃ r w' G', (Builtin.append_ #[t, u] ty #[.slice base 0 0, xv]).run C.P w = .ok r w' ∧ G.le G' ∧ Inv C G' M' w' ∧ Rep G' v r ∧ Ext w w' := by
  obtain ⟨i, z, hinfo, hz, hisz, hib, hzs, hbpos⟩ := he
  have hszo : szOf C.P e = some sz := by simp [szOf, hinfo, hisz]
  split at h
  · rename_i hm0
    simp only [Option.some.injEq, Prod.mk.injEq] at h
    obtain ⟨rfl, rfl⟩ := h
    subst hm0
    have hv : vs2 = [] := List.eq_nil_of_length_eq_zero (by simpa using hlen2)
    subst hv
    exact ⟨_, w, G, run_app_same (s := .bool true) (base := base) (n := 0) (cap := 0) ht hszo hu hlx (hfx w rfl) (Nat.le_refl _), .refl _, hi, hs, .refl _⟩
  · rename_i hm0
    simp only [Option.some.injEq, Prod.mk.injEq] at h
    obtain ⟨rfl, rfl⟩ := h
    have h63 : 0 + m ≤ maxLen := by
      have : 0 + m ≤ (0 + m) * bytes := Nat.le_mul_of_pos_right _ hbpos
      simp only [maxLen]; omega
    have hrun := run_app_grow (P := C.P) (ty := ty) (base := base) (n := 0) (cap := 0) (x := xv) (m := m) (w := w) (i := i) (z := z) (e := e) (t := t) (u := u) (news := vs2) (olds := []) ht hinfo hz hu
      hlx (by rw [hisz]; exact hfx w.drew rfl) (by rw [hisz]; exact hfc _) (by omega) (by rw [hib]; exact hb') h63
    have hge := grownCap_ge w (0 + m) 0 e
    have hcl := grownCap_le_maxLen w (0 + m) 0 e h63
    generalize grownCap w (0 + m) 0 e = nc at hrun hge hcl
    have hext : Ext w (w.drew.alloc (.cells (([] : List Value).toArray ++ vs2.toArray ++ Builtin.zeroCells z.cells (nc - (0 + m))) e)) := (Ext.drew w).trans (Ext.alloc _ _)
    generalize hall : ([] : List Value).toArray ++ vs2.toArray ++ Builtin.zeroCells z.cells (nc - (0 + m)) = all at hrun hext
    have hallsz : all.size = nc * sz := by
      rw [← hall]
      simp only [Array.size_append, List.size_toArray, size_zeroCells, hzs, hlen2, List.length_nil, Nat.zero_add, ← Nat.add_mul]
      congr 1; omega
    have hfirst : (all.toList.drop 0).take (m * sz) = vs2 := by
      rw [← hall, ← hlen2]; simp
    have hiw : Inv C G M w.drew := hi.world rfl
    obtain ⟨G', hi', hle, hblk, hn', hh', ht'⟩ := hiw.newObj (.cells all e) (.vec e sz news 0 [(0, m)]) (fun _ => (some ⟨w.heap.size, 0, none⟩, nc)) 0
      (fun G' hle _ hh ht hst hk => ⟨ht, fun h n hm => by
        simp only [List.mem_singleton, Prod.mk.injEq] at hm
        obtain ⟨rfl, rfl⟩ := hm
        refine ⟨by omega, Nat.le_of_eq (by rw [← hlen2, hr2.length]), w.heap.size, 0, nc, all, by rw [hh], by omega, hcl, heap_alloc_new w.drew _, Nat.le_of_eq (by rw [hallsz, Nat.zero_add]), ?_, ?_, hst, hk⟩
        · rw [hfirst, List.take_of_length_le (Nat.le_of_eq (by rw [← hr2.length, hlen2]))]
          exact RepL.mono hle _ _ hr2
        · rw [hfirst]; exact hone2, fun h n h' n' a a' c c' m1 m2 e1 e2 _ => by
        rw [hh] at e1 e2
        simp only [Prod.mk.injEq, Option.some.injEq] at e1 e2
        rw [← e1.1, ← e2.1]⟩)
      (fun G' b _ hh hown => by
        obtain ⟨h, n, a, _, ha, rfl⟩ := hown
        rw [hh] at ha
        simp only [Option.some.injEq] at ha
        rw [← ha]; rfl)
    refine ⟨_, _, G', hrun, hle, hi', ?_, hext⟩
    simp only [Rep]
    exact ⟨hn', by omega, ⟨w.heap.size, 0, none⟩, ⟨w.heap.size, 0, none⟩, nc, by rw [hh'], rfl, rfl, by simp, by omega, hcl, fun _ => by simp⟩

theorem vapp_sound {C : Ctx} {G : Ghost} {M : Mem} {w : World} (hi : Inv C G M w) {s x : AV} {sv xv : Value} (hs : Rep G s sv) (hx : Rep G x xv) {t u e ty : TypeId} {sz bytes : Nat} (ht : C.P.underlying t = some (.slice e)) (hu : srcOk C.P u)
    (he : elemOk C.P e sz bytes) {v : AV} {M' : Mem} (hb : ∀ cs k, srcCells M sz s = some (cs, k) → ∀ news m, srcCells M sz x = some (news, m) → (k + m) * bytes ≤ 140737488355328) (h : vappAV e sz s x M = some (v, M')) :
    ∃ r w' G', (Builtin.append_ #[t, u] ty #[sv, xv]).run C.P w = .ok r w' ∧ G.le G' ∧ Inv C G' M' w' ∧ Rep G' v r ∧ Ext w w' := by
  obtain ⟨i, z, hinfo, hz, hisz, hib, hzs, hbpos⟩ := he
  have hszo : szOf C.P e = some sz := by simp [szOf, hinfo, hisz]
  unfold vappAV at h
  split at h
  · simp at h
  rename_i news m hsrc
  obtain ⟨vs2, hr2, hlen2, hone2, hlx, hfx⟩ := srcCells_rep hi hx hsrc
  split at h
  · -- nil
    simp only [Rep] at hs
    subst hs
    exact vapp_fresh hi ⟨i, z, hinfo, hz, hisz, hib, hzs, hbpos⟩ ht hu hr2 hlen2 hone2 hlx hfx none (by simp [Rep]) (by simp [Builtin.firstCells]) (hb [] 0 rfl news m hsrc) h
  · rename_i s'
    split at h
    case isFalse => simp at h
    rename_i hss
    subst hss
    have hs' := hs
    simp only [Rep, RepOwn] at hs
    obtain ⟨base, cap, rfl, _, _, _, hcap⟩ := hs
    simp only [List.length_nil] at hcap hs' ⊢
    subst hcap
    exact vapp_fresh hi ⟨i, z, hinfo, hz, hisz, hib, hzs, hbpos⟩ ht hu hr2 hlen2 hone2 hlx hfx base hs' (fun w' => by
      cases base with
      | none => simp [Builtin.firstCells]
      | some a => exact run_firstCells_some (P := C.P) w' s' 0 a 0 0 [] (by simp) (fun j v hv => by simp at hv)) (hb [] 0 (by simp [srcCells]) news m hsrc) h
  · -- a slice of an array
    rename_i f h' s' lo len
    split at h
    case h_2 => simp at h
    rename_i e2 s2 cs g hist hM
    split at h
    case h_2 => simp at h
    rename_i n hn
    split at h
    case isFalse => simp at h
    rename_i hc
    obtain ⟨rfl, rfl, rfl, hlen⟩ := hc
    have hs' := hs
    simp only [Rep] at hs
    obtain ⟨hf, hg, a, a', cap, hd, hsp, hsp', rfl, hle0, hcm, ha'⟩ := hs
    obtain ⟨p0, p2, p3⟩ := hi.obj f _ hM
    have hmem := lookup_mem hn
    obtain ⟨_, q0, b, o, cap', vs, q1, q2, q3, q4, q5, q6, q7, q8, q9⟩ := p2 h' n hmem
    have hd' := hd
    rw [q1] at hd
    simp only [Prod.mk.injEq, Option.some.injEq] at hd
    obtain ⟨rfl, rfl⟩ := hd
    split at h
    · rename_i hm0
      simp only [Option.some.injEq, Prod.mk.injEq] at h
      obtain ⟨rfl, rfl⟩ := h
      subst hm0
      have hv : vs2 = [] := List.eq_nil_of_length_eq_zero (by simpa using hlen2)
      subst hv
      exact ⟨_, w, G, run_app_same (s := .bool true) (base := some a') (n := len) (cap := cap' - lo) ht hszo hu hlx (hfx w rfl) (by omega), .refl _, hi, hs', .refl _⟩
    rename_i hm0
    simp only [Option.some.injEq, Prod.mk.injEq] at h
    obtain ⟨rfl, rfl⟩ := h
    have h0 : lo * s2 + len * s2 ≤ n * s2 := by rw [← Nat.add_mul]; exact Nat.mul_le_mul_right _ hlen
    have h0c : lo * s2 + len * s2 ≤ cap' * s2 := by rw [← Nat.add_mul]; exact Nat.mul_le_mul_right _ hle0
    obtain ⟨vs1, hr1, hlen1, hone1, -, hf1⟩ := srcCells_rep hi (m := len) (sz := s2) (news := (cs.drop (lo * s2)).take (len * s2)) hs' (by simp [srcCells, hM, hn, hlen])
    have hr12 := hr1.append hr2
    have hone12 : ∀ v ∈ vs1 ++ vs2, v.oneCell' = true := fun v hv => by
      rcases List.mem_append.1 hv with h | h
      · exact hone1 v h
      · exact hone2 v h
    have hlen12 : (vs1 ++ vs2).length = (len + m) * s2 := by rw [List.length_append, hlen1, hlen2, Nat.add_mul]
    have hcs12 : ((cs.drop (lo * s2)).take (len * s2) ++ news).length = (len + m) * s2 := by rw [← hr12.length, hlen12]
    -- the array at its next time, wherever its cells lie
    have withTime : ∀ (w1 : World) (gb o1 c1 : Nat) (all : Array Value), (gb = b ∨ w.heap.size ≤ gb) → (∀ b', b' < w.heap.size → b' ≠ gb → w1.heap[b']? = w.heap[b']?) → w1.heap[gb]? = some (.cells all e2 (0, 0)) →
        len + m ≤ c1 → c1 ≤ maxLen → o1 + c1 * s2 ≤ all.size → (all.toList.drop o1).take ((len + m) * s2) = vs1 ++ vs2 → (∀ i, G.st gb i = none) → G.keep gb = none →
        (lo = 0 → gb = b → o1 = o ∧ vs.size ≤ all.size ∧ ∀ i, i < o + len * s2 → all.toList[i]? = vs.toList[i]?) →
        ∃ G', G.le G' ∧ Inv C G' (M.set f (.vec e2 s2 ((cs.drop (lo * s2)).take (len * s2) ++ news) (g + 1) ((g + 1, len + m) :: if lo = 0 then hist.filter (fun p => decide (p.2 ≤ len)) else []))) w1 ∧
          Rep G' (.vref f (g + 1) s2 0 (len + m)) (.slice (some ⟨gb, o1, none⟩) (len + m) c1) := by
      intro w1 gb o1 c1 all hgb hw hheap hc1 hc1m hsz hcells hst hkeep hin
      have htop : G.top f < g + 1 := by omega
      have hle := Ghost.le_time (h := (some (⟨gb, o1, none⟩ : Addr), c1)) htop
      have old : ∀ h1 n1, (h1, n1) ∈ (if lo = 0 then hist.filter (fun p => decide (p.2 ≤ len)) else []) → lo = 0 ∧ (h1, n1) ∈ hist ∧ n1 ≤ len := by
        intro h1 n1 hm
        split at hm
        · rename_i e
          have := List.mem_filter.1 hm
          exact ⟨e, this.1, by simpa using this.2⟩
        · simp at hm
      have old_ne : ∀ h1 n1, (h1, n1) ∈ hist → h1 ≠ g + 1 := fun h1 n1 hm => by have := (p2 h1 n1 hm).1; omega
      have hi' := hi.step (G' := G.grow f (g + 1) (some ⟨gb, o1, none⟩, c1) 0 0 []) (w' := w1) (o' := .vec e2 s2 ((cs.drop (lo * s2)).take (len * s2) ++ news) (g + 1) ((g + 1, len + m) :: if lo = 0 then hist.filter (fun p => decide (p.2 ≤ len)) else [])) f gb hM
        (hgb.imp (fun e => ⟨h', n, _, hmem, congrArg Prod.fst q1, e.symm⟩) id) hle rfl (fun _ => rfl) (fun j hj => by simp [Ghost.grow, hj]) (fun b i v hv => by rw [Ghost.time_st] at hv; exact .inl hv) (fun _ => rfl) hw
        (fun i v hv => by rw [hst i] at hv; simp at hv) (fun o ho => by rw [hkeep] at ho; simp at ho)
        ⟨by simp [Ghost.grow], fun h1 n1 hm => ?_, fun h1 n1 h2 n2 a1 a2 c1' c2' m1 m2 e1 e2 e3 => ?_⟩
        (fun b1 ⟨h1, n1, a1, hm, e1, e2⟩ => ?_)
      · refine ⟨_, hle, hi', ?_⟩
        simp only [Rep]
        exact ⟨hf, by simp [Ghost.grow], ⟨gb, o1, none⟩, ⟨gb, o1, none⟩, c1, Ghost.time_hdr _ _ _ _, rfl, rfl, by simp, by omega, hc1m, fun _ => by simp⟩
      · -- each slice that is kept reads as it did
        rcases List.mem_cons.1 hm with hm | hm
        · simp only [Prod.mk.injEq] at hm
          obtain ⟨rfl, rfl⟩ := hm
          refine ⟨by simp [Ghost.grow], Nat.le_of_eq hcs12.symm, gb, o1, c1, all, Ghost.time_hdr _ _ _ _, hc1, hc1m, hheap, hsz, ?_, ?_, fun i => by rw [Ghost.time_st]; exact hst i, hkeep⟩
          · rw [hcells, List.take_of_length_le (Nat.le_of_eq hcs12)]
            exact RepL.mono hle _ _ hr12
          · rw [hcells]; exact hone12
        · obtain ⟨rfl, hm', hle1⟩ := old h1 n1 hm
          obtain ⟨r0, r1, b2, o2, cap2, vs', s1, s2', s3, s4, s5, s6, s7, s8, s9⟩ := p2 h1 n1 hm'
          have hmul : n1 * s2 ≤ len * s2 := Nat.mul_le_mul_right _ hle1
          have hcs : ((cs.drop (0 * s2)).take (len * s2) ++ news).take (n1 * s2) = cs.take (n1 * s2) := by
            rw [Nat.zero_mul, List.drop_zero, List.take_append_of_le_length (by rw [List.length_take]; omega), List.take_take, Nat.min_eq_left hmul]
          refine ⟨by simp [Ghost.grow]; omega, by rw [hcs12, Nat.add_mul]; omega, b2, o2, cap2, ?_⟩
          rw [Ghost.time_old _ _ _ _ _ (old_ne _ _ hm'), hcs]
          by_cases e : b2 = gb
          · subst e
            have eb : b2 = b := by
              rcases hgb with h | h
              · exact h
              · have := heap_lt s4; omega
            subst eb
            obtain ⟨rfl, hsize, hsame⟩ := hin rfl rfl
            have eo : (⟨b2, o2, none⟩ : Addr) = ⟨b2, o1, none⟩ := p3 h1 n1 h' n _ _ _ _ hm' hmem s1 q1 rfl
            simp only [Addr.mk.injEq, true_and, and_true] at eo
            subst eo
            rw [q4] at s4
            simp only [Option.some.injEq, Obj.cells.injEq, and_true] at s4
            subst s4
            have hcell : (all.toList.drop o2).take (n1 * s2) = (vs.toList.drop o2).take (n1 * s2) := by
              apply List.ext_getElem?
              intro i
              rw [List.getElem?_take, List.getElem?_take]
              split
              · rw [List.getElem?_drop, List.getElem?_drop]; exact hsame _ (by omega)
              · rfl
            have hsz2 : o2 + cap2 * s2 ≤ all.size := by omega
            exact ⟨all, s1, s2', s3, hheap, hsz2, by rw [hcell]; exact RepL.mono hle _ _ s6, by rw [hcell]; exact s7, fun i => by rw [Ghost.time_st]; exact s8 i, s9⟩
          · exact ⟨vs', s1, s2', s3, by rw [hw b2 (heap_lt s4) e]; exact s4, s5, RepL.mono hle _ _ s6, s7, fun i => by rw [Ghost.time_st]; exact s8 i, s9⟩
      · -- slices in one block begin at one cell
        have new_old : ∀ h1 n1 a1 c1', (h1, n1) ∈ (if lo = 0 then hist.filter (fun p => decide (p.2 ≤ len)) else []) → (G.grow f (g + 1) (some ⟨gb, o1, none⟩, c1) 0 0 []).hdr f h1 = (some a1, c1') → gb = a1.block → (⟨gb, o1, none⟩ : Addr) = a1 := by
          intro h1 n1 a1 c1' hm e1 e2
          obtain ⟨rfl, hm', _⟩ := old h1 n1 hm
          rw [Ghost.time_old _ _ _ _ _ (old_ne _ _ hm')] at e1
          have hlt := (ObjInv.owns_lt (hi.obj f _ hM) (b := a1.block) ⟨h1, n1, a1, hm', by rw [e1], rfl⟩)
          have eb : gb = b := by rcases hgb with h | h <;> omega
          subst eb
          obtain ⟨rfl, _⟩ := hin rfl rfl
          exact (p3 h1 n1 h' n _ _ _ _ hm' hmem e1 q1 e2.symm).symm
        rcases List.mem_cons.1 m1 with m1 | m1 <;> rcases List.mem_cons.1 m2 with m2 | m2
        · simp only [Prod.mk.injEq] at m1 m2
          obtain ⟨rfl, rfl⟩ := m1
          obtain ⟨rfl, rfl⟩ := m2
          rw [e1] at e2
          simp only [Prod.mk.injEq, Option.some.injEq] at e2
          exact e2.1
        · simp only [Prod.mk.injEq] at m1
          obtain ⟨rfl, rfl⟩ := m1
          rw [Ghost.time_hdr] at e1
          simp only [Prod.mk.injEq, Option.some.injEq] at e1
          obtain ⟨rfl, _⟩ := e1
          exact new_old h2 n2 a2 c2' m2 e2 e3
        · simp only [Prod.mk.injEq] at m2
          obtain ⟨rfl, rfl⟩ := m2
          rw [Ghost.time_hdr] at e2
          simp only [Prod.mk.injEq, Option.some.injEq] at e2
          obtain ⟨rfl, _⟩ := e2
          exact (new_old h1 n1 a1 c1' m1 e1 e3.symm).symm
        · obtain ⟨_, hm1, _⟩ := old h1 n1 m1
          obtain ⟨_, hm2, _⟩ := old h2 n2 m2
          rw [Ghost.time_old _ _ _ _ _ (old_ne _ _ hm1)] at e1
          rw [Ghost.time_old _ _ _ _ _ (old_ne _ _ hm2)] at e2
          exact p3 h1 n1 h2 n2 a1 a2 c1' c2' hm1 hm2 e1 e2 e3
      · rcases List.mem_cons.1 hm with hm | hm
        · simp only [Prod.mk.injEq] at hm
          obtain ⟨rfl, rfl⟩ := hm
          rw [Ghost.time_hdr] at e1
          simp only [Option.some.injEq] at e1
          subst e1
          exact .inl e2.symm
        · obtain ⟨_, hm', _⟩ := old h1 n1 hm
          rw [Ghost.time_old _ _ _ _ _ (old_ne _ _ hm')] at e1
          exact .inr ⟨h1, n1, a1, hm', e1, e2⟩
    by_cases hroom : len + m ≤ cap' - lo
    · -- in place
      have ha := ha' (by omega)
      subst ha
      simp only at *
      have hcw : (lo + (len + m)) * s2 ≤ cap' * s2 := Nat.mul_le_mul_right _ (by omega)
      rw [Nat.add_mul, Nat.add_mul] at hcw
      have hrun := run_app_room' (P := C.P) (ty := ty) (g := b) (o := o + lo * s2) (n := len) (cap := cap' - lo) (x := xv) (m := m) ht hszo hu hlx (hfx w rfl) hroom q4 (by rw [hlen2]; omega) hone2
      have hheap := setRow_heap w b vs (vs.toList.take (o + lo * s2 + len * s2) ++ vs2 ++ vs.toList.drop (o + lo * s2 + len * s2 + vs2.length)).toArray e2 (0, 0) q4
      generalize hnl : (vs.toList.take (o + lo * s2 + len * s2) ++ vs2 ++ vs.toList.drop (o + lo * s2 + len * s2 + vs2.length)) = nl at hrun hheap
      have hget : ∀ i, nl[i]? = if o + lo * s2 + len * s2 ≤ i ∧ i < o + lo * s2 + len * s2 + vs2.length then vs2[i - (o + lo * s2 + len * s2)]? else vs.toList[i]? := by
        intro i
        rw [← hnl]; exact overwrite_get (by rw [hlen2]; simp; omega)
      have hnlen : nl.length = vs.size := by
        rw [← hnl]; simp only [List.length_append, List.length_take, List.length_drop, Array.length_toList]; omega
      obtain ⟨G', hle, hi', hrep⟩ := withTime (w.setRow b nl.toArray) b (o + lo * s2) (cap' - lo) nl.toArray (.inl rfl) (fun b' _ hne => setRow_other _ _ _ _ hne) hheap hroom (by omega)
        (by
          have h1 : lo * s2 + (cap' - lo) * s2 = cap' * s2 := by rw [← Nat.add_mul]; congr 1; omega
          simp only [List.size_toArray]; omega)
        (by
          apply List.ext_getElem?
          intro k
          rw [List.getElem?_take]
          split
          · rename_i hk
            rw [Nat.add_mul] at hk
            rw [List.getElem?_drop, show (nl.toArray.toList : List Value) = nl from rfl, hget]
            by_cases hk2 : k < vs1.length
            · rw [if_neg (by omega), List.getElem?_append_left hk2]
              -- the old cells are those that were read
              have hfc := hf1 w rfl
              by_cases hl0 : len = 0
              · subst hl0; omega
              · have hfc' := run_firstCells_some (P := C.P) w s2 len ⟨b, o + lo * s2, none⟩ len (cap' - lo) ((vs.toList.drop (o + lo * s2)).take (len * s2)) (by simp only [List.length_take, List.length_drop, Array.length_toList]; omega) (fun j v hv => by
                  rw [Addr.add_lit]
                  rw [List.getElem?_take] at hv
                  split at hv
                  · rw [List.getElem?_drop] at hv
                    rw [cell_of_row _ _ _ _ _ _ q4]
                    simpa using hv
                  · simp at hv)
                rw [hfc'] at hfc
                simp only [Result.ok.injEq, and_true] at hfc
                have hfc2 : (vs.toList.drop (o + lo * s2)).take (len * s2) = vs1 := by simpa using hfc
                rw [← hfc2, List.getElem?_take, if_pos (by omega), List.getElem?_drop]
            · rw [if_pos (by omega), List.getElem?_append_right (by omega)]
              congr 1; omega
          · rename_i hk
            rw [List.getElem?_eq_none (by omega)])
        q8 q9 (fun h0 _ => ⟨by subst h0; simp, by simp only [List.size_toArray]; omega, fun i hi2 => by
          subst h0
          rw [show (nl.toArray.toList : List Value) = nl from rfl, hget, if_neg (by omega)]⟩)
      exact ⟨_, _, G', hrun, hle, hi', hrep, Ext.setRow _ _ _⟩
    · -- in a new block
      have hb' := hb _ len (by simp [srcCells, hM, hn, hlen]; rfl) news m hsrc
      have h63 : len + m ≤ maxLen := by
        have : len + m ≤ (len + m) * bytes := Nat.le_mul_of_pos_right _ hbpos
        simp only [maxLen]; omega
      have hrun := run_app_grow (P := C.P) (ty := ty) (base := some a') (n := len) (cap := cap' - lo) (x := xv) (m := m) (w := w) (i := i) (z := z) (e := e2) (t := t) (u := u) (news := vs2) (olds := vs1) ht hinfo hz hu
        hlx (by rw [hisz]; exact hfx w.drew rfl) (by rw [hisz]; exact hf1 w.drew rfl) (by omega) (by rw [hib]; exact hb') h63
      have hge := grownCap_ge w (len + m) (cap' - lo) e2
      have hcl := grownCap_le_maxLen w (len + m) (cap' - lo) e2 h63
      generalize grownCap w (len + m) (cap' - lo) e2 = nc at hrun hge hcl
      have hext : Ext w (w.drew.alloc (.cells (vs1.toArray ++ vs2.toArray ++ Builtin.zeroCells z.cells (nc - (len + m))) e2)) := (Ext.drew w).trans (Ext.alloc _ _)
      generalize hall : vs1.toArray ++ vs2.toArray ++ Builtin.zeroCells z.cells (nc - (len + m)) = all at hrun hext
      have hallsz : all.size = nc * s2 := by
        rw [← hall]
        simp only [Array.size_append, List.size_toArray, size_zeroCells, hzs, hlen2, hlen1, ← Nat.add_mul]
        congr 1; omega
      have hst1 : ∀ i, G.st w.heap.size i = none := by
        intro i
        cases h : G.st w.heap.size i with
        | none => rfl
        | some v => have := hi.st_lt h; simp at this
      have hk1 : G.keep w.heap.size = none := by
        cases h : G.keep w.heap.size with
        | none => rfl
        | some v => have := hi.keep_lt h; simp at this
      obtain ⟨G', hle, hi', hrep⟩ := withTime (w.drew.alloc (.cells all e2)) w.heap.size 0 nc all (.inr (Nat.le_refl _)) (fun b' hlt _ => heap_alloc_lt w.drew _ b' hlt) (heap_alloc_new w.drew _) (by omega) hcl
        (Nat.le_of_eq (by rw [hallsz, Nat.zero_add]))
        (by
          have e : all.toList = (vs1 ++ vs2) ++ (Builtin.zeroCells z.cells (nc - (len + m))).toList := by rw [← hall]; simp
          rw [e, ← hlen12, List.drop_zero, List.take_left])
        hst1 hk1 (fun _ h => by have := heap_lt q4; omega)
      exact ⟨_, _, G', hrun, hle, hi', hrep, hext⟩
  · simp at h
end Go.Abs
end
section
/- Operations that turn no mutable object: what they yield, and that they do. -/
set_option linter.unusedVariables false
namespace Go.Abs

structure Hint where
  imm : Nat → Bool
  own : Nat → Bool
  vec : Nat → Bool := fun _ => false

def hintAt (f : Nat → Bool) : Option Nat → Bool
  | some d => f d
  | none => false

def NextRep (G : Ghost) (nx : Next) (v : AV) : Prop := (∃ x, nx = .value x ∧ Rep G v x) ∨ (nx = .skip ∧ v = .val undef)

def OpOk (C : Ctx) (G : Ghost) (w : World) (s : Sem Next) (v : AV) (M' : Mem) : Prop :=
  ∃ nx w' G', s.run C.P w = .ok nx w' ∧ NextRep G' nx v ∧ G.le G' ∧ Inv C G' M' w' ∧ Ext w w'

theorem OpOk.same {C : Ctx} {G : Ghost} {M : Mem} {w : World} {s : Sem Next} {v : AV} {x : Value} (hi : Inv C G M w) (hr : s.run C.P w = .ok (.value x) w) (hx : Rep G v x) : OpOk C G w s v M :=
  ⟨_, w, G, hr, .inl ⟨x, rfl, hx⟩, .refl _, hi, .refl _⟩

/-! ### two operands -/
def intB (op : BinOp) (k : IntKind) (a b : Int) : Option Value :=
  match op with
  | .add => some (.int k (k.wrap (a + b)))
  | .sub => some (.int k (k.wrap (a - b)))
  | .mul => some (.int k (k.wrap (a * b)))
  | .eql => some (.bool (a == b))
  | .neq => some (.bool (a != b))
  | .lss => some (.bool (decide (a < b)))
  | .leq => some (.bool (decide (a ≤ b)))
  | .gtr => some (.bool (decide (a > b)))
  | .geq => some (.bool (decide (a ≥ b)))
  | .quo => if b = 0 then none else some (.int k (k.wrap (a.tdiv b)))
  | .rem => if b = 0 then none else some (.int k (a.tmod b))
  | .and => some (.int k (k.wrap ((BitVec.ofInt k.bits a &&& BitVec.ofInt k.bits b).toNat)))
  | .or => some (.int k (k.wrap ((BitVec.ofInt k.bits a ||| BitVec.ofInt k.bits b).toNat)))
  | .xor => some (.int k (k.wrap ((BitVec.ofInt k.bits a ^^^ BitVec.ofInt k.bits b).toNat)))
  | .andNot => some (.int k (k.wrap ((BitVec.ofInt k.bits a &&& ~~~BitVec.ofInt k.bits b).toNat)))
  | .shl => if b < 0 then none else some (.int k (k.wrap (a * 2 ^ (min b.toNat k.bits))))
  | .shr => if b < 0 then none else some (.int k (a.fdiv (2 ^ (min b.toNat k.bits))))
def strB (op : BinOp) (a b : ByteArray) : Option Value :=
  match op with
  | .eql => some (.bool (a.toList == b.toList))
  | .neq => some (.bool !(a.toList == b.toList))
  | .lss => some (.bool (Op.bytesLess a.toList b.toList))
  | .leq => some (.bool (Op.bytesLess a.toList b.toList || a.toList == b.toList))
  | .gtr => some (.bool !(Op.bytesLess a.toList b.toList || a.toList == b.toList))
  | .geq => some (.bool !(Op.bytesLess a.toList b.toList))
  | .add => if ((a.size + b.size : Nat) : Int) > IntKind.i64.max then none else some (.string (a ++ b))
  | _ => none
/-- is it the nil of its kind: yes, no, not known -/
def isNil : AV → Option Bool
  | .val (.pointer none) | .val (.slice none 0 0) | .val (.map none) | .val .nilFunc => some true
  | .ptr _ _ | .cptr _ | .mapr _ | .func _ _ _ => some false
  | .list _ (_ :: _) _ => some false
  | _ => none
def nilKind (P : Program) (t : TypeId) : AV → Bool
  | .val (.pointer none) => match P.underlying t with | some (.pointer _) => true | _ => false
  | .val (.slice none 0 0) => match P.underlying t with | some (.slice _) => true | _ => false
  | .val (.map none) => match P.underlying t with | some (.map _ _) => true | _ => false
  | .val .nilFunc => match P.underlying t with | some (.func _ _ _) => true | _ => false
  | _ => false
def sameKind : AV → AV → Bool
  | .val (.pointer none), .val (.pointer none) | .val (.slice none 0 0), .val (.slice none 0 0) | .val (.map none), .val (.map none) | .val .nilFunc, .val .nilFunc => true
  | .ptr _ _, .val (.pointer none) | .cptr _, .val (.pointer none) | .mapr _, .val (.map none) | .func _ _ _, .val .nilFunc | .list _ _ _, .val (.slice none 0 0) => true
  | _, _ => false
def binAV0 (P : Program) (op : BinOp) (t : TypeId) (x y : AV) : Option AV :=
  match x, y with
  | .val (.int k a), .val (.int k' b) => if k = k' then (intB op k a b).map .val else none
  | .val (.string a), .val (.string b) => (strB op a b).map .val
  | .val (.bool a), .val (.bool b) => match P.underlying t, op with
    | some .bool, .eql => some (.val (.bool (a == b)))
    | some .bool, .neq => some (.val (.bool !(a == b)))
    | _, _ => none
  | x, y => if nilKind P t y && sameKind x y then match isNil x, op with
      | some b, .eql => some (.val (.bool b))
      | some b, .neq => some (.val (.bool !b))
      | _, _ => none
    else none

theorem intB_sound {P : Program} {op : BinOp} {k : IntKind} {a b : Int} {v : Value} (h : intB op k a b = some v) (t : TypeId) (w : World) : (binOp op t (.int k a) (.int k b)).run P w = .ok v w := by
  cases op
  case quo =>
    simp only [intB] at h
    split at h
    · simp at h
    · rename_i hb; simp only [Option.some.injEq] at h; subst h; simp [binOp, Op.intDiv, hb]
  case rem =>
    simp only [intB] at h
    split at h
    · simp at h
    · rename_i hb; simp only [Option.some.injEq] at h; subst h; simp [binOp, Op.intDiv, hb]
  case shl =>
    simp only [intB] at h
    split at h
    · simp at h
    · rename_i hb; simp only [Option.some.injEq] at h; subst h; simp [binOp, Op.shift, hb]
  case shr =>
    simp only [intB] at h
    split at h
    · simp at h
    · rename_i hb; simp only [Option.some.injEq] at h; subst h; simp [binOp, Op.shift, hb]
  case and => simp only [intB, Option.some.injEq] at h; subst h; simp [binOp, Op.intBits]
  case or => simp only [intB, Option.some.injEq] at h; subst h; simp [binOp, Op.intBits]
  case xor => simp only [intB, Option.some.injEq] at h; subst h; simp [binOp, Op.intBits]
  case andNot => simp only [intB, Option.some.injEq] at h; subst h; simp [binOp, Op.intBits]
  all_goals first
    | (simp only [intB] at h; done)
    | (simp only [intB, Option.some.injEq] at h; subst h; simp [binOp, Op.intArith, Op.intCmp])
theorem strB_sound {P : Program} {op : BinOp} {a b : ByteArray} {v : Value} (h : strB op a b = some v) (t : TypeId) (w : World) : (binOp op t (.string a) (.string b)).run P w = .ok v w := by
  cases op <;> simp [strB] at h
  case add => obtain ⟨h1, h2⟩ := h; subst h2; simp [binOp, Op.stringOp]; omega
  all_goals (subst h; simp [binOp, Op.stringOp])
theorem equalIn_bool {P : Program} {t : TypeId} (h : P.underlying t = some .bool) (d : Nat) (a b : Bool) (w : World) : (Op.equalIn (d + 1) t (.bool a) (.bool b)).run P w = .ok (a == b) w := by
  simp [Op.equalIn, run_underlying h]
theorem equalIn_ptr {P : Program} {t e : TypeId} (h : P.underlying t = some (.pointer e)) (d : Nat) (a : Option Addr) (w : World) : (Op.equalIn (d + 1) t (.pointer a) (.pointer none)).run P w = .ok a.isNone w := by
  cases a <;> simp [Op.equalIn, run_underlying h]
theorem equalIn_slice {P : Program} {t e : TypeId} (h : P.underlying t = some (.slice e)) (d : Nat) (a : Option Addr) (n c : Nat) (w : World) : (Op.equalIn (d + 1) t (.slice a n c) (.slice none 0 0)).run P w = .ok a.isNone w := by
  cases a <;> simp [Op.equalIn, run_underlying h]
theorem equalIn_map {P : Program} {t k e : TypeId} (h : P.underlying t = some (.map k e)) (d : Nat) (a : Option Nat) (w : World) : (Op.equalIn (d + 1) t (.map a) (.map none)).run P w = .ok a.isNone w := by
  cases a <;> simp [Op.equalIn, run_underlying h]
theorem equalIn_func {P : Program} {t : TypeId} {p r : Array TypeId} {v : Bool} (h : P.underlying t = some (.func p r v)) (d : Nat) (fn : Fn) (f c : Array Value) (w : World) : (Op.equalIn (d + 1) t (.func fn f c) .nilFunc).run P w = .ok false w := by
  simp [Op.equalIn, run_underlying h]
theorem equalIn_func_nil {P : Program} {t : TypeId} {p r : Array TypeId} {v : Bool} (h : P.underlying t = some (.func p r v)) (d : Nat) (w : World) : (Op.equalIn (d + 1) t .nilFunc .nilFunc).run P w = .ok true w := by
  simp [Op.equalIn, run_underlying h]

theorem nil_sound {C : Ctx} {G : Ghost} {x y : AV} {xv yv : Value} (hx : Rep G x xv) (hy : Rep G y yv) {t : TypeId} (hk : nilKind C.P t y = true) (hs : sameKind x y = true) {b : Bool} (hb : isNil x = some b) (d : Nat) (w : World) :
    (Op.equalIn (d + 1) t xv yv).run C.P w = .ok b w := by
  unfold sameKind at hs
  split at hs
  all_goals first | (exact Bool.noConfusion hs) | skip
  all_goals simp only [Rep] at hx hy
  all_goals simp only [nilKind] at hk
  all_goals split at hk
  all_goals first | (exact Bool.noConfusion hk) | skip
  all_goals simp only [isNil] at hb
  · rename_i h; subst hx; subst hy; simp at hb; subst hb; rw [equalIn_ptr h]; rfl
  · rename_i h; subst hx; subst hy; simp at hb; subst hb; rw [equalIn_slice h]; rfl
  · rename_i h; subst hx; subst hy; simp at hb; subst hb; rw [equalIn_map h]; rfl
  · rename_i h; subst hx; subst hy; simp at hb; subst hb; rw [equalIn_func_nil h]
  · rename_i h; obtain ⟨_, rfl⟩ := hx; subst hy; simp at hb; subst hb; rw [equalIn_ptr h]; rfl
  · rename_i h; obtain ⟨_, _, rfl, _⟩ := hx; subst hy; simp at hb; subst hb; rw [equalIn_ptr h]; rfl
  · rename_i h; obtain ⟨_, rfl⟩ := hx; subst hy; simp at hb; subst hb; rw [equalIn_map h]; rfl
  · rename_i h; obtain ⟨_, _, rfl, _⟩ := hx; subst hy; simp at hb; subst hb; rw [equalIn_func h]
  · rename_i h
    subst hy
    obtain ⟨base, cap, rfl, h1, h2, h3, h4⟩ := hx
    rw [equalIn_slice h]
    cases base with
    | none =>
      obtain ⟨rfl, rfl⟩ := h3
      simp at hb
    | some a =>
      split at hb
      all_goals first | (exact Option.noConfusion hb) | skip
      all_goals simp_all

theorem run_eq_other {P : Program} {t : TypeId} {xv yv : Value} {ox oy : Operand} {b : Bool} {w : World} (he : ∀ d, (Op.equalIn (d + 1) t xv yv).run P w = .ok b w)
    (hx : (∃ a, xv = .pointer a) ∨ (∃ a n c, xv = .slice a n c) ∨ (∃ a, xv = .map a) ∨ (∃ f a c, xv = .func f a c) ∨ xv = .nilFunc ∨ ∃ a, xv = .bool a)
    (hy : (∃ a, yv = .pointer a) ∨ (∃ a n c, yv = .slice a n c) ∨ (∃ a, yv = .map a) ∨ yv = .nilFunc ∨ ∃ a, yv = .bool a) :
    (do eqGuard .eql t ox oy xv yv; binOp .eql t xv yv : Sem Value).run P w = .ok (.bool b) w ∧ (do eqGuard .neq t ox oy xv yv; binOp .neq t xv yv : Sem Value).run P w = .ok (.bool !b) w := by
  have he' : (Op.equal t xv yv).run P w = .ok b w := he 9999
  have h1 : (eqGuard .eql t ox oy xv yv).run P w = .ok () w ∧ (eqGuard .neq t ox oy xv yv).run P w = .ok () w := by
    rcases hx with ⟨a, rfl⟩ | ⟨a, n, c, rfl⟩ | ⟨a, rfl⟩ | ⟨f, a, c, rfl⟩ | rfl | ⟨a, rfl⟩ <;> simp [eqGuard]
  have h2 : binOp .eql t xv yv = (do pure (.bool (← Op.equal t xv yv))) ∧ binOp .neq t xv yv = (do pure (.bool (!(← Op.equal t xv yv)))) := by
    rcases hx with ⟨a, rfl⟩ | ⟨a, n, c, rfl⟩ | ⟨a, rfl⟩ | ⟨f, a, c, rfl⟩ | rfl | ⟨a, rfl⟩ <;> rcases hy with ⟨a', rfl⟩ | ⟨a', n', c', rfl⟩ | ⟨a', rfl⟩ | rfl | ⟨a', rfl⟩ <;> exact ⟨rfl, rfl⟩
  constructor
  · simp only [Sem.run_bind, h1.1, Result.andThen_ok, h2.1, he', Sem.run_pure]
  · simp only [Sem.run_bind, h1.2, Result.andThen_ok, h2.2, he', Sem.run_pure]

theorem kinds_of {G : Ghost} {x y : AV} {xv yv : Value} (hx : Rep G x xv) (hy : Rep G y yv) (hs : sameKind x y = true) :
    ((∃ a, xv = .pointer a) ∨ (∃ a n c, xv = .slice a n c) ∨ (∃ a, xv = .map a) ∨ (∃ f a c, xv = .func f a c) ∨ xv = .nilFunc ∨ ∃ a, xv = .bool a) ∧
    ((∃ a, yv = .pointer a) ∨ (∃ a n c, yv = .slice a n c) ∨ (∃ a, yv = .map a) ∨ yv = .nilFunc ∨ ∃ a, yv = .bool a) := by
  unfold sameKind at hs
  split at hs
  all_goals first | (exact Bool.noConfusion hs) | skip
  all_goals simp only [Rep] at hx hy
  all_goals (subst hy)
  · subst hx; exact ⟨.inl ⟨_, rfl⟩, .inl ⟨_, rfl⟩⟩
  · subst hx; exact ⟨.inr (.inl ⟨_, _, _, rfl⟩), .inr (.inl ⟨_, _, _, rfl⟩)⟩
  · subst hx; exact ⟨.inr (.inr (.inl ⟨_, rfl⟩)), .inr (.inr (.inl ⟨_, rfl⟩))⟩
  · subst hx; exact ⟨.inr (.inr (.inr (.inr (.inl rfl)))), .inr (.inr (.inr (.inl rfl)))⟩
  · obtain ⟨_, rfl⟩ := hx; exact ⟨.inl ⟨_, rfl⟩, .inl ⟨_, rfl⟩⟩
  · obtain ⟨_, _, rfl, _⟩ := hx; exact ⟨.inl ⟨_, rfl⟩, .inl ⟨_, rfl⟩⟩
  · obtain ⟨_, rfl⟩ := hx; exact ⟨.inr (.inr (.inl ⟨_, rfl⟩)), .inr (.inr (.inl ⟨_, rfl⟩))⟩
  · obtain ⟨_, _, rfl, _⟩ := hx; exact ⟨.inr (.inr (.inr (.inl ⟨_, _, _, rfl⟩))), .inr (.inr (.inr (.inl rfl)))⟩
  · obtain ⟨_, _, rfl, _⟩ := hx; exact ⟨.inr (.inl ⟨_, _, _, rfl⟩), .inr (.inl ⟨_, _, _, rfl⟩)⟩

theorem binAV0_sound {C : Ctx} {G : Ghost} {M : Mem} {w : World} (hi : Inv C G M w) {x y : AV} {xv yv : Value} (hx : Rep G x xv) (hy : Rep G y yv) {op : BinOp} {t : TypeId} {v : AV} (h : binAV0 C.P op t x y = some v) (ox oy : Operand) :
    ∃ u, (do eqGuard op t ox oy xv yv; binOp op t xv yv : Sem Value).run C.P w = .ok u w ∧ Rep G v u := by
  unfold binAV0 at h
  split at h
  · simp only [Rep] at hx hy
    subst hx; subst hy
    split at h
    · rename_i hk; subst hk
      simp only [Option.map_eq_some_iff] at h
      obtain ⟨u, hu, rfl⟩ := h
      refine ⟨u, ?_, by simp [Rep]⟩
      have := intB_sound (P := C.P) hu t w
      cases op <;> simp [intB] at hu <;> simp [eqGuard, this]
    · simp at h
  · simp only [Rep] at hx hy
    subst hx; subst hy
    simp only [Option.map_eq_some_iff] at h
    obtain ⟨u, hu, rfl⟩ := h
    refine ⟨u, ?_, by simp [Rep]⟩
    have := strB_sound (P := C.P) hu t w
    cases op <;> simp [strB] at hu <;> simp [eqGuard, this]
  · simp only [Rep] at hx hy
    subst hx; subst hy
    split at h
    · rename_i hu; simp at h; subst h
      exact ⟨_, (run_eq_other (fun d => equalIn_bool hu d _ _ w) (by simp) (by simp)).1, by simp [Rep]⟩
    · rename_i hu; simp at h; subst h
      exact ⟨_, (run_eq_other (fun d => equalIn_bool hu d _ _ w) (by simp) (by simp)).2, by simp [Rep]⟩
    · simp at h
  · split at h
    case isFalse => simp at h
    rename_i hc
    simp only [Bool.and_eq_true] at hc
    obtain ⟨k1, k2⟩ := kinds_of hx hy hc.2
    split at h
    · rename_i b hb; simp at h; subst h
      exact ⟨_, (run_eq_other (fun d => nil_sound hx hy hc.1 hc.2 hb d w) k1 k2).1, by simp [Rep]⟩
    · rename_i b hb; simp at h; subst h
      exact ⟨_, (run_eq_other (fun d => nil_sound hx hy hc.1 hc.2 hb d w) k1 k2).2, by simp [Rep]⟩
    · simp at h
end Go.Abs
end
section
/- Operations, one by one: what they yield on abstract values. -/
set_option linter.unusedVariables false
namespace Go.Abs

def sliceIdx (len : Nat) : Option AV → Option Nat
  | none => some len
  | some (.val (.int _ i)) => if 0 ≤ i ∧ i ≤ len then some i.toNat else none
  | _ => none

/-- x[lo:hi:mx] of a slice: what is known of the spare places behind it -/
def sliceOwn (len l h : Nat) (mx : Option Nat) (own : Own) : Own :=
  match mx with
  | some m => if m = h then .full else .no
  | none => match own with
    | .full => if h = len then .full else .no
    | .fam f => if h = len ∧ l = 0 then .fam f else .no
    | .no => .no

def sliceListAV (P : Program) (t : TypeId) (sz : Nat) (rows : List (List AV)) (own : Own) (lo hi mx : Option AV) : Option AV :=
    match (match mx with | none => some none | some m => (sliceIdx rows.length (some m)).map some), elemOf? P t with
    | some m, some e => if szOf P e = some sz then
        match sliceIdx (m.getD rows.length) (match hi with | some h => some h | none => none), hi.isSome || mx.isNone with
        | some h, true => match (match lo with | none => some 0 | some l => sliceIdx h (some l)) with
          | some l => some (.list sz ((rows.take h).drop l) (sliceOwn rows.length l h m own))
          | none => none
        | _, _ => none
      else none
    | _, _ => none

def sliceAV (P : Program) (t : TypeId) (x : AV) (lo hi mx : Option AV) : Option AV :=
  match x with
  | .val (.string s) => match mx, P.underlying t, sliceIdx s.size hi with
    | none, some .string, some h => match (match lo with | none => some 0 | some l => sliceIdx h (some l)) with
      | some l => some (.val (.string (s.extract l h)))
      | none => none
    | _, _, _ => none
  | .list sz rows own => sliceListAV P t sz rows own lo hi mx
  | .val (.slice none 0 0) => match elemOf? P t with
    | some e => match szOf P e with
      | some sz => (sliceListAV P t sz [] .full lo hi mx).map fun _ => .val (.slice none 0 0)
      | none => none
    | none => none
  | _ => none

def fieldOf? (P : Program) (t : TypeId) (f : Nat) : Option (Nat × TypeId) := match P.underlying t with
  | some (.struct fs) => (fs[f]?).map fun x => (x.offset, x.type)
  | _ => none

def putCells (zero : List AV) (off : Nat) (v : AV) : Option (List AV) :=
  if v.storable && decide (off + v.cells.length ≤ zero.length) then some (zero.take off ++ v.cells ++ zero.drop (off + v.cells.length)) else none

def zeroCells? (P : Program) (t : TypeId) : Option (List Value) := match P.info? t with
  | some i => i.zero.map (·.cells.toList)
  | none => none

def fieldsOk (P : Program) (t : TypeId) : Bool := match P.underlying t with
  | some (.struct fs) => fs.toList.all fun f => (szOf P f.type).isSome
  | _ => false

def buildGo (P : Program) (t : TypeId) : List (Nat × AV) → List AV → Option (List AV)
  | [], cs => some cs
  | (i, v) :: rest, cs => match fieldOf? P t i with
    | some (off, ft) => if szOf P ft = some v.cells.length then (putCells cs off v).bind (buildGo P t rest) else none
    | none => none

def rowsGo (sz : Nat) : List (Nat × AV) → List (List AV) → Option (List (List AV))
  | [], rows => some rows
  | (i, v) :: rest, rows => if v.storable && decide (v.cells.length = sz) && decide (i < rows.length) then rowsGo sz rest (rows.set i v.cells) else none

def mxIdx (len : Nat) : Option AV → Option (Option Nat)
  | none => some none
  | some m => (sliceIdx len (some m)).map some
def loIdx (hh : Nat) : Option AV → Option Nat
  | none => some 0
  | some l => sliceIdx hh (some l)
def vsliceAV (P : Program) (t : TypeId) (f g sz lo0 len : Nat) (lo hi mx : Option AV) : Option AV :=
  match mxIdx len mx, elemOf? P t with
  | some m, some e => if szOf P e = some sz then
      match sliceIdx (m.getD len) hi, hi.isSome || mx.isNone with
      | some h, true => match loIdx h lo with
        | some l => match m with
          | none => some (.vref f g sz (lo0 + l) (h - l))
          | some q => if q = l then some (.list sz [] .full) else none
        | none => none
      | _, _ => none
    else none
  | _, _ => none

def shiftB (op : BinOp) (k : IntKind) (a b : Int) : Option Value :=
  if b < 0 then none else match op with
  | .shl => some (.int k (k.wrap (a * 2 ^ (min b.toNat k.bits))))
  | .shr => some (.int k (a.fdiv (2 ^ (min b.toNat k.bits))))
  | _ => none

def eqFieldsAV (P : Program) (eq : TypeId → AV → AV → Option Bool) (xs ys : List AV) : List Field → Option Bool
  | [] => some true
  | f :: fs => if f.name ≠ "_" then
      if (szOf P f.type).any (fun n => decide (f.offset + n ≤ xs.length)) && (szOf P f.type).any (fun n => decide (f.offset + n ≤ ys.length)) then
        match loadCells? P f.type (xs.drop f.offset), loadCells? P f.type (ys.drop f.offset) with
        | some a, some b => match eq f.type a b with
          | some true => eqFieldsAV P eq xs ys fs
          | some false => some false
          | none => none
        | _, _ => none
      else none
    else eqFieldsAV P eq xs ys fs
def eqAV (P : Program) : Nat → TypeId → AV → AV → Option Bool
  | 0, _, _, _ => none
  | d + 1, t, x, y => match P.underlying t, x, y with
    | some .bool, .val (.bool a), .val (.bool b) => some (a == b)
    | some (.int _), .val (.int k a), .val (.int k' b) => if k = k' then some (a == b) else none
    | some .string, .val (.string a), .val (.string b) => some (a.data.toList == b.data.toList)
    | some (.struct fs), .agg xs, .agg ys => if P.stoodInHeld t then none else eqFieldsAV P (eqAV P d) xs ys fs.toList
    | _, _, _ => none

def binMore (P : Program) (op : BinOp) (t : TypeId) (x y : AV) : Option AV :=
  match x, y with
  | .val (.int k a), .val (.int yk b) => if k = yk then none else (shiftB op k a b).map .val
  | .agg xs, .agg ys => if P.eqGuardType P.depth t then none else match op, eqAV P 30 t (.agg xs) (.agg ys) with
    | .eql, some b => some (.val (.bool b))
    | .neq, some b => some (.val (.bool !b))
    | _, _ => none
  | .vref _ _ _ _ _, .val (.slice none 0 0) => match P.underlying t, op with
    | some (.slice _), .eql => some (.val (.bool false))
    | some (.slice _), .neq => some (.val (.bool true))
    | _, _ => none
  | _, _ => none

def binAV (P : Program) (op : BinOp) (t : TypeId) (x y : AV) : Option AV := match binAV0 P op t x y with
  | some v => some v
  | none => binMore P op t x y
def convAV (P : Program) (src dst : TypeId) (x : AV) : Option AV := match P.underlying src, P.underlying dst, x with
  | some (.int _), some (.int k), .val (.int _ n) => some (.val (.int k (k.wrap n)))
  | some .string, some .string, .val (.string s) => some (.val (.string s))
  | _, _, _ => none
def lenAV (P : Program) (t : TypeId) : AV → Option Nat
  | .val (.string s) => match P.underlying t with | some .string => some s.size | _ => none
  | .val (.slice none 0 0) => match P.underlying t with | some (.slice _) => some 0 | _ => none
  | .val (.map none) => match P.underlying t with | some (.map _ _) => some 0 | _ => none
  | .list _ rows _ => match P.underlying t with | some (.slice _) => some rows.length | _ => none
  | .vref _ _ _ _ len => match P.underlying t with | some (.slice _) => some len | _ => none
  | _ => none

def min2V (mx : Bool) : AV → AV → Option AV
  | .val (.int k a), .val (.int k' b) => if k = k' then some (.val (.int k (if mx then (if b > a then b else a) else (if b < a then b else a)))) else none
  | _, _ => none

def callPure (P : Program) (hint : Bool) (b : Builtin) (ts : Array TypeId) (args : List AV) : Option AV :=
  match b, args with
  | .len, [x] => match ts[0]? with
    | some t => (lenAV P t x).map fun (n : Nat) => AV.val (goInt (n : Int))
    | none => none
  | .max, [x, y] => min2V true x y
  | .min, [x, y] => min2V false x y
  | _, _ => none

def slice2 (P : Program) (t : TypeId) (x : AV) (lo hi mx : Option AV) : Option AV := match x with
  | .vref f g sz lo0 len => vsliceAV P t f g sz lo0 len lo hi mx
  | x => sliceAV P t x lo hi mx
/-- is the slice that is made here an array that may be written -/
def hvAt (C : Ctx) (h : Hint) (t : TypeId) (d : Option Nat) : Bool := hintAt h.vec d && !C.data t
/-- what an operation yields that turns no mutable object -/
def evalPure (C : Ctx) (h : Hint) (o : Oper) (ρ : Operand → AV) : Option AV :=
  match o.op with
  | .move x => some (ρ x)
  | .assign x => some (ρ x)
  | .pick c a b => match ρ c with
    | .val (.bool t) => some (if t then ρ a else ρ b)
    | _ => none
  | .box e x => if hintAt h.imm o.dst && (ρ x).storable then some (.cptr (ρ x).cells) else none
  | .nilCheck x => match ρ x with
    | .ptr b off => some (.ptr b off)
    | .cptr cs => some (.cptr cs)
    | .func (.func f) a c => some (.func (.func f) a c)
    | .vptr f g off => some (.vptr f g off)
    | _ => none
  | .binOp op t x y _ => binAV C.P op t (ρ x) (ρ y)
  | .unOp .not _ x => match ρ x with
    | .val (.bool b) => some (.val (.bool !b))
    | _ => none
  | .unOp .neg _ x => match ρ x with
    | .val (.int k n) => some (.val (.int k (k.wrap (0 - n))))
    | _ => none
  | .fieldAddr t x f => match offOf C.P t f, ρ x with
    | some k, .ptr b off => some (.ptr b (off + k))
    | some k, .cptr cs => some (.cptr (cs.drop k))
    | some k, .vptr f g off => some (.vptr f g (off + k))
    | _, _ => none
  | .field t x f => match fieldOf? C.P t f, ρ x with
    | some (k, ft), .agg cs => if (szOf C.P ft).any (fun n => decide (k + n ≤ cs.length)) then loadCells? C.P ft (cs.drop k) else none
    | _, _ => none
  | .indexAddr t x ix => match elemOf? C.P t, ρ x, ρ ix with
    | some e, .list sz rows _, .val (.int _ i) => if szOf C.P e = some sz ∧ 0 ≤ i ∧ i < rows.length then some (.cptr (rows.getD i.toNat [])) else none
    | some e, .vref f g sz lo len, .val (.int _ i) => if szOf C.P e = some sz ∧ 0 ≤ i ∧ i < len then some (.vptr f g ((lo + i.toNat) * sz)) else none
    | _, _, _ => none
  | .index t x ix => match C.P.underlying t, ρ x, ρ ix with
    | some .string, .val (.string s), .val (.int _ i) => if 0 ≤ i ∧ i < s.size then some (.val (.int .u8 (s.data.getD i.toNat 0).toNat)) else none
    | _, _, _ => none
  | .load t x => match ρ x with
    | .cptr cs => loadCells? C.P t cs
    | _ => none
  | .extract x i => match ρ x with
    | .tuple vs => vs[i]?
    | _ => none
  | .makeFunc fn f c => some (.func fn (f.toList.map ρ) (c.toList.map ρ))
  | .slice t x lo hi mx => slice2 C.P t (ρ x) (lo.map ρ) (hi.map ρ) (mx.map ρ)
  | .convert src dst x => convAV C.P src dst (ρ x)
  | .build t parts => match zeroCells? C.P t, C.P.underlying t with
    | some z, some (.struct _) => if !fieldsOk C.P t || !z.all (·.oneCell') then none else (buildGo C.P t (parts.toList.map fun p => (p.1, ρ p.2)) (z.map .val)).map .agg
    | _, _ => none
  | .buildSlice t n parts => if hvAt C h t o.dst then none else match elemOf? C.P t with
    | some e => match szOf C.P e, zeroCells? C.P e with
      | some sz, some z => if n * sz ≤ 2 ^ 24 ∧ z.length = sz ∧ z.all (·.oneCell') ∧ 0 < sz then
          (rowsGo sz (parts.toList.map fun p => (p.1, ρ p.2)) (List.replicate n (z.map .val))).map fun rows => .list sz rows .full
        else none
      | _, _ => none
    | none => none
  | .call { callee := .builtin b, args, argTypes } => callPure C.P (hintAt h.own o.dst) b argTypes (args.toList.map ρ)
  | _ => none
end Go.Abs
end
