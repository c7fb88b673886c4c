/- The law PagestoreAtomic: what the calls do, in plain words. -/
import Derived.Test.YteillgpoonhdjaaPsM
set_option maxRecDepth 100000
set_option linter.unusedSimpArgs false
namespace Go.Abs
open Go.Proofs

theorem mAppend_cases (s : St) (x : ByteArray) :
    (mAppend s x).2.root = s.root ∧ (mAppend s x).2.lasting = s.lasting ∧
      (((mAppend s x).1.1 = s.pages.length ∧ (mAppend s x).1.2 = 0 ∧ (mAppend s x).2.pages = s.pages ++ [x]) ∨ ((mAppend s x).1.2 ≠ 0 ∧ (mAppend s x).2.pages = s.pages)) := by
  unfold mAppend
  split
  · exact ⟨rfl, rfl, .inr ⟨by simp, rfl⟩⟩
  split
  · exact ⟨rfl, rfl, .inr ⟨by simp, rfl⟩⟩
  split
  · exact ⟨rfl, rfl, .inr ⟨by simp, rfl⟩⟩
  split
  · exact ⟨rfl, rfl, .inr ⟨by simp, rfl⟩⟩
  · exact ⟨rfl, rfl, .inl ⟨rfl, rfl, rfl⟩⟩
theorem mSet_cases (s : St) (n : Int) :
    (mSet s n).2.pages = s.pages ∧ (((mSet s n).1 = 0 ∧ (mSet s n).2.root = n ∧ (mSet s n).2.lasting = s.pages.length) ∨ ((mSet s n).1 ≠ 0 ∧ (mSet s n).2.root = s.root ∧ (mSet s n).2.lasting = s.lasting)) := by
  unfold mSet
  split
  · exact ⟨rfl, .inr ⟨by simp, rfl, rfl⟩⟩
  split
  · exact ⟨rfl, .inr ⟨by simp, rfl, rfl⟩⟩
  split
  · exact ⟨rfl, .inr ⟨by simp, rfl, rfl⟩⟩
  · exact ⟨rfl, .inl ⟨rfl, rfl, rfl⟩⟩
theorem Grow.size {M : Mem} {v : AV} {rows : List (List AV)} (h : Grow M v rows) : sizeOk 1 v := by
  rcases h with rfl | ⟨g, rfl, -⟩ <;> rfl
theorem Grow.rows {M : Mem} {v : AV} {rows : List (List AV)} (h : Grow M v rows) : rowsLen v = rows.length := by
  rcases h with rfl | ⟨g, rfl, -⟩ <;> rfl
theorem Grow.len {M : Mem} {v : AV} {rows : List (List AV)} (h : Grow M v rows) {t e : TypeId} (ht : Try.prog.underlying t = some (.slice e)) : lenAV Try.prog t v = some rows.length := by
  rcases h with rfl | ⟨g, rfl, -⟩ <;> simp [ht]
theorem Grow.is {M : Mem} {v : AV} {rows : List (List AV)} (h : Grow M v rows) : ∃ o, v = .list 1 rows o := by
  rcases h with rfl | ⟨g, rfl, -⟩ <;> exact ⟨_, rfl⟩
/-- a new object leaves all as it was -/
theorem Atom.push {M : Mem} {b : Nat} {pv vr vp : AV} {s : St} {rs : List Int} {ps : List ByteArray} (h : Atom M b pv s vr rs vp ps) (x : AObj) : Atom (M ++ [x]) b pv s vr rs vp ps := by
  have hb := getElem?_lt h.at'.1
  have fr : Fr M (M ++ [x]) b pv pv := ⟨by simp, fun k hk _ _ => by rw [List.getElem?_append_left hk], fun _ h => .inl h⟩
  refine h.store ⟨by rw [List.getElem?_append_left hb]; exact h.at'.1, ?_⟩ h.ok fr
  rcases h.at'.2 with hp | ⟨f, hp, hf⟩
  · exact .inl hp
  · exact .inr ⟨f, hp, by rw [List.getElem?_append_left (getElem?_lt hf)]; exact hf⟩
theorem Atom.root_set {M : Mem} {b : Nat} {pv vr vp : AV} {s : St} {rs : List Int} {ps : List ByteArray} (h : Atom M b pv s vr rs vp ps) (n : Int) : Atom (M.set b (.cells ((mSet s n).2.cells pv))) b pv (mSet s n).2 vr rs vp ps :=
  h.store (h.at'.root n) (mSet_ok h.ok n) (Fr.put _)
theorem Atom.fail_set {M : Mem} {b : Nat} {pv vr vp : AV} {s : St} {rs : List Int} {ps : List ByteArray} (h : Atom M b pv s vr rs vp ps) (n : Int) (hn : n ≤ 9223372036854775807) : Atom (M.set b (.cells ((mFail s n).cells pv))) b pv (mFail s n) vr rs vp ps :=
  h.store (h.at'.fail n) (mFail_ok h.ok n hn) (Fr.put _)

theorem Pg.notCells {M : Mem} {pv : AV} {l : List ByteArray} (h : Pg M pv l) {x : Nat} {cs : List AV} (hx : M[x]? = some (.cells cs)) : famOf pv ≠ some x := by
  rcases h with ⟨rfl, -⟩ | ⟨f, rfl, hf⟩
  · simp [famOf]
  · intro e
    simp only [famOf, Option.some.injEq] at e
    subst e
    rw [hx] at hf
    simp at hf
theorem Grow.notCells {M : Mem} {v : AV} {rows : List (List AV)} (h : Grow M v rows) {x : Nat} {cs : List AV} (hx : M[x]? = some (.cells cs)) : famOf v ≠ some x := by
  rcases h with rfl | ⟨f, rfl, hf⟩
  · simp [famOf]
  · intro e
    simp only [famOf, Option.some.injEq] at e
    subst e
    rw [hx] at hf
    simp at hf
theorem Grow.append_keeps {M : Mem} {v : AV} {rows : List (List AV)} (h : Grow M v rows) {r : List AV} {v' : AV} {M' : Mem} (e : appendAV true 1 v (.list 1 [r] .full) M = some (v', M')) {x : Nat} {cs : List AV} (hx : M[x]? = some (.cells cs)) : M'[x]? = some (.cells cs) := by
  obtain ⟨v2, M2, e2, -, fr⟩ := h.append r
  rw [e2] at e
  simp only [Option.some.injEq, Prod.mk.injEq] at e
  obtain ⟨rfl, rfl⟩ := e
  rw [fr.same x (getElem?_lt hx) (h.notCells hx), hx]
theorem Atom.box {M M' : Mem} {b : Nat} {pv qv vr vp : AV} {s : St} {rs : List Int} {ps : List ByteArray} (h : Atom M b pv s vr rs vp ps) (fr : Fr M M' b pv qv) {x : Nat} (hne : x ≠ b) {cs : List AV} (hx : M[x]? = some (.cells cs)) : M'[x]? = some (.cells cs) := by
  rw [fr.same x (getElem?_lt hx) hne (h.at'.2.notCells hx), hx]

/-- what the law knows of the store -/
structure Seen (s : St) (rs : List Int) (ps : List ByteArray) (lasts : Int) : Prop where
  ps : s.pages = ps
  rs : rs.getLast? = some s.root
  lasts : s.lasting = lasts
theorem Seen.append {s : St} {rs : List Int} {ps : List ByteArray} {lasts : Int} (h : Seen s rs ps lasts) (x : ByteArray) :
    ((mAppend s x).1.1 = ps.length ∧ (mAppend s x).1.2 = 0 ∧ Seen (mAppend s x).2 rs (ps ++ [x]) lasts) ∨ ((mAppend s x).1.2 ≠ 0 ∧ Seen (mAppend s x).2 rs ps lasts) := by
  obtain ⟨h1, h2, h3⟩ := h
  subst h1
  obtain ⟨a, b, ⟨c, d, e⟩ | ⟨c, d⟩⟩ := mAppend_cases s x
  · exact .inl ⟨c, d, e, a ▸ h2, b ▸ h3⟩
  · exact .inr ⟨c, d, a ▸ h2, b ▸ h3⟩
theorem Seen.set {s : St} {rs : List Int} {ps : List ByteArray} {lasts : Int} (h : Seen s rs ps lasts) (n : Int) :
    ((mSet s n).1 = 0 ∧ Seen (mSet s n).2 (rs ++ [n]) ps ps.length) ∨ ((mSet s n).1 ≠ 0 ∧ Seen (mSet s n).2 rs ps lasts) := by
  obtain ⟨h1, h2, h3⟩ := h
  subst h1
  obtain ⟨a, ⟨b, c, d⟩ | ⟨b, c, d⟩⟩ := mSet_cases s n
  · exact .inl ⟨b, a, by simp [c], d⟩
  · exact .inr ⟨b, a, c ▸ h2, d ▸ h3⟩
theorem Seen.crash {s : St} {rs : List Int} {ps : List ByteArray} {lasts : Int} (h : Seen s rs ps lasts) (ok : s.ok) (k : Int) :
    (mCrash s k).down = false ∧ (mCrash s k).root = s.root ∧ lasts ≤ (mCrash s k).pages.length ∧ (mCrash s k).pages.length ≤ ps.length ∧ ∀ i, i < (mCrash s k).pages.length → (mCrash s k).pages.getD i .empty = ps.getD i .empty := by
  obtain ⟨h1, h2, h3⟩ := h
  subst h1 h3
  obtain ⟨k1, k2, k3, -, -⟩ := ok
  refine ⟨rfl, rfl, ?_, ?_, ?_⟩
  · simp only [mCrash, List.length_take]; omega
  · simp only [mCrash, List.length_take]; omega
  · intro i hi
    simp only [mCrash, List.length_take] at hi
    simp only [mCrash, List.getD_eq_getElem?_getD, List.getElem?_take]
    rw [if_pos (by omega)]
theorem getElem?_lt' {α : Type} {l : List α} {i : Nat} {x : α} (h : l[i]? = some x) : i < l.length := by
  by_cases hi : i < l.length
  · exact hi
  · rw [List.getElem?_eq_none (by omega)] at h; simp at h
theorem Seen.last {s : St} {rs : List Int} {ps : List ByteArray} {lasts : Int} (h : Seen s rs ps lasts) : 0 < rs.length ∧ rs[rs.length - 1]? = some s.root := by
  have h2 := h.rs
  rw [List.getLast?_eq_getElem?] at h2
  refine ⟨?_, h2⟩
  have := getElem?_lt' h2
  omega
end Go.Abs
