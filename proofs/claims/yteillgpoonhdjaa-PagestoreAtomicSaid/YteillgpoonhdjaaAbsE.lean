/- append: what it computes -/
import Derived.Test.YteillgpoonhdjaaAbsD
set_option linter.unusedVariables false
namespace Go.Abs
/-- what may be appended: a slice or a string -/
def srcOk (P : Program) (u : TypeId) : Prop := (∃ e2, P.underlying u = some (.slice e2)) ∨ P.underlying u = some .string

section
variable {P : Program}
theorem run_app_same {t u e : TypeId} {ty : TypeId} {sz : Nat} {s x : Value} {base : Option Addr} {n cap : Nat} {w : World} (ht : P.underlying t = some (.slice e)) (hsz : szOf P e = some sz)
    (hu : srcOk P u) (hx : ∀ w, (Builtin.lenOf x).run P w = .ok 0 w)
    (hfx : (Builtin.firstCells sz 0 x).run P w = .ok #[] w) (hle : n ≤ cap) : (Builtin.append_ #[t, u] ty #[.slice base n cap, x]).run P w = .ok (.slice base n cap) w := by
  obtain ⟨e2, hu⟩ | hu := hu
  all_goals cases base <;> simp [Builtin.append_, run_underlying ht, run_underlying hu, run_szOf hsz, hx, hfx, hle, storeCells]

theorem run_app_room {t u e : TypeId} {ty : TypeId} {sz : Nat} {x : Value} {g n cap m : Nat} {w : World} (ht : P.underlying t = some (.slice e)) (hsz : szOf P e = some sz)
    (hu : srcOk P u) (hx : ∀ w, (Builtin.lenOf x).run P w = .ok m w)
    {news : List Value} (hfx : (Builtin.firstCells sz m x).run P w = .ok news.toArray w) (hle : n + m ≤ cap) {cur : Array Value} {ct : TypeId} (hg : w.heap[g]? = some (.cells cur ct (0, 0)))
    (hfit : n * sz + news.length ≤ cur.size) (h1 : ∀ v ∈ news, v.oneCell' = true) :
    (Builtin.append_ #[t, u] ty #[.slice (some ⟨g, 0, none⟩) n cap, x]).run P w =
      .ok (.slice (some ⟨g, 0, none⟩) (n + m) cap) (w.setRow g (cur.toList.take (n * sz) ++ news ++ cur.toList.drop (n * sz + news.length)).toArray) := by
  obtain ⟨e2, hu⟩ | hu := hu
  all_goals
   have hst := run_storeCells_at P g (n * sz) ct news 0 cur w hg (by simpa using hfit) h1
   simp only [Nat.add_zero] at hst
   simp [Builtin.append_, run_underlying ht, run_underlying hu, run_szOf hsz, hx, hfx, hle, hst, Addr.add_lit]

theorem run_app_grow {t u e : TypeId} {ty : TypeId} {i : TypeInfo} {z x : Value} {base : Option Addr} {n cap m : Nat} {w : World} (ht : P.underlying t = some (.slice e)) (hi : P.info? e = some i) (hz : i.zero = some z)
    (hu : srcOk P u) (hx : ∀ w, (Builtin.lenOf x).run P w = .ok m w)
    {news olds : List Value} (hfx : (Builtin.firstCells i.size m x).run P w.drew = .ok news.toArray w.drew) (hfs : (Builtin.firstCells i.size n (.slice base n cap)).run P w.drew = .ok olds.toArray w.drew)
    (hgt : cap < n + m) (hb : (n + m) * i.bytes ≤ 140737488355328) (h63 : n + m ≤ maxLen) :
    (Builtin.append_ #[t, u] ty #[.slice base n cap, x]).run P w =
      .ok (.slice (some ⟨w.heap.size, 0, none⟩) (n + m) (grownCap w (n + m) cap e)) (w.drew.alloc (.cells (olds.toArray ++ news.toArray ++ Builtin.zeroCells z.cells (grownCap w (n + m) cap e - (n + m))) e)) := by
  have hn : ¬ (n + m ≤ cap) := by omega
  have h63' : ¬ (9223372036854775807 < ((n : Int) + (m : Int))) := by simp only [maxLen] at h63; omega
  have hfit := growslice_fits hgt hb
  have h48' : ¬ (281474976710656 < Builtin.nextslicecap (n + m) cap * i.bytes) := by omega
  obtain ⟨e2, hu⟩ | hu := hu
  all_goals simp [Builtin.append_, run_underlying ht, run_underlying hu, sizeOf, typeInfo, zeroValue, hi, hz, hx, hn, h63', h48', Question.forced, hfx, hfs, newRow, grownCap]
  all_goals (congr 2; apply Array.ext'; simp)
end

/-- the facts of an element's type that append wants -/
def elemOk (P : Program) (e : TypeId) (sz bytes : Nat) : Prop := ∃ i z, P.info? e = some i ∧ i.zero = some z ∧ i.size = sz ∧ i.bytes = bytes ∧ z.cells.size = sz ∧ 0 < bytes

def appendAV (hint : Bool) (sz : Nat) (s x : AV) (M : Mem) : Option (AV × Mem) :=
  match asList s, asList x with
  | some (r1, own), some (r2, _) =>
    match own with
    | .fam f => match M[f]? with
      | some (.fam m sz') => if m = r1.length ∧ sz' = sz then some (.list sz (r1 ++ r2) (.fam f), M.set f (.fam (r1.length + r2.length) sz)) else none
      | _ => none
    | .full => if hint then some (.list sz (r1 ++ r2) (.fam M.length), M ++ [.fam (r1.length + r2.length) sz]) else some (.list sz (r1 ++ r2) .no, M)
    | .no => none
  | _, _ => none

def rowsLen (s : AV) : Nat := match asList s with | some (r, _) => r.length | none => 0

theorem lenOf_slice (P : Program) (base : Option Addr) (n c : Nat) (w : World) : (Builtin.lenOf (.slice base n c)).run P w = .ok n w := rfl

/-- a family's next header, fixed memory in block nb from place o on -/
def Ghost.grow (G : Ghost) (f n : Nat) (h : Option Addr × Nat) (nb o : Nat) (vs : List Value) : Ghost :=
  { G with st := fun b i => if b = nb ∧ o ≤ i ∧ i < o + vs.length then vs[i - o]? else G.st b i,
           hdr := fun j => if j = f then fun k => if k = n then h else G.hdr f k else G.hdr j,
           top := fun j => if j = f then n else G.top j }

theorem Ghost.le_grow {G : Ghost} {f n : Nat} {h : Option Addr × Nat} {nb o : Nat} {vs : List Value} (hn : G.top f < n ∨ (G.top f = n ∧ G.hdr f n = h)) (hst : ∀ i v, o ≤ i → i < o + vs.length → G.st nb i = some v → vs[i - o]? = some v) : G.le (G.grow f n h nb o vs) := by
  refine ⟨Nat.le_refl _, fun _ _ => rfl, fun b i v hv => ?_, fun _ _ h => h, fun j _ => ?_, fun j _ k hk => ?_⟩
  · simp only [Ghost.grow]
    split
    · rename_i e; obtain ⟨rfl, h1, h2⟩ := e; exact hst i v h1 h2 hv
    · exact hv
  · simp only [Ghost.grow]
    by_cases e : j = f
    · subst e; rw [if_pos rfl]; omega
    · rw [if_neg e]; exact Nat.le_refl _
  · simp only [Ghost.grow]
    by_cases e : j = f
    · subst e
      rw [if_pos rfl]
      by_cases e2 : k = n
      · subst e2
        rw [if_pos rfl]
        rcases hn with h1 | ⟨_, h1⟩
        · omega
        · exact h1.symm
      · rw [if_neg e2]
    · rw [if_neg e]
end Go.Abs
