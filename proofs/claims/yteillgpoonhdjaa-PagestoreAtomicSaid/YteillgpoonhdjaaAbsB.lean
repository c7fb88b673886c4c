/- The abstract state of a Go run: boxes, families, fixed memory; what it says of a real world; weakest preconditions over it. -/
import Derived.Test.YteillgpoonhdjaaAbsA
set_option linter.unusedVariables false
namespace Go.Abs

inductive AObj where
  | gone
  | cells (cs : List AV)
  | fam (m sz : Nat)

abbrev Mem := List AObj
abbrev Env := Nat → AV

/-- the block that an object alone may write -/
def oblk (G : Ghost) (k : Nat) : AObj → Option Nat
  | .gone => none
  | .cells _ => some (G.blk k)
  | .fam m _ => if m < (G.hdr k m).2 then (G.hdr k m).1.map (·.block) else none

def ObjInv (G : Ghost) (w : World) (k : Nat) : AObj → Prop
  | .gone => True
  | .cells cs => ∃ (vs : Array Value) (t : TypeId), w.heap[G.blk k]? = some (.cells vs t (0, 0)) ∧ RepL G cs vs.toList ∧ (∀ v ∈ vs.toList, v.oneCell' = true) ∧
      (∀ i, G.st (G.blk k) i = none) ∧ G.keep (G.blk k) = none
  | .fam m sz => G.top k = m ∧ m ≤ (G.hdr k m).2 ∧ (G.hdr k m).2 ≤ maxLen ∧ (m < (G.hdr k m).2 → ∃ (g : Nat) (vs : Array Value) (t : TypeId), (G.hdr k m).1 = some ⟨g, 0, none⟩ ∧
      w.heap[g]? = some (.cells vs t (0, 0)) ∧ (G.hdr k m).2 * sz ≤ vs.size ∧ (∀ i, m * sz ≤ i → G.st g i = none) ∧ G.keep g = none)

structure Ctx where
  P : Program
  gl : Nat → AV

structure Inv (C : Ctx) (G : Ghost) (M : Mem) (w : World) : Prop where
  n : G.n = M.length
  st : ∀ b i v, G.st b i = some v → w.cell? ⟨b, i, none⟩ = some v
  keep : ∀ b o, G.keep b = some o → w.heap[b]? = some o
  obj : ∀ k o, M[k]? = some o → ObjInv G w k o
  apart : ∀ j k x y b, M[j]? = some x → M[k]? = some y → oblk G j x = some b → oblk G k y = some b → j = k
  gl : ∀ g, Rep G (C.gl g) (.pointer (some ⟨g, 0, none⟩))

structure Ext (w w' : World) : Prop where
  os : w'.os = w.os
  tape : w'.tape = w.tape
  output : w'.output = w.output
  size : w.heap.size ≤ w'.heap.size

theorem Ext.refl (w : World) : Ext w w := ⟨rfl, rfl, rfl, Nat.le_refl _⟩
theorem Ext.trans {a b c : World} (h : Ext a b) (k : Ext b c) : Ext a c :=
  ⟨k.os.trans h.os, k.tape.trans h.tape, k.output.trans h.output, Nat.le_trans h.size k.size⟩

theorem getElem?_lt {α : Type} {l : List α} {k : Nat} {x : α} (h : l[k]? = some x) : k < l.length := by
  rcases Nat.lt_or_ge k l.length with h' | h'
  · exact h'
  · simp [List.getElem?_eq_none h'] at h

/-- One object turns; the world turns in one block, which is the object's or new; fixed memory may grow there. -/
theorem Inv.step {C : Ctx} {G G' : Ghost} {M : Mem} {w w' : World} (hi : Inv C G M w) (k gb : Nat) {o o' : AObj} (hk : M[k]? = some o)
    (hob : oblk G k o = some gb ∨ w.heap.size ≤ gb) (hle : G.le G') (hn : G'.n = G.n) (hblk : ∀ b, G'.blk b = G.blk b)
    (hhdr : ∀ f, f ≠ k → G'.hdr f = G.hdr f ∧ G'.top f = G.top f)
    (hst : ∀ b i v, G'.st b i = some v → G.st b i = some v ∨ (b = gb ∧ w'.cell? ⟨b, i, none⟩ = some v)) (hkeep : ∀ b, G'.keep b = G.keep b)
    (hw : ∀ b, b < w.heap.size → b ≠ gb → w'.heap[b]? = w.heap[b]?) (hgst : ∀ i v, G.st gb i = some v → w'.cell? ⟨gb, i, none⟩ = some v) (hgkeep : ∀ o, G.keep gb ≠ some o)
    (ho : ObjInv G' w' k o') (hnew : ∀ b, oblk G' k o' = some b → b = gb) : Inv C G' (M.set k o') w' := by
  have hklt := getElem?_lt hk
  have lt_of_cell : ∀ b i v, w.cell? ⟨b, i, none⟩ = some v → b < w.heap.size := fun b i v h => World.block_lt_of_cell? w ⟨b, i, none⟩ h
  -- an object other than k does not lie in gb
  have other : ∀ j x b, M[j]? = some x → j ≠ k → oblk G j x = some b → b < w.heap.size → b ≠ gb := by
    intro j x b hj hjk hb hlt e
    subst e
    rcases hob with h | h
    · exact hjk (hi.apart j k x o b hj hk hb h)
    · omega
  have cells_lt : ∀ b vs t fr, w.heap[b]? = some (Obj.cells vs t fr) → b < w.heap.size := fun b vs t fr h => (Array.getElem?_eq_some_iff.1 h).1
  have oblk_eq : ∀ j x, j ≠ k → oblk G' j x = oblk G j x := by
    intro j x hj
    cases x with
    | gone => rfl
    | cells cs => simp [oblk, hblk]
    | fam m sz => simp [oblk, (hhdr j hj).1]
  refine ⟨by rw [hn]; simpa using hi.n, ?_, ?_, ?_, ?_, fun g => Rep.mono hle _ _ (hi.gl g)⟩
  · intro b i v hv
    rcases hst b i v hv with h | ⟨_, h⟩
    · by_cases e : b = gb
      · subst e; exact hgst i v h
      · have := hi.st b i v h
        have hlt := lt_of_cell b i v this
        simpa [World.cell?, hw b hlt e] using this
    · exact h
  · intro b x hx
    rw [hkeep] at hx
    have h0 := hi.keep b x hx
    have hlt : b < w.heap.size := (Array.getElem?_eq_some_iff.1 h0).1
    have hne : b ≠ gb := by intro e; subst e; exact hgkeep x hx
    rw [hw b hlt hne]; exact h0
  · intro j x hj
    by_cases e : j = k
    · subst e
      simp [hklt] at hj
      subst hj
      exact ho
    · have hj' : M[j]? = some x := by
        have : k ≠ j := fun h => e h.symm
        simpa [List.getElem?_set, this] using hj
      have hx := hi.obj j x hj'
      cases x with
      | gone => trivial
      | cells cs =>
        obtain ⟨vs, t, h1, h2, h3, h4, h5⟩ := hx
        have hlt := cells_lt _ _ _ _ h1
        have hne := other j _ (G.blk j) hj' e rfl hlt
        refine ⟨vs, t, by rw [hblk, hw _ hlt hne]; exact h1, RepL.mono hle _ _ h2, h3, fun i => ?_, by rw [hblk, hkeep]; exact h5⟩
        rw [hblk]
        cases hs : G'.st (G.blk j) i with
        | none => rfl
        | some v =>
          rcases hst _ _ _ hs with h | ⟨h, _⟩
          · rw [h4 i] at h; simp at h
          · exact absurd h hne
      | fam m sz =>
        obtain ⟨h0, h1, h1', h2⟩ := hx
        simp only [ObjInv, (hhdr j e).1, (hhdr j e).2]
        refine ⟨h0, h1, h1', fun hlt => ?_⟩
        obtain ⟨g, vs, t, q1, q2, q3, q4, q5⟩ := h2 hlt
        have hblt := cells_lt _ _ _ _ q2
        have hne := other j _ g hj' e (by simp [oblk, hlt, q1]) hblt
        refine ⟨g, vs, t, q1, by rw [hw _ hblt hne]; exact q2, q3, fun i hi' => ?_, by rw [hkeep]; exact q5⟩
        cases hs : G'.st g i with
        | none => rfl
        | some v =>
          rcases hst _ _ _ hs with h | ⟨h, _⟩
          · rw [q4 i hi'] at h; simp at h
          · exact absurd h hne
  · intro i j x y b hx hy ox oy
    have back : ∀ i x, i ≠ k → (M.set k o')[i]? = some x → M[i]? = some x := by
      intro i x e hx
      have : k ≠ i := fun h => e h.symm
      simpa [List.getElem?_set, this] using hx
    have blt : ∀ i x, i ≠ k → M[i]? = some x → oblk G i x = some b → b < w.heap.size := by
      intro i x e hx hb
      have ho := hi.obj i x hx
      cases x with
      | gone => simp [oblk] at hb
      | cells cs => obtain ⟨vs, t, h1, _⟩ := ho; simp [oblk] at hb; subst hb; exact cells_lt _ _ _ _ h1
      | fam m sz =>
        simp only [oblk] at hb
        split at hb
        · rename_i hlt
          obtain ⟨g, vs, t, q1, q2, _⟩ := ho.2.2.2 hlt
          rw [q1] at hb
          simp at hb
          subst hb
          exact cells_lt _ _ _ _ q2
        · simp at hb
    by_cases e1 : i = k <;> by_cases e2 : j = k
    · rw [e1, e2]
    · exfalso
      subst e1
      simp [hklt] at hx
      subst hx
      have hb := hnew b ox
      have hy' := back j y e2 hy
      rw [oblk_eq j y e2] at oy
      exact other j y b hy' e2 oy (blt j y e2 hy' oy) hb
    · exfalso
      subst e2
      simp [hklt] at hy
      subst hy
      have hb := hnew b oy
      have hx' := back i x e1 hx
      rw [oblk_eq i x e1] at ox
      exact other i x b hx' e1 ox (blt i x e1 hx' ox) hb
    · have hx' := back i x e1 hx
      have hy' := back j y e2 hy
      rw [oblk_eq i x e1] at ox
      rw [oblk_eq j y e2] at oy
      exact hi.apart i j x y b hx' hy' ox oy

/-- One more number, for an object to come; what is kept of it may be chosen. -/
def Ghost.more (G : Ghost) (nb : Nat) (h : Nat → Option Addr × Nat) (t : Nat) : Ghost :=
  { G with n := G.n + 1, blk := fun b => if b = G.n then nb else G.blk b, hdr := fun f => if f = G.n then h else G.hdr f, top := fun f => if f = G.n then t else G.top f }

theorem Ghost.le_more (G : Ghost) (nb : Nat) (h : Nat → Option Addr × Nat) (t : Nat) : G.le (G.more nb h t) :=
  ⟨Nat.le_succ _, fun b hb => if_neg (by omega), fun _ _ _ h => h, fun _ _ h => h, fun f hf => by simp only [Ghost.more]; rw [if_neg (by omega)]; exact Nat.le_refl _, fun f hf k _ => by simp only [Ghost.more]; rw [if_neg (by omega)]⟩

theorem Inv.more {C : Ctx} {G : Ghost} {M : Mem} {w : World} (hi : Inv C G M w) (nb : Nat) (h : Nat → Option Addr × Nat) (t : Nat) : Inv C (G.more nb h t) (M ++ [.gone]) w := by
  have hle := G.le_more nb h t
  have back : ∀ j x, (M ++ [AObj.gone])[j]? = some x → (j < G.n ∧ M[j]? = some x) ∨ x = AObj.gone := by
    intro j x h
    by_cases hj : j < M.length
    · left; exact ⟨by rw [hi.n]; exact hj, by rwa [List.getElem?_append_left hj] at h⟩
    · right
      rw [List.getElem?_append_right (by omega)] at h
      have := List.mem_of_getElem? h
      simpa using this
  have ob : ∀ k x, k < G.n → oblk (G.more nb h t) k x = oblk G k x := fun k x hk => by
    have : k ≠ G.n := by omega
    cases x <;> simp [oblk, Ghost.more, this]
  refine ⟨by simpa [Ghost.more] using hi.n, hi.st, hi.keep, ?_, ?_, fun g => Rep.mono hle _ _ (hi.gl g)⟩
  · intro j x hj
    rcases back j x hj with ⟨hlt, h⟩ | rfl
    · have ho := hi.obj j x h
      have hne : j ≠ G.n := by omega
      cases x with
      | gone => trivial
      | cells cs =>
        obtain ⟨vs, t, h1, h2, h3⟩ := ho
        simp only [ObjInv, Ghost.more, if_neg hne]
        exact ⟨vs, t, h1, RepL.mono hle _ _ h2, h3⟩
      | fam m sz => simpa [ObjInv, Ghost.more, if_neg hne] using ho
    · trivial
  · intro i j x y b hx hy ox oy
    rcases back i x hx with ⟨hl, h⟩ | rfl
    · rcases back j y hy with ⟨hl', h'⟩ | rfl
      · rw [ob i x hl] at ox
        rw [ob j y hl'] at oy
        exact hi.apart i j x y b h h' ox oy
      · simp [oblk] at oy
    · simp [oblk] at ox

/-- A draw turns nothing. -/
theorem Inv.world {C : Ctx} {G : Ghost} {M : Mem} {w w' : World} (hi : Inv C G M w) (h : w'.heap = w.heap) : Inv C G M w' := by
  refine ⟨hi.n, fun b i v hv => ?_, fun b o ho => ?_, fun k o hk => ?_, hi.apart, hi.gl⟩
  · have := hi.st b i v hv; simpa [World.cell?, h] using this
  · rw [h]; exact hi.keep b o ho
  · have := hi.obj k o hk
    cases o with
    | gone => trivial
    | _ => simpa [ObjInv, h] using this

/-! ### the environment -/
def Env.put (T : Env) (d : Option Nat) (v : AV) : Env := match d with
  | none => T
  | some d => fun j => if j = d then v else T j

@[simp] theorem Env.put_none (T : Env) (v : AV) : T.put none v = T := rfl
theorem Env.put_some (T : Env) (d : Nat) (v : AV) (j : Nat) : T.put (some d) v j = if j = d then v else T j := rfl

def Env.of (args : List AV) : Env := fun i => args.getD i .poison

structure RepEnv (G : Ghost) (N : Nat) (T : Env) (a : Act) : Prop where
  defers : a.defers = []
  size : a.tmps.size = N
  at_ : ∀ i, i < N → Rep G (T i) (a.tmps.getD i undef)

theorem RepEnv.mono {G G' : Ghost} (h : G.le G') {N : Nat} {T : Env} {a : Act} (k : RepEnv G N T a) : RepEnv G' N T a :=
  ⟨k.defers, k.size, fun i hi => Rep.mono h _ _ (k.at_ i hi)⟩

theorem RepEnv.put {G : Ghost} {N : Nat} {T : Env} {a : Act} (k : RepEnv G N T a) {d : Option Nat} {v : AV} {x : Value} (hv : Rep G v x) : RepEnv G N (T.put d v) (a.put d x) := by
  cases d with
  | none => exact k
  | some d =>
    refine ⟨k.defers, by simpa [Act.put] using k.size, fun i hi => ?_⟩
    have h0 := k.at_ i hi
    have hs := k.size
    rw [Env.put_some]
    by_cases e : i = d
    · subst e
      rw [if_pos rfl]
      simpa [Act.put, Array.getD, hi, hs] using hv
    · rw [if_neg e]
      have hne : d ≠ i := fun h => e h.symm
      simpa [Act.put, Array.getD, hi, hs, Array.getElem_setIfInBounds, hne] using h0

theorem RepEnv.of {G : Ghost} {args : List AV} {vs : List Value} (n : Nat) (k : RepL G args vs) :
    RepEnv G (vs.length + n) (Env.of args) { tmps := vs.toArray ++ Array.replicate n undef, defers := [] } := by
  refine ⟨rfl, by simp, fun i hi => ?_⟩
  by_cases h : i < args.length
  · obtain ⟨y, hy, hr⟩ := k.get (i := i) (c := args[i]) (by simp [h])
    have hlen := k.length
    have hlt : i < vs.length := by omega
    have e1 : Env.of args i = args[i] := by simp [Env.of, h]
    rw [e1]
    have : vs[i] = y := by rw [List.getElem?_eq_getElem hlt] at hy; exact Option.some.inj hy
    simpa [Array.getD, hlt, Array.getElem_append, this, hi] using hr
  · have e1 : Env.of args i = .poison := by
      have : args.length ≤ i := by omega
      simp [Env.of, List.getD, List.getElem?_eq_none this]
    rw [e1]
    simp [Rep]

/-- operands -/
def Env.ev (C : Ctx) (T : Env) : Operand → AV
  | .tmp t => T t
  | .const v => .val v
  | .global g => C.gl g
  | .func f => .func (.func f) [] []

/-- all slots that are read lie in the frame -/
def Operand.inside (N : Nat) : Operand → Bool
  | .tmp t => decide (t < N)
  | _ => true

theorem ev_rep {C : Ctx} {G : Ghost} {M : Mem} {w : World} {N : Nat} {T : Env} {a : Act} (hi : Inv C G M w) (he : RepEnv G N T a) (x : Operand) (hx : Operand.inside N x = true) : Rep G (T.ev C x) (a.eval x) := by
  cases x with
  | tmp t => simp only [Env.ev, Act.eval]; exact he.at_ t (by simpa [Operand.inside] using hx)
  | const v => simp [Env.ev, Act.eval, Rep]
  | global g => exact hi.gl g
  | func f => simp [Env.ev, Act.eval, Rep, RepL]

/-! ### what is said of code -/
def Lift (C : Ctx) (N : Nat) (Q : Exit → Env → Mem → Prop) (G : Ghost) (w : World) : Exit → Act → World → Prop :=
  fun e a' w' => ∃ T' M' G', Q e T' M' ∧ G.le G' ∧ Inv C G' M' w' ∧ RepEnv G' N T' a' ∧ Ext w w'

theorem Lift.mono {C : Ctx} {N : Nat} {Q : Exit → Env → Mem → Prop} {G G' : Ghost} {w w' : World} (h : G.le G') (k : Ext w w') {e : Exit} {a : Act} {v : World}
    (l : Lift C N Q G' w' e a v) : Lift C N Q G w e a v := by
  obtain ⟨T', M', G'', h1, h2, h3, h4, h5⟩ := l
  exact ⟨T', M', G'', h1, h.trans h2, h3, h4, k.trans h5⟩

theorem Lift.weaken {C : Ctx} {N : Nat} {Q Q' : Exit → Env → Mem → Prop} {G : Ghost} {w : World} (h : ∀ e T M, Q e T M → Q' e T M) {e : Exit} {a : Act} {v : World}
    (l : Lift C N Q G w e a v) : Lift C N Q' G w e a v := by
  obtain ⟨T', M', G'', h1, h2⟩ := l
  exact ⟨T', M', G'', h _ _ _ h1, h2⟩

def AWp (C : Ctx) (N : Nat) (c : Code) (Q : Exit → Env → Mem → Prop) (T : Env) (M : Mem) : Prop :=
  ∀ G w a, Inv C G M w → RepEnv G N T a → c.wp C.P (Lift C N Q G w) a w

def ACalls (C : Ctx) (f : FuncId) (args : List AV) (M : Mem) (Q : AV → Mem → Prop) : Prop :=
  ∀ G w (vs : List Value), Inv C G M w → RepL G args vs →
    Calls C.P f vs.toArray w fun e w' => ∃ r M' G' v, e = .returned v ∧ Q r M' ∧ G.le G' ∧ Inv C G' M' w' ∧ Rep G' r v ∧ Ext w w'

theorem ACalls.mono {C : Ctx} {f : FuncId} {args : List AV} {M : Mem} {Q Q' : AV → Mem → Prop} (h : ACalls C f args M Q) (hq : ∀ r M', Q r M' → Q' r M') : ACalls C f args M Q' := by
  intro G w vs hi hr
  refine Calls.mono (h G w vs hi hr) ?_
  rintro e w' ⟨r, M', G', v, rfl, h1, h2⟩
  exact ⟨r, M', G', v, rfl, hq _ _ h1, h2⟩

section control
variable {C : Ctx} {N : Nat} {Q Q' : Exit → Env → Mem → Prop} {T : Env} {M : Mem}

theorem AWp.mono {c : Code} (h : AWp C N c Q T M) (hq : ∀ e T M, Q e T M → Q' e T M) : AWp C N c Q' T M :=
  fun G w a hi he => wp_mono (h G w a hi he) fun _ _ _ l => Lift.weaken hq l

def thenK (K : Env → Mem → Prop) (Q : Exit → Env → Mem → Prop) : Exit → Env → Mem → Prop
  | .normal, T, M => K T M
  | e, T, M => Q e T M

theorem awp_skip (h : Q .normal T M) : AWp C N .skip Q T M :=
  fun G w a hi he => wp_skip ⟨T, M, G, h, .refl _, hi, he, .refl _⟩
theorem awp_label {l : Nat} (h : Q .normal T M) : AWp C N (.label l) Q T M :=
  fun G w a hi he => wp_label ⟨T, M, G, h, .refl _, hi, he, .refl _⟩
theorem awp_exit {id : Nat} (h : Q (.exit id) T M) : AWp C N (.exit id) Q T M :=
  fun G w a hi he => wp_exit ⟨T, M, G, h, .refl _, hi, he, .refl _⟩
theorem awp_ret (h : Q .ret T M) : AWp C N .ret Q T M :=
  fun G w a hi he => wp_ret ⟨T, M, G, h, .refl _, hi, he, .refl _⟩

theorem awp_seq {x y : Code} (h : AWp C N x (thenK (AWp C N y Q) Q) T M) : AWp C N (.seq x y) Q T M := by
  intro G w a hi he
  refine wp_seq (wp_mono (h G w a hi he) ?_)
  rintro e a' w' ⟨T', M', G', h1, h2, h3, h4, h5⟩
  cases e with
  | normal => exact wp_mono (h1 G' w' a' h3 h4) fun _ _ _ l => Lift.mono h2 h5 l
  | _ => exact ⟨T', M', G', h1, h2, h3, h4, h5⟩

def inBlockK (id : Nat) (Q : Exit → Env → Mem → Prop) : Exit → Env → Mem → Prop
  | .exit id', T, M => if id' = id then Q .normal T M else Q (.exit id') T M
  | e, T, M => Q e T M

theorem awp_block {id : Nat} {c : Code} (h : AWp C N c (inBlockK id Q) T M) : AWp C N (.block id c) Q T M := by
  intro G w a hi he
  refine wp_block (wp_mono (h G w a hi he) ?_)
  rintro e a' w' ⟨T', M', G', h1, h2⟩
  cases e with
  | exit id' =>
    simp only [inBlockK, Exit.inBlock] at h1 ⊢
    by_cases e : id' = id
    · rw [if_pos e] at h1 ⊢; exact ⟨T', M', G', h1, h2⟩
    · rw [if_neg e] at h1 ⊢; exact ⟨T', M', G', h1, h2⟩
  | _ => exact ⟨T', M', G', h1, h2⟩

theorem awp_cond {c : Operand} {x y : Code} {t : Bool} (hin : Operand.inside N c = true) (hc : T.ev C c = .val (.bool t)) (ht : t = true → AWp C N x Q T M) (hf : t = false → AWp C N y Q T M) : AWp C N (.cond c x y) Q T M := by
  intro G w a hi he
  have h := ev_rep hi he c hin
  rw [hc] at h
  simp only [Rep] at h
  exact wp_cond_split h (fun e => ht e G w a hi he) (fun e => hf e G w a hi he)

theorem awp_loop {c : Code} (I : Env → Mem → Prop) (μ : Env → Mem → Nat) (h0 : I T M)
    (round : ∀ T M, I T M → AWp C N c (thenK (fun T' M' => I T' M' ∧ μ T' M' < μ T M) Q) T M) : AWp C N (.loop c) Q T M := by
  intro G w a hi he b k cs
  have key : ∀ n T M G w a, μ T M = n → I T M → Inv C G M w → RepEnv G N T a →
      ∃ e a' w', Lift C N Q G w e a' w' ∧ Arrives C.P (lone (b.at a (.code c :: .inLoop c :: k)) cs w) b k cs e a' w' := by
    intro n
    induction n using Nat.strongRecOn with
    | _ n ih =>
      intro T M G w a hn hI hi he
      obtain ⟨e, a₁, w₁, hq, harr⟩ := round T M hI G w a hi he b (.inLoop c :: k) cs
      obtain ⟨T', M', G', h1, h2, h3, h4, h5⟩ := hq
      cases e with
      | normal =>
        obtain ⟨hI', hlt⟩ := h1
        obtain ⟨e₂, a₂, w₂, hq₂, harr₂⟩ := ih (μ T' M') (hn ▸ hlt) T' M' G' w₁ a₁ rfl hI' h3 h4
        exact ⟨e₂, a₂, w₂, Lift.mono h2 h5 hq₂, .of_steps (Steps.trans harr (.one step_inLoop)) harr₂⟩
      | exit id => exact ⟨_, a₁, w₁, ⟨T', M', G', h1, h2, h3, h4, h5⟩, .pass (x := .inLoop c) rfl (fun _ _ => .inl (by simp)) harr⟩
      | goto l => exact ⟨_, a₁, w₁, ⟨T', M', G', h1, h2, h3, h4, h5⟩, .pass (x := .inLoop c) rfl (fun _ _ => .inl (by simp)) harr⟩
      | ret => exact ⟨_, a₁, w₁, ⟨T', M', G', h1, h2, h3, h4, h5⟩, .pass (x := .inLoop c) rfl (fun _ _ => .inl (by simp)) harr⟩
      | panic ch => exact ⟨_, a₁, w₁, ⟨T', M', G', h1, h2, h3, h4, h5⟩, .pass (x := .inLoop c) rfl (fun _ _ => .inl (by simp)) harr⟩
      | outgrown => exact ⟨_, a₁, w₁, ⟨T', M', G', h1, h2, h3, h4, h5⟩, .pass (x := .inLoop c) rfl (fun _ _ => .inl (by simp)) harr⟩
  obtain ⟨e, a', w', hq, harr⟩ := key _ T M G w a rfl h0 hi he
  exact ⟨e, a', w', hq, .of_steps (.one step_loop) harr⟩
end control
end Go.Abs
