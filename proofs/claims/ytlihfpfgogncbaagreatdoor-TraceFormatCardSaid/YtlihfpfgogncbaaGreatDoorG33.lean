/- The texts AbsZ0, AbsZ1, AbsZ2: what each proves stands at its head. -/
import Derived.Test.YtlihfpfgogncbaaGreatDoorG21
section
/- Slots, by the recursors themselves: the kernel runs them quickly. -/
set_option linter.unusedVariables false
namespace Go.Abs

noncomputable def BT.getR (t : BT) : Nat → AV := BT.rec (motive := fun _ => Nat → AV) (fun v n => Nat.rec (motive := fun _ => AV) v (fun _ _ => .poison) n)
  (fun _ _ gl gr n => Nat.rec (motive := fun _ => AV) (gl (Nat.div n 2)) (fun _ _ => gr (Nat.div n 2)) (Nat.mod n 2)) t
theorem BT.getR_eq : ∀ (t : BT) (n : Nat), t.getR n = t.get n
  | .leaf v, n => by cases n <;> rfl
  | .node l r, n => by
    show Nat.rec (motive := fun _ => AV) (l.getR (n / 2)) (fun _ _ => r.getR (n / 2)) (n % 2) = _
    rw [BT.getR_eq l, BT.getR_eq r]
    simp only [BT.get]
    rcases Nat.mod_two_eq_zero_or_one n with h | h <;> rw [h] <;> rfl
noncomputable def BT.putR (t : BT) : Nat → AV → Option BT := BT.rec (motive := fun _ => Nat → AV → Option BT) (fun _ n v => Nat.rec (motive := fun _ => Option BT) (some (.leaf v)) (fun _ _ => none) n)
  (fun l r pl pr n v => Nat.rec (motive := fun _ => Option BT) (Option.rec (motive := fun _ => Option BT) none (fun l' => some (.node l' r)) (pl (Nat.div n 2) v))
    (fun _ _ => Option.rec (motive := fun _ => Option BT) none (fun r' => some (.node l r')) (pr (Nat.div n 2) v)) (Nat.mod n 2)) t
theorem BT.putR_eq : ∀ (t : BT) (n : Nat) (v : AV), t.putR n v = t.put n v
  | .leaf u, n, v => by cases n <;> rfl
  | .node l r, n, v => by
    show Nat.rec (motive := fun _ => Option BT) (Option.rec (motive := fun _ => Option BT) none (fun l' => some (.node l' r)) (l.putR (n / 2) v))
      (fun _ _ => Option.rec (motive := fun _ => Option BT) none (fun r' => some (.node l r')) (r.putR (n / 2) v)) (n % 2) = _
    rw [BT.putR_eq l, BT.putR_eq r]
    simp only [BT.put]
    rcases Nat.mod_two_eq_zero_or_one n with h | h <;> rw [h]
    · cases l.put (n / 2) v <;> rfl
    · cases r.put (n / 2) v <;> rfl
noncomputable def BT.setR (t : BT) (d : Option Nat) (v : AV) : Option BT := match d with
  | none => some t
  | some d => t.putR d v
theorem BT.setR_eq (t : BT) (d : Option Nat) (v : AV) : t.setR d v = t.set d v := by
  cases d with
  | none => rfl
  | some d => exact BT.putR_eq t d v
end Go.Abs
end
section
/- The memory as a tree; what an operation does, told without the list. -/
set_option linter.unusedVariables false
namespace Go.Abs

inductive HT where
  | nil
  | node (o : AObj) (l r : HT)
noncomputable def HT.get (t : HT) : Nat → Option AObj := HT.rec (motive := fun _ => Nat → Option AObj) (fun _ => none)
  (fun o _ _ gl gr n => Nat.rec (motive := fun _ => Option AObj) (some o) (fun m _ => Nat.rec (motive := fun _ => Option AObj) (gl (Nat.div m 2)) (fun _ _ => gr (Nat.div m 2)) (Nat.mod m 2)) n) t
noncomputable def HT.put (t : HT) : Nat → AObj → HT := HT.rec (motive := fun _ => Nat → AObj → HT) (fun _ o => .node o .nil .nil)
  (fun x l r pl pr n o => Nat.rec (motive := fun _ => HT) (.node o l r) (fun m _ => Nat.rec (motive := fun _ => HT) (.node x (pl (Nat.div m 2) o) r) (fun _ _ => .node x l (pr (Nat.div m 2) o)) (Nat.mod m 2)) n) t
theorem HT.get_nil (n : Nat) : HT.nil.get n = none := rfl
theorem HT.get_zero (x : AObj) (l r : HT) : (HT.node x l r).get 0 = some x := rfl
theorem HT.put_zero (x : AObj) (l r : HT) (o : AObj) : (HT.node x l r).put 0 o = .node o l r := rfl
theorem HT.put_nil (n : Nat) (o : AObj) : HT.nil.put n o = .node o .nil .nil := rfl
theorem HT.get_succ (x : AObj) (l r : HT) (n : Nat) : (HT.node x l r).get (n + 1) = if n % 2 = 0 then l.get (n / 2) else r.get (n / 2) := by
  show Nat.rec (motive := fun _ => Option AObj) (l.get (n / 2)) (fun _ _ => r.get (n / 2)) (n % 2) = _
  rcases Nat.mod_two_eq_zero_or_one n with h | h <;> rw [h] <;> rfl
theorem HT.put_succ (x : AObj) (l r : HT) (n : Nat) (o : AObj) : (HT.node x l r).put (n + 1) o = if n % 2 = 0 then .node x (l.put (n / 2) o) r else .node x l (r.put (n / 2) o) := by
  show Nat.rec (motive := fun _ => HT) (HT.node x (l.put (n / 2) o) r) (fun _ _ => .node x l (r.put (n / 2) o)) (n % 2) = _
  rcases Nat.mod_two_eq_zero_or_one n with h | h <;> rw [h] <;> rfl
theorem HT.get_put : ∀ (t : HT) (n : Nat) (o : AObj), (t.get n ≠ none ∨ ∀ i, i < n → t.get i ≠ none) → ∀ m, (t.put n o).get m = if m = n then some o else t.get m
  | .nil, n, o, h, m => by
    have hn : n = 0 := by
      rcases h with h | h
      · exact absurd rfl h
      · cases n with
        | zero => rfl
        | succ n => exact absurd rfl (h 0 (by omega))
    subst hn
    cases m with
    | zero => rfl
    | succ m =>
      rw [HT.put_nil, HT.get_succ]
      simp [HT.get_nil]
  | .node x l r, n, o, h, m => by
    cases n with
    | zero =>
      cases m with
      | zero => rfl
      | succ m => rw [HT.put_zero, HT.get_succ, HT.get_succ]; simp
    | succ n =>
      rw [HT.put_succ]
      by_cases e : n % 2 = 0
      · rw [if_pos e]
        have hl : l.get (n / 2) ≠ none ∨ ∀ i, i < n / 2 → l.get i ≠ none := by
          rcases h with h | h
          · left; rw [HT.get_succ, if_pos e] at h; exact h
          · right
            intro i hi
            have := h (2 * i + 1) (by omega)
            rw [HT.get_succ, if_pos (by omega), show 2 * i / 2 = i from by omega] at this
            exact this
        have ih := HT.get_put l (n / 2) o hl
        cases m with
        | zero => rw [HT.get_zero, HT.get_zero]; simp
        | succ m =>
          rw [HT.get_succ, HT.get_succ]
          by_cases e2 : m % 2 = 0
          · rw [if_pos e2, if_pos e2, ih (m / 2)]
            by_cases e3 : m / 2 = n / 2
            · rw [if_pos e3, if_pos (by omega)]
            · rw [if_neg e3, if_neg (by omega)]
          · rw [if_neg e2, if_neg e2, if_neg (by omega)]
      · rw [if_neg e]
        have hr : r.get (n / 2) ≠ none ∨ ∀ i, i < n / 2 → r.get i ≠ none := by
          rcases h with h | h
          · left; rw [HT.get_succ, if_neg e] at h; exact h
          · right
            intro i hi
            have := h (2 * i + 1 + 1) (by omega)
            rw [HT.get_succ, if_neg (by omega), show (2 * i + 1) / 2 = i from by omega] at this
            exact this
        have ih := HT.get_put r (n / 2) o hr
        cases m with
        | zero => rw [HT.get_zero, HT.get_zero]; simp
        | succ m =>
          rw [HT.get_succ, HT.get_succ]
          by_cases e2 : m % 2 = 0
          · rw [if_pos e2, if_pos e2, if_neg (by omega)]
          · rw [if_neg e2, if_neg e2, ih (m / 2)]
            by_cases e3 : m / 2 = n / 2
            · rw [if_pos e3, if_pos (by omega)]
            · rw [if_neg e3, if_neg (by omega)]

/-- the tree holds the memory -/
structure Hp (h : HT) (n : Nat) (M : Mem) : Prop where
  len : M.length = n
  at_ : ∀ i, h.get i = M[i]?
theorem Hp.fn {h : HT} {n : Nat} {M : Mem} (k : Hp h n M) : h.get = fun i => M[i]? := funext k.at_
theorem Hp.put {h : HT} {n b : Nat} {M : Mem} {o : AObj} (k : Hp h n M) (hb : b < n) : Hp (h.put b o) n (M.set b o) := by
  refine ⟨by simp [k.len], fun i => ?_⟩
  rw [HT.get_put h b o (.inl (by rw [k.at_, List.getElem?_eq_getElem (by rw [k.len]; exact hb)]; simp)), k.at_, List.getElem?_set]
  by_cases e : i = b
  · subst e; simp [k.len, hb]
  · rw [if_neg e, if_neg (fun h => e h.symm)]
theorem Hp.push {h : HT} {n : Nat} {M : Mem} {o : AObj} (k : Hp h n M) : Hp (h.put n o) (n + 1) (M ++ [o]) := by
  refine ⟨by simp [k.len], fun i => ?_⟩
  rw [HT.get_put h n o (.inr (fun i hi => by rw [k.at_, List.getElem?_eq_getElem (by rw [k.len]; exact hi)]; simp)), k.at_]
  by_cases e : i = n
  · subst e; rw [if_pos rfl, List.getElem?_append_right (by rw [k.len]; exact Nat.le_refl _)]; simp [k.len]
  · rw [if_neg e]
    by_cases h1 : i < n
    · rw [List.getElem?_append_left (by rw [k.len]; exact h1)]
    · rw [List.getElem?_eq_none (by rw [k.len]; omega), List.getElem?_eq_none (by simp [k.len]; omega)]

/-- what is done to the memory -/
inductive Ef where
  | non
  | put (b : Nat) (o : AObj)
  | push (o : AObj)
def Ef.mem : Ef → Mem → Mem
  | .non, M => M
  | .put b o, M => M.set b o
  | .push o, M => M ++ [o]
noncomputable def Ef.ht : Ef → HT → Nat → HT
  | .non, h, _ => h
  | .put b o, h, _ => h.put b o
  | .push o, h, n => h.put n o
def Ef.n : Ef → Nat → Nat
  | .push _, n => n + 1
  | _, n => n
def Ef.ok (n : Nat) : Ef → Prop
  | .put b _ => b < n
  | _ => True
theorem Hp.ef {h : HT} {n : Nat} {M : Mem} (k : Hp h n M) {e : Ef} (he : e.ok n) : Hp (e.ht h n) (e.n n) (e.mem M) := by
  cases e with
  | non => exact k
  | put b o => exact k.put he
  | push o => exact k.push

abbrev GT := Nat → Option AObj
def memOfG (g : GT) : AV → Option (List AV)
  | .cptr cs => some cs
  | .ptr b off => match g b with
    | some (.cells _ cs) => if off ≤ cs.length then some (cs.drop off) else none
    | _ => none
  | .vptr f t off => match g f with
    | some (.vec _ sz cs _ hist) => match hist.lookup t with
      | some n => some ((cs.take (n * sz)).drop off)
      | none => none
    | _ => none
  | _ => none
def srcCellsG (g : GT) (sz : Nat) : AV → Option (List AV × Nat)
  | .val (.slice none 0 0) => some ([], 0)
  | .val (.string s) => if sz = 1 then some (s.data.toList.map fun b => .val (.int .u8 b.toNat), s.size) else none
  | .list s rows _ => if s = sz then some (rows.flatten, rows.length) else none
  | .vref f h s lo len => match g f with
    | some (.vec _ s' cs _ hist) => match hist.lookup h with
      | some n => if s = sz ∧ s' = sz ∧ lo + len ≤ n then some ((cs.drop (lo * sz)).take (len * sz), len) else none
      | none => none
    | _ => none
  | _ => none
def entriesOfG (g : GT) : AV → Option (List (AV × AV × Nat))
  | .val (.map none) => some []
  | .mapr b => match g b with | some (.map es _) => some es | _ => none
  | _ => none
def lookupG (P : Program) (t : TypeId) (g : GT) (m k : AV) (ok : Bool) : Option AV :=
  match mapKV? P t, entriesOfG g m with
  | some (kt, et), some es => if (scalarT P kt || wideT P kt) && checkAV P 30 kt k then
      match keyFind P kt k es with
      | some (some (_, v)) => some (if ok then .tuple [v, .val (.bool true)] else v)
      | some none => (zeroAV P et).map fun z => if ok then .tuple [z, .val (.bool false)] else z
      | none => none
    else none
  | _, _ => none
def mapPutG (P : Program) (t : TypeId) (g : GT) (m k v : AV) : Option Ef :=
  match mapKV? P t, m with
  | some (kt, et), .mapr b => match g b with
    | some (.map es clock) => if (scalarT P kt || wideT P kt) && checkAV P 30 kt k then
        match keyFind P kt k es with
        | some (some (i, _)) => match es[i]? with
          | some (ok, _, born) => match plainAV ok, plainAV k with
            | some a, some c => if Instr.sameBits 10000 a c then some (.put b (.map (es.set i (k, v, born)) clock)) else none
            | _, _ => none
          | none => none
        | some none => some (.put b (.map (es ++ [(k, v, clock)]) (clock + 1)))
        | none => none
      else none
    | _ => none
  | _, _ => none
def lenMoreG (P : Program) (t : TypeId) (g : GT) (x : AV) : Option Nat := match x with
  | .mapr b => match P.underlying t, g b with
    | some (.map _ _), some (.map es _) => some es.length
    | _, _ => none
  | _ => none
def copyG (P : Program) (t u : TypeId) (g : GT) (d s : AV) : Option (AV × Ef) := match elemOf? P t with
  | some e => match szOf P e with
    | some sz => match srcCellsG g sz s with
      | some (news, m) => match d with
        | .vref f h sz' lo len => match g f with
          | some (.vec ty sz2 cs g' hist) => match hist.lookup h with
            | some n => if sz' = sz ∧ sz2 = sz ∧ m ≤ len ∧ lo + len ≤ n then
                if m = 0 then some (.val (goInt 0), .non) else
                some (.val (goInt m), .put f (.vec ty sz (overwrite cs (lo * sz) news) g' (keepHist sz h (lo * sz) hist)))
              else none
            | none => none
          | _ => none
        | _ => none
      | none => none
    | none => none
  | none => none
def vbuildG (P : Program) (t : TypeId) (n : Nat) (parts : List (Nat × AV)) (len : Nat) : Option (AV × Ef) := match elemOf? P t with
  | some e => match szOf P e, zeroCells? P e with
    | some sz, some z => if n * sz ≤ 2 ^ 24 ∧ z.length = sz ∧ z.all (·.oneCell') ∧ 0 < sz then
        (rowsGo sz parts (List.replicate n (z.map .val))).map fun rows => (.vref len 0 sz 0 n, .push (.vec e sz rows.flatten 0 [(0, n)]))
      else none
    | _, _ => none
  | none => none
def vmakeG (P : Program) (t : TypeId) (l c : AV) (len : Nat) : Option (AV × Ef) :=
  match elemOf? P t, l, c with
  | some e, .val (.int _ l), .val (.int _ c) => match szOf P e, zeroCells? P e, bytesOf P e with
    | some sz, some z, some b => if z.length = sz ∧ z.all (·.oneCell') ∧ 0 < sz ∧ 0 ≤ l ∧ l ≤ c ∧ c.toNat * sz ≤ 16777216 ∧ (b : Int) * c ≤ 281474976710656 then
        some (.vref len 0 sz 0 l.toNat, .push (.vec e sz (List.replicate l.toNat (z.map .val)).flatten 0 [(0, l.toNat)]))
      else none
    | _, _, _ => none
  | _, _, _ => none
def rangeG (P : Program) (t : TypeId) (x : AV) (len : Nat) : Option (AV × Ef) := match P.underlying t, x with
  | some .string, .val (.string s) => some (.ptr len 0, .push (.siter s 0))
  | _, _ => none
def nextG (x : AV) (g : GT) : Option (AV × Ef) := match x with
  | .ptr b 0 => match g b with
    | some (.siter s pos) => if pos < s.size then
        some (.tuple [.val (.bool true), .val (goInt pos), .val (.int .i32 (Utf8.decode s pos).1)], .put b (.siter s (pos + (Utf8.decode s pos).2)))
      else some (.tuple [.val (.bool false)], .non)
    | _ => none
  | _ => none
def sliceMoreG (P : Program) (t : TypeId) (gt : GT) (x : AV) (lo hi mx : Option AV) : Option AV := match x with
  | .vref f g sz lo0 len => match hi, gt f with
    | some h, some (.vec _ _ _ _ hist) => match hist.lookup g with
      | some n => if lo0 ≤ n then match mx with
          | none => vsliceAV P t f g sz lo0 (n - lo0) lo (some h) none
          | some m => match elemOf? P t, mxIdx (n - lo0) (some m) with
            | some e, some (some q) => match szOf P e, sliceIdx q (some h) with
              | some _, some hh => match loIdx hh lo with
                | some _ => some .poison
                | none => none
              | _, _ => none
            | _, _ => none
        else none
      | none => none
    | _, _ => none
  | _ => none
def clearG (P : Program) (t : TypeId) (gt : GT) (x : AV) : Option (AV × Ef) := match x with
  | .vref f g sz lo len => match elemOf? P t with
    | some e => match zeroCells? P e, gt f with
      | some z, some (.vec ty sz2 cs g' hist) => match hist.lookup g with
        | some n => if z.length = sz ∧ sz2 = sz ∧ 0 < sz ∧ z.all (·.oneCell') ∧ lo + len ≤ n then
            if len = 0 then some (.tuple [], .non) else
            some (.tuple [], .put f (.vec ty sz (overwrite cs (lo * sz) (List.replicate len (z.map .val)).flatten) g' (keepHist sz g (lo * sz) hist)))
          else none
        | none => none
      | _, _ => none
    | none => none
  | _ => none
def convG (P : Program) (src dst : TypeId) (g : GT) (x : AV) : Option AV := match P.underlying src, P.underlying dst, x with
  | some (.pointer t), some .unsafePointer, .ptr b off => match g b, szOf P t with
    | some (.cells bt cs), some n => if n ≠ 0 ∧ off < cs.length then some (.ptr b off) else none
    | _, _ => none
  | some .unsafePointer, some (.pointer u), .ptr b off => match g b, szOf P u with
    | some (.cells bt cs), some n => if n ≠ 0 ∧ liesAt P P.depth bt (cs.length / P.cellsOf bt) off u 1 = true then some (.ptr b off) else none
    | _, _ => none
  | _, _, _ => none
def sliceDataG (gt : GT) (x : AV) : Option AV := match x with
  | .val (.slice none 0 0) => some (.val (.pointer none))
  | .vref f g sz lo len => match gt f with
    | some (.vec _ _ _ _ hist) => match hist.lookup g with
      | some n => if lo < n then some (.vptr f g (lo * sz)) else none
      | none => none
    | _ => none
  | _ => none

end Go.Abs
end
section
/- What an operation does, told without the list: the same. -/
set_option linter.unusedVariables false
namespace Go.Abs

section
variable {P : Program} {M : Mem}
theorem memOf_G (a : AV) : memOf M a = memOfG (fun i => M[i]?) a := rfl
theorem srcCells_G (sz : Nat) (a : AV) : srcCells M sz a = srcCellsG (fun i => M[i]?) sz a := rfl
theorem entriesOf_G (a : AV) : entriesOf M a = entriesOfG (fun i => M[i]?) a := rfl
theorem lookup_G (t : TypeId) (m k : AV) (ok : Bool) : lookupAV P t M m k ok = lookupG P t (fun i => M[i]?) m k ok := rfl
theorem lenMore_G (t : TypeId) (x : AV) : lenMore P t M x = lenMoreG P t (fun i => M[i]?) x := rfl
theorem sliceMore_G (t : TypeId) (x : AV) (lo hi mx : Option AV) : sliceMore P t M x lo hi mx = sliceMoreG P t (fun i => M[i]?) x lo hi mx := rfl
theorem sliceData_G (x : AV) : sliceDataAV M x = sliceDataG (fun i => M[i]?) x := rfl
theorem convU_G (s d : TypeId) (x : AV) : convU P s d M x = convG P s d (fun i => M[i]?) x := rfl
theorem mapPut_G {t : TypeId} {m k v : AV} {e : Ef} (h : mapPutG P t (fun i => M[i]?) m k v = some e) : mapPutAV P t M m k v = some (e.mem M) ∧ e.ok M.length := by
  unfold mapPutG at h
  split at h
  case h_2 => simp at h
  rename_i kt et b hkv
  split at h
  case h_2 => simp at h
  rename_i es clock hM
  have hb := getElem?_lt hM
  split at h
  case isFalse => simp at h
  rename_i hc
  split at h
  · rename_i i e0 hf
    split at h
    case h_2 => simp at h
    rename_i ok e1 born hes
    split at h
    case h_2 => simp at h
    rename_i a c ha hc2
    split at h
    case isFalse => simp at h
    rename_i hsb
    simp only [Option.some.injEq] at h
    subst h
    exact ⟨by simp only [mapPutAV, hkv, hM, hc, if_true, hf, hes, ha, hc2, hsb, Ef.mem], hb⟩
  · rename_i hf
    simp only [Option.some.injEq] at h
    subst h
    exact ⟨by simp only [mapPutAV, hkv, hM, hc, if_true, hf, Ef.mem], hb⟩
  · simp at h
theorem copy_G {t u : TypeId} {d s v : AV} {e : Ef} (h : copyG P t u (fun i => M[i]?) d s = some (v, e)) : copyAV P t u M d s = some (v, e.mem M) ∧ e.ok M.length := by
  unfold copyG at h
  split at h
  case h_2 => simp at h
  rename_i e0 he
  split at h
  case h_2 => simp at h
  rename_i sz hsz
  split at h
  case h_2 => simp at h
  rename_i news m hsrc
  rw [← srcCells_G] at hsrc
  split at h
  case h_2 => simp at h
  rename_i f g sz' lo len
  split at h
  case h_2 => simp at h
  rename_i ety sz2 cs g' hist hM
  split at h
  case h_2 => simp at h
  rename_i n hn
  split at h
  case isFalse => simp at h
  rename_i hc
  split at h
  · rename_i h0
    simp only [Option.some.injEq, Prod.mk.injEq] at h
    obtain ⟨rfl, rfl⟩ := h
    exact ⟨by simp only [copyAV, he, hsz, hsrc, hM, hn, if_pos hc, if_pos h0, Ef.mem], trivial⟩
  · rename_i h0
    simp only [Option.some.injEq, Prod.mk.injEq] at h
    obtain ⟨rfl, rfl⟩ := h
    exact ⟨by simp only [copyAV, he, hsz, hsrc, hM, hn, if_pos hc, if_neg h0, Ef.mem], getElem?_lt hM⟩
theorem vbuild_G {t : TypeId} {n : Nat} {parts : List (Nat × AV)} {v : AV} {e : Ef} (h : vbuildG P t n parts M.length = some (v, e)) : vbuildAV P t n parts M = some (v, e.mem M) ∧ e.ok M.length := by
  unfold vbuildG at h
  split at h
  case h_2 => simp at h
  rename_i e he
  split at h
  case h_2 => simp at h
  rename_i sz z hs hz
  split at h
  case isFalse => simp at h
  rename_i hc
  simp only [Option.map_eq_some_iff, Prod.mk.injEq] at h
  obtain ⟨rows, hr, rfl, rfl⟩ := h
  exact ⟨by simp only [vbuildAV, he, hs, hz, if_pos hc, hr, Option.map_some, Ef.mem], trivial⟩
theorem vmake_G {t : TypeId} {l c v : AV} {e : Ef} (h : vmakeG P t l c M.length = some (v, e)) : vmakeAV P t l c M = some (v, e.mem M) ∧ e.ok M.length := by
  unfold vmakeG at h
  split at h
  case h_2 => simp at h
  rename_i e kl l kc c he
  split at h
  case h_2 => simp at h
  rename_i sz z b hs hz hb
  split at h
  case isFalse => simp at h
  rename_i hc
  simp only [Option.some.injEq, Prod.mk.injEq] at h
  obtain ⟨rfl, rfl⟩ := h
  exact ⟨by simp only [vmakeAV, he, hs, hz, hb, if_pos hc, Ef.mem], trivial⟩
theorem range_G {t : TypeId} {x v : AV} {e : Ef} (h : rangeG P t x M.length = some (v, e)) : rangeAV P t x M = some (v, e.mem M) ∧ e.ok M.length := by
  unfold rangeG at h
  split at h
  case h_2 => simp at h
  rename_i str hu
  simp only [Option.some.injEq, Prod.mk.injEq] at h
  obtain ⟨rfl, rfl⟩ := h
  exact ⟨by simp only [rangeAV, hu, Ef.mem], trivial⟩
theorem next_G {x v : AV} {e : Ef} (h : nextG x (fun i => M[i]?) = some (v, e)) : nextAV x M = some (v, e.mem M) ∧ e.ok M.length := by
  unfold nextG at h
  split at h
  case h_2 => simp at h
  rename_i b hx
  split at h
  case h_2 => simp at h
  rename_i str pos hM
  split at h
  · rename_i hlt
    simp only [Option.some.injEq, Prod.mk.injEq] at h
    obtain ⟨rfl, rfl⟩ := h
    exact ⟨by simp only [nextAV, hM, if_pos hlt, Ef.mem], getElem?_lt hM⟩
  · rename_i hlt
    simp only [Option.some.injEq, Prod.mk.injEq] at h
    obtain ⟨rfl, rfl⟩ := h
    exact ⟨by simp only [nextAV, hM, if_neg hlt, Ef.mem], trivial⟩
theorem clear_G {t : TypeId} {x v : AV} {e : Ef} (h : clearG P t (fun i => M[i]?) x = some (v, e)) : clearAV P t M x = some (v, e.mem M) ∧ e.ok M.length := by
  unfold clearG at h
  split at h
  case h_2 => simp at h
  rename_i f g sz lo len
  split at h
  case h_2 => simp at h
  rename_i e0 hel
  split at h
  case h_2 => simp at h
  rename_i z ety sz2 cs g2 hist hz hM
  split at h
  case h_2 => simp at h
  rename_i n hn
  split at h
  case isFalse => simp at h
  rename_i hc
  split at h
  · rename_i h0
    simp only [Option.some.injEq, Prod.mk.injEq] at h
    obtain ⟨rfl, rfl⟩ := h
    exact ⟨by simp only [clearAV, hel, hz, hM, hn, if_pos hc, if_pos h0, Ef.mem], trivial⟩
  · rename_i h0
    simp only [Option.some.injEq, Prod.mk.injEq] at h
    obtain ⟨rfl, rfl⟩ := h
    exact ⟨by simp only [clearAV, hel, hz, hM, hn, if_pos hc, if_neg h0, Ef.mem], getElem?_lt hM⟩

/-- append, both ways -/
def vappInG (e : TypeId) (sz : Nat) (s x : AV) (gt : GT) : Option (AV × Ef) :=
  match srcCellsG gt sz x, s with
  | some (news, m), .vref f h s' lo len => match gt f with
    | some (.vec e2 s2 cs g hist) => match hist.lookup h with
      | some n => if e2 = e ∧ s' = sz ∧ s2 = sz ∧ 0 < m ∧ lo + len + m ≤ n then
          some (.vref f h sz lo (len + m), .put f (.vec e sz (overwrite cs ((lo + len) * sz) news) g (keepHist sz h ((lo + len) * sz) hist)))
        else none
      | none => none
    | _ => none
  | _, _ => none
def vappG (e : TypeId) (sz : Nat) (s x : AV) (gt : GT) (ln : Nat) : Option (AV × Ef) :=
  match srcCellsG gt sz x with
  | none => none
  | some (news, m) => match s with
    | .val (.slice none 0 0) => if m = 0 then some (s, .non) else some (.vref ln 0 sz 0 m, .push (.vec e sz news 0 [(0, m)]))
    | .list s' [] .full => if s' = sz then (if m = 0 then some (s, .non) else some (.vref ln 0 sz 0 m, .push (.vec e sz news 0 [(0, m)]))) else none
    | .vref f h s' lo len => match gt f with
      | some (.vec e2 s2 cs g hist) => match hist.lookup h with
        | some n => if e2 = e ∧ s' = sz ∧ s2 = sz ∧ lo + len ≤ n then
            if m = 0 then some (s, .non) else
            some (.vref f (g + 1) sz 0 (len + m), .put f (.vec e sz ((cs.drop (lo * sz)).take (len * sz) ++ news) (g + 1) ((g + 1, len + m) :: if lo = 0 then hist.filter (fun p => decide (p.2 ≤ len)) else [])))
          else none
        | none => none
      | _ => none
    | _ => none
theorem vappIn_G (e : TypeId) (sz : Nat) (s x : AV) : vappIn e sz s x M = (vappInG e sz s x (fun i => M[i]?)).map fun r => (r.1, r.2.mem M) := by
  unfold vappIn vappInG
  rw [srcCells_G]
  cases srcCellsG (fun i => M[i]?) sz x with
  | none => rfl
  | some r =>
    cases s <;> try rfl
    rename_i f h s' lo len
    simp only
    cases M[f]? with
    | none => rfl
    | some ob =>
      cases ob <;> try rfl
      simp only
      rename_i hist
      cases hist.lookup h with
      | none => rfl
      | some n =>
        simp only
        split <;> rfl
theorem vappIn_ok {e : TypeId} {sz : Nat} {s x v : AV} {ef : Ef} (h : vappInG e sz s x (fun i => M[i]?) = some (v, ef)) : ef.ok M.length := by
  unfold vappInG at h
  split at h
  case h_2 => simp at h
  split at h
  case h_2 => simp at h
  rename_i hM
  split at h
  case h_2 => simp at h
  split at h
  case isFalse => simp at h
  simp only [Option.some.injEq, Prod.mk.injEq] at h
  obtain ⟨rfl, rfl⟩ := h
  exact getElem?_lt hM
theorem vapp_G {e : TypeId} {sz : Nat} {s0 x v : AV} {ef : Ef} (h : vappG e sz s0 x (fun i => M[i]?) M.length = some (v, ef)) : vappAV e sz s0 x M = some (v, ef.mem M) ∧ ef.ok M.length := by
  unfold vappG at h
  split at h
  · simp at h
  rename_i news m hsrc
  rw [← srcCells_G] at hsrc
  split at h
  · split at h
    · rename_i h0
      simp only [Option.some.injEq, Prod.mk.injEq] at h
      obtain ⟨rfl, rfl⟩ := h
      exact ⟨by simp only [vappAV, hsrc, if_pos h0, Ef.mem], trivial⟩
    · rename_i h0
      simp only [Option.some.injEq, Prod.mk.injEq] at h
      obtain ⟨rfl, rfl⟩ := h
      exact ⟨by simp only [vappAV, hsrc, if_neg h0, Ef.mem], trivial⟩
  · split at h
    case isFalse => simp at h
    rename_i hss
    split at h
    · rename_i h0
      simp only [Option.some.injEq, Prod.mk.injEq] at h
      obtain ⟨rfl, rfl⟩ := h
      exact ⟨by simp only [vappAV, hsrc, if_pos hss, if_pos h0, Ef.mem], trivial⟩
    · rename_i h0
      simp only [Option.some.injEq, Prod.mk.injEq] at h
      obtain ⟨rfl, rfl⟩ := h
      exact ⟨by simp only [vappAV, hsrc, if_pos hss, if_neg h0, Ef.mem], trivial⟩
  · rename_i f h' s' lo len
    split at h
    case h_2 => simp at h
    rename_i e2 s2 cs g hist hM
    split at h
    case h_2 => simp at h
    rename_i n hn
    split at h
    case isFalse => simp at h
    rename_i hc
    split at h
    · rename_i h0
      simp only [Option.some.injEq, Prod.mk.injEq] at h
      obtain ⟨rfl, rfl⟩ := h
      exact ⟨by simp only [vappAV, hsrc, hM, hn, if_pos hc, if_pos h0, Ef.mem], trivial⟩
    · rename_i h0
      simp only [Option.some.injEq, Prod.mk.injEq] at h
      obtain ⟨rfl, rfl⟩ := h
      exact ⟨by simp only [vappAV, hsrc, hM, hn, if_pos hc, if_neg h0, Ef.mem], getElem?_lt hM⟩
  · simp at h
def appendG (P : Program) (t u : TypeId) (s x : AV) (gt : GT) (ln : Nat) : Option (AV × Ef) := match elemOf? P t with
  | some e => match elemFacts P e with
    | some (sz, bytes) => match srcOkB P u, vecLike true s with
      | true, true => match srcCellsG gt sz s, srcCellsG gt sz x with
        | some (_, k), some (_, m) => if (k + m) * bytes ≤ 140737488355328 then (match vappInG e sz s x gt with | some r => some r | none => vappG e sz s x gt ln) else none
        | _, _ => none
      | _, _ => none
    | none => none
  | none => none
theorem append_G {t u : TypeId} {s x v : AV} {ef : Ef} (h : appendG P t u s x (fun i => M[i]?) M.length = some (v, ef)) : xAppend P t u s x M = some (v, ef.mem M, appWrites s) ∧ ef.ok M.length := by
  unfold appendG at h
  split at h
  case h_2 => simp at h
  rename_i e he
  split at h
  case h_2 => simp at h
  rename_i sz bytes hf
  split at h
  case h_2 => simp at h
  rename_i hu hv
  split at h
  case h_2 => simp at h
  rename_i c1 k c2 m h1 h2
  rw [← srcCells_G] at h1 h2
  split at h
  case isFalse => simp at h
  rename_i hb
  have key : ∀ r, (match vappIn e sz s x M with | some r => some r | none => vappAV e sz s x M) = some r → appMem false true e sz bytes s x M = some r := by
    intro r hr
    unfold appMem
    rw [if_pos hv, h1, h2]
    simp only
    rw [if_pos hb]
    exact hr
  split at h
  · rename_i r hr
    simp only [Option.some.injEq] at h
    subst h
    have := key (v, ef.mem M) (by rw [vappIn_G, hr]; rfl)
    exact ⟨by simp only [xAppend, he, hf, hu, hv, this], vappIn_ok hr⟩
  · rename_i hr
    obtain ⟨k1, k2⟩ := vapp_G h
    have := key (v, ef.mem M) (by rw [vappIn_G, hr]; exact k1)
    exact ⟨by simp only [xAppend, he, hf, hu, hv, this], k2⟩
end
end Go.Abs
end
