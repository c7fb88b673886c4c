/- The texts AbsZ0, AbsZ1, AbsZ2, AbsZ3, AbsZ4: what each proves stands at its head. -/
import Derived.Test.YtiipcnbedgamdaaGreatDoorVG15
section
/- Slots, by the recursors themselves: the kernel runs them quickly. -/
set_option linter.unusedVariables false
namespace Go.Abs

noncomputable def BT.getR (t : BT) : Nat → AV := BT.rec (motive := fun _ => Nat → AV) (fun v n => Nat.rec (motive := fun _ => AV) v (fun _ _ => .poison) n)
  (fun _ _ gl gr n => Nat.rec (motive := fun _ => AV) (gl (Nat.div n 2)) (fun _ _ => gr (Nat.div n 2)) (Nat.mod n 2)) t
theorem BT.getR_eq : ∀ (t : BT) (n : Nat), t.getR n = t.get n
  | .leaf v, n => by cases n <;> rfl
  | .node l r, n => by
    show Nat.rec (motive := fun _ => AV) (l.getR (n / 2)) (fun _ _ => r.getR (n / 2)) (n % 2) = _
    rw [BT.getR_eq l, BT.getR_eq r]
    simp only [BT.get]
    rcases Nat.mod_two_eq_zero_or_one n with h | h <;> rw [h] <;> rfl
noncomputable def BT.putR (t : BT) : Nat → AV → Option BT := BT.rec (motive := fun _ => Nat → AV → Option BT) (fun _ n v => Nat.rec (motive := fun _ => Option BT) (some (.leaf v)) (fun _ _ => none) n)
  (fun l r pl pr n v => Nat.rec (motive := fun _ => Option BT) (Option.rec (motive := fun _ => Option BT) none (fun l' => some (.node l' r)) (pl (Nat.div n 2) v))
    (fun _ _ => Option.rec (motive := fun _ => Option BT) none (fun r' => some (.node l r')) (pr (Nat.div n 2) v)) (Nat.mod n 2)) t
theorem BT.putR_eq : ∀ (t : BT) (n : Nat) (v : AV), t.putR n v = t.put n v
  | .leaf u, n, v => by cases n <;> rfl
  | .node l r, n, v => by
    show Nat.rec (motive := fun _ => Option BT) (Option.rec (motive := fun _ => Option BT) none (fun l' => some (.node l' r)) (l.putR (n / 2) v))
      (fun _ _ => Option.rec (motive := fun _ => Option BT) none (fun r' => some (.node l r')) (r.putR (n / 2) v)) (n % 2) = _
    rw [BT.putR_eq l, BT.putR_eq r]
    simp only [BT.put]
    rcases Nat.mod_two_eq_zero_or_one n with h | h <;> rw [h]
    · cases l.put (n / 2) v <;> rfl
    · cases r.put (n / 2) v <;> rfl
noncomputable def BT.setR (t : BT) (d : Option Nat) (v : AV) : Option BT := match d with
  | none => some t
  | some d => t.putR d v
theorem BT.setR_eq (t : BT) (d : Option Nat) (v : AV) : t.setR d v = t.set d v := by
  cases d with
  | none => rfl
  | some d => exact BT.putR_eq t d v
end Go.Abs
end
section
/- The memory as a tree; what an operation does, told without the list. -/
set_option linter.unusedVariables false
namespace Go.Abs

inductive HT where
  | nil
  | node (o : AObj) (l r : HT)
noncomputable def HT.get (t : HT) : Nat → Option AObj := HT.rec (motive := fun _ => Nat → Option AObj) (fun _ => none)
  (fun o _ _ gl gr n => Nat.rec (motive := fun _ => Option AObj) (some o) (fun m _ => Nat.rec (motive := fun _ => Option AObj) (gl (Nat.div m 2)) (fun _ _ => gr (Nat.div m 2)) (Nat.mod m 2)) n) t
noncomputable def HT.put (t : HT) : Nat → AObj → HT := HT.rec (motive := fun _ => Nat → AObj → HT) (fun _ o => .node o .nil .nil)
  (fun x l r pl pr n o => Nat.rec (motive := fun _ => HT) (.node o l r) (fun m _ => Nat.rec (motive := fun _ => HT) (.node x (pl (Nat.div m 2) o) r) (fun _ _ => .node x l (pr (Nat.div m 2) o)) (Nat.mod m 2)) n) t
theorem HT.get_nil (n : Nat) : HT.nil.get n = none := rfl
theorem HT.get_zero (x : AObj) (l r : HT) : (HT.node x l r).get 0 = some x := rfl
theorem HT.put_zero (x : AObj) (l r : HT) (o : AObj) : (HT.node x l r).put 0 o = .node o l r := rfl
theorem HT.put_nil (n : Nat) (o : AObj) : HT.nil.put n o = .node o .nil .nil := rfl
theorem HT.get_succ (x : AObj) (l r : HT) (n : Nat) : (HT.node x l r).get (n + 1) = if n % 2 = 0 then l.get (n / 2) else r.get (n / 2) := by
  show Nat.rec (motive := fun _ => Option AObj) (l.get (n / 2)) (fun _ _ => r.get (n / 2)) (n % 2) = _
  rcases Nat.mod_two_eq_zero_or_one n with h | h <;> rw [h] <;> rfl
theorem HT.put_succ (x : AObj) (l r : HT) (n : Nat) (o : AObj) : (HT.node x l r).put (n + 1) o = if n % 2 = 0 then .node x (l.put (n / 2) o) r else .node x l (r.put (n / 2) o) := by
  show Nat.rec (motive := fun _ => HT) (HT.node x (l.put (n / 2) o) r) (fun _ _ => .node x l (r.put (n / 2) o)) (n % 2) = _
  rcases Nat.mod_two_eq_zero_or_one n with h | h <;> rw [h] <;> rfl
theorem HT.get_put : ∀ (t : HT) (n : Nat) (o : AObj), (t.get n ≠ none ∨ ∀ i, i < n → t.get i ≠ none) → ∀ m, (t.put n o).get m = if m = n then some o else t.get m
  | .nil, n, o, h, m => by
    have hn : n = 0 := by
      rcases h with h | h
      · exact absurd rfl h
      · cases n with
        | zero => rfl
        | succ n => exact absurd rfl (h 0 (by omega))
    subst hn
    cases m with
    | zero => rfl
    | succ m =>
      rw [HT.put_nil, HT.get_succ]
      simp [HT.get_nil]
  | .node x l r, n, o, h, m => by
    cases n with
    | zero =>
      cases m with
      | zero => rfl
      | succ m => rw [HT.put_zero, HT.get_succ, HT.get_succ]; simp
    | succ n =>
      rw [HT.put_succ]
      by_cases e : n % 2 = 0
      · rw [if_pos e]
        have hl : l.get (n / 2) ≠ none ∨ ∀ i, i < n / 2 → l.get i ≠ none := by
          rcases h with h | h
          · left; rw [HT.get_succ, if_pos e] at h; exact h
          · right
            intro i hi
            have := h (2 * i + 1) (by omega)
            rw [HT.get_succ, if_pos (by omega), show 2 * i / 2 = i from by omega] at this
            exact this
        have ih := HT.get_put l (n / 2) o hl
        cases m with
        | zero => rw [HT.get_zero, HT.get_zero]; simp
        | succ m =>
          rw [HT.get_succ, HT.get_succ]
          by_cases e2 : m % 2 = 0
          · rw [if_pos e2, if_pos e2, ih (m / 2)]
            by_cases e3 : m / 2 = n / 2
            · rw [if_pos e3, if_pos (by omega)]
            · rw [if_neg e3, if_neg (by omega)]
          · rw [if_neg e2, if_neg e2, if_neg (by omega)]
      · rw [if_neg e]
        have hr : r.get (n / 2) ≠ none ∨ ∀ i, i < n / 2 → r.get i ≠ none := by
          rcases h with h | h
          · left; rw [HT.get_succ, if_neg e] at h; exact h
          · right
            intro i hi
            have := h (2 * i + 1 + 1) (by omega)
            rw [HT.get_succ, if_neg (by omega), show (2 * i + 1) / 2 = i from by omega] at this
            exact this
        have ih := HT.get_put r (n / 2) o hr
        cases m with
        | zero => rw [HT.get_zero, HT.get_zero]; simp
        | succ m =>
          rw [HT.get_succ, HT.get_succ]
          by_cases e2 : m % 2 = 0
          · rw [if_pos e2, if_pos e2, if_neg (by omega)]
          · rw [if_neg e2, if_neg e2, ih (m / 2)]
            by_cases e3 : m / 2 = n / 2
            · rw [if_pos e3, if_pos (by omega)]
            · rw [if_neg e3, if_neg (by omega)]

/-- the tree holds the memory -/
structure Hp (h : HT) (n : Nat) (M : Mem) : Prop where
  len : M.length = n
  at_ : ∀ i, h.get i = M[i]?
theorem Hp.fn {h : HT} {n : Nat} {M : Mem} (k : Hp h n M) : h.get = fun i => M[i]? := funext k.at_
theorem Hp.put {h : HT} {n b : Nat} {M : Mem} {o : AObj} (k : Hp h n M) (hb : b < n) : Hp (h.put b o) n (M.set b o) := by
  refine ⟨by simp [k.len], fun i => ?_⟩
  rw [HT.get_put h b o (.inl (by rw [k.at_, List.getElem?_eq_getElem (by rw [k.len]; exact hb)]; simp)), k.at_, List.getElem?_set]
  by_cases e : i = b
  · subst e; simp [k.len, hb]
  · rw [if_neg e, if_neg (fun h => e h.symm)]
theorem Hp.push {h : HT} {n : Nat} {M : Mem} {o : AObj} (k : Hp h n M) : Hp (h.put n o) (n + 1) (M ++ [o]) := by
  refine ⟨by simp [k.len], fun i => ?_⟩
  rw [HT.get_put h n o (.inr (fun i hi => by rw [k.at_, List.getElem?_eq_getElem (by rw [k.len]; exact hi)]; simp)), k.at_]
  by_cases e : i = n
  · subst e; rw [if_pos rfl, List.getElem?_append_right (by rw [k.len]; exact Nat.le_refl _)]; simp [k.len]
  · rw [if_neg e]
    by_cases h1 : i < n
    · rw [List.getElem?_append_left (by rw [k.len]; exact h1)]
    · rw [List.getElem?_eq_none (by rw [k.len]; omega), List.getElem?_eq_none (by simp [k.len]; omega)]

/-- what is done to the memory -/
inductive Ef where
  | non
  | put (b : Nat) (o : AObj)
  | push (o : AObj)
def Ef.mem : Ef → Mem → Mem
  | .non, M => M
  | .put b o, M => M.set b o
  | .push o, M => M ++ [o]
noncomputable def Ef.ht : Ef → HT → Nat → HT
  | .non, h, _ => h
  | .put b o, h, _ => h.put b o
  | .push o, h, n => h.put n o
def Ef.n : Ef → Nat → Nat
  | .push _, n => n + 1
  | _, n => n
def Ef.ok (n : Nat) : Ef → Prop
  | .put b _ => b < n
  | _ => True
theorem Hp.ef {h : HT} {n : Nat} {M : Mem} (k : Hp h n M) {e : Ef} (he : e.ok n) : Hp (e.ht h n) (e.n n) (e.mem M) := by
  cases e with
  | non => exact k
  | put b o => exact k.put he
  | push o => exact k.push

abbrev GT := Nat → Option AObj
def memOfG (g : GT) : AV → Option (List AV)
  | .cptr cs => some cs
  | .ptr b off => match g b with
    | some (.cells _ cs) => if off ≤ cs.length then some (cs.drop off) else none
    | _ => none
  | .vptr f t off => match g f with
    | some (.vec _ sz cs _ hist) => match hist.lookup t with
      | some n => some ((cs.take (n * sz)).drop off)
      | none => none
    | _ => none
  | _ => none
def srcCellsG (g : GT) (sz : Nat) : AV → Option (List AV × Nat)
  | .val (.slice none 0 0) => some ([], 0)
  | .val (.string s) => if sz = 1 then some (s.data.toList.map fun b => .val (.int .u8 b.toNat), s.size) else none
  | .list s rows _ => if s = sz then some (rows.flatten, rows.length) else none
  | .vref f h s lo len => match g f with
    | some (.vec _ s' cs _ hist) => match hist.lookup h with
      | some n => if s = sz ∧ s' = sz ∧ lo + len ≤ n then some ((cs.drop (lo * sz)).take (len * sz), len) else none
      | none => none
    | _ => none
  | _ => none
def entriesOfG (g : GT) : AV → Option (List (AV × AV × Nat))
  | .val (.map none) => some []
  | .mapr b => match g b with | some (.map es _) => some es | _ => none
  | _ => none
def lookupG (P : Program) (t : TypeId) (g : GT) (m k : AV) (ok : Bool) : Option AV :=
  match mapKV? P t, entriesOfG g m with
  | some (kt, et), some es => if (scalarT P kt || wideT P kt) && checkAV P 30 kt k then
      match keyFind P kt k es with
      | some (some (_, v)) => some (if ok then .tuple [v, .val (.bool true)] else v)
      | some none => (zeroAV P et).map fun z => if ok then .tuple [z, .val (.bool false)] else z
      | none => none
    else none
  | _, _ => none
def mapPutG (P : Program) (t : TypeId) (g : GT) (m k v : AV) : Option Ef :=
  match mapKV? P t, m with
  | some (kt, et), .mapr b => match g b with
    | some (.map es clock) => if (scalarT P kt || wideT P kt) && checkAV P 30 kt k then
        match keyFind P kt k es with
        | some (some (i, _)) => match es[i]? with
          | some (ok, _, born) => match plainAV ok, plainAV k with
            | some a, some c => if Instr.sameBits 10000 a c then some (.put b (.map (es.set i (k, v, born)) clock)) else none
            | _, _ => none
          | none => none
        | some none => some (.put b (.map (es ++ [(k, v, clock)]) (clock + 1)))
        | none => none
      else none
    | _ => none
  | _, _ => none
def lenMoreG (P : Program) (t : TypeId) (g : GT) (x : AV) : Option Nat := match x with
  | .mapr b => match P.underlying t, g b with
    | some (.map _ _), some (.map es _) => some es.length
    | _, _ => none
  | _ => none
def copyG (P : Program) (t u : TypeId) (g : GT) (d s : AV) : Option (AV × Ef) := match elemOf? P t with
  | some e => match szOf P e with
    | some sz => match srcCellsG g sz s with
      | some (news, m) => match d with
        | .vref f h sz' lo len => match g f with
          | some (.vec ty sz2 cs g' hist) => match hist.lookup h with
            | some n => if sz' = sz ∧ sz2 = sz ∧ m ≤ len ∧ lo + len ≤ n then
                if m = 0 then some (.val (goInt 0), .non) else
                some (.val (goInt m), .put f (.vec ty sz (overwrite cs (lo * sz) news) g' (keepHist sz h (lo * sz) hist)))
              else none
            | none => none
          | _ => none
        | _ => none
      | none => none
    | none => none
  | none => none
def vbuildG (P : Program) (t : TypeId) (n : Nat) (parts : List (Nat × AV)) (len : Nat) : Option (AV × Ef) := match elemOf? P t with
  | some e => match szOf P e, zeroCells? P e with
    | some sz, some z => if n * sz ≤ 2 ^ 24 ∧ z.length = sz ∧ z.all (·.oneCell') ∧ 0 < sz then
        (rowsGo sz parts (List.replicate n (z.map .val))).map fun rows => (.vref len 0 sz 0 n, .push (.vec e sz rows.flatten 0 [(0, n)]))
      else none
    | _, _ => none
  | none => none
def vmakeG (P : Program) (t : TypeId) (l c : AV) (len : Nat) : Option (AV × Ef) :=
  match elemOf? P t, l, c with
  | some e, .val (.int _ l), .val (.int _ c) => match szOf P e, zeroCells? P e, bytesOf P e with
    | some sz, some z, some b => if z.length = sz ∧ z.all (·.oneCell') ∧ 0 < sz ∧ 0 ≤ l ∧ l ≤ c ∧ c.toNat * sz ≤ 16777216 ∧ (b : Int) * c ≤ 281474976710656 then
        some (.vref len 0 sz 0 l.toNat, .push (.vec e sz (List.replicate l.toNat (z.map .val)).flatten 0 [(0, l.toNat)]))
      else none
    | _, _, _ => none
  | _, _, _ => none
def rangeG (P : Program) (t : TypeId) (x : AV) (len : Nat) : Option (AV × Ef) := match P.underlying t, x with
  | some .string, .val (.string s) => some (.ptr len 0, .push (.siter s 0))
  | _, _ => none
def nextG (x : AV) (g : GT) : Option (AV × Ef) := match x with
  | .ptr b 0 => match g b with
    | some (.siter s pos) => if pos < s.size then
        some (.tuple [.val (.bool true), .val (goInt pos), .val (.int .i32 (Utf8.decode s pos).1)], .put b (.siter s (pos + (Utf8.decode s pos).2)))
      else some (.tuple [.val (.bool false)], .non)
    | _ => none
  | _ => none
def sliceMoreG (P : Program) (t : TypeId) (gt : GT) (x : AV) (lo hi mx : Option AV) : Option AV := match x with
  | .vref f g sz lo0 len => match hi, gt f with
    | some h, some (.vec _ _ _ _ hist) => match hist.lookup g with
      | some n => if lo0 ≤ n then match mx with
          | none => vsliceAV P t f g sz lo0 (n - lo0) lo (some h) none
          | some m => match elemOf? P t, mxIdx (n - lo0) (some m) with
            | some e, some (some q) => match szOf P e, sliceIdx q (some h) with
              | some _, some hh => match loIdx hh lo with
                | some _ => some .poison
                | none => none
              | _, _ => none
            | _, _ => none
        else none
      | none => none
    | _, _ => none
  | _ => none
def clearG (P : Program) (t : TypeId) (gt : GT) (x : AV) : Option (AV × Ef) := match x with
  | .vref f g sz lo len => match elemOf? P t with
    | some e => match zeroCells? P e, gt f with
      | some z, some (.vec ty sz2 cs g' hist) => match hist.lookup g with
        | some n => if z.length = sz ∧ sz2 = sz ∧ 0 < sz ∧ z.all (·.oneCell') ∧ lo + len ≤ n then
            if len = 0 then some (.tuple [], .non) else
            some (.tuple [], .put f (.vec ty sz (overwrite cs (lo * sz) (List.replicate len (z.map .val)).flatten) g' (keepHist sz g (lo * sz) hist)))
          else none
        | none => none
      | _, _ => none
    | none => none
  | _ => none
def convG (P : Program) (src dst : TypeId) (g : GT) (x : AV) : Option AV := match P.underlying src, P.underlying dst, x with
  | some (.pointer t), some .unsafePointer, .ptr b off => match g b, szOf P t with
    | some (.cells bt cs), some n => if n ≠ 0 ∧ off < cs.length then some (.ptr b off) else none
    | _, _ => none
  | some .unsafePointer, some (.pointer u), .ptr b off => match g b, szOf P u with
    | some (.cells bt cs), some n => if n ≠ 0 ∧ liesAt P P.depth bt (cs.length / P.cellsOf bt) off u 1 = true then some (.ptr b off) else none
    | _, _ => none
  | _, _, _ => none
def sliceDataG (gt : GT) (x : AV) : Option AV := match x with
  | .val (.slice none 0 0) => some (.val (.pointer none))
  | .vref f g sz lo len => match gt f with
    | some (.vec _ _ _ _ hist) => match hist.lookup g with
      | some n => if lo < n then some (.vptr f g (lo * sz)) else none
      | none => none
    | _ => none
  | _ => none

end Go.Abs
end
section
/- What an operation does, told without the list: the same. -/
set_option linter.unusedVariables false
namespace Go.Abs

section
variable {P : Program} {M : Mem}
theorem memOf_G (a : AV) : memOf M a = memOfG (fun i => M[i]?) a := rfl
theorem srcCells_G (sz : Nat) (a : AV) : srcCells M sz a = srcCellsG (fun i => M[i]?) sz a := rfl
theorem entriesOf_G (a : AV) : entriesOf M a = entriesOfG (fun i => M[i]?) a := rfl
theorem lookup_G (t : TypeId) (m k : AV) (ok : Bool) : lookupAV P t M m k ok = lookupG P t (fun i => M[i]?) m k ok := rfl
theorem lenMore_G (t : TypeId) (x : AV) : lenMore P t M x = lenMoreG P t (fun i => M[i]?) x := rfl
theorem sliceMore_G (t : TypeId) (x : AV) (lo hi mx : Option AV) : sliceMore P t M x lo hi mx = sliceMoreG P t (fun i => M[i]?) x lo hi mx := rfl
theorem sliceData_G (x : AV) : sliceDataAV M x = sliceDataG (fun i => M[i]?) x := rfl
theorem convU_G (s d : TypeId) (x : AV) : convU P s d M x = convG P s d (fun i => M[i]?) x := rfl
theorem mapPut_G {t : TypeId} {m k v : AV} {e : Ef} (h : mapPutG P t (fun i => M[i]?) m k v = some e) : mapPutAV P t M m k v = some (e.mem M) ∧ e.ok M.length := by
  unfold mapPutG at h
  split at h
  case h_2 => simp at h
  rename_i kt et b hkv
  split at h
  case h_2 => simp at h
  rename_i es clock hM
  have hb := getElem?_lt hM
  split at h
  case isFalse => simp at h
  rename_i hc
  split at h
  · rename_i i e0 hf
    split at h
    case h_2 => simp at h
    rename_i ok e1 born hes
    split at h
    case h_2 => simp at h
    rename_i a c ha hc2
    split at h
    case isFalse => simp at h
    rename_i hsb
    simp only [Option.some.injEq] at h
    subst h
    exact ⟨by simp only [mapPutAV, hkv, hM, hc, if_true, hf, hes, ha, hc2, hsb, Ef.mem], hb⟩
  · rename_i hf
    simp only [Option.some.injEq] at h
    subst h
    exact ⟨by simp only [mapPutAV, hkv, hM, hc, if_true, hf, Ef.mem], hb⟩
  · simp at h
theorem copy_G {t u : TypeId} {d s v : AV} {e : Ef} (h : copyG P t u (fun i => M[i]?) d s = some (v, e)) : copyAV P t u M d s = some (v, e.mem M) ∧ e.ok M.length := by
  unfold copyG at h
  split at h
  case h_2 => simp at h
  rename_i e0 he
  split at h
  case h_2 => simp at h
  rename_i sz hsz
  split at h
  case h_2 => simp at h
  rename_i news m hsrc
  rw [← srcCells_G] at hsrc
  split at h
  case h_2 => simp at h
  rename_i f g sz' lo len
  split at h
  case h_2 => simp at h
  rename_i ety sz2 cs g' hist hM
  split at h
  case h_2 => simp at h
  rename_i n hn
  split at h
  case isFalse => simp at h
  rename_i hc
  split at h
  · rename_i h0
    simp only [Option.some.injEq, Prod.mk.injEq] at h
    obtain ⟨rfl, rfl⟩ := h
    exact ⟨by simp only [copyAV, he, hsz, hsrc, hM, hn, if_pos hc, if_pos h0, Ef.mem], trivial⟩
  · rename_i h0
    simp only [Option.some.injEq, Prod.mk.injEq] at h
    obtain ⟨rfl, rfl⟩ := h
    exact ⟨by simp only [copyAV, he, hsz, hsrc, hM, hn, if_pos hc, if_neg h0, Ef.mem], getElem?_lt hM⟩
theorem vbuild_G {t : TypeId} {n : Nat} {parts : List (Nat × AV)} {v : AV} {e : Ef} (h : vbuildG P t n parts M.length = some (v, e)) : vbuildAV P t n parts M = some (v, e.mem M) ∧ e.ok M.length := by
  unfold vbuildG at h
  split at h
  case h_2 => simp at h
  rename_i e he
  split at h
  case h_2 => simp at h
  rename_i sz z hs hz
  split at h
  case isFalse => simp at h
  rename_i hc
  simp only [Option.map_eq_some_iff, Prod.mk.injEq] at h
  obtain ⟨rows, hr, rfl, rfl⟩ := h
  exact ⟨by simp only [vbuildAV, he, hs, hz, if_pos hc, hr, Option.map_some, Ef.mem], trivial⟩
theorem vmake_G {t : TypeId} {l c v : AV} {e : Ef} (h : vmakeG P t l c M.length = some (v, e)) : vmakeAV P t l c M = some (v, e.mem M) ∧ e.ok M.length := by
  unfold vmakeG at h
  split at h
  case h_2 => simp at h
  rename_i e kl l kc c he
  split at h
  case h_2 => simp at h
  rename_i sz z b hs hz hb
  split at h
  case isFalse => simp at h
  rename_i hc
  simp only [Option.some.injEq, Prod.mk.injEq] at h
  obtain ⟨rfl, rfl⟩ := h
  exact ⟨by simp only [vmakeAV, he, hs, hz, hb, if_pos hc, Ef.mem], trivial⟩
theorem range_G {t : TypeId} {x v : AV} {e : Ef} (h : rangeG P t x M.length = some (v, e)) : rangeAV P t x M = some (v, e.mem M) ∧ e.ok M.length := by
  unfold rangeG at h
  split at h
  case h_2 => simp at h
  rename_i str hu
  simp only [Option.some.injEq, Prod.mk.injEq] at h
  obtain ⟨rfl, rfl⟩ := h
  exact ⟨by simp only [rangeAV, hu, Ef.mem], trivial⟩
theorem next_G {x v : AV} {e : Ef} (h : nextG x (fun i => M[i]?) = some (v, e)) : nextAV x M = some (v, e.mem M) ∧ e.ok M.length := by
  unfold nextG at h
  split at h
  case h_2 => simp at h
  rename_i b hx
  split at h
  case h_2 => simp at h
  rename_i str pos hM
  split at h
  · rename_i hlt
    simp only [Option.some.injEq, Prod.mk.injEq] at h
    obtain ⟨rfl, rfl⟩ := h
    exact ⟨by simp only [nextAV, hM, if_pos hlt, Ef.mem], getElem?_lt hM⟩
  · rename_i hlt
    simp only [Option.some.injEq, Prod.mk.injEq] at h
    obtain ⟨rfl, rfl⟩ := h
    exact ⟨by simp only [nextAV, hM, if_neg hlt, Ef.mem], trivial⟩
theorem clear_G {t : TypeId} {x v : AV} {e : Ef} (h : clearG P t (fun i => M[i]?) x = some (v, e)) : clearAV P t M x = some (v, e.mem M) ∧ e.ok M.length := by
  unfold clearG at h
  split at h
  case h_2 => simp at h
  rename_i f g sz lo len
  split at h
  case h_2 => simp at h
  rename_i e0 hel
  split at h
  case h_2 => simp at h
  rename_i z ety sz2 cs g2 hist hz hM
  split at h
  case h_2 => simp at h
  rename_i n hn
  split at h
  case isFalse => simp at h
  rename_i hc
  split at h
  · rename_i h0
    simp only [Option.some.injEq, Prod.mk.injEq] at h
    obtain ⟨rfl, rfl⟩ := h
    exact ⟨by simp only [clearAV, hel, hz, hM, hn, if_pos hc, if_pos h0, Ef.mem], trivial⟩
  · rename_i h0
    simp only [Option.some.injEq, Prod.mk.injEq] at h
    obtain ⟨rfl, rfl⟩ := h
    exact ⟨by simp only [clearAV, hel, hz, hM, hn, if_pos hc, if_neg h0, Ef.mem], getElem?_lt hM⟩

/-- append, both ways -/
def vappInG (e : TypeId) (sz : Nat) (s x : AV) (gt : GT) : Option (AV × Ef) :=
  match srcCellsG gt sz x, s with
  | some (news, m), .vref f h s' lo len => match gt f with
    | some (.vec e2 s2 cs g hist) => match hist.lookup h with
      | some n => if e2 = e ∧ s' = sz ∧ s2 = sz ∧ 0 < m ∧ lo + len + m ≤ n then
          some (.vref f h sz lo (len + m), .put f (.vec e sz (overwrite cs ((lo + len) * sz) news) g (keepHist sz h ((lo + len) * sz) hist)))
        else none
      | none => none
    | _ => none
  | _, _ => none
def vappG (e : TypeId) (sz : Nat) (s x : AV) (gt : GT) (ln : Nat) : Option (AV × Ef) :=
  match srcCellsG gt sz x with
  | none => none
  | some (news, m) => match s with
    | .val (.slice none 0 0) => if m = 0 then some (s, .non) else some (.vref ln 0 sz 0 m, .push (.vec e sz news 0 [(0, m)]))
    | .list s' [] .full => if s' = sz then (if m = 0 then some (s, .non) else some (.vref ln 0 sz 0 m, .push (.vec e sz news 0 [(0, m)]))) else none
    | .vref f h s' lo len => match gt f with
      | some (.vec e2 s2 cs g hist) => match hist.lookup h with
        | some n => if e2 = e ∧ s' = sz ∧ s2 = sz ∧ lo + len ≤ n then
            if m = 0 then some (s, .non) else
            some (.vref f (g + 1) sz 0 (len + m), .put f (.vec e sz ((cs.drop (lo * sz)).take (len * sz) ++ news) (g + 1) ((g + 1, len + m) :: if lo = 0 then hist.filter (fun p => decide (p.2 ≤ len)) else [])))
          else none
        | none => none
      | _ => none
    | _ => none
theorem vappIn_G (e : TypeId) (sz : Nat) (s x : AV) : vappIn e sz s x M = (vappInG e sz s x (fun i => M[i]?)).map fun r => (r.1, r.2.mem M) := by
  unfold vappIn vappInG
  rw [srcCells_G]
  cases srcCellsG (fun i => M[i]?) sz x with
  | none => rfl
  | some r =>
    cases s <;> try rfl
    rename_i f h s' lo len
    simp only
    cases M[f]? with
    | none => rfl
    | some ob =>
      cases ob <;> try rfl
      simp only
      rename_i hist
      cases hist.lookup h with
      | none => rfl
      | some n =>
        simp only
        split <;> rfl
theorem vappIn_ok {e : TypeId} {sz : Nat} {s x v : AV} {ef : Ef} (h : vappInG e sz s x (fun i => M[i]?) = some (v, ef)) : ef.ok M.length := by
  unfold vappInG at h
  split at h
  case h_2 => simp at h
  split at h
  case h_2 => simp at h
  rename_i hM
  split at h
  case h_2 => simp at h
  split at h
  case isFalse => simp at h
  simp only [Option.some.injEq, Prod.mk.injEq] at h
  obtain ⟨rfl, rfl⟩ := h
  exact getElem?_lt hM
theorem vapp_G {e : TypeId} {sz : Nat} {s0 x v : AV} {ef : Ef} (h : vappG e sz s0 x (fun i => M[i]?) M.length = some (v, ef)) : vappAV e sz s0 x M = some (v, ef.mem M) ∧ ef.ok M.length := by
  unfold vappG at h
  split at h
  · simp at h
  rename_i news m hsrc
  rw [← srcCells_G] at hsrc
  split at h
  · split at h
    · rename_i h0
      simp only [Option.some.injEq, Prod.mk.injEq] at h
      obtain ⟨rfl, rfl⟩ := h
      exact ⟨by simp only [vappAV, hsrc, if_pos h0, Ef.mem], trivial⟩
    · rename_i h0
      simp only [Option.some.injEq, Prod.mk.injEq] at h
      obtain ⟨rfl, rfl⟩ := h
      exact ⟨by simp only [vappAV, hsrc, if_neg h0, Ef.mem], trivial⟩
  · split at h
    case isFalse => simp at h
    rename_i hss
    split at h
    · rename_i h0
      simp only [Option.some.injEq, Prod.mk.injEq] at h
      obtain ⟨rfl, rfl⟩ := h
      exact ⟨by simp only [vappAV, hsrc, if_pos hss, if_pos h0, Ef.mem], trivial⟩
    · rename_i h0
      simp only [Option.some.injEq, Prod.mk.injEq] at h
      obtain ⟨rfl, rfl⟩ := h
      exact ⟨by simp only [vappAV, hsrc, if_pos hss, if_neg h0, Ef.mem], trivial⟩
  · rename_i f h' s' lo len
    split at h
    case h_2 => simp at h
    rename_i e2 s2 cs g hist hM
    split at h
    case h_2 => simp at h
    rename_i n hn
    split at h
    case isFalse => simp at h
    rename_i hc
    split at h
    · rename_i h0
      simp only [Option.some.injEq, Prod.mk.injEq] at h
      obtain ⟨rfl, rfl⟩ := h
      exact ⟨by simp only [vappAV, hsrc, hM, hn, if_pos hc, if_pos h0, Ef.mem], trivial⟩
    · rename_i h0
      simp only [Option.some.injEq, Prod.mk.injEq] at h
      obtain ⟨rfl, rfl⟩ := h
      exact ⟨by simp only [vappAV, hsrc, hM, hn, if_pos hc, if_neg h0, Ef.mem], getElem?_lt hM⟩
  · simp at h
def appendG (P : Program) (t u : TypeId) (s x : AV) (gt : GT) (ln : Nat) : Option (AV × Ef) := match elemOf? P t with
  | some e => match elemFacts P e with
    | some (sz, bytes) => match srcOkB P u, vecLike true s with
      | true, true => match srcCellsG gt sz s, srcCellsG gt sz x with
        | some (_, k), some (_, m) => if (k + m) * bytes ≤ 140737488355328 then (match vappInG e sz s x gt with | some r => some r | none => vappG e sz s x gt ln) else none
        | _, _ => none
      | _, _ => none
    | none => none
  | none => none
theorem append_G {t u : TypeId} {s x v : AV} {ef : Ef} (h : appendG P t u s x (fun i => M[i]?) M.length = some (v, ef)) : xAppend P t u s x M = some (v, ef.mem M, appWrites s) ∧ ef.ok M.length := by
  unfold appendG at h
  split at h
  case h_2 => simp at h
  rename_i e he
  split at h
  case h_2 => simp at h
  rename_i sz bytes hf
  split at h
  case h_2 => simp at h
  rename_i hu hv
  split at h
  case h_2 => simp at h
  rename_i c1 k c2 m h1 h2
  rw [← srcCells_G] at h1 h2
  split at h
  case isFalse => simp at h
  rename_i hb
  have key : ∀ r, (match vappIn e sz s x M with | some r => some r | none => vappAV e sz s x M) = some r → appMem false true e sz bytes s x M = some r := by
    intro r hr
    unfold appMem
    rw [if_pos hv, h1, h2]
    simp only
    rw [if_pos hb]
    exact hr
  split at h
  · rename_i r hr
    simp only [Option.some.injEq] at h
    subst h
    have := key (v, ef.mem M) (by rw [vappIn_G, hr]; rfl)
    exact ⟨by simp only [xAppend, he, hf, hu, hv, this], vappIn_ok hr⟩
  · rename_i hr
    obtain ⟨k1, k2⟩ := vapp_G h
    have := key (v, ef.mem M) (by rw [vappIn_G, hr]; exact k1)
    exact ⟨by simp only [xAppend, he, hf, hu, hv, this], k2⟩
end
end Go.Abs
end
section
/- One operation, run quickly. -/
set_option linter.unusedVariables false
set_option linter.unusedSimpArgs false
namespace Go.Abs

inductive FK where
  | pure
  | read (r : Nat)
  | write (ws : List Nat)
def FK.ws : FK → List Nat
  | .write ws => ws
  | _ => []
def FK.foot (n : Nat) : FK → Foot
  | .pure => ⟨0, 0, 0, [], 0⟩
  | .read r => ⟨1, r, 0, [], 0⟩
  | .write ws => ⟨2, 0, 0, ws, n⟩
abbrev FR := AV × Ef × FK

def storeG (s : Option Nat) (g : GT) (a v : AV) : Option Ef := match a with
  | .ptr b off => match g b with
    | some (.cells bt cs) => if v.storable && decide (off + v.cells.length ≤ cs.length) && decide (s = some v.cells.length) then some (.put b (.cells bt (overwrite cs off v.cells))) else none
    | _ => none
  | .vptr f h off => match g f with
    | some (.vec vt sz cs g' hist) => match hist.lookup h with
      | some n => if v.storable && decide (off + v.cells.length ≤ n * sz) && decide (s = some v.cells.length) then some (.put f (.vec vt sz (overwrite cs off v.cells) g' (keepHist sz h off hist))) else none
      | none => none
    | _ => none
  | _ => none
def unsafeStrG (P : Program) (pt : TypeId) (gt : GT) (p n : AV) : Option (AV × Ef) := match n with
  | .val (.int .i64 n) => if n = 0 then (match p with
      | .val (.pointer none) => some (.val (.string .empty), .non)
      | .vptr _ _ _ => some (.val (.string .empty), .non)
      | _ => none) else match p with
    | .vptr f g off => match P.underlying pt, gt f with
      | some (.pointer e), some (.vec ty 1 cs _ hist) => match hist.lookup g with
        | some m => if 0 < n ∧ off + n.toNat ≤ m ∧ ty = e ∧ P.cellsOf e = 1 ∧ n ≤ 9223372036854775807 then match bytes? ((cs.drop off).take n.toNat) with
            | some l => some (.val (.string ⟨l.toArray⟩), .put f .gone)
            | none => none
          else none
        | none => none
      | _, _ => none
    | _ => none
  | _ => none
def builtinG (P : Program) (b : Builtin) (ts : List TypeId) (args : List AV) (g : GT) : Option (AV × Ef) := match b, ts, args with
  | .copy, [t, u], [d, s] => copyG P t u g d s
  | .clear, [t], [x] => clearG P t g x
  | .unsafeSliceData, _, [x] => match sliceDataG g x with
    | some v => some (v, .non)
    | none => none
  | .unsafeString, [pt, it], [p, n] => unsafeStrG P pt g p n
  | _, _, _ => none
def evalG (C : Ctx) (o : Oper) (ρ : Operand → AV) (g : GT) (n : Nat) : Option (AV × Ef) := match o.op with
  | .store t a x => match storeG (szOf C.P t) g (ρ a) (ρ x) with
    | some e => some (.val undef, e)
    | none => none
  | .alloc e => match zeroCells? C.P e with
    | some z => if z.all (·.oneCell') then some (.ptr n 0, .push (.cells e (z.map .val))) else none
    | none => none
  | .box e x => if (ρ x).storable then some (.ptr n 0, .push (.cells e (ρ x).cells)) else none
  | .buildSlice t k parts => if C.data t then none else vbuildG C.P t k (parts.toList.map fun p => (p.1, ρ p.2)) n
  | .makeSlice t l c => vmakeG C.P t (ρ l) (ρ c) n
  | .makeMap t none => some (.mapr n, .push (.map [] 0))
  | .mapUpdate t m k x => match mapPutG C.P t g (ρ m) (ρ k) (ρ x) with
    | some e => some (.val undef, e)
    | none => none
  | .insert t m k x => match mapPutG C.P t g (ρ m) (ρ k) (ρ x) with
    | some e => some (.val undef, e)
    | none => none
  | .range t x => rangeG C.P t (ρ x) n
  | .next x true => nextG (ρ x) g
  | .slice t x lo hi mx => match sliceMoreG C.P t g (ρ x) (lo.map ρ) (hi.map ρ) (mx.map ρ) with
    | some v => some (v, .non)
    | none => none
  | .convert s d x => match bytesAV C.P s d (ρ x) with
    | some v => some (v, .non)
    | none => match convG C.P s d g (ρ x) with
      | some v => some (v, .non)
      | none => none
  | .call { callee := .builtin b, args, argTypes } => builtinG C.P b argTypes.toList (args.toList.map ρ) g
  | _ => none
def readG (C : Ctx) (o : Oper) (ρ : Operand → AV) (g : GT) : Option AV := match o.op with
  | .load t x => (memOfG g (ρ x)).bind (loadCells? C.P t)
  | .lookup t m k ok => lookupG C.P t g (ρ m) (ρ k) ok
  | .call { callee := .builtin .len, args, argTypes } => match args.toList, argTypes.toList with
    | [x], [t] => (lenMoreG C.P t g (ρ x)).map fun (n : Nat) => AV.val (.int .i64 n)
    | _, _ => none
  | _ => none
def genRun (C : Ctx) (o : Oper) (ρ : Operand → AV) (g : GT) (n : Nat) : Option FR := match (evalPure C HX o ρ).or (evalPure1 C o ρ) with
  | some v => some (v, .non, .pure)
  | none => match readObj o ρ with
    | some r => match readG C o ρ g with
      | some v => some (v, .non, .read r)
      | none => none
    | none => match evalG C o ρ g n with
      | some (v, e) => some (v, e, .write (writesOf o ρ))
      | none => none

structure RunOK (C : Ctx) (o : Oper) (ρ : Operand → AV) (M : Mem) (v : AV) (e : Ef) (k : FK) : Prop where
  ok : e.ok M.length
  eval : evalOp C HX o ρ M = some (v, e.mem M)
  kind : match k with
    | .pure => (evalPure C HX o ρ).or (evalPure1 C o ρ) = some v ∧ e = .non
    | .read r => (evalPure C HX o ρ).or (evalPure1 C o ρ) = none ∧ readObj o ρ = some r ∧ readAV C o ρ M = some v ∧ e = .non ∧ writesOf o ρ = []
    | .write ws => (evalPure C HX o ρ).or (evalPure1 C o ρ) = none ∧ readObj o ρ = none ∧ ws = writesOf o ρ

theorem pure_run {C : Ctx} {o : Oper} {ρ : Operand → AV} {M : Mem} {v : AV} (h : (evalPure C HX o ρ).or (evalPure1 C o ρ) = some v) : RunOK C o ρ M v .non .pure := by
  refine ⟨trivial, ?_, h, rfl⟩
  rcases Option.or_eq_some_iff.1 h with h1 | ⟨h1, h2⟩
  · simp only [evalOp, h1, Ef.mem]
  · have h3 := evalPure1_only (h := HX) h2
    simp only [evalOp, h1, (h3 _).1, (h3 _).2, h2, Ef.mem]

theorem storeG_eval {C : Ctx} {M : Mem} {ρ : Operand → AV} {d : Option Tmp} {lt : TypeId} {a x : Operand} {ty : TypeId} {p : String} {af : Array Edge} {gd : Option (Nat × Bool)} {e : Ef} (h : storeG (szOf C.P lt) (fun i => M[i]?) (ρ a) (ρ x) = some e) :
    evalOp C HX ⟨d, .store lt a x, ty, p, af, gd⟩ ρ M = some (.val undef, e.mem M) ∧ e.ok M.length := by
  have hm : evalMem C HX ⟨d, .store lt a x, ty, p, af, gd⟩ ρ M = some (.val undef, e.mem M) ∧ e.ok M.length := by
    unfold storeG at h
    split at h
    · rename_i b off hb
      split at h
      case h_2 => simp at h
      rename_i bt cs hM
      split at h
      case isFalse => simp at h
      rename_i hc
      simp only [Option.some.injEq] at h
      subst h
      exact ⟨by simp only [evalMem, hb, hM, hc, if_true, Ef.mem], getElem?_lt hM⟩
    · rename_i f g' off hb
      split at h
      case h_2 => simp at h
      rename_i vt sz cs g2 hist hM
      split at h
      case h_2 => simp at h
      rename_i n hn
      split at h
      case isFalse => simp at h
      rename_i hc
      simp only [Option.some.injEq] at h
      subst h
      exact ⟨by simp only [evalMem, hb, hM, hn, hc, if_true, Ef.mem], getElem?_lt hM⟩
    · simp at h
  refine ⟨?_, hm.2⟩
  have hp : evalPure C HX ⟨d, .store lt a x, ty, p, af, gd⟩ ρ = none := rfl
  simp only [evalOp, hp, hm.1]

theorem unsafeStr_G {P : Program} {M : Mem} {pt : TypeId} {p n v : AV} {e : Ef} (h : unsafeStrG P pt (fun i => M[i]?) p n = some (v, e)) : unsafeStrAV P pt M p n = some (v, e.mem M) ∧ e.ok M.length := by
  unfold unsafeStrG at h
  split at h
  case h_2 => simp at h
  rename_i n
  split at h
  · rename_i h0
    split at h
    · simp only [Option.some.injEq, Prod.mk.injEq] at h
      obtain ⟨rfl, rfl⟩ := h
      exact ⟨by simp only [unsafeStrAV, if_pos h0, Ef.mem], trivial⟩
    · simp only [Option.some.injEq, Prod.mk.injEq] at h
      obtain ⟨rfl, rfl⟩ := h
      exact ⟨by simp only [unsafeStrAV, if_pos h0, Ef.mem], trivial⟩
    · simp at h
  · rename_i h0
    split at h
    case h_2 => simp at h
    rename_i f g' off
    split at h
    case h_2 => simp at h
    rename_i e0 ety cs g2 hist hu hM
    split at h
    case h_2 => simp at h
    rename_i m hm
    split at h
    case isFalse => simp at h
    rename_i hc
    split at h
    case h_2 => simp at h
    rename_i l hl
    simp only [Option.some.injEq, Prod.mk.injEq] at h
    obtain ⟨rfl, rfl⟩ := h
    exact ⟨by simp only [unsafeStrAV, if_neg h0, hu, hM, hm, if_pos hc, hl, Ef.mem], getElem?_lt hM⟩

theorem evalG_ok {C : Ctx} {o : Oper} {ρ : Operand → AV} {M : Mem} {v : AV} {e : Ef} (hp : (evalPure C HX o ρ).or (evalPure1 C o ρ) = none) (h : evalG C o ρ (fun i => M[i]?) M.length = some (v, e)) : evalOp C HX o ρ M = some (v, e.mem M) ∧ e.ok M.length := by
  simp only [Option.or_eq_none_iff] at hp
  obtain ⟨hp1, hp2⟩ := hp
  have viaMem : ∀ r, evalMem C HX o ρ M = some r → evalOp C HX o ρ M = some r := fun r hr => by simp only [evalOp, hp1, hr]
  have viaMore : ∀ r, evalMem C HX o ρ M = none → evalMore C HX o ρ M = some r → evalOp C HX o ρ M = some r := fun r h1 hr => by simp only [evalOp, hp1, h1, hr]
  have viaX : ∀ r, evalMem C HX o ρ M = none → evalMore C HX o ρ M = none → evalX C o ρ M = some r → evalOp C HX o ρ M = some r := fun r h1 h2 hr => by simp only [evalOp, hp1, h1, h2, hp2, hr]
  obtain ⟨d, op, t, p, af, g⟩ := o
  cases op <;> first | (simp [evalG] at h; done) | skip
  case store lt a x =>
    simp only [evalG] at h
    split at h
    case h_2 => simp at h
    rename_i e0 hs
    simp only [Option.some.injEq, Prod.mk.injEq] at h
    obtain ⟨rfl, rfl⟩ := h
    exact storeG_eval hs
  case alloc et =>
    simp only [evalG] at h
    split at h
    case h_2 => simp at h
    rename_i z hz
    split at h
    case isFalse => simp at h
    rename_i hc
    simp only [Option.some.injEq, Prod.mk.injEq] at h
    obtain ⟨rfl, rfl⟩ := h
    exact ⟨viaMem _ (by simp only [evalMem, hz, hc, if_true, Ef.mem]), trivial⟩
  case box et x =>
    simp only [evalG] at h
    split at h
    case isFalse => simp at h
    rename_i hc
    simp only [Option.some.injEq, Prod.mk.injEq] at h
    obtain ⟨rfl, rfl⟩ := h
    exact ⟨viaMem _ (by simp only [evalMem, hc, if_true, Ef.mem]), trivial⟩
  case buildSlice bt n ps =>
    simp only [evalG] at h
    split at h
    · simp at h
    rename_i hdata
    have hdata : C.data bt = false := by simpa using hdata
    obtain ⟨k1, k2⟩ := vbuild_G h
    cases d with
    | none =>
      exfalso
      simp only [evalPure, hvAt, HX, hintAt, Bool.false_and] at hp1
      unfold vbuildG at h
      split at h
      case h_2 => simp at h
      rename_i e0 he
      split at h
      case h_2 => simp at h
      rename_i sz z hs hz
      split at h
      case isFalse => simp at h
      rename_i hc
      simp only [Option.map_eq_some_iff, Prod.mk.injEq] at h
      obtain ⟨rows, hr, -, -⟩ := h
      simp only [he, hs, hz, if_pos hc, hr] at hp1
      simp at hp1
    | some d =>
      exact ⟨viaMore _ rfl (by
        show (if hvAt C HX bt (some d) = true then vbuildAV C.P bt n _ M else none) = _
        rw [if_pos (show hvAt C HX bt (some d) = true by simp [hvAt, hintAt, HX, hdata])]; exact k1), k2⟩
  case makeSlice st l c =>
    simp only [evalG] at h
    obtain ⟨k1, k2⟩ := vmake_G h
    exact ⟨viaMore _ rfl k1, k2⟩
  case makeMap mt r =>
    cases r with
    | some r => simp [evalG] at h
    | none =>
      simp only [evalG, Option.some.injEq, Prod.mk.injEq] at h
      obtain ⟨rfl, rfl⟩ := h
      exact ⟨viaMore _ rfl rfl, trivial⟩
  case mapUpdate mt m k x =>
    simp only [evalG] at h
    split at h
    case h_2 => simp at h
    rename_i e0 hs
    simp only [Option.some.injEq, Prod.mk.injEq] at h
    obtain ⟨rfl, rfl⟩ := h
    obtain ⟨k1, k2⟩ := mapPut_G hs
    exact ⟨viaMore _ rfl (by simp only [evalMore, k1, Option.map_some]), k2⟩
  case insert mt m k x =>
    simp only [evalG] at h
    split at h
    case h_2 => simp at h
    rename_i e0 hs
    simp only [Option.some.injEq, Prod.mk.injEq] at h
    obtain ⟨rfl, rfl⟩ := h
    obtain ⟨k1, k2⟩ := mapPut_G hs
    exact ⟨viaMore _ rfl (by simp only [evalMore, k1, Option.map_some]), k2⟩
  case range rt x =>
    simp only [evalG] at h
    obtain ⟨k1, k2⟩ := range_G h
    exact ⟨viaX _ rfl rfl k1, k2⟩
  case next x b =>
    cases b with
    | false => simp [evalG] at h
    | true =>
      simp only [evalG] at h
      obtain ⟨k1, k2⟩ := next_G h
      exact ⟨viaX _ rfl rfl k1, k2⟩
  case slice st x lo hi mx =>
    simp only [evalG] at h
    split at h
    case h_2 => simp at h
    rename_i v0 hs
    simp only [Option.some.injEq, Prod.mk.injEq] at h
    obtain ⟨rfl, rfl⟩ := h
    rw [← sliceMore_G] at hs
    exact ⟨viaX _ rfl rfl (by simp only [evalX, hs, Option.map_some, Ef.mem]), trivial⟩
  case convert a b x =>
    simp only [evalG] at h
    split at h
    · rename_i v0 hs
      simp only [Option.some.injEq, Prod.mk.injEq] at h
      obtain ⟨rfl, rfl⟩ := h
      exact ⟨viaX _ rfl rfl (by simp only [evalX, hs, Ef.mem]), trivial⟩
    · rename_i hs
      split at h
      case h_2 => simp at h
      rename_i v0 hs2
      simp only [Option.some.injEq, Prod.mk.injEq] at h
      obtain ⟨rfl, rfl⟩ := h
      rw [← convU_G] at hs2
      exact ⟨viaX _ rfl rfl (by simp only [evalX, hs, hs2, Option.map_some, Ef.mem]), trivial⟩
  case call c =>
    obtain ⟨callee, args, ts⟩ := c
    cases callee with
    | builtin b =>
      simp only [evalG] at h
      unfold builtinG at h
      split at h
      · rename_i t' u x s0 hts hargs
        obtain ⟨k1, k2⟩ := copy_G h
        exact ⟨viaMore _ rfl (by simp only [evalMore, hts, hargs, builtinMore, k1]), k2⟩
      · rename_i ty x hts hargs
        obtain ⟨k1, k2⟩ := clear_G h
        exact ⟨viaX _ rfl (by simp only [evalMore, hts, hargs, builtinMore]) (by simp only [evalX, hts, hargs, builtinX, k1]), k2⟩
      · rename_i x hargs
        split at h
        case h_2 => simp at h
        rename_i v0 hs
        simp only [Option.some.injEq, Prod.mk.injEq] at h
        obtain ⟨rfl, rfl⟩ := h
        rw [← sliceData_G] at hs
        exact ⟨viaX _ rfl (by simp only [evalMore, hargs, builtinMore]) (by simp only [evalX, hargs, builtinX, hs, Option.map_some, Ef.mem]), trivial⟩
      · rename_i pt it pp nn hts hargs
        obtain ⟨k1, k2⟩ := unsafeStr_G h
        exact ⟨viaX _ rfl (by simp only [evalMore, hts, hargs, builtinMore]) (by simp only [evalX, hts, hargs, builtinX, k1]), k2⟩
      · simp at h
    | _ => simp [evalG] at h

theorem read_run {C : Ctx} {o : Oper} {ρ : Operand → AV} {M : Mem} {v : AV} {r : Nat} (hp : (evalPure C HX o ρ).or (evalPure1 C o ρ) = none) (hr : readObj o ρ = some r) (h : readG C o ρ (fun i => M[i]?) = some v) : RunOK C o ρ M v .non (.read r) := by
  have hp' := hp
  simp only [Option.or_eq_none_iff] at hp
  obtain ⟨hp1, hp2⟩ := hp
  obtain ⟨d, op, t, p, af, g⟩ := o
  cases op <;> first | (simp [readG] at h; done) | skip
  case load lt x =>
    simp only [readG, ← memOf_G] at h
    have hra : readAV C ⟨d, .load lt x, t, p, af, g⟩ ρ M = some v := h
    refine ⟨trivial, ?_, hp', hr, hra, rfl, rfl⟩
    have hm : evalMem C HX ⟨d, .load lt x, t, p, af, g⟩ ρ M = some (v, M) := by
      simp only [readObj] at hr
      simp only [evalMem]
      split at hr
      · rename_i b off hb; rw [hb] at h ⊢; simp only; rw [h]; rfl
      · rename_i f h' off hb; rw [hb] at h ⊢; simp only; rw [h]; rfl
      · simp at hr
    simp only [evalOp, hp1, hm, Ef.mem]
  case lookup mt m k ok =>
    simp only [readG, ← lookup_G] at h
    refine ⟨trivial, ?_, hp', hr, h, rfl, rfl⟩
    have hm : evalMem C HX ⟨d, .lookup mt m k ok, t, p, af, g⟩ ρ M = none := rfl
    have hm2 : evalMore C HX ⟨d, .lookup mt m k ok, t, p, af, g⟩ ρ M = some (v, M) := by simp only [evalMore, h, Option.map_some]
    simp only [evalOp, hp1, hm, hm2, Ef.mem]
  case call c =>
    obtain ⟨callee, args, ts⟩ := c
    cases callee with
    | builtin b =>
      cases b <;> first | (simp [readG] at h; done) | skip
      case len =>
        simp only [readG] at h
        split at h
        case h_2 => simp at h
        rename_i x t' ha ht
        simp only [Option.map_eq_some_iff, ← lenMore_G] at h
        obtain ⟨n, hn, rfl⟩ := h
        have hargs : args = #[x] := by apply Array.ext'; simpa using ha
        have hts : ts = #[t'] := by apply Array.ext'; simpa using ht
        subst hargs; subst hts
        have hl : lenAV C.P t' (ρ x) = none := by
          have e : evalPure C HX ⟨d, .call { callee := .builtin .len, args := #[x], argTypes := #[t'] }, t, p, af, g⟩ ρ = (lenAV C.P t' (ρ x)).map fun (n : Nat) => AV.val (goInt (n : Int)) := rfl
          rw [e] at hp1
          cases hl : lenAV C.P t' (ρ x) with
          | none => rfl
          | some n => rw [hl] at hp1; simp at hp1
        have hra : readAV C ⟨d, .call { callee := .builtin .len, args := #[x], argTypes := #[t'] }, t, p, af, g⟩ ρ M = some (.val (.int .i64 n)) := by
          simp only [readAV, hl, hn, Option.none_or, Option.map_some]
        refine ⟨trivial, ?_, hp', hr, hra, rfl, ?_⟩
        · have hm : evalMem C HX ⟨d, .call { callee := .builtin .len, args := #[x], argTypes := #[t'] }, t, p, af, g⟩ ρ M = none := rfl
          have hm2 : evalMore C HX ⟨d, .call { callee := .builtin .len, args := #[x], argTypes := #[t'] }, t, p, af, g⟩ ρ M = some (.val (.int .i64 n), M) := by
            simp only [evalMore, List.map_cons, List.map_nil, builtinMore, hn, Option.map_some]
            rfl
          simp only [evalOp, hp1, hm, hm2, Ef.mem]
        · simp only [readObj] at hr
          simp only [writesOf]
          split at hr
          · rename_i b hb; rw [hb]
          · simp at hr
    | _ => simp [readG] at h

theorem genRun_ok {C : Ctx} {o : Oper} {ρ : Operand → AV} {M : Mem} {v : AV} {e : Ef} {k : FK} (h : genRun C o ρ (fun i => M[i]?) M.length = some (v, e, k)) : RunOK C o ρ M v e k := by
  unfold genRun at h
  split at h
  · rename_i v0 hp
    simp only [Option.some.injEq, Prod.mk.injEq] at h
    obtain ⟨rfl, rfl, rfl⟩ := h
    exact pure_run hp
  · rename_i hp
    split at h
    · rename_i r hr
      split at h
      case h_2 => simp at h
      rename_i v0 hv
      simp only [Option.some.injEq, Prod.mk.injEq] at h
      obtain ⟨rfl, rfl, rfl⟩ := h
      exact read_run hp hr hv
    · rename_i hr
      split at h
      case h_2 => simp at h
      rename_i v0 e0 hv
      simp only [Option.some.injEq, Prod.mk.injEq] at h
      obtain ⟨rfl, rfl, rfl⟩ := h
      obtain ⟨k1, k2⟩ := evalG_ok hp hv
      exact ⟨k2, k1, hp, hr, rfl⟩
end Go.Abs
end
section
/- One operation, made ready once. -/
set_option linter.unusedVariables false
namespace Go.Abs

inductive Arg where
  | tmp (i : Nat)
  | cst (v : AV)
def argOf (C : Ctx) : Operand → Arg
  | .tmp t => .tmp t
  | .const v => .cst (.val v)
  | .global g => .cst (C.gl g)
  | .func f => .cst (.func (.func f) [] [])
noncomputable def rd (t : BT) : Arg → AV
  | .tmp i => t.getR i
  | .cst v => v
theorem rd_ev {C : Ctx} {t : BT} (x : Operand) : rd t (argOf C x) = t.fn.ev C x := by
  cases x <;> first | rfl | exact BT.getR_eq _ _

inductive FOp where
  | mv (a : Arg)
  | pick (c a b : Arg)
  | ld (ag : Option Bool) (n : Option Nat) (a : Arg)
  | st (s : Option Nat) (a x : Arg)
  | faddr (k : Option Nat) (a : Arg)
  | ext (a : Arg) (i : Nat)
  | bin (op : BinOp) (x y : Arg)
  | notb (a : Arg)
  | nilc (a : Arg)
  | idx (e : Option (Option Nat)) (x i : Arg)
  | lenS (a : Arg)
  | lenStr (a : Arg)
  | allc (e : TypeId) (z : List AV)
  | bx (e : TypeId) (a : Arg)
  | call (f : Arg) (as : List Arg)
  | app (t u : TypeId) (s x : Arg)
  | gen
def fopOf (C : Ctx) (o : Oper) : FOp := match o.op with
  | .move x => .mv (argOf C x)
  | .assign x => .mv (argOf C x)
  | .pick c a b => .pick (argOf C c) (argOf C a) (argOf C b)
  | .load t x => .ld (aggOf C.P t) (szOf C.P t) (argOf C x)
  | .store t a x => .st (szOf C.P t) (argOf C a) (argOf C x)
  | .fieldAddr t x f => .faddr (offOf C.P t f) (argOf C x)
  | .extract x i => .ext (argOf C x) i
  | .binOp op t x y _ => .bin op (argOf C x) (argOf C y)
  | .unOp .not _ x => .notb (argOf C x)
  | .nilCheck x => .nilc (argOf C x)
  | .indexAddr t x i => .idx ((elemOf? C.P t).map (szOf C.P)) (argOf C x) (argOf C i)
  | .alloc e => match zeroCells? C.P e with
    | some z => match z.all (·.oneCell') with
      | true => .allc e (z.map .val)
      | false => .gen
    | none => .gen
  | .box e x => .bx e (argOf C x)
  | .call { callee := .value f, args, .. } => .call (argOf C f) (args.toList.map (argOf C))
  | .call { callee := .builtin .append, args, argTypes } => match args.toList, argTypes.toList with
    | [s, x], [t, u] => match o.dst with
      | some _ => .app t u (argOf C s) (argOf C x)
      | none => .gen
    | _, _ => .gen
  | .call { callee := .builtin .len, args, argTypes } => match args.toList, argTypes.toList with
    | [x], [t] => match C.P.underlying t with
      | some (.slice _) => .lenS (argOf C x)
      | some .string => .lenStr (argOf C x)
      | _ => .gen
    | _, _ => .gen
  | _ => .gen

def rPick (c a b : AV) : Option FR := match c with
  | .val (.bool true) => some (a, .non, .pure)
  | .val (.bool false) => some (b, .non, .pure)
  | _ => none
def okv (v : Option AV) (k : FK) : Option FR := match v with
  | some v => some (v, .non, k)
  | none => none
def rLd (ag : Option Bool) (n : Option Nat) (g : GT) (a : AV) : Option FR := match a with
  | .cptr cs => okv (loadRow ag n cs) .pure
  | .ptr b off => match g b with
    | some (.cells _ cs) => match Nat.ble off cs.length with
      | true => okv (loadRow ag n (cs.drop off)) (.read b)
      | false => none
    | _ => none
  | .vptr f h off => match memOfG g (.vptr f h off) with
    | some cs => okv (loadRow ag n cs) (.read f)
    | none => none
  | _ => none
def rSt (s : Option Nat) (g : GT) (a x : AV) : Option FR := match storeG s g a x with
  | some e => some (.val undef, e, .write (match a with | .ptr b _ => [b] | .vptr f _ _ => [f] | _ => []))
  | none => none
def rBin (op : BinOp) (x y : AV) (gen : Option FR) : Option FR := match x, y with
  | .val (.int k a), .val (.int k' b) => match decide (k = k') with
    | true => match intB op k a b with
      | some v => some (.val v, .non, .pure)
      | none => gen
    | false => gen
  | _, _ => gen
def rLenS (a : AV) (gen : Option FR) : Option FR := match a with
  | .vref _ _ _ _ len => some (.val (.int .i64 len), .non, .pure)
  | .val (.slice none 0 0) => some (.val (.int .i64 0), .non, .pure)
  | .list _ rows _ => some (.val (.int .i64 rows.length), .non, .pure)
  | _ => gen
def rLenStr (a : AV) (gen : Option FR) : Option FR := match a with
  | .val (.string s) => some (.val (.int .i64 s.size), .non, .pure)
  | _ => gen
def rBx (e : TypeId) (n : Nat) (a : AV) : Option FR := match a.storable with
  | true => some (.ptr n 0, .push (.cells e a.cells), .write [])
  | false => none
noncomputable def runOp (C : Ctx) (o : Oper) (f : FOp) (t : BT) (g : GT) (n : Nat) : Option FR := match f with
  | .mv a => some (rd t a, .non, .pure)
  | .pick c a b => rPick (rd t c) (rd t a) (rd t b)
  | .ld ag s a => rLd ag s g (rd t a)
  | .st s a x => rSt s g (rd t a) (rd t x)
  | .faddr k a => okv (faddrAV k (rd t a)) .pure
  | .ext a i => okv (extractAV (rd t a) i) .pure
  | .bin op x y => rBin op (rd t x) (rd t y) (genRun C o (t.fn.ev C) g n)
  | .notb a => okv (notAV (rd t a)) .pure
  | .nilc a => okv (nilAV (rd t a)) .pure
  | .idx e x i => match idxAV e (rd t x) (rd t i) with
    | some v => some (v, .non, .pure)
    | none => genRun C o (t.fn.ev C) g n
  | .lenS a => rLenS (rd t a) (genRun C o (t.fn.ev C) g n)
  | .lenStr a => rLenStr (rd t a) (genRun C o (t.fn.ev C) g n)
  | .allc e z => some (.ptr n 0, .push (.cells e z), .write [])
  | .bx e a => rBx e n (rd t a)
  | .call _ _ => none
  | .app _ _ _ _ => none
  | .gen => genRun C o (t.fn.ev C) g n

theorem okv_some {v : Option AV} {k : FK} {r : FR} (h : okv v k = some r) : ∃ u, v = some u ∧ r = (u, .non, k) := by
  cases v with
  | none => simp [okv] at h
  | some u => simp only [okv, Option.some.injEq] at h; exact ⟨u, rfl, h.symm⟩

theorem runOp_ok {C : Ctx} {o : Oper} {t : BT} {M : Mem} {v : AV} {e : Ef} {k : FK} (h : runOp C o (fopOf C o) t (fun i => M[i]?) M.length = some (v, e, k)) : RunOK C o (t.fn.ev C) M v e k := by
  have pureR : ∀ {u : AV}, evalPure C HX o (t.fn.ev C) = some u → RunOK C o (t.fn.ev C) M u .non .pure := fun hu => pure_run (by rw [hu]; rfl)
  obtain ⟨d, op, ty, p, af, g⟩ := o
  have gen : runOp C ⟨d, op, ty, p, af, g⟩ .gen t (fun i => M[i]?) M.length = some (v, e, k) → RunOK C ⟨d, op, ty, p, af, g⟩ (t.fn.ev C) M v e k := fun h => genRun_ok h
  have okP : ∀ {w : Option AV}, okv w .pure = some (v, e, k) → evalPure C HX ⟨d, op, ty, p, af, g⟩ (t.fn.ev C) = w → RunOK C ⟨d, op, ty, p, af, g⟩ (t.fn.ev C) M v e k := by
    intro w hw he
    obtain ⟨u, hu, hr⟩ := okv_some hw
    simp only [Prod.mk.injEq] at hr
    obtain ⟨rfl, rfl, rfl⟩ := hr
    exact pureR (he.trans hu)
  cases op <;> first | exact gen h | skip
  case move x =>
    simp only [fopOf, runOp, rd_ev, Option.some.injEq, Prod.mk.injEq] at h
    obtain ⟨rfl, rfl, rfl⟩ := h
    exact pureR rfl
  case assign x =>
    simp only [fopOf, runOp, rd_ev, Option.some.injEq, Prod.mk.injEq] at h
    obtain ⟨rfl, rfl, rfl⟩ := h
    exact pureR rfl
  case pick c a b =>
    simp only [fopOf, runOp, rd_ev] at h
    unfold rPick at h
    split at h
    · rename_i hc
      simp only [Option.some.injEq, Prod.mk.injEq] at h
      obtain ⟨rfl, rfl, rfl⟩ := h
      exact pureR (by simp only [evalPure, hc, if_true])
    · rename_i hc
      simp only [Option.some.injEq, Prod.mk.injEq] at h
      obtain ⟨rfl, rfl, rfl⟩ := h
      exact pureR (by simp only [evalPure, hc]; rfl)
    · simp at h
  case unOp uop ut x =>
    cases uop <;> first | exact gen h | skip
    simp only [fopOf, runOp, rd_ev] at h
    exact okP h rfl
  case nilCheck x =>
    simp only [fopOf, runOp, rd_ev] at h
    exact okP h rfl
  case fieldAddr ft x f =>
    simp only [fopOf, runOp, rd_ev] at h
    exact okP h rfl
  case extract x i =>
    simp only [fopOf, runOp, rd_ev] at h
    exact okP h rfl
  case indexAddr it x i =>
    simp only [fopOf, runOp, rd_ev] at h
    split at h
    · rename_i u hu
      simp only [Option.some.injEq, Prod.mk.injEq] at h
      obtain ⟨rfl, rfl, rfl⟩ := h
      refine pureR ?_
      rw [← hu]
      simp only [evalPure, idxAV]
      cases elemOf? C.P it with
      | none => rfl
      | some e => cases t.fn.ev C x <;> first | rfl | (cases t.fn.ev C i <;> first | rfl | (rename_i v; cases v <;> rfl))
    · exact genRun_ok h
  case binOp bop bt x y yt =>
    simp only [fopOf, runOp, rd_ev] at h
    unfold rBin at h
    split at h
    · rename_i k1 a k2 b hx hy
      split at h
      · rename_i hk
        simp only [decide_eq_true_eq] at hk
        subst hk
        split at h
        · rename_i u hu
          simp only [Option.some.injEq, Prod.mk.injEq] at h
          obtain ⟨rfl, rfl, rfl⟩ := h
          refine pureR ?_
          simp only [evalPure, hx, hy, binAV_int, hu, Option.map_some]
        · exact genRun_ok h
      · exact genRun_ok h
    · exact genRun_ok h
  case load lt x =>
    simp only [fopOf, runOp, rd_ev] at h
    unfold rLd at h
    split at h
    · rename_i cs hx
      exact okP h (by simp only [evalPure, hx, loadCells_row])
    · rename_i b off hx
      split at h
      case h_2 => simp at h
      rename_i bt cs hM
      split at h
      case h_2 => simp at h
      rename_i hle
      have hle := Nat.le_of_ble_eq_true hle
      obtain ⟨u, hu, hr⟩ := okv_some h
      simp only [Prod.mk.injEq] at hr
      obtain ⟨rfl, rfl, rfl⟩ := hr
      refine read_run (by simp only [evalPure, hx, evalPure1]; rfl) (by simp only [readObj, hx]) ?_
      simp only [readG, hx, memOfG, hM, if_pos hle, Option.bind_some, loadCells_row]
      exact hu
    · rename_i f h' off hx
      split at h
      case h_2 => simp at h
      rename_i cs hM
      obtain ⟨u, hu, hr⟩ := okv_some h
      simp only [Prod.mk.injEq] at hr
      obtain ⟨rfl, rfl, rfl⟩ := hr
      refine read_run (by simp only [evalPure, hx, evalPure1]; rfl) (by simp only [readObj, hx]) ?_
      simp only [readG, hx, hM, Option.bind_some, loadCells_row]
      exact hu
    · simp at h
  case store lt a x =>
    simp only [fopOf, runOp, rd_ev] at h
    unfold rSt at h
    split at h
    case h_2 => simp at h
    rename_i e0 hs
    simp only [Option.some.injEq, Prod.mk.injEq] at h
    obtain ⟨rfl, rfl, rfl⟩ := h
    obtain ⟨k1, k2⟩ := storeG_eval hs
    exact ⟨k2, k1, rfl, rfl, rfl⟩
  case alloc et =>
    simp only [fopOf] at h
    split at h
    case h_2 => exact genRun_ok h
    rename_i z hz
    split at h
    case h_2 => exact genRun_ok h
    rename_i hall
    simp only [runOp, Option.some.injEq, Prod.mk.injEq] at h
    obtain ⟨rfl, rfl, rfl⟩ := h
    obtain ⟨k1, k2⟩ := evalG_ok (C := C) (o := ⟨d, .alloc et, ty, p, af, g⟩) (ρ := t.fn.ev C) (M := M) (v := .ptr M.length 0) (e := .push (.cells et (z.map .val))) rfl (by simp only [evalG, hz, hall, if_true])
    exact ⟨k2, k1, rfl, rfl, rfl⟩
  case box et x =>
    simp only [fopOf, runOp, rd_ev] at h
    unfold rBx at h
    split at h
    case h_2 => simp at h
    rename_i hs
    simp only [Option.some.injEq, Prod.mk.injEq] at h
    obtain ⟨rfl, rfl, rfl⟩ := h
    have hp : (evalPure C HX ⟨d, .box et x, ty, p, af, g⟩ (t.fn.ev C)).or (evalPure1 C ⟨d, .box et x, ty, p, af, g⟩ (t.fn.ev C)) = none := by
      have hh : hintAt HX.imm d = false := by cases d <;> rfl
      simp only [evalPure, hh, Bool.false_and]
      rfl
    obtain ⟨k1, k2⟩ := evalG_ok (C := C) (o := ⟨d, .box et x, ty, p, af, g⟩) (ρ := t.fn.ev C) (M := M) (v := .ptr M.length 0) (e := .push (.cells et (t.fn.ev C x).cells)) hp (by simp only [evalG, hs, if_true])
    exact ⟨k2, k1, hp, rfl, rfl⟩
  case call c =>
    obtain ⟨callee, args, ts⟩ := c
    cases callee with
    | value f => simp [fopOf, runOp] at h
    | builtin b =>
      cases b <;> first | exact gen h | skip
      case append =>
        simp only [fopOf] at h
        split at h
        · split at h
          · simp [runOp] at h
          · exact genRun_ok h
        · exact genRun_ok h
      case len =>
        simp only [fopOf] at h
        split at h
        case h_2 => exact genRun_ok h
        rename_i x t' ha ht
        have hts : ts = #[t'] := by apply Array.ext'; simpa using ht
        subst hts
        have hargs : args = #[x] := by apply Array.ext'; simpa using ha
        subst hargs
        have lenP : ∀ n : Nat, lenAV C.P t' (t.fn.ev C x) = some n → evalPure C HX ⟨d, .call { callee := .builtin .len, args := #[x], argTypes := #[t'] }, ty, p, af, g⟩ (t.fn.ev C) = some (.val (.int .i64 n)) := by
          intro n hn
          show (lenAV C.P t' (t.fn.ev C x)).map (fun (n : Nat) => AV.val (goInt (n : Int))) = _
          rw [hn]; rfl
        split at h
        · rename_i et hu
          simp only [runOp, rd_ev] at h
          unfold rLenS at h
          split at h
          · rename_i a1 a2 a3 a4 len hx
            simp only [Option.some.injEq, Prod.mk.injEq] at h
            obtain ⟨rfl, rfl, rfl⟩ := h
            exact pureR (lenP _ (by simp only [lenAV, hx, hu]))
          · rename_i hx
            simp only [Option.some.injEq, Prod.mk.injEq] at h
            obtain ⟨rfl, rfl, rfl⟩ := h
            exact pureR (lenP _ (by simp only [lenAV, hx, hu]))
          · rename_i sz rows own hx
            simp only [Option.some.injEq, Prod.mk.injEq] at h
            obtain ⟨rfl, rfl, rfl⟩ := h
            exact pureR (lenP _ (by simp only [lenAV, hx, hu]))
          · exact genRun_ok h
        · rename_i hu
          simp only [runOp, rd_ev] at h
          unfold rLenStr at h
          split at h
          · rename_i s hx
            simp only [Option.some.injEq, Prod.mk.injEq] at h
            obtain ⟨rfl, rfl, rfl⟩ := h
            exact pureR (lenP _ (by simp only [lenAV, hx, hu]))
          · exact genRun_ok h
        · exact genRun_ok h
    | _ => exact gen h
end Go.Abs
end
