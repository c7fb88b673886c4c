/- The quick evaluator: a run cut in two. -/
import Derived.Test.YtmpdkagfplajjaaGreatDoorVG32
set_option linter.unusedVariables false
namespace Go.Abs

def preC : Nat → Code → Code
  | 0, _ => .skip
  | k + 1, .seq x y => .seq x (preC k y)
  | _ + 1, _ => .goto 0
def postC : Nat → Code → Code
  | 0, c => c
  | k + 1, .seq _ y => postC k y
  | _ + 1, c => c
theorem yCode_cut {yc : YCallF} {C : Ctx} {fuel base : Nat} {r : YC} : ∀ (k : Nat) (c : Code) (t : BT) (h : HT) (n : Nat) (ws : List Nat) (t1 : BT) (h1 : HT) (n1 : Nat) (ws1 : List Nat),
    yCode yc C fuel base (preC k c) t h n ws = some (.normal, t1, h1, n1, ws1) → yCode yc C fuel base (postC k c) t1 h1 n1 ws1 = some r → yCode yc C fuel base c t h n ws = some r
  | 0, c, t, h, n, ws, t1, h1, n1, ws1, e1, e2 => by
    simp only [preC] at e1
    rw [yCode_skip] at e1
    simp only [Option.some.injEq, Prod.mk.injEq] at e1
    obtain ⟨_, rfl, rfl, rfl, rfl⟩ := e1
    exact e2
  | k + 1, c, t, h, n, ws, t1, h1, n1, ws1, e1, e2 => by
    cases c with
    | seq x y =>
      simp only [preC] at e1
      simp only [postC] at e2
      rw [yCode_seq] at e1 ⊢
      split at e1
      · rename_i t2 h2 n2 ws2 hx
        exact yCode_cut k y t2 h2 n2 ws2 t1 h1 n1 ws1 e1 e2
      · rename_i hne
        exact absurd e1 (hne _ _ _ _)
    | _ => simp only [preC] at e1; rw [yCode_goto] at e1; simp at e1
/-- slots and memory, by lists -/
noncomputable def mkT (k : Nat) (l : List (Nat × AV)) : BT := List.rec (motive := fun _ => BT) (BT.mk k) (fun p _ t => match t.putR p.1 p.2 with | some t => t | none => t) l
noncomputable def mkHA (l : List AObj) : Nat → HT → HT := List.rec (motive := fun _ => Nat → HT → HT) (fun _ h => h) (fun o _ ih n h => ih (n + 1) (h.put n o)) l
noncomputable def mkH (l : List AObj) : HT := mkHA l 0 .nil
noncomputable def endsTrue (C : Ctx) (fn : Func) : Option YC → Bool
  | some (.ret, t, h, n, ws) => match yRet C fn t .nil 0 h n ws with
    | some (.val (.bool true), _, 0, _) => true
    | _ => false
  | _ => false
theorem yTrue_cut {C : Ctx} {yi : YIntr} {fuel k f : Nat} {fn : Func} {c : Code} {t0 t1 : BT} {h1 : HT} {n1 : Nat} {ws1 : List Nat} (j : Nat) (hi : yi f = none) (hf : C.P.funcs[f]? = some fn) (hb : fn.body = some c)
    (ht : BT.args [] 0 (BT.mk (Nat.log2 fn.ntmps + 1)) = some t0) (e1 : yCode (yCall C yi fuel k) C fuel 0 (preC j c) t0 .nil 0 [] = some (.normal, t1, h1, n1, ws1))
    (e2 : endsTrue C fn (yCode (yCall C yi fuel k) C fuel 0 (postC j c) t1 h1 n1 ws1) = true) : yTrue C yi fuel (k + 1) f = true := by
  cases hr : yCode (yCall C yi fuel k) C fuel 0 (postC j c) t1 h1 n1 ws1 with
  | none => rw [hr] at e2; simp [endsTrue] at e2
  | some r =>
    have hc := yCode_cut j c t0 .nil 0 [] t1 h1 n1 ws1 e1 hr
    rw [hr] at e2
    obtain ⟨e, t, h, n, ws⟩ := r
    cases e <;> first | (simp [endsTrue] at e2; done) | skip
    simp only [endsTrue] at e2
    have hl : Nat.ble (List.length ([] : List AV)) fn.ntmps = true := Nat.ble_eq_true_of_le (Nat.zero_le _)
    unfold yTrue yCall
    simp only [hi, hf, hb, hl, ht, hc]
    exact e2
end Go.Abs
