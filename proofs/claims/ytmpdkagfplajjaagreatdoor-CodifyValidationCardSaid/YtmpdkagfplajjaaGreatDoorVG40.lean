/- The texts K24, K23: what each proves stands at its head. -/
import Derived.Test.YtmpdkagfplajjaaGreatDoorVG37
import Derived.Test.YtmpdkagfplajjaaGreatDoorVG12
import Derived.Test.YtmpdkagfplajjaaGreatDoorVG38
import Derived.Test.YtmpdkagfplajjaaGreatDoorVG39
section
set_option maxRecDepth 1000000
open Go Go.Abs Go.Proofs K1
namespace K1
theorem okAll : Tryz.prog.funcs.toList.all okFunc = true := by kernel_rfl
end K1
end
section
set_option maxRecDepth 1000000
open Go Go.Abs Go.Proofs K1
namespace K1
theorem okEach (f : Nat) (fn : Func) (h : Tryz.prog.funcs[f]? = some fn) : okFunc fn = true := by
  have hm : fn ∈ Tryz.prog.funcs.toList := by
    obtain ⟨h1, h2⟩ := Array.getElem?_eq_some_iff.1 h
    rw [← h2]; simp
  exact List.all_eq_true.1 okAll fn hm
theorem xs_eq : (fun (args : List AV) (M : Mem) => match ySame args (fun i => M[i]?) with | some v => some (v, M, ([] : List Nat)) | none => none) = xSame := by
  funext args M
  rcases args with _ | ⟨a, _ | ⟨b, t⟩⟩ <;> rfl
theorem xi_eq : (fun (args : List AV) (M : Mem) => match yIndexByte args (fun i => M[i]?) with | some v => some (v, M, ([] : List Nat)) | none => none) = xIndexByte := by
  funext args M
  rcases args with _ | ⟨a, _ | ⟨b, _ | ⟨c, t⟩⟩⟩
  · rfl
  · cases a <;> first | rfl | (rename_i v; cases v <;> rfl)
  · cases a <;> first | rfl | (rename_i v; cases v <;> first | rfl | (cases b <;> first | rfl | (rename_i u; cases u <;> first | rfl | (rename_i k n; cases k <;> rfl))))
  · cases a <;> first | rfl | (rename_i v; cases v <;> first | rfl | (cases b <;> first | rfl | (rename_i u; cases u <;> first | rfl | (rename_i k n; cases k <;> rfl))))
theorem intr0 : IntrOK C0 (intrOf Y0) := by
  intro f g h
  unfold intrOf Y0 at h
  cases h1 : Nat.beq f 170
  · rw [h1] at h
    cases h2 : Nat.beq f 344
    · rw [h2] at h; simp at h
    · rw [h2] at h
      have e := Nat.eq_of_beq_eq_true h2
      subst e
      simp only [Option.some.injEq] at h
      rw [← h]
      have := xIndexByte_ok (C := C0) Tryz.func344 rfl rfl (by kernel_rfl) (by kernel_rfl)
      exact xi_eq ▸ this
  · rw [h1] at h
    have e := Nat.eq_of_beq_eq_true h1
    subst e
    simp only [Option.some.injEq] at h
    rw [← h]
    have := xSame_ok (C := C0) Tryz.func170 rfl rfl (by kernel_rfl) (by kernel_rfl)
    exact xs_eq ▸ this
theorem awake46 : Invk C0 10 [] [] (fun r m => r = .val (.bool true) ∧ m = []) :=
  yTrue_calls (yi := Y0) (by kernel_rfl) intr0 okEach (yTrue_cut (t0 := t00) 6 rfl Tryz.func10 rfl (by kernel_rfl) part1 part2)
end K1
end
