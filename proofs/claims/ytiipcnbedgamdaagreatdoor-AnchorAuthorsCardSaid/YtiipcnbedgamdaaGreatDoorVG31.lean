/- The laid variables as the walk's globals. -/
import Derived.Test.YtiipcnbedgamdaaGreatDoorVG17
set_option maxRecDepth 100000
namespace Go.Abs

theorem mapM_mono {α β : Type} {f g : α → Option β} (h : ∀ a b, f a = some b → g a = some b) : ∀ {l : List α} {r : List β}, l.mapM f = some r → l.mapM g = some r
  | [], r, hr => by simpa using hr
  | a :: l, r, hr => by
    simp only [List.mapM_cons, Option.bind_eq_bind, Option.bind_eq_some_iff] at hr ⊢
    obtain ⟨b, hb, r', hr', e⟩ := hr
    exact ⟨b, h a b hb, r', mapM_mono h hr', e⟩
theorem avsOf_mono {H : Type} {E : ShEnv} : ∀ (n : Nat) (sh : Sh) (d : DataW H) (a : List AV), avsOf E n sh d = some a → avsOf E (n + 1) sh d = some a
  | 0, sh, d, a, h => by simp [avsOf] at h
  | n + 1, sh, d, a, h => by
    unfold avsOf at h
    split at h <;> try (first | (simp at h; done) | skip)
    all_goals first
      | (obtain rfl : n = _ := Nat.succ.inj ‹n + 1 = Nat.succ _›)
      | skip
    case h_2 => simpa [avsOf] using h
    case h_3 => rw [avsOf]; exact h
    case h_4 => simpa [avsOf] using h
    case h_5 => simpa [avsOf] using h
    case h_6 =>
      simp only [Option.map_eq_some_iff] at h
      obtain ⟨rows, hr, rfl⟩ := h
      rw [avsOf]
      rw [mapM_mono (fun d a => avsOf_mono _ _ d a) hr]; rfl
    case h_7 => simpa [avsOf] using h
    case h_8 =>
      split at h
      case h_2 => simp at h
      rename_i a1 b1 h1 h2
      rw [avsOf, avsOf_mono _ _ _ _ h1, avsOf_mono _ _ _ _ h2]; exact h
    case h_9 => rw [avsOf]; exact avsOf_mono _ _ _ _ h
theorem avsOf_le {H : Type} {E : ShEnv} {n : Nat} {sh : Sh} {d : DataW H} {a : List AV} (h : avsOf E n sh d = some a) : ∀ k, avsOf E (n + k) sh d = some a
  | 0 => h
  | k + 1 => avsOf_mono _ _ _ _ (avsOf_le h k)
end Go.Abs
