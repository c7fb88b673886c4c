/- The law's own functions. -/
import Derived.Test.YteillgpoonhdjaaPsD
set_option maxRecDepth 100000
set_option linter.unusedSimpArgs false
namespace Go.Abs
open Go.Proofs

def st0 : St := ⟨[], 0, -1, -1, false⟩
theorem st0_ok : st0.ok := ⟨by simp [st0], by simp [st0], by simp [st0], by simp [st0], by simp [st0]⟩
theorem at_new (M : Mem) : At (M ++ [.cells [.val (.slice none 0 0), I 0, I (-1), I (-1), B false]]) M.length (.val (.slice none 0 0)) st0 := ⟨by simp [St.cells, st0], .inl ⟨rfl, rfl⟩⟩

theorem mAppend_ok {s : St} (h : s.ok) (x : ByteArray) : (mAppend s x).2.ok := by
  obtain ⟨a, b, c, d, e⟩ := h
  unfold mAppend
  split
  · exact ⟨a, b, c, d, e⟩
  split
  · exact ⟨a, b, c, d, e⟩
  split
  · exact ⟨a, b, c, d, e⟩
  split
  · exact ⟨a, b, c, d, e⟩
  · rename_i h1 h2 h3
    refine ⟨by simp; omega, b, by simp [St.burn]; omega, ?_, ?_⟩ <;> simp only [St.burn] <;> split <;> omega
theorem mSet_ok {s : St} (h : s.ok) (n : Int) : (mSet s n).2.ok := by
  obtain ⟨a, b, c, d, e⟩ := h
  unfold mSet
  split
  · exact ⟨a, b, c, d, e⟩
  split
  · exact ⟨a, b, c, d, e⟩
  split
  · exact ⟨a, b, c, d, e⟩
  · refine ⟨a, by simp, by simp [St.burn], ?_, ?_⟩ <;> simp only [St.burn] <;> split <;> omega
theorem mCrash_ok {s : St} (h : s.ok) (n : Int) : (mCrash s n).ok := by
  obtain ⟨a, b, c, d, e⟩ := h
  refine ⟨?_, by simp [mCrash], by simp [mCrash], by simp [mCrash], by simp [mCrash]⟩
  simp only [mCrash, List.length_take]; omega
theorem mFail_ok {s : St} (h : s.ok) (n : Int) (hn : n ≤ 9223372036854775807) : (mFail s n).ok := by
  obtain ⟨a, b, c, d, e⟩ := h
  exact ⟨a, b, c, by simp only [mFail]; omega, by simp only [mFail]; omega⟩

theorem mSet_pages (s : St) (n : Int) : (mSet s n).2.pages = s.pages := by
  unfold mSet
  split
  · rfl
  split
  · rfl
  split <;> rfl
theorem At.root {M : Mem} {b : Nat} {pv : AV} {s : St} (h : At M b pv s) (n : Int) : At (M.set b (.cells ((mSet s n).2.cells pv))) b pv (mSet s n).2 := by
  obtain ⟨hb, hp⟩ := h
  have hlt := getElem?_lt hb
  refine ⟨by rw [List.getElem?_set_self hlt], ?_⟩
  rw [mSet_pages]
  obtain ⟨pages, lasting, root, fuse, down⟩ := s
  exact Pg.set M b pv lasting root fuse down pages hb hp _
theorem At.fail {M : Mem} {b : Nat} {pv : AV} {s : St} (h : At M b pv s) (n : Int) : At (M.set b (.cells ((mFail s n).cells pv))) b pv (mFail s n) := by
  obtain ⟨hb, hp⟩ := h
  have hlt := getElem?_lt hb
  refine ⟨by rw [List.getElem?_set_self hlt], ?_⟩
  obtain ⟨pages, lasting, root, fuse, down⟩ := s
  exact Pg.set M b pv lasting root fuse down pages hb hp _

section
variable (M : Mem)
theorem awake_ok : ACalls PC 8 [] M (fun v _ => v = B true) := by
  refine w_body hintB Try.func8 rfl rfl rfl rfl rfl rfl ?_
  simp (dsimp := false) (implicitDefEqProofs := false) []
  refine w_calls (C := PC) Try.call9 (new_ok M) ?_
  rintro _ _ ⟨rfl, rfl⟩
  simp (dsimp := false) (implicitDefEqProofs := false) []
  refine w_calls (C := PC) Try.call12 (append_ok _ _ _ ⟨#[97]⟩ _ st0_ok (at_new M)) ?_
  rintro _ M1 ⟨pv1, rfl, a1, -⟩
  have e1 : mAppend st0 ⟨#[97]⟩ = ((0, 0), ⟨[⟨#[97]⟩], 0, -1, -1, false⟩) := by simp [mAppend, st0, St.burn, ByteArray.size]
  rw [e1] at a1
  simp (dsimp := false) (implicitDefEqProofs := false) [e1]
  have ok1 : St.ok ⟨[⟨#[97]⟩], 0, -1, -1, false⟩ := ⟨by simp, by simp, by simp, by simp, by simp⟩
  refine w_calls (C := PC) Try.call11 (setroot_ok _ _ _ 0 _ ok1 a1) ?_
  rintro _ _ ⟨rfl, rfl⟩
  have a2 := a1.root 0
  have e2 : mSet ⟨[⟨#[97]⟩], 0, -1, -1, false⟩ 0 = (0, ⟨[⟨#[97]⟩], 1, 0, -1, false⟩) := by simp [mSet, St.burn]
  rw [e2] at a2
  simp (dsimp := false) (implicitDefEqProofs := false) [e2]
  have ok2 : St.ok ⟨[⟨#[97]⟩], 1, 0, -1, false⟩ := ⟨by simp, by simp, by simp, by simp, by simp⟩
  refine w_calls (C := PC) Try.call12 (append_ok _ _ _ ⟨#[98]⟩ _ ok2 a2) ?_
  rintro _ M3 ⟨pv3, rfl, a3, -⟩
  have e3 : mAppend ⟨[⟨#[97]⟩], 1, 0, -1, false⟩ ⟨#[98]⟩ = ((1, 0), ⟨[⟨#[97]⟩, ⟨#[98]⟩], 1, 0, -1, false⟩) := by simp [mAppend, St.burn, ByteArray.size]
  rw [e3] at a3
  simp (dsimp := false) (implicitDefEqProofs := false) [e3]
  have ok3 : St.ok ⟨[⟨#[97]⟩, ⟨#[98]⟩], 1, 0, -1, false⟩ := ⟨by simp, by simp, by simp, by simp, by simp⟩
  refine w_calls (C := PC) Try.call14 (crash_ok _ _ _ 0 _ ok3 a3) ?_
  rintro _ M4 ⟨pv4, rfl, a4, -⟩
  have e4 : mCrash ⟨[⟨#[97]⟩, ⟨#[98]⟩], 1, 0, -1, false⟩ 0 = ⟨[⟨#[97]⟩], 1, 0, -1, false⟩ := by simp [mCrash]; exact ⟨rfl, rfl⟩
  rw [e4] at a4
  simp (dsimp := false) (implicitDefEqProofs := false) []
  refine w_calls (C := PC) Try.call21 (root_ok _ _ _ _ _ _ _ a4.1) ?_
  rintro _ _ ⟨rfl, rfl⟩
  simp (dsimp := false) (implicitDefEqProofs := false) []
  refine w_calls (C := PC) Try.call19 (len_ok _ _ _ _ _ _ _ _ a4.1 a4.2) ?_
  rintro _ _ ⟨rfl, rfl⟩
  simp (dsimp := false) (implicitDefEqProofs := false) []
end
end Go.Abs
