/-
  Plain laws of filters without an end, and of those with other limits and orders.
-/
import Derived.Test.YtmoflbpglkeikaaFilterL
namespace Go.Proofs.Ytmoflbpglkeikaa
set_option linter.unusedVariables false
set_option linter.unusedSimpArgs false
open Go.RowKit

theorem u32_x4 (f : Int) (h0 : 0 ≤ f) (h1 : f < 8) : bits .xor .u32 f 4 = (if f < 4 then f + 4 else f - 4) := by
  obtain rfl | rfl | rfl | rfl | rfl | rfl | rfl | rfl : f = 0 ∨ f = 1 ∨ f = 2 ∨ f = 3 ∨ f = 4 ∨ f = 5 ∨ f = 6 ∨ f = 7 := by omega
  all_goals decide
theorem right_end (a b c e f : Int) (hc : 0 ≤ c ∧ c < 18446744073709551616) : rightB a b c 18446744073709551614 e f = rightB a b c 0 e f := by
  unfold rightB
  cases wr1 a b
  case true => simp
  cases wr2 f
  case true => simp
  cases wr3 e
  case true => simp
  unfold wr4 wr5
  rw [Bool.eq_iff_iff]
  simp
  omega
theorem winT_end (x : Bool) : winT x 18446744073709551614 = winT x 0 := by cases x <;> rfl
theorem takes_end (x : Bool) (c f s g : Int) : takesB x c 18446744073709551614 f s g = takesB x c 0 f s g := by unfold takesB; rw [winT_end]
theorem flags_right {a b c d e f : Int} (h0 : 0 ≤ f) (h1 : f < 4294967296) (h : rightB a b c d e f = true) : f < 8 ∧ f % 4 ≠ 0 := by
  unfold rightB wr2 at h
  rw [u32_3 f h0 h1] at h
  simp at h
  omega
theorem right_other {a b c e f l : Int} (h0 : 0 ≤ f) (h1 : f < 4294967296) (hl : 0 ≤ l ∧ l < 4294967296) (h : rightB a b c 0 e f = true) : rightB a b c 0 (1 + l / 2) (bits .xor .u32 f 4) = true := by
  obtain ⟨h8, h4⟩ := flags_right h0 h1 h
  rw [u32_x4 f h0 h8]
  unfold rightB at h ⊢
  have e3 : wr3 (1 + l / 2) = false := by unfold wr3; simp; omega
  have e2 : wr2 (if f < 4 then f + 4 else f - 4) = false := by
    unfold wr2
    split
    · rw [u32_3 _ (by omega) (by omega)]; simp; omega
    · rw [u32_3 _ (by omega) (by omega)]; simp; omega
  rw [e3, e2]
  simp at h ⊢
  simp [h]
theorem takes_other {a b c e f s g : Int} (h0 : 0 ≤ f) (h1 : f < 4294967296) (h : rightB a b c 0 e f = true) : takesB true c 0 (bits .xor .u32 f 4) s g = takesB true c 0 f s g := by
  obtain ⟨h8, h4⟩ := flags_right h0 h1 h
  rw [u32_x4 f h0 h8]
  by_cases e1 : g = 1
  · subst e1
    unfold takesB
    rw [u32_1 f h0 h1]
    split
    · rw [u32_1 _ (by omega) (by omega), show (f + 4) % 2 = f % 2 from by omega]
    · rw [u32_1 _ (by omega) (by omega), show (f - 4) % 2 = f % 2 from by omega]
  · by_cases e2 : g = 2
    · subst e2
      unfold takesB
      rw [u32_2 f h0 h1]
      split
      · rw [u32_2 _ (by omega) (by omega), show (f + 4) / 2 % 2 = f / 2 % 2 from by omega]
      · rw [u32_2 _ (by omega) (by omega), show (f - 4) / 2 % 2 = f / 2 % 2 from by omega]
    · have e1 : (g == 1) = false := by simpa using e1
      have e2 : (g == 2) = false := by simpa using e2
      unfold takesB
      simp [e1, e2]
theorem down_other {a b c e f : Int} (h0 : 0 ≤ f) (h1 : f < 4294967296) (h : rightB a b c 0 e f = true) : downB true (bits .xor .u32 f 4) = !downB true f := by
  obtain ⟨h8, h4⟩ := flags_right h0 h1 h
  obtain rfl | rfl | rfl | rfl | rfl | rfl | rfl | rfl : f = 0 ∨ f = 1 ∨ f = 2 ∨ f = 3 ∨ f = 4 ∨ f = 5 ∨ f = 6 ∨ f = 7 := by omega
  all_goals decide
end Go.Proofs.Ytmoflbpglkeikaa
