/-
  Plain laws of filters: the program's answers are the document's.
-/
import Derived.Test.YtmoflbpglkeikaaFilterE
namespace Go.Proofs.Ytmoflbpglkeikaa
set_option linter.unusedVariables false
set_option linter.unusedSimpArgs false

theorem u32_3 (f : Int) (h0 : 0 ≤ f) (h1 : f < 4294967296) : bits .and .u32 f 3 = f % 4 := by
  rw [u32_and f 3 h0 h1 (by omega) (by omega), show (3 : Int).toNat = 3 from rfl, nat_mask2]; omega
theorem u32_1 (f : Int) (h0 : 0 ≤ f) (h1 : f < 4294967296) : bits .and .u32 f 1 = f % 2 := by
  rw [u32_and f 1 h0 h1 (by omega) (by omega), show (1 : Int).toNat = 1 from rfl, nat_mask1]; omega
theorem u32_2 (f : Int) (h0 : 0 ≤ f) (h1 : f < 4294967296) : bits .and .u32 f 2 = f / 2 % 2 * 2 := by
  rw [u32_and f 2 h0 h1 (by omega) (by omega), show (2 : Int).toNat = 2 ^ 1 from rfl, nat_bit]; omega
theorem u32_4 (f : Int) (h0 : 0 ≤ f) (h1 : f < 4294967296) : bits .and .u32 f 4 = f / 4 % 2 * 4 := by
  rw [u32_and f 4 h0 h1 (by omega) (by omega), show (4 : Int).toNat = 2 ^ 2 from rfl, nat_bit]; omega

theorem right_ref (a b c d e f : Int) (h0 : 0 ≤ f) (h1 : f < 4294967296) : rightB a b c d e f = refR a b c d e f := by
  unfold rightB refR
  cases wr1 a b
  case true => simp
  cases wr4 c d
  case true => simp
  cases wr3 e
  case true => simp
  unfold wr2 wr5
  rw [u32_3 f h0 h1, Bool.eq_iff_iff]
  simp
  omega

theorem takes_ref (x : Bool) (c d f s g : Int) (h0 : 0 ≤ f) (h1 : f < 4294967296) : takesB x c d f s g = reftB x c d f s g := by
  unfold takesB reftB
  cases x
  case false => simp
  generalize winF true c = F
  generalize winT true d = T
  by_cases e1 : g = 1
  · subst e1
    rw [u32_1 f h0 h1, Bool.eq_iff_iff]; simp; omega
  · by_cases e2 : g = 2
    · subst e2
      rw [u32_2 f h0 h1, Bool.eq_iff_iff]; simp; omega
    · have e1 : (g == 1) = false := by simpa using e1
      have e2 : (g == 2) = false := by simpa using e2
      simp [e1, e2]

theorem down_ref {a b c d e f : Int} (x : Bool) (hx : rightB a b c d e f = x) (h0 : 0 ≤ f) (h1 : f < 4294967296) : downB x f = (x && decide (4 ≤ f)) := by
  unfold downB
  cases x
  case false => simp
  unfold rightB wr2 at hx
  rw [u32_4 f h0 h1, Bool.eq_iff_iff]
  simp at hx
  simp
  omega
end Go.Proofs.Ytmoflbpglkeikaa
