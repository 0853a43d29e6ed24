/-
  Numbers of 128 bits by their two words and by their digits; how two of them stand.
-/
import Derived.Test.YtnbfnlpepnbppaaWideB
import Derived.Test.YtnbfnlpepnbppaaNum
namespace Go.Proofs.Ytnbfnlpepnbppaa
set_option linter.unusedVariables false
set_option linter.unusedSimpArgs false
open Go.RowKit

/-- how two words stand -/
def cmpI (a b : Int) : Int := if a < b then -1 else if b < a then 1 else 0
/-- how two numbers stand -/
def cmpV (a b c d : Int) : Int := if cmpI a c != 0 then cmpI a c else cmpI b d
/-- the number of two words -/
def V (h l : Int) : Int := h * 18446744073709551616 + l
theorem V_lo {h l : Int} (hh : Wd h) (hl : Wd l) : 0 ≤ V h l ∧ V h l < pw 16 := by unfold V Wd at *; rw [pw_16]; omega
theorem V_div {h l : Int} (hl : Wd l) : V h l / 18446744073709551616 = h := by unfold V Wd at *; omega
theorem V_mod {h l : Int} (hl : Wd l) : V h l % 18446744073709551616 = l := by unfold V Wd at *; omega
theorem pw_add (a b : Nat) : pw (a + b) = pw a * pw b := Int.pow_add ..
theorem dgt_dg {h l : Int} (hl : Wd l) {j : Nat} (hj : j < 16) : dgt h l j = dg (V h l) j := by
  unfold dgt dg
  split
  · rw [show 15 - j = 8 + (7 - j) from by omega, pw_add, ← Int.ediv_ediv_of_nonneg (by rw [pw_8]; omega), pw_8, V_div hl]
    rfl
  · obtain ⟨e, rfl, he⟩ : ∃ e, j = 15 - e ∧ e < 8 := ⟨15 - j, by omega, by omega⟩
    rw [show 15 - (15 - e) = e from by omega]
    have h1 : V h l = l + h * pw (7 - e) * 256 * pw e := by
      unfold V
      rw [← pw_8, show 8 = (7 - e) + 1 + e from by omega, pw_add, pw_succ]
      simp only [Int.mul_assoc]
      omega
    rw [h1, Int.add_mul_ediv_right _ _ (by have := pw_pos e; omega)]
    show l / pw e % 256 = _
    omega



theorem V_of (S : Int) : V (S / 18446744073709551616) (S % 18446744073709551616) = S := by unfold V; omega
theorem Wd_of {S : Int} (h : 0 ≤ S ∧ S < pw 16) : Wd (S / 18446744073709551616) ∧ Wd (S % 18446744073709551616) := by rw [pw_16] at h; unfold Wd; omega

theorem cmpV_V {a b c d : Int} (hb : Wd b) (hd : Wd d) : cmpV a b c d = cmpI (V a b) (V c d) := by
  unfold cmpV cmpI V Wd at *
  by_cases h1 : a < c
  · rw [if_pos h1, if_pos (by decide), if_pos (by omega)]
  · by_cases h2 : c < a
    · rw [if_neg h1, if_pos h2, if_pos (by decide), if_neg (by omega), if_pos (by omega)]
    · rw [if_neg h1, if_neg h2, if_neg (by decide)]
      obtain rfl : a = c := by omega
      by_cases h3 : b < d
      · rw [if_pos h3, if_pos (by omega)]
      · by_cases h4 : d < b
        · rw [if_neg h3, if_pos h4, if_neg (by omega), if_pos (by omega)]
        · rw [if_neg h3, if_neg h4, if_neg (by omega), if_neg (by omega)]

theorem cmp_lt {a b c d : Int} (hb : Wd b) (hd : Wd d) : cmpV a b c d < 0 ↔ V a b < V c d := by
  rw [cmpV_V hb hd]
  unfold cmpI
  split
  · constructor
    · intro _; assumption
    · intro _; decide
  · split
    · constructor
      · intro h; exact absurd h (by decide)
      · intro h; omega
    · constructor
      · intro h; exact absurd h (by decide)
      · intro h; omega
end Go.Proofs.Ytnbfnlpepnbppaa
