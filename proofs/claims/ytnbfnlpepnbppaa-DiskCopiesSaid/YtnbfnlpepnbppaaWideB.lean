/-
  The sixteen digits of a number of 128 bits.
-/
import Derived.Test.YtnbfnlpepnbppaaRef1N
import Derived.Test.YtnbfnlpepnbppaaRow
namespace Go.Proofs.Ytnbfnlpepnbppaa
set_option linter.unusedVariables false
set_option linter.unusedSimpArgs false
open Go.RowKit

/-- digit j of the number h, l -/
def dgt (h l : Int) (j : Nat) : Int := if j < 8 then h / 256 ^ (7 - j) % 256 else l / 256 ^ (15 - j) % 256
theorem dgt_lo (h l : Int) (j : Nat) : 0 ≤ dgt h l j ∧ dgt h l j < 256 := by unfold dgt; split <;> omega
theorem dgt_hi (h l : Int) (m : Nat) (hm : m < 8) : dgt h l m = h / 256 ^ (7 - m) % 256 := by simp [dgt, hm]
theorem dgt_low (h l : Int) (m : Nat) (hm : m < 8) : dgt h l (8 + m) = l / 256 ^ (7 - m) % 256 := by
  unfold dgt; rw [if_neg (by omega), show 15 - (8 + m) = 7 - m from by omega]
theorem div_step (h : Int) (n : Nat) : h / 256 ^ n / 256 = h / 256 ^ (n + 1) := by
  rw [Int.pow_succ, Int.ediv_ediv_of_nonneg (by have := Int.pow_pos (n := 256) (m := n) (by omega); omega)]
theorem div_u {h : Int} (hh : Wd h) (n : Nat) : 0 ≤ h / 256 ^ n ∧ h / 256 ^ n < 18446744073709551616 := by
  have hp := Int.pow_pos (n := 256) (m := n) (by omega)
  have h1 := Int.ediv_nonneg hh.1 (Int.le_of_lt hp)
  have h2 := Int.ediv_le_self (256 ^ n) hh.1
  have := hh.2
  omega

end Go.Proofs.Ytnbfnlpepnbppaa
