/-
  The number of sixteen digits: the document's, walked.
-/
import Derived.Test.YtnbfnlpepnbppaaBase
namespace Go.Proofs.Ytnbfnlpepnbppaa
set_option linter.unusedVariables false
set_option linter.unusedSimpArgs false
open Go.RowKit

/-- the number of k digits of 256 from place s on -/
def num (d : Nat → Int) (s : Nat) : Nat → Int
  | 0 => 0
  | k + 1 => num d s k * 256 + d (s + k)
theorem num_lo (d : Nat → Int) (s : Nat) (hd : ∀ i, 0 ≤ d i ∧ d i < 256) : ∀ k, 0 ≤ num d s k
  | 0 => by simp [num]
  | k + 1 => by have := num_lo d s hd k; have := hd (s + k); simp only [num]; omega
theorem num_hi (d : Nat → Int) (s : Nat) (hd : ∀ i, 0 ≤ d i ∧ d i < 256) : ∀ k, num d s k < 256 ^ k
  | 0 => by simp [num]
  | k + 1 => by have := num_hi d s hd k; have := hd (s + k); simp only [num, Int.pow_succ]; omega
theorem num_lt (d : Nat → Int) (s : Nat) (hd : ∀ i, 0 ≤ d i ∧ d i < 256) (k : Nat) (hk : k < 8) : 0 ≤ num d s k ∧ num d s k < 72057594037927936 := by
  refine ⟨num_lo d s hd k, Int.lt_of_lt_of_le (num_hi d s hd k) ?_⟩
  match k, hk with
  | 0, _ | 1, _ | 2, _ | 3, _ | 4, _ | 5, _ | 6, _ | 7, _ => decide



end Go.Proofs.Ytnbfnlpepnbppaa
