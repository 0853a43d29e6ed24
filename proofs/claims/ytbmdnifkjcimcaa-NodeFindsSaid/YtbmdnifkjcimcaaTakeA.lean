/-
  Numbers taken from bytes one by one: record.taker, walked.
-/
import Derived.Test.YtbmdnifkjcimcaaByS
import Derived.Test.YtbmdnifkjcimcaaWideM
namespace Go.Proofs.Ytbmdnifkjcimcaa
set_option linter.unusedVariables false
set_option linter.unusedSimpArgs false
open Go.RowKit

/-- bytes from the k-th on -/
def shf (e : Nat → Int) (k j : Nat) : Int := e (k + j)
theorem shf_lo {e : Nat → Int} (h : ∀ i, 0 ≤ e i ∧ e i < 256) (k i : Nat) : 0 ≤ shf e k i ∧ shf e k i < 256 := h _
theorem shf_shf (e : Nat → Int) (k m : Nat) : shf (shf e k) m = shf e (k + m) := by funext j; simp [shf, Nat.add_assoc]

theorem num_shf (e : Nat → Int) (s : Nat) : ∀ k, num (shf e s) 0 k = num e s k
  | 0 => rfl
  | k + 1 => by simp only [num]; rw [num_shf e s k]; simp [shf]
theorem num_shf' (e : Nat → Int) (s t : Nat) : ∀ k, num (shf e s) t k = num e (s + t) k
  | 0 => rfl
  | k + 1 => by simp only [num]; rw [num_shf' e s t k]; simp [shf, Nat.add_assoc]

end Go.Proofs.Ytbmdnifkjcimcaa
