/-
  Numbers taken from bytes: the contracts in the form that the walks ask.
-/
import Derived.Test.YtbmdnifkjcimcaaTakeB
namespace Go.Proofs.Ytbmdnifkjcimcaa
set_option linter.unusedVariables false
set_option linter.unusedSimpArgs false
open Go.RowKit

theorem num_two {e : Nat → Int} (he : ∀ i, 0 ≤ e i ∧ e i < 256) (s : Nat) : 0 ≤ num e s 2 ∧ num e s 2 < 65536 := by
  have := he (s + 0); have := he (s + 1); simp only [num]; omega
theorem num_four {e : Nat → Int} (he : ∀ i, 0 ≤ e i ∧ e i < 256) (s : Nat) : 0 ≤ num e s 4 ∧ num e s 4 < 4294967296 := by
  have := he (s + 0); have := he (s + 1); have := he (s + 2); have := he (s + 3); simp only [num]; omega
theorem num_eight {e : Nat → Int} (he : ∀ i, 0 ≤ e i ∧ e i < 256) (s : Nat) : 0 ≤ num e s 8 ∧ num e s 8 < 18446744073709551616 := by
  have := he (s + 0); have := he (s + 1); have := he (s + 2); have := he (s + 3); have := he (s + 4); have := he (s + 5); have := he (s + 6); have := he (s + 7); simp only [num]; omega

theorem slis_shf0 {W : World} {A : Option Addr} {m : Nat} {e : Nat → Int} (h : SlIs W A m (yV e)) : SlIs W A m (yV (shf e 0)) := by
  have : shf e 0 = e := by funext j; simp [shf]
  rw [this]; exact h
end Go.Proofs.Ytbmdnifkjcimcaa
