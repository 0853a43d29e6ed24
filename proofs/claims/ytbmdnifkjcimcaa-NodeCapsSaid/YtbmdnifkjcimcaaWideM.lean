/-
  The number of sixteen bytes, walked.
-/
import Derived.Test.YtbmdnifkjcimcaaWideL
namespace Go.Proofs.Ytbmdnifkjcimcaa
set_option linter.unusedVariables false
set_option linter.unusedSimpArgs false
open Go.RowKit

theorem or_byte {x y : Int} (hx : 0 ≤ x ∧ x < 72057594037927936) (hy : 0 ≤ y ∧ y < 256) : bits .or .u64 (x * 256) y = x * 256 + y := by
  obtain ⟨x, rfl⟩ := Int.eq_ofNat_of_zero_le hx.1
  obtain ⟨y, rfl⟩ := Int.eq_ofNat_of_zero_le hy.1
  have e : ((x : Int) * 256) = ((x * 256 : Nat) : Int) := by omega
  rw [e, u64_or_nat _ _ (by omega) (by omega)]
  have h := Nat.shiftLeft_add_eq_or_of_lt (a := x) (b := y) (i := 8) (by omega)
  rw [Nat.shiftLeft_eq] at h
  rw [show x * 256 ||| y = x * 256 + y from h.symm]
  omega




end Go.Proofs.Ytbmdnifkjcimcaa
