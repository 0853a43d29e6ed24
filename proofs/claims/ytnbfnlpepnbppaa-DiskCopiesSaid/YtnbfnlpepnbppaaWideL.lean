/-
  The bytes of a number of 128 bits, walked.
-/
import Derived.Test.YtnbfnlpepnbppaaWideB
import Derived.Test.YtnbfnlpepnbppaaStr
namespace Go.Proofs.Ytnbfnlpepnbppaa
set_option linter.unusedVariables false
set_option linter.unusedSimpArgs false
open Go.RowKit


theorem sh_dg (h : Int) (k : Nat) (hk : k < 8) : h / 2 ^ (56 - 8 * k) % 256 = h / 256 ^ (7 - k) % 256 := by
  rw [show (256 : Int) ^ (7 - k) = 2 ^ (56 - 8 * k) from by rw [show (256 : Int) = 2 ^ 8 from rfl, ← Int.pow_mul]; congr 1; omega]

end Go.Proofs.Ytnbfnlpepnbppaa
