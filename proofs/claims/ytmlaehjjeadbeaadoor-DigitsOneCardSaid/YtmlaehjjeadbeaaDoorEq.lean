/-
  '==' and '!=' between two numbers of 128 bits.
-/
import Derived.Test.YtmlaehjjeadbeaaDoorTail
namespace Go.Proofs.YtmlaehjjeadbeaaDoor
set_option linter.unusedVariables false
set_option linter.unusedSimpArgs false
open Go.RowKit

theorem eql128 (a b c d : Int) (w : World) : (binOp .eql 24 (.agg #[.int .u64 a, .int .u64 b]) (.agg #[.int .u64 c, .int .u64 d])).run Tryd.prog w = .ok (.bool (a == c && b == d)) w := by
  go_simp
  by_cases h : a = c <;> by_cases h' : b = d <;> simp [h, h']
theorem neq128 (a b c d : Int) (w : World) : (binOp .neq 24 (.agg #[.int .u64 a, .int .u64 b]) (.agg #[.int .u64 c, .int .u64 d])).run Tryd.prog w = .ok (.bool (!(a == c && b == d))) w := by
  go_simp
  by_cases h : a = c <;> by_cases h' : b = d <;> simp [h, h']
attribute [go_sem ↓] eql128 neq128

end Go.Proofs.YtmlaehjjeadbeaaDoor
