/-
  '==' and '!=' between two numbers of 128 bits.
-/
import Derived.Test.YtmoflbpglkeikaaTail
namespace Go.Proofs.Ytmoflbpglkeikaa
set_option linter.unusedVariables false
set_option linter.unusedSimpArgs false
open Go.RowKit

theorem eql128 (a b c d : Int) (w : World) : (binOp .eql 24 (.agg #[.int .u64 a, .int .u64 b]) (.agg #[.int .u64 c, .int .u64 d])).run Try.prog w = .ok (.bool (a == c && b == d)) w := by
  go_simp
  by_cases h : a = c <;> by_cases h' : b = d <;> simp [h, h']
theorem neq128 (a b c d : Int) (w : World) : (binOp .neq 24 (.agg #[.int .u64 a, .int .u64 b]) (.agg #[.int .u64 c, .int .u64 d])).run Try.prog w = .ok (.bool (!(a == c && b == d))) w := by
  go_simp
  by_cases h : a = c <;> by_cases h' : b = d <;> simp [h, h']
attribute [go_sem ↓] eql128 neq128

theorem wtop_any (w : World) : Calls Try.prog 23 #[] w fun r w' =>
      r = .returned (.agg #[.int .u64 18446744073709551615, .int .u64 18446744073709551615]) ∧ Below w.heap.size w w' := by
  go_enter Try.func23, Try.ntmps23
  go_wp2
  refine bodyPost_ret (v := .agg #[.int .u64 18446744073709551615, .int .u64 18446744073709551615]) (by simp [results, Try.results23, go_sem]) rfl ⟨rfl, ?_⟩
  (repeat (first | exact Below.refl _ _ | assumption | refine below_drewN ?_ _ | refine bel_grow ?_ _ | refine Below.drew ?_ | refine bel_alloc ?_ _ | refine bel_set ?_ (by first | exact Nat.le_refl _ | (simp; done) | (simp; omega) | omega) _ | refine bel_trans ?_ (by assumption)))
end Go.Proofs.Ytmoflbpglkeikaa
