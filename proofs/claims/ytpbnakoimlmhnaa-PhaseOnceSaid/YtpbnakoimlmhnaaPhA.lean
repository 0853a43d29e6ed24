/-
  phase.names, walked.
-/
import Derived.Test.YtpbnakoimlmhnaaRowC
import Derived.Test.YtpbnakoimlmhnaaEq
namespace Go.Proofs.Ytpbnakoimlmhnaa
set_option linter.unusedVariables false
set_option linter.unusedSimpArgs false
open Go.RowKit

def namesV (b1 b2 b3 b4 : Bool) : Int := if b1 then 44 else if b2 then 45 else if b3 then 46 else if b4 then 25 else 0
set_option maxRecDepth 8000 in
set_option maxHeartbeats 4000000 in
theorem names_any (xi1 xi2 xd1 xd2 xc1 xc2 xm1 xm2 xw1 xw2 xtg xto xlg xcd xfl xst : Int) (b1 b2 b3 b4 : Bool) (hb1 : (xw1 == 0 && xw2 == 0) = b1) (hb2 : (xw1 == 18446744073709551615 && xw2 == 18446744073709551615) = b2) (hb3 : (xw1 == xi1 && xw2 == xi2) = b3) (hb4 : (xto != 0) = b4) (w : World) : Calls Try.prog 68 #[.agg #[.int .u64 xi1, .int .u64 xi2, .int .u64 xd1, .int .u64 xd2, .int .u64 xc1, .int .u64 xc2, .int .u64 xm1, .int .u64 xm2, .int .u64 xw1, .int .u64 xw2, .int .u64 xtg, .int .u32 xto, .int .u32 xlg, .int .u16 xcd, .int .u16 xfl, .int .u64 xst]] w fun r w' => r = .returned (.int .u32 (namesV b1 b2 b3 b4)) ∧ Below w.heap.size w w' := by
  cases b1
  case true =>
    clear hb2 hb3 hb4
    go_enter Try.func68, Try.ntmps68
    go_wp2_with fail
    go_ret
    exact ⟨rfl, by (repeat (first | exact Below.refl _ _ | assumption | refine below_drewN ?_ _ | refine bel_grow ?_ _ | refine Below.drew ?_ | refine bel_alloc ?_ _ | refine bel_set ?_ (by first | exact Nat.le_refl _ | (simp; done) | (simp; omega) | omega) _ | refine bel_trans ?_ (by assumption)))⟩
  case false =>
    cases b2
    case true =>
      clear hb3 hb4
      go_enter Try.func68, Try.ntmps68
      go_wp2_with fail
      first | (with_reducible refine rgrow2 (by kernel_rfl) (by kernel_rfl) ?_) | (refine rgrow (by kernel_rfl) (by kernel_rfl) ?_)
      repeat (go_big_quiet_step (((first | (go_at_call 65; exact grow_call (wtop_any _))))))
      refine wpQuiet_nil ?_
      intro dr
      go_wp2_with fail
      go_ret
      exact ⟨rfl, by (repeat (first | exact Below.refl _ _ | assumption | refine below_drewN ?_ _ | refine bel_grow ?_ _ | refine Below.drew ?_ | refine bel_alloc ?_ _ | refine bel_set ?_ (by first | exact Nat.le_refl _ | (simp; done) | (simp; omega) | omega) _ | refine bel_trans ?_ (by assumption)))⟩
    case false =>
      cases b3
      case true =>
        clear hb4
        go_enter Try.func68, Try.ntmps68
        go_wp2_with fail
        first | (with_reducible refine rgrow2 (by kernel_rfl) (by kernel_rfl) ?_) | (refine rgrow (by kernel_rfl) (by kernel_rfl) ?_)
        repeat (go_big_quiet_step (((first | (go_at_call 65; exact grow_call (wtop_any _))))))
        refine wpQuiet_nil ?_
        intro dr
        go_wp2_with fail
        go_ret
        exact ⟨rfl, by (repeat (first | exact Below.refl _ _ | assumption | refine below_drewN ?_ _ | refine bel_grow ?_ _ | refine Below.drew ?_ | refine bel_alloc ?_ _ | refine bel_set ?_ (by first | exact Nat.le_refl _ | (simp; done) | (simp; omega) | omega) _ | refine bel_trans ?_ (by assumption)))⟩
      case false =>
        cases b4
        all_goals (
          go_enter Try.func68, Try.ntmps68
          go_wp2_with fail
          first | (with_reducible refine rgrow2 (by kernel_rfl) (by kernel_rfl) ?_) | (refine rgrow (by kernel_rfl) (by kernel_rfl) ?_)
          repeat (go_big_quiet_step (((first | (go_at_call 65; exact grow_call (wtop_any _))))))
          refine wpQuiet_nil ?_
          intro dr
          go_wp2_with fail
          go_ret
          exact ⟨rfl, by (repeat (first | exact Below.refl _ _ | assumption | refine below_drewN ?_ _ | refine bel_grow ?_ _ | refine Below.drew ?_ | refine bel_alloc ?_ _ | refine bel_set ?_ (by first | exact Nat.le_refl _ | (simp; done) | (simp; omega) | omega) _ | refine bel_trans ?_ (by assumption)))⟩)
end Go.Proofs.Ytpbnakoimlmhnaa
