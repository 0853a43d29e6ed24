/-
  posting.First, the document's, walked.
-/
import Derived.Test.YtpbnakoimlmhnaaBk
import Derived.Test.YtpbnakoimlmhnaaRef1
import Derived.Test.YtpbnakoimlmhnaaEq
import Derived.Deep.DeepCutAuto
namespace Go.Proofs.Ytpbnakoimlmhnaa
set_option linter.unusedVariables false
set_option linter.unusedSimpArgs false
open Go.RowKit

attribute [local go_sem] loadV_ptr storeV_ptr one_func drew_hs ext_deb ext_cre ext_cols ext_acc
attribute [local go_sem ↓] load_Cols store_Cols load_Transfer store_Transfer load_Parties store_Parties load_Acct store_Acct
def firstV (st f8 i0 iT : Bool) : Int := if st then 3 else if f8 then 4 else if i0 then 5 else if iT then 6 else 0
set_option maxRecDepth 8000 in
set_option maxHeartbeats 8000000 in
theorem first_of (xi1 xi2 xd1 xd2 xc1 xc2 xm1 xm2 xw1 xw2 xtg xto xlg xcd xfl xst : Int) (st f8 i0 iT : Bool) (hst : (xst != 0) = st) (hf8 : decide (255 < xfl) = f8) (hi0 : (xi1 == 0 && xi2 == 0) = i0) (hiT : (xi1 == 18446744073709551615 && xi2 == 18446744073709551615) = iT) (w : World) : Calls Try.prog 32 #[.agg #[.int .u64 xi1, .int .u64 xi2, .int .u64 xd1, .int .u64 xd2, .int .u64 xc1, .int .u64 xc2, .int .u64 xm1, .int .u64 xm2, .int .u64 xw1, .int .u64 xw2, .int .u64 xtg, .int .u32 xto, .int .u32 xlg, .int .u16 xcd, .int .u16 xfl, .int .u64 xst]] w fun r w' => r = .returned (.int .u32 (firstV st f8 i0 iT)) ∧ Below w.heap.size w w' := by
  cases st
  case true =>
    go_enter Try.func32, Try.ntmps32
    go_wp2_with fail
    go_ret
    exact ⟨rfl, by (repeat (first | exact Below.refl _ _ | assumption | refine below_drewN ?_ _ | refine bel_grow ?_ _ | refine Below.drew ?_ | refine bel_alloc ?_ _ | refine bel_set ?_ (by first | exact Nat.le_refl _ | (simp; done) | (simp; omega) | omega) _ | refine bel_trans ?_ (by assumption)))⟩
  case false =>
  cases f8
  case true =>
    go_enter Try.func32, Try.ntmps32
    go_wp2_with fail
    go_ret
    exact ⟨rfl, by (repeat (first | exact Below.refl _ _ | assumption | refine below_drewN ?_ _ | refine bel_grow ?_ _ | refine Below.drew ?_ | refine bel_alloc ?_ _ | refine bel_set ?_ (by first | exact Nat.le_refl _ | (simp; done) | (simp; omega) | omega) _ | refine bel_trans ?_ (by assumption)))⟩
  case false =>
  cases i0
  case true =>
    go_enter Try.func32, Try.ntmps32
    go_wp2_with fail
    go_ret
    exact ⟨rfl, by (repeat (first | exact Below.refl _ _ | assumption | refine below_drewN ?_ _ | refine bel_grow ?_ _ | refine Below.drew ?_ | refine bel_alloc ?_ _ | refine bel_set ?_ (by first | exact Nat.le_refl _ | (simp; done) | (simp; omega) | omega) _ | refine bel_trans ?_ (by assumption)))⟩
  case false =>
  cases iT
  case true =>
    go_enter Try.func32, Try.ntmps32
    go_wp2_with fail
    first | (with_reducible refine rgrow2 (by kernel_rfl) (by kernel_rfl) ?_) | (refine rgrow (by kernel_rfl) (by kernel_rfl) ?_)
    repeat (go_big_quiet_step (((first | (go_at_call 65; exact grow_call (wtop_any _))))))
    refine wpQuiet_nil ?_
    intro dr
    go_wp2_with fail
    go_ret
    exact ⟨rfl, by (repeat (first | exact Below.refl _ _ | assumption | refine below_drewN ?_ _ | refine bel_grow ?_ _ | refine Below.drew ?_ | refine bel_alloc ?_ _ | refine bel_set ?_ (by first | exact Nat.le_refl _ | (simp; done) | (simp; omega) | omega) _ | refine bel_trans ?_ (by assumption)))⟩
  case false =>
  go_enter Try.func32, Try.ntmps32
  go_wp2_with fail
  first | (with_reducible refine rgrow2 (by kernel_rfl) (by kernel_rfl) ?_) | (refine rgrow (by kernel_rfl) (by kernel_rfl) ?_)
  repeat (go_big_quiet_step (((first | (go_at_call 65; exact grow_call (wtop_any _))))))
  refine wpQuiet_nil ?_
  intro dr
  go_wp2_with fail
  go_ret
  exact ⟨rfl, by (repeat (first | exact Below.refl _ _ | assumption | refine below_drewN ?_ _ | refine bel_grow ?_ _ | refine Below.drew ?_ | refine bel_alloc ?_ _ | refine bel_set ?_ (by first | exact Nat.le_refl _ | (simp; done) | (simp; omega) | omega) _ | refine bel_trans ?_ (by assumption)))⟩
set_option maxRecDepth 8000 in
set_option maxHeartbeats 8000000 in
theorem reffirst_of (xi1 xi2 xd1 xd2 xc1 xc2 xm1 xm2 xw1 xw2 xtg xto xlg xcd xfl xst : Int) (st f8 i1 i2 iT : Bool) (hst : decide (0 < xst) = st) (hf8 : decide (256 ≤ xfl) = f8) (hi1 : (xi1 == 0) = i1) (hi2 : (xi2 == 0) = i2) (hiT : (xi1 == 18446744073709551615 && xi2 == 18446744073709551615) = iT) (w : World) : Calls Try.prog 33 #[.agg #[.int .u64 xi1, .int .u64 xi2, .int .u64 xd1, .int .u64 xd2, .int .u64 xc1, .int .u64 xc2, .int .u64 xm1, .int .u64 xm2, .int .u64 xw1, .int .u64 xw2, .int .u64 xtg, .int .u32 xto, .int .u32 xlg, .int .u16 xcd, .int .u16 xfl, .int .u64 xst]] w fun r w' => r = .returned (.int .i64 (firstV st f8 (i1 && i2) iT)) ∧ Below w.heap.size w w' := by
  cases st
  case true =>
    go_enter Try.func33, Try.ntmps33
    go_wp2_with fail
    go_ret
    exact ⟨by first | rfl | simp_all [firstV], by (repeat (first | exact Below.refl _ _ | assumption | refine below_drewN ?_ _ | refine bel_grow ?_ _ | refine Below.drew ?_ | refine bel_alloc ?_ _ | refine bel_set ?_ (by first | exact Nat.le_refl _ | (simp; done) | (simp; omega) | omega) _ | refine bel_trans ?_ (by assumption)))⟩
  case false =>
  cases f8
  case true =>
    go_enter Try.func33, Try.ntmps33
    go_wp2_with fail
    go_ret
    exact ⟨by first | rfl | simp_all [firstV], by (repeat (first | exact Below.refl _ _ | assumption | refine below_drewN ?_ _ | refine bel_grow ?_ _ | refine Below.drew ?_ | refine bel_alloc ?_ _ | refine bel_set ?_ (by first | exact Nat.le_refl _ | (simp; done) | (simp; omega) | omega) _ | refine bel_trans ?_ (by assumption)))⟩
  case false =>
  cases i1
  case true =>
    cases i2
    case true =>
      go_enter Try.func33, Try.ntmps33
      go_wp2_with fail
      go_ret
      exact ⟨by first | rfl | simp_all [firstV], by (repeat (first | exact Below.refl _ _ | assumption | refine below_drewN ?_ _ | refine bel_grow ?_ _ | refine Below.drew ?_ | refine bel_alloc ?_ _ | refine bel_set ?_ (by first | exact Nat.le_refl _ | (simp; done) | (simp; omega) | omega) _ | refine bel_trans ?_ (by assumption)))⟩
    case false =>
      cases iT
      all_goals (
        go_enter Try.func33, Try.ntmps33
        go_wp2_with fail
        first | (with_reducible refine rgrow2 (by kernel_rfl) (by kernel_rfl) ?_) | (refine rgrow (by kernel_rfl) (by kernel_rfl) ?_)
        repeat (go_big_quiet_step (((first | (go_at_call 66; exact grow_call (top_any _))))))
        refine wpQuiet_nil ?_
        intro dr
        go_wp2_with fail
        go_ret
        exact ⟨by first | rfl | simp_all [firstV], by (repeat (first | exact Below.refl _ _ | assumption | refine below_drewN ?_ _ | refine bel_grow ?_ _ | refine Below.drew ?_ | refine bel_alloc ?_ _ | refine bel_set ?_ (by first | exact Nat.le_refl _ | (simp; done) | (simp; omega) | omega) _ | refine bel_trans ?_ (by assumption)))⟩)
  case false =>
    clear hi2
    cases iT
    all_goals (
      go_enter Try.func33, Try.ntmps33
      go_wp2_with fail
      first | (with_reducible refine rgrow2 (by kernel_rfl) (by kernel_rfl) ?_) | (refine rgrow (by kernel_rfl) (by kernel_rfl) ?_)
      repeat (go_big_quiet_step (((first | (go_at_call 66; exact grow_call (top_any _))))))
      refine wpQuiet_nil ?_
      intro dr
      go_wp2_with fail
      go_ret
      exact ⟨by first | rfl | simp_all [firstV], by (repeat (first | exact Below.refl _ _ | assumption | refine below_drewN ?_ _ | refine bel_grow ?_ _ | refine Below.drew ?_ | refine bel_alloc ?_ _ | refine bel_set ?_ (by first | exact Nat.le_refl _ | (simp; done) | (simp; omega) | omega) _ | refine bel_trans ?_ (by assumption)))⟩)
end Go.Proofs.Ytpbnakoimlmhnaa
