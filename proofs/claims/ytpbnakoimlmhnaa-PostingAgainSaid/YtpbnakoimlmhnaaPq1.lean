/-
  posting.either, walked.
-/
import Derived.Test.YtpbnakoimlmhnaaBk
import Derived.Test.YtpbnakoimlmhnaaEq
import Derived.Deep.DeepCutAuto
namespace Go.Proofs.Ytpbnakoimlmhnaa
set_option linter.unusedVariables false
set_option linter.unusedSimpArgs false
open Go.RowKit

attribute [local go_sem] loadV_ptr storeV_ptr one_func drew_hs ext_deb ext_cre ext_cols ext_acc
attribute [local go_sem ↓] load_Cols store_Cols load_Transfer store_Transfer load_Parties store_Parties load_Acct store_Acct
def eiV (f z : Bool) (a c : Int) : Int := if f && z then c else a
set_option maxRecDepth 8000 in
set_option maxHeartbeats 8000000 in
theorem eitherW_of (xi1 xi2 xd1 xd2 xc1 xc2 xm1 xm2 xw1 xw2 xtg xto xlg xcd xfl xst a1 a2 c1 c2 : Int) (f z : Bool) (hf : (bits .and .u16 xfl 12 != 0) = f) (hz : (a1 == 0 && a2 == 0) = z) (w : World) : Calls Try.prog 62 #[.agg #[.int .u64 xi1, .int .u64 xi2, .int .u64 xd1, .int .u64 xd2, .int .u64 xc1, .int .u64 xc2, .int .u64 xm1, .int .u64 xm2, .int .u64 xw1, .int .u64 xw2, .int .u64 xtg, .int .u32 xto, .int .u32 xlg, .int .u16 xcd, .int .u16 xfl, .int .u64 xst], .agg #[.int .u64 a1, .int .u64 a2], .agg #[.int .u64 c1, .int .u64 c2]] w fun r w' => r = .returned (.agg #[.int .u64 (eiV f z a1 c1), .int .u64 (eiV f z a2 c2)]) ∧ Below w.heap.size w w' := by
  cases f
  case false =>
    clear hz
    go_enter Try.func62, Try.ntmps62
    go_wp2_with fail
    refine bodyPost_ret (v := .agg #[.int .u64 a1, .int .u64 a2]) (by simp [results, Try.results62, go_sem]) rfl ⟨rfl, ?_⟩
    (repeat (first | exact Below.refl _ _ | assumption | refine below_drewN ?_ _ | refine bel_grow ?_ _ | refine Below.drew ?_ | refine bel_alloc ?_ _ | refine bel_set ?_ (by first | exact Nat.le_refl _ | (simp; done) | (simp; omega) | omega) _ | refine bel_trans ?_ (by assumption)))
  case true =>
    cases z
    case false =>
      go_enter Try.func62, Try.ntmps62
      go_wp2_with fail
      refine bodyPost_ret (v := .agg #[.int .u64 a1, .int .u64 a2]) (by simp [results, Try.results62, go_sem]) rfl ⟨rfl, ?_⟩
      (repeat (first | exact Below.refl _ _ | assumption | refine below_drewN ?_ _ | refine bel_grow ?_ _ | refine Below.drew ?_ | refine bel_alloc ?_ _ | refine bel_set ?_ (by first | exact Nat.le_refl _ | (simp; done) | (simp; omega) | omega) _ | refine bel_trans ?_ (by assumption)))
    case true =>
      go_enter Try.func62, Try.ntmps62
      go_wp2_with fail
      refine bodyPost_ret (v := .agg #[.int .u64 c1, .int .u64 c2]) (by simp [results, Try.results62, go_sem]) rfl ⟨rfl, ?_⟩
      (repeat (first | exact Below.refl _ _ | assumption | refine below_drewN ?_ _ | refine bel_grow ?_ _ | refine Below.drew ?_ | refine bel_alloc ?_ _ | refine bel_set ?_ (by first | exact Nat.le_refl _ | (simp; done) | (simp; omega) | omega) _ | refine bel_trans ?_ (by assumption)))
set_option maxRecDepth 8000 in
set_option maxHeartbeats 8000000 in
theorem eitherD_of (xi1 xi2 xd1 xd2 xc1 xc2 xm1 xm2 xw1 xw2 xtg xto xlg xcd xfl xst a c : Int) (f z : Bool) (hf : (bits .and .u16 xfl 12 != 0) = f) (hz : (a == 0) = z) (w : World) : Calls Try.prog 63 #[.agg #[.int .u64 xi1, .int .u64 xi2, .int .u64 xd1, .int .u64 xd2, .int .u64 xc1, .int .u64 xc2, .int .u64 xm1, .int .u64 xm2, .int .u64 xw1, .int .u64 xw2, .int .u64 xtg, .int .u32 xto, .int .u32 xlg, .int .u16 xcd, .int .u16 xfl, .int .u64 xst], .int .u32 a, .int .u32 c] w fun r w' => r = .returned (.int .u32 (eiV f z a c)) ∧ Below w.heap.size w w' := by
  cases f
  case false =>
    clear hz
    go_enter Try.func63, Try.ntmps63
    go_wp2_with fail
    go_ret
    exact ⟨rfl, by (repeat (first | exact Below.refl _ _ | assumption | refine below_drewN ?_ _ | refine bel_grow ?_ _ | refine Below.drew ?_ | refine bel_alloc ?_ _ | refine bel_set ?_ (by first | exact Nat.le_refl _ | (simp; done) | (simp; omega) | omega) _ | refine bel_trans ?_ (by assumption)))⟩
  case true =>
    cases z
    case false =>
      have h2 : ¬ a = 0 := by simpa using hz
      go_enter Try.func63, Try.ntmps63
      go_wp2_with fail
      go_ret
      exact ⟨rfl, by (repeat (first | exact Below.refl _ _ | assumption | refine below_drewN ?_ _ | refine bel_grow ?_ _ | refine Below.drew ?_ | refine bel_alloc ?_ _ | refine bel_set ?_ (by first | exact Nat.le_refl _ | (simp; done) | (simp; omega) | omega) _ | refine bel_trans ?_ (by assumption)))⟩
    case true =>
      have h2 : a = 0 := by simpa using hz
      clear hz
      subst h2
      go_enter Try.func63, Try.ntmps63
      go_wp2_with fail
      go_ret
      exact ⟨rfl, by (repeat (first | exact Below.refl _ _ | assumption | refine below_drewN ?_ _ | refine bel_grow ?_ _ | refine Below.drew ?_ | refine bel_alloc ?_ _ | refine bel_set ?_ (by first | exact Nat.le_refl _ | (simp; done) | (simp; omega) | omega) _ | refine bel_trans ?_ (by assumption)))⟩
set_option maxRecDepth 8000 in
set_option maxHeartbeats 8000000 in
theorem eitherH_of (xi1 xi2 xd1 xd2 xc1 xc2 xm1 xm2 xw1 xw2 xtg xto xlg xcd xfl xst a c : Int) (f z : Bool) (hf : (bits .and .u16 xfl 12 != 0) = f) (hz : (a == 0) = z) (w : World) : Calls Try.prog 64 #[.agg #[.int .u64 xi1, .int .u64 xi2, .int .u64 xd1, .int .u64 xd2, .int .u64 xc1, .int .u64 xc2, .int .u64 xm1, .int .u64 xm2, .int .u64 xw1, .int .u64 xw2, .int .u64 xtg, .int .u32 xto, .int .u32 xlg, .int .u16 xcd, .int .u16 xfl, .int .u64 xst], .int .u16 a, .int .u16 c] w fun r w' => r = .returned (.int .u16 (eiV f z a c)) ∧ Below w.heap.size w w' := by
  cases f
  case false =>
    clear hz
    go_enter Try.func64, Try.ntmps64
    go_wp2_with fail
    go_ret
    exact ⟨rfl, by (repeat (first | exact Below.refl _ _ | assumption | refine below_drewN ?_ _ | refine bel_grow ?_ _ | refine Below.drew ?_ | refine bel_alloc ?_ _ | refine bel_set ?_ (by first | exact Nat.le_refl _ | (simp; done) | (simp; omega) | omega) _ | refine bel_trans ?_ (by assumption)))⟩
  case true =>
    cases z
    case false =>
      have h2 : ¬ a = 0 := by simpa using hz
      go_enter Try.func64, Try.ntmps64
      go_wp2_with fail
      go_ret
      exact ⟨rfl, by (repeat (first | exact Below.refl _ _ | assumption | refine below_drewN ?_ _ | refine bel_grow ?_ _ | refine Below.drew ?_ | refine bel_alloc ?_ _ | refine bel_set ?_ (by first | exact Nat.le_refl _ | (simp; done) | (simp; omega) | omega) _ | refine bel_trans ?_ (by assumption)))⟩
    case true =>
      have h2 : a = 0 := by simpa using hz
      clear hz
      subst h2
      go_enter Try.func64, Try.ntmps64
      go_wp2_with fail
      go_ret
      exact ⟨rfl, by (repeat (first | exact Below.refl _ _ | assumption | refine below_drewN ?_ _ | refine bel_grow ?_ _ | refine Below.drew ?_ | refine bel_alloc ?_ _ | refine bel_set ?_ (by first | exact Nat.le_refl _ | (simp; done) | (simp; omega) | omega) _ | refine bel_trans ?_ (by assumption)))⟩
end Go.Proofs.Ytpbnakoimlmhnaa
