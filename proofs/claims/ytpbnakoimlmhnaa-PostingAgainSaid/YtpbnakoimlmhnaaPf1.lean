/-
  posting.Flags, walked.
-/
import Derived.Test.YtpbnakoimlmhnaaBs1
import Derived.Test.YtpbnakoimlmhnaaEq
import Derived.Deep.DeepCutAuto
namespace Go.Proofs.Ytpbnakoimlmhnaa
set_option linter.unusedVariables false
set_option linter.unusedSimpArgs false
open Go.RowKit

attribute [local go_sem] loadV_ptr storeV_ptr one_func drew_hs ext_deb ext_cre ext_cols ext_acc
attribute [local go_sem ↓] load_Cols store_Cols load_Transfer store_Transfer load_Parties store_Parties load_Acct store_Acct
def flagsV (a b c : Bool) : Int := if a then 17 else if b && c then 17 else 0
set_option maxRecDepth 8000 in
set_option maxHeartbeats 8000000 in
theorem flags_of (xi1 xi2 xd1 xd2 xc1 xc2 xm1 xm2 xw1 xw2 xtg xto xlg xcd xfl xst : Int) (a b c : Bool) (ha : (bits .and .u16 xfl 12 == 12) = a) (hb : (bits .and .u16 xfl 12 != 0) = b) (hc : (bits .and .u16 xfl 242 != 0) = c) (w : World) : Calls Try.prog 29 #[.agg #[.int .u64 xi1, .int .u64 xi2, .int .u64 xd1, .int .u64 xd2, .int .u64 xc1, .int .u64 xc2, .int .u64 xm1, .int .u64 xm2, .int .u64 xw1, .int .u64 xw2, .int .u64 xtg, .int .u32 xto, .int .u32 xlg, .int .u16 xcd, .int .u16 xfl, .int .u64 xst]] w fun r w' => r = .returned (.int .u32 (flagsV a b c)) ∧ Below w.heap.size w w' := by
  cases a
  case true =>
    clear hb hc
    go_enter Try.func29, Try.ntmps29
    go_wp2_with fail
    go_ret
    exact ⟨rfl, by (repeat (first | exact Below.refl _ _ | assumption | refine below_drewN ?_ _ | refine bel_grow ?_ _ | refine Below.drew ?_ | refine bel_alloc ?_ _ | refine bel_set ?_ (by first | exact Nat.le_refl _ | (simp; done) | (simp; omega) | omega) _ | refine bel_trans ?_ (by assumption)))⟩
  case false =>
  cases b
  case false =>
    clear hc
    go_enter Try.func29, Try.ntmps29
    go_wp2_with fail
    go_ret
    exact ⟨rfl, by (repeat (first | exact Below.refl _ _ | assumption | refine below_drewN ?_ _ | refine bel_grow ?_ _ | refine Below.drew ?_ | refine bel_alloc ?_ _ | refine bel_set ?_ (by first | exact Nat.le_refl _ | (simp; done) | (simp; omega) | omega) _ | refine bel_trans ?_ (by assumption)))⟩
  case true =>
  cases c
  all_goals (
    go_enter Try.func29, Try.ntmps29
    go_wp2_with fail
    go_ret
    exact ⟨rfl, by (repeat (first | exact Below.refl _ _ | assumption | refine below_drewN ?_ _ | refine bel_grow ?_ _ | refine Below.drew ?_ | refine bel_alloc ?_ _ | refine bel_set ?_ (by first | exact Nat.le_refl _ | (simp; done) | (simp; omega) | omega) _ | refine bel_trans ?_ (by assumption)))⟩)
theorem nf1b : (List.range 256).all (fun y => decide (((y &&& 12 == 12) = (y / 4 % 2 == 1 && y / 8 % 2 == 1)) ∧ ((y &&& 12 != 0) = (y / 4 % 2 == 1 || y / 8 % 2 == 1)) ∧ ((y &&& 242 != 0) = (y / 2 % 2 == 1 || y / 16 % 2 == 1 || y / 32 % 2 == 1 || y / 64 % 2 == 1 || y / 128 % 2 == 1)))) = true := by kernel_rfl
theorem nf1 (x : Nat) (hx : x < 65536) : ((x &&& 12 == 12) = (x / 4 % 2 == 1 && x / 8 % 2 == 1)) ∧ ((x &&& 12 != 0) = (x / 4 % 2 == 1 || x / 8 % 2 == 1)) ∧ ((x &&& 242 != 0) = (x / 2 % 2 == 1 || x / 16 % 2 == 1 || x / 32 % 2 == 1 || x / 64 % 2 == 1 || x / 128 % 2 == 1)) := by
  have h : (((x % 256) &&& 12 == 12) = ((x % 256) / 4 % 2 == 1 && (x % 256) / 8 % 2 == 1)) ∧ (((x % 256) &&& 12 != 0) = ((x % 256) / 4 % 2 == 1 || (x % 256) / 8 % 2 == 1)) ∧ (((x % 256) &&& 242 != 0) = ((x % 256) / 2 % 2 == 1 || (x % 256) / 16 % 2 == 1 || (x % 256) / 32 % 2 == 1 || (x % 256) / 64 % 2 == 1 || (x % 256) / 128 % 2 == 1)) := of_decide_eq_true (List.all_eq_true.mp nf1b (x % 256) (List.mem_range.mpr (by omega)))
  have a12 : (x % 256) &&& 12 = x &&& 12 := by rw [← show x &&& 255 = x % 256 from Nat.and_two_pow_sub_one_eq_mod x 8, Nat.and_assoc]; rfl
  have a242 : (x % 256) &&& 242 = x &&& 242 := by rw [← show x &&& 255 = x % 256 from Nat.and_two_pow_sub_one_eq_mod x 8, Nat.and_assoc]; rfl
  have d2 : (x % 256) / 2 % 2 = x / 2 % 2 := by omega
  have d4 : (x % 256) / 4 % 2 = x / 4 % 2 := by omega
  have d8 : (x % 256) / 8 % 2 = x / 8 % 2 := by omega
  have d16 : (x % 256) / 16 % 2 = x / 16 % 2 := by omega
  have d32 : (x % 256) / 32 % 2 = x / 32 % 2 := by omega
  have d64 : (x % 256) / 64 % 2 = x / 64 % 2 := by omega
  have d128 : (x % 256) / 128 % 2 = x / 128 % 2 := by omega
  rw [a12, a242, d2, d4, d8, d16, d32, d64, d128] at h
  exact h
theorem int_beq (a b : Nat) : (((a : Int)) == ((b : Int))) = (a == b) := by rw [Bool.eq_iff_iff]; simp; omega
theorem fl_12 {f : Int} (h : 0 ≤ f ∧ f < 65536) : (bits .and .u16 f 12 == 12) = ((f / 4 % 2 == 1) && (f / 8 % 2 == 1)) ∧ (bits .and .u16 f 12 != 0) = ((f / 4 % 2 == 1) || (f / 8 % 2 == 1)) ∧ (bits .and .u16 f 242 != 0) = ((f / 2 % 2 == 1) || (f / 16 % 2 == 1) || (f / 32 % 2 == 1) || (f / 64 % 2 == 1) || (f / 128 % 2 == 1)) := by
  obtain ⟨x, rfl⟩ := Int.eq_ofNat_of_zero_le h.1
  have hx : x < 65536 := by omega
  obtain ⟨n1, n2, n3⟩ := nf1 x hx
  have e : ∀ k : Nat, (((x : Int) / (k : Int) % 2 == 1)) = (x / k % 2 == 1) := fun k => by rw [show ((x : Int) / (k : Int) % 2) = ((x / k % 2 : Nat) : Int) from by simp]; exact int_beq _ 1
  have e2 : ((x : Int) / 2 % 2 == 1) = (x / 2 % 2 == 1) := e 2
  have e4 : ((x : Int) / 4 % 2 == 1) = (x / 4 % 2 == 1) := e 4
  have e8 : ((x : Int) / 8 % 2 == 1) = (x / 8 % 2 == 1) := e 8
  have e16 : ((x : Int) / 16 % 2 == 1) = (x / 16 % 2 == 1) := e 16
  have e32 : ((x : Int) / 32 % 2 == 1) = (x / 32 % 2 == 1) := e 32
  have e64 : ((x : Int) / 64 % 2 == 1) = (x / 64 % 2 == 1) := e 64
  have e128 : ((x : Int) / 128 % 2 == 1) = (x / 128 % 2 == 1) := e 128
  rw [u16_and (x : Int) 12 (by omega) (by omega) (by omega) (by omega), u16_and (x : Int) 242 (by omega) (by omega) (by omega) (by omega), Int.toNat_natCast, show (12 : Int).toNat = 12 from rfl, show (242 : Int).toNat = 242 from rfl]
  rw [e2, e4, e8, e16, e32, e64, e128, ← n1, ← n2, ← n3]
  exact ⟨int_beq _ 12, by rw [bne, bne]; exact congrArg _ (int_beq _ 0), by rw [bne, bne]; exact congrArg _ (int_beq _ 0)⟩
end Go.Proofs.Ytpbnakoimlmhnaa
