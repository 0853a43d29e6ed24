/-
  Plain laws of single flags of 16 bits.
-/
import Derived.Test.YtpbnakoimlmhnaaBase
namespace Go.Proofs.Ytpbnakoimlmhnaa
set_option linter.unusedVariables false
set_option linter.unusedSimpArgs false
open Go.RowKit

theorem all16 (p : Nat → Bool) (h : ((List.range 256).all fun a => (List.range 256).all fun b => p (256 * a + b)) = true) (x : Nat) (hx : x < 65536) : p x = true := by
  have h1 := List.all_eq_true.1 h (x / 256) (by simp; omega)
  have h2 := List.all_eq_true.1 h1 (x % 256) (by simp; omega)
  rwa [show 256 * (x / 256) + x % 256 = x from by omega] at h2

theorem nat_not16 (x : Nat) (hx : x < 65536) : x &&& 65519 = x - x / 16 % 2 * 16 :=
  of_decide_eq_true (all16 (fun x => decide (x &&& 65519 = x - x / 16 % 2 * 16)) (by kernel_rfl) x hx)
theorem nat_not15 (x : Nat) (hx : x < 65536) : x &&& 65520 = x / 16 * 16 :=
  of_decide_eq_true (all16 (fun x => decide (x &&& 65520 = x / 16 * 16)) (by kernel_rfl) x hx)
theorem nat_or16 (x : Nat) (hx : x < 65536) : x ||| 16 = x + 16 - x / 16 % 2 * 16 :=
  of_decide_eq_true (all16 (fun x => decide (x ||| 16 = x + 16 - x / 16 % 2 * 16)) (by kernel_rfl) x hx)
theorem nat_and6 (x : Nat) (hx : x < 65536) : x &&& 6 = x / 2 % 4 * 2 :=
  of_decide_eq_true (all16 (fun x => decide (x &&& 6 = x / 2 % 4 * 2)) (by kernel_rfl) x hx)

theorem u16_not16 (f : Int) (h0 : 0 ≤ f) (h1 : f < 65536) : bits .andNot .u16 f 16 = f - f / 16 % 2 * 16 := by
  rw [u16_andNot f 16 h0 h1 (by omega) (by omega), show 65535 - (16 : Int).toNat = 65519 from rfl, nat_not16 _ (by omega)]; omega
theorem u16_not15 (f : Int) (h0 : 0 ≤ f) (h1 : f < 65536) : bits .andNot .u16 f 15 = f / 16 * 16 := by
  rw [u16_andNot f 15 h0 h1 (by omega) (by omega), show 65535 - (15 : Int).toNat = 65520 from rfl, nat_not15 _ (by omega)]; omega
theorem u16_or16 (f : Int) (h0 : 0 ≤ f) (h1 : f < 65536) : bits .or .u16 f 16 = f + 16 - f / 16 % 2 * 16 := by
  rw [u16_or f 16 h0 h1 (by omega) (by omega), show (16 : Int).toNat = 16 from rfl, nat_or16 _ (by omega)]; omega
theorem u16_6 (f : Int) (h0 : 0 ≤ f) (h1 : f < 65536) : bits .and .u16 f 6 = f / 2 % 4 * 2 := by
  rw [u16_and f 6 h0 h1 (by omega) (by omega), show (6 : Int).toNat = 6 from rfl, nat_and6 _ (by omega)]; omega
theorem u16_1 (f : Int) (h0 : 0 ≤ f) (h1 : f < 65536) : bits .and .u16 f 1 = f % 2 := by
  rw [u16_and f 1 h0 h1 (by omega) (by omega), show (1 : Int).toNat = 1 from rfl, nat_mask1]; omega
theorem u16_2 (f : Int) (h0 : 0 ≤ f) (h1 : f < 65536) : bits .and .u16 f 2 = f / 2 % 2 * 2 := by
  rw [u16_and f 2 h0 h1 (by omega) (by omega), show (2 : Int).toNat = 2 ^ 1 from rfl, nat_bit]; omega
theorem u16_4 (f : Int) (h0 : 0 ≤ f) (h1 : f < 65536) : bits .and .u16 f 4 = f / 4 % 2 * 4 := by
  rw [u16_and f 4 h0 h1 (by omega) (by omega), show (4 : Int).toNat = 2 ^ 2 from rfl, nat_bit]; omega
theorem u16_8 (f : Int) (h0 : 0 ≤ f) (h1 : f < 65536) : bits .and .u16 f 8 = f / 8 % 2 * 8 := by
  rw [u16_and f 8 h0 h1 (by omega) (by omega), show (8 : Int).toNat = 2 ^ 3 from rfl, nat_bit]; omega
theorem u16_16 (f : Int) (h0 : 0 ≤ f) (h1 : f < 65536) : bits .and .u16 f 16 = f / 16 % 2 * 16 := by
  rw [u16_and f 16 h0 h1 (by omega) (by omega), show (16 : Int).toNat = 2 ^ 4 from rfl, nat_bit]; omega
theorem u16_32 (f : Int) (h0 : 0 ≤ f) (h1 : f < 65536) : bits .and .u16 f 32 = f / 32 % 2 * 32 := by
  rw [u16_and f 32 h0 h1 (by omega) (by omega), show (32 : Int).toNat = 2 ^ 5 from rfl, nat_bit]; omega
theorem u16_64 (f : Int) (h0 : 0 ≤ f) (h1 : f < 65536) : bits .and .u16 f 64 = f / 64 % 2 * 64 := by
  rw [u16_and f 64 h0 h1 (by omega) (by omega), show (64 : Int).toNat = 2 ^ 6 from rfl, nat_bit]; omega
theorem u16_128 (f : Int) (h0 : 0 ≤ f) (h1 : f < 65536) : bits .and .u16 f 128 = f / 128 % 2 * 128 := by
  rw [u16_and f 128 h0 h1 (by omega) (by omega), show (128 : Int).toNat = 2 ^ 7 from rfl, nat_bit]; omega
end Go.Proofs.Ytpbnakoimlmhnaa
