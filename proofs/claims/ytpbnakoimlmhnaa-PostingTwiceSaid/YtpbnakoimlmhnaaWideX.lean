/-
  Sums, differences and order of two numbers of 128 bits: the program's functions walked.
-/
import Derived.Test.YtpbnakoimlmhnaaEq
import Derived.Test.YtpbnakoimlmhnaaWideV
import Derived.Shelf.Spec.BitsCarry
namespace Go.Proofs.Ytpbnakoimlmhnaa
set_option linter.unusedVariables false
set_option linter.unusedSimpArgs false
open Go.RowKit

theorem add64 (x y c : Int) (hx : 0 ≤ x) (hy : 0 ≤ y) (hc0 : 0 ≤ c) (hc : c ≤ 1) (w : World) : (callFunc 83 #[.int .u64 x, .int .u64 y, .int .u64 c]).run Try.prog w =
    .ok (.value (.tuple #[.int .u64 ((x + y + c) % 18446744073709551616), .int .u64 ((x + y + c) / 18446744073709551616)])) w := by
  obtain ⟨x, rfl⟩ := Int.eq_ofNat_of_zero_le hx
  obtain ⟨y, rfl⟩ := Int.eq_ofNat_of_zero_le hy
  obtain ⟨c, rfl⟩ := Int.eq_ofNat_of_zero_le hc0
  rw [run_callFunc_extern Try.func83 (by kernel_rfl) (by kernel_rfl) (by kernel_rfl) (e := add64Entry) (by kernel_rfl), run_add64 x y c (by omega) (by omega) (by omega) (by omega)]
  rfl
theorem sub64 (x y b : Int) (hx : 0 ≤ x) (hy : 0 ≤ y) (hy' : y < 18446744073709551616) (hb0 : 0 ≤ b) (hb : b ≤ 1) (w : World) : (callFunc 84 #[.int .u64 x, .int .u64 y, .int .u64 b]).run Try.prog w =
    .ok (.value (.tuple #[.int .u64 ((x - y - b) % 18446744073709551616), .int .u64 (if x < y + b then 1 else 0)])) w := by
  obtain ⟨x, rfl⟩ := Int.eq_ofNat_of_zero_le hx
  obtain ⟨y, rfl⟩ := Int.eq_ofNat_of_zero_le hy
  obtain ⟨b, rfl⟩ := Int.eq_ofNat_of_zero_le hb0
  have e1 : (((x + 18446744073709551616 - y - b) % 18446744073709551616 : Nat) : Int) = ((x : Int) - y - b) % 18446744073709551616 := by omega
  have e2 : ((if x < y + b then 1 else 0 : Nat) : Int) = if (x : Int) < y + b then 1 else 0 := by split <;> split <;> omega
  rw [← e1, ← e2]
  rw [run_callFunc_extern Try.func84 (by kernel_rfl) (by kernel_rfl) (by kernel_rfl) (e := sub64Entry) (by kernel_rfl), run_sub64 x y b (by omega)]
  rfl

theorem add64_0 (x y : Int) (hx : 0 ≤ x) (hy : 0 ≤ y) (w : World) : (callFunc 83 #[.int .u64 x, .int .u64 y, .int .u64 0]).run Try.prog w =
    .ok (.value (.tuple #[.int .u64 ((x + y) % 18446744073709551616), .int .u64 ((x + y) / 18446744073709551616)])) w := by
  simpa using add64 x y 0 hx hy (Int.le_refl 0) (by decide) w
theorem sub64_0 (x y : Int) (hx : 0 ≤ x) (hy : 0 ≤ y) (hy' : y < 18446744073709551616) (w : World) : (callFunc 84 #[.int .u64 x, .int .u64 y, .int .u64 0]).run Try.prog w =
    .ok (.value (.tuple #[.int .u64 ((x - y) % 18446744073709551616), .int .u64 (if x < y then 1 else 0)])) w := by
  simpa using sub64 x y 0 hx hy hy' (Int.le_refl 0) (by decide) w

/-- is there a sum? its halves, 0 if there is none -/
def addB (a b c d : Int) : Bool := decide (a * 18446744073709551616 + b + (c * 18446744073709551616 + d) < 340282366920938463463374607431768211456)
def addH (a b c d : Int) : Int := if addB a b c d then (a + c + (b + d) / 18446744073709551616) else 0
def addL (a b c d : Int) : Int := if addB a b c d then (b + d) % 18446744073709551616 else 0
def subB (a b c d : Int) : Bool := decide (c * 18446744073709551616 + d ≤ a * 18446744073709551616 + b)
def subH (a b c d : Int) : Int := if subB a b c d then (a - c - (if b < d then 1 else 0)) else 0
def subL (a b c d : Int) : Int := if subB a b c d then (b - d) % 18446744073709551616 else 0

theorem add_u {a b c d : Int} (ha : Wd a) (hb : Wd b) (hc : Wd c) (hd : Wd d) : Wd (addH a b c d) ∧ Wd (addL a b c d) := by
  unfold Wd addH addL addB at *
  split
  · rename_i h; simp at h; omega
  · omega
theorem sub_u {a b c d : Int} (ha : Wd a) (hb : Wd b) (hc : Wd c) (hd : Wd d) : Wd (subH a b c d) ∧ Wd (subL a b c d) := by
  unfold Wd subH subL subB at *
  split
  · rename_i h; simp at h; split <;> omega
  · omega

theorem add_any (a b c d : Int) (ha : Wd a) (hb : Wd b) (hc : Wd c) (hd : Wd d) (w : World) : Calls Try.prog 72 #[.agg #[.int .u64 a, .int .u64 b], .agg #[.int .u64 c, .int .u64 d]] w fun r w' =>
      r = .returned (.tuple #[.agg #[.int .u64 (addH a b c d), .int .u64 (addL a b c d)], .bool (addB a b c d)]) ∧ Below w.heap.size w w' := by
  unfold Wd at *
  have h0 : 0 ≤ (b + d) / 18446744073709551616 := by omega
  have h1 : (b + d) / 18446744073709551616 ≤ 1 := by omega
  cases hB : addB a b c d
  · have e1 : addH a b c d = 0 := by simp [addH, hB]
    have e2 : addL a b c d = 0 := by simp [addL, hB]
    rw [e1, e2]
    have k : ((a + c + (b + d) / 18446744073709551616) / 18446744073709551616 != 0) = true := by simp [addB] at hB; rw [bne_iff_ne]; omega
    clear hB e1 e2
    go_enter Try.func72, Try.ntmps72
    go_wp2_with (first | simp only [add64_0 b d hb.1 hd.1] | simp only [add64 a c _ ha.1 hc.1 h0 h1])
    refine bodyPost_ret (v := .tuple #[.agg #[.int .u64 0, .int .u64 0], .bool false]) (by simp [results, Try.results72, go_sem]) rfl ⟨rfl, ?_⟩
    (repeat (first | exact Below.refl _ _ | assumption | refine below_drewN ?_ _ | refine bel_grow ?_ _ | refine Below.drew ?_ | refine bel_alloc ?_ _ | refine bel_set ?_ (by first | exact Nat.le_refl _ | (simp; done) | (simp; omega) | omega) _ | refine bel_trans ?_ (by assumption)))
  · have e1 : addH a b c d = (a + c + (b + d) / 18446744073709551616) % 18446744073709551616 := by simp [addH, hB]; simp [addB] at hB; omega
    have e2 : addL a b c d = (b + d) % 18446744073709551616 := by simp [addL, hB]
    rw [e1, e2]
    have k : ((a + c + (b + d) / 18446744073709551616) / 18446744073709551616 != 0) = false := by simp [addB] at hB; rw [bne_eq_false_iff_eq]; omega
    clear hB e1 e2
    go_enter Try.func72, Try.ntmps72
    go_wp2_with (first | simp only [add64_0 b d hb.1 hd.1] | simp only [add64 a c _ ha.1 hc.1 h0 h1])
    refine bodyPost_ret (v := .tuple #[.agg #[.int .u64 ((a + c + (b + d) / 18446744073709551616) % 18446744073709551616), .int .u64 ((b + d) % 18446744073709551616)], .bool true]) (by simp [results, Try.results72, go_sem]) rfl ⟨rfl, ?_⟩
    (repeat (first | exact Below.refl _ _ | assumption | refine below_drewN ?_ _ | refine bel_grow ?_ _ | refine Below.drew ?_ | refine bel_alloc ?_ _ | refine bel_set ?_ (by first | exact Nat.le_refl _ | (simp; done) | (simp; omega) | omega) _ | refine bel_trans ?_ (by assumption)))

theorem sub_any (a b c d : Int) (ha : Wd a) (hb : Wd b) (hc : Wd c) (hd : Wd d) (w : World) : Calls Try.prog 77 #[.agg #[.int .u64 a, .int .u64 b], .agg #[.int .u64 c, .int .u64 d]] w fun r w' =>
      r = .returned (.tuple #[.agg #[.int .u64 (subH a b c d), .int .u64 (subL a b c d)], .bool (subB a b c d)]) ∧ Below w.heap.size w w' := by
  unfold Wd at *
  obtain ⟨q, hq⟩ : ∃ q : Int, (if b < d then 1 else 0 : Int) = q := ⟨_, rfl⟩
  have h0 : 0 ≤ q := by rw [← hq]; split <;> decide
  have h1 : q ≤ 1 := by rw [← hq]; split <;> decide
  have HS : ∀ w, (callFunc 84 #[.int .u64 b, .int .u64 d, .int .u64 0]).run Try.prog w = .ok (.value (.tuple #[.int .u64 ((b - d) % 18446744073709551616), .int .u64 q])) w := fun w => by rw [sub64_0 b d hb.1 hd.1 hd.2, hq]
  have k0 : (if a < c + q then 1 else 0 : Int) = if subB a b c d then 0 else 1 := by
    rw [← hq]; unfold subB
    by_cases g1 : b < d <;> by_cases g2 : c * 18446744073709551616 + d ≤ a * 18446744073709551616 + b <;> simp [g1, g2] <;> omega
  have HT : ∀ w, (callFunc 84 #[.int .u64 a, .int .u64 c, .int .u64 q]).run Try.prog w = .ok (.value (.tuple #[.int .u64 ((a - c - q) % 18446744073709551616), .int .u64 (if subB a b c d then 0 else 1)])) w := fun w => by rw [sub64 a c q ha.1 hc.1 hc.2 h0 h1, k0]
  have e1 : subB a b c d = true → subH a b c d = (a - c - q) % 18446744073709551616 := by intro h; simp only [subH, h, if_true, hq]; simp [subB] at h; rw [← hq]; split <;> omega
  have e2 : subB a b c d = true → subL a b c d = (b - d) % 18446744073709551616 := by intro h; simp [subL, h]
  have f1 : subB a b c d = false → subH a b c d = 0 := by intro h; simp [subH, h]
  have f2 : subB a b c d = false → subL a b c d = 0 := by intro h; simp [subL, h]
  clear hq k0
  cases hB : subB a b c d
  · rw [f1 hB, f2 hB]
    rw [hB] at HT
    clear e1 e2 f1 f2 hB
    replace HS := Lib.hid HS
    replace HT := Lib.hid HT
    go_enter Try.func77, Try.ntmps77
    go_wp2_with (first | simp only [HS.out] | simp only [HT.out, Bool.false_eq_true, if_false])
    refine bodyPost_ret (v := .tuple #[.agg #[.int .u64 0, .int .u64 0], .bool false]) (by simp [results, Try.results77, go_sem]) rfl ⟨rfl, ?_⟩
    (repeat (first | exact Below.refl _ _ | assumption | refine below_drewN ?_ _ | refine bel_grow ?_ _ | refine Below.drew ?_ | refine bel_alloc ?_ _ | refine bel_set ?_ (by first | exact Nat.le_refl _ | (simp; done) | (simp; omega) | omega) _ | refine bel_trans ?_ (by assumption)))
  · rw [e1 hB, e2 hB]
    rw [hB] at HT
    clear e1 e2 f1 f2 hB
    replace HS := Lib.hid HS
    replace HT := Lib.hid HT
    go_enter Try.func77, Try.ntmps77
    go_wp2_with (first | simp only [HS.out] | simp only [HT.out, if_true])
    refine bodyPost_ret (v := .tuple #[.agg #[.int .u64 ((a - c - q) % 18446744073709551616), .int .u64 ((b - d) % 18446744073709551616)], .bool true]) (by simp [results, Try.results77, go_sem]) rfl ⟨rfl, ?_⟩
    (repeat (first | exact Below.refl _ _ | assumption | refine below_drewN ?_ _ | refine bel_grow ?_ _ | refine Below.drew ?_ | refine bel_alloc ?_ _ | refine bel_set ?_ (by first | exact Nat.le_refl _ | (simp; done) | (simp; omega) | omega) _ | refine bel_trans ?_ (by assumption)))


theorem isnan_any (a : Int) (w : World) : Calls Try.prog 85 #[.int .u64 a] w fun r w' => r = .returned (.bool false) ∧ Below w.heap.size w w' := by
  go_enter Try.func85, Try.ntmps85
  go_wp2
  go_ret
  exact ⟨by simp, (by repeat (first | exact Below.refl _ _ | assumption | refine below_drewN ?_ _ | refine bel_grow ?_ _ | refine Below.drew ?_ | refine bel_alloc ?_ _ | refine bel_set ?_ (by first | exact Nat.le_refl _ | (simp; done) | (simp; omega) | omega) _ | refine bel_trans ?_ (by assumption)))⟩
theorem cmpw_any (a b : Int) (w : World) : Calls Try.prog 80 #[.int .u64 a, .int .u64 b] w fun r w' => r = .returned (.int .i64 (cmpI a b)) ∧ Below w.heap.size w w' := by
  unfold cmpI
  by_cases h : a < b
  · rw [if_pos h]
    go_enter Try.func80, Try.ntmps80
    go_wp2_with (go_at_call 85; first | ((with_reducible refine (grow_call (isnan_any _ _)).mono ?_); rintro e w' ⟨rfl, d1, rfl⟩) | ((with_reducible refine (gro (isnan_any _ _)).mono ?_); rintro e w' ⟨rfl, d1, rfl⟩))
    go_ret
    exact ⟨rfl, (by repeat (first | exact Below.refl _ _ | assumption | refine below_drewN ?_ _ | refine bel_grow ?_ _ | refine Below.drew ?_ | refine bel_alloc ?_ _ | refine bel_set ?_ (by first | exact Nat.le_refl _ | (simp; done) | (simp; omega) | omega) _ | refine bel_trans ?_ (by assumption)))⟩
  · rw [if_neg h]
    by_cases h2 : b < a
    · rw [if_pos h2]
      go_enter Try.func80, Try.ntmps80
      go_wp2_with (go_at_call 85; first | ((with_reducible refine (grow_call (isnan_any _ _)).mono ?_); rintro e w' ⟨rfl, d1, rfl⟩) | ((with_reducible refine (gro (isnan_any _ _)).mono ?_); rintro e w' ⟨rfl, d1, rfl⟩))
      go_ret
      exact ⟨rfl, (by repeat (first | exact Below.refl _ _ | assumption | refine below_drewN ?_ _ | refine bel_grow ?_ _ | refine Below.drew ?_ | refine bel_alloc ?_ _ | refine bel_set ?_ (by first | exact Nat.le_refl _ | (simp; done) | (simp; omega) | omega) _ | refine bel_trans ?_ (by assumption)))⟩
    · rw [if_neg h2]
      go_enter Try.func80, Try.ntmps80
      go_wp2_with (go_at_call 85; first | ((with_reducible refine (grow_call (isnan_any _ _)).mono ?_); rintro e w' ⟨rfl, d1, rfl⟩) | ((with_reducible refine (gro (isnan_any _ _)).mono ?_); rintro e w' ⟨rfl, d1, rfl⟩))
      go_ret
      exact ⟨rfl, (by repeat (first | exact Below.refl _ _ | assumption | refine below_drewN ?_ _ | refine bel_grow ?_ _ | refine Below.drew ?_ | refine bel_alloc ?_ _ | refine bel_set ?_ (by first | exact Nat.le_refl _ | (simp; done) | (simp; omega) | omega) _ | refine bel_trans ?_ (by assumption)))⟩
theorem cmp_any (a b c d : Int) (w : World) : Calls Try.prog 54 #[.agg #[.int .u64 a, .int .u64 b], .agg #[.int .u64 c, .int .u64 d]] w fun r w' =>
      r = .returned (.int .i64 (cmpV a b c d)) ∧ Below w.heap.size w w' := by
  have H1 := Lib.hid (fun w => cmpw_any a c w)
  have H2 := Lib.hid (fun w => cmpw_any b d w)
  unfold cmpV
  generalize cmpI a c = x at *
  generalize cmpI b d = y at *
  cases hx : (x != 0)
  · go_enter Try.func54, Try.ntmps54
    go_wp2_with (go_at_call 80; first | ((with_reducible refine (gro (H1.out _)).mono ?_); rintro e w' ⟨rfl, d1, rfl⟩) | ((with_reducible refine (grow_call (H2.out _)).mono ?_); rintro e w' ⟨rfl, d1, rfl⟩))
    go_ret
    exact ⟨rfl, (by repeat (first | exact Below.refl _ _ | assumption | refine below_drewN ?_ _ | refine bel_grow ?_ _ | refine Below.drew ?_ | refine bel_alloc ?_ _ | refine bel_set ?_ (by first | exact Nat.le_refl _ | (simp; done) | (simp; omega) | omega) _ | refine bel_trans ?_ (by assumption)))⟩
  · go_enter Try.func54, Try.ntmps54
    go_wp2_with (go_at_call 80; first | ((with_reducible refine (gro (H1.out _)).mono ?_); rintro e w' ⟨rfl, d1, rfl⟩) | ((with_reducible refine (grow_call (H2.out _)).mono ?_); rintro e w' ⟨rfl, d1, rfl⟩))
    go_ret
    exact ⟨rfl, (by repeat (first | exact Below.refl _ _ | assumption | refine below_drewN ?_ _ | refine bel_grow ?_ _ | refine Below.drew ?_ | refine bel_alloc ?_ _ | refine bel_set ?_ (by first | exact Nat.le_refl _ | (simp; done) | (simp; omega) | omega) _ | refine bel_trans ?_ (by assumption)))⟩
end Go.Proofs.Ytpbnakoimlmhnaa
