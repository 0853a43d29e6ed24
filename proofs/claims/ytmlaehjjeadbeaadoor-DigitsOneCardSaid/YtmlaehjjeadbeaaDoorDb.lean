/-
  math/bits.Div64 by ten, walked.
-/
import Derived.Test.YtmlaehjjeadbeaaDoorMul
namespace Go.Proofs.YtmlaehjjeadbeaaDoor
set_option linter.unusedVariables false
set_option linter.unusedSimpArgs false
open Go.RowKit

set_option maxRecDepth 100000 in
set_option maxHeartbeats 1000000 in
theorem len10 (w : World) : Calls Tryd.prog 28 #[.int .u64 10] w fun r w' => r = .returned (.int .i64 4) ∧ w' = w := by
  go_enter Tryd.func28, Tryd.ntmps28
  go_wp2
  go_ret
  exact ⟨by kernel_rfl, rfl⟩
theorem lz10 (w : World) : Calls Tryd.prog 21 #[.int .u64 10] w fun r w' => r = .returned (.int .i64 60) ∧ w' = w := by
  have H := Lib.hid (len10 w)
  go_enter Tryd.func21, Tryd.ntmps21
  go_wp2_with fail
  refine H.out.mono ?_
  rintro r w' ⟨rfl, rfl⟩
  go_wp2
  go_ret
  exact ⟨rfl, rfl⟩

theorem div10_lo (l : Int) (hl : 0 ≤ l ∧ l < 18446744073709551616) (w : World) : Calls Tryd.prog 13 #[.int .u64 0, .int .u64 l, .int .u64 10] w fun r w' => r = .returned (.tuple #[.int .u64 (l / 10), .int .u64 (l % 10)]) ∧ Below w.heap.size w w' := by
  go_enter Tryd.func13, Tryd.ntmps13
  go_wp2_with fail
  first | (with_reducible refine rgrow2 (by kernel_rfl) (by kernel_rfl) ?_) | (refine rgrow (by kernel_rfl) (by kernel_rfl) ?_)
  repeat (go_big_quiet_step ((fail)))
  refine wpQuiet_nil ?_
  intro dr
  go_wp2_with fail
  go_ret2
  exact ⟨rfl, by (repeat (first | exact Below.refl _ _ | assumption | refine below_drewN ?_ _ | refine bel_grow ?_ _ | refine Below.drew ?_ | refine bel_alloc ?_ _ | refine bel_set ?_ (by first | exact Nat.le_refl _ | (simp; done) | (simp; omega) | omega) _ | refine bel_trans ?_ (by assumption)))⟩

theorem or_top {h x : Int} (hh : 0 ≤ h ∧ h < 16) (hx : 0 ≤ x ∧ x < 1152921504606846976) : bits .or .u64 (h * 1152921504606846976) x = h * 1152921504606846976 + x := by
  obtain ⟨a, rfl⟩ := Int.eq_ofNat_of_zero_le hh.1
  obtain ⟨b, rfl⟩ := Int.eq_ofNat_of_zero_le hx.1
  have e : ((a : Int) * 1152921504606846976) = ((1152921504606846976 * a : Nat) : Int) := by omega
  rw [e, bits_or_u64_nat _ _ (by omega) (by omega)]
  have := Nat.two_pow_add_eq_or_of_lt (i := 60) (b := b) (by omega) a
  have e2 : (2 : Nat) ^ 60 = 1152921504606846976 := by decide
  rw [e2] at this
  rw [← this]
  omega
theorem and_low {x : Int} (hx : 0 ≤ x ∧ x < 16) : bits .and .u64 (x * 1152921504606846976) 4294967295 = 0 := by
  obtain ⟨a, rfl⟩ := Int.eq_ofNat_of_zero_le hx.1
  have e : ((a : Int) * 1152921504606846976) = ((a * 1152921504606846976 : Nat) : Int) := by omega
  have h2 := mx_maskN (a * 1152921504606846976) (by omega)
  rw [e, h2]
  omega
set_option maxHeartbeats 4000000 in
theorem div10_hi (h l : Int) (hh : 0 < h ∧ h < 10) (hl : 0 ≤ l ∧ l < 18446744073709551616) (w : World) : Calls Tryd.prog 13 #[.int .u64 h, .int .u64 l, .int .u64 10] w fun r w' => r = .returned (.tuple #[.int .u64 ((h * 18446744073709551616 + l) / 10), .int .u64 ((h * 18446744073709551616 + l) % 10)]) ∧ Below w.heap.size w w' := by
  have HZ := Lib.hid (fun w => lz10 w)
  have h1 : (h == 0) = false := beq_eq_false_iff_ne.2 (by omega)
  have h2 : decide (10 ≤ h) = false := decide_eq_false (by omega)
  have e0 : bits .and .u64 11529215046068469760 4294967295 = 0 := and_low (x := 10) (by omega)
  obtain ⟨U, hU⟩ : ∃ U, U = h * 1152921504606846976 + l / 16 := ⟨_, rfl⟩
  have e1 : bits .or .u64 (h * 1152921504606846976) (l / 16) = U := by rw [or_top (by omega) (by omega), hU]
  obtain ⟨T, hT⟩ : ∃ T, T = l % 16 * 1152921504606846976 := ⟨_, rfl⟩
  have e2 : IntKind.u64.wrap (l * 1152921504606846976) = T := by rw [IntKind.wrap_u64, hT]; omega
  have e3 : bits .and .u64 T 4294967295 = 0 := by rw [hT]; exact and_low (by omega)
  obtain ⟨S, hS⟩ : ∃ S, S = l % 16 * 268435456 := ⟨_, rfl⟩
  have e4 : T / 4294967296 = S := by rw [hT, hS]; omega
  obtain ⟨Q, hQ⟩ : ∃ Q, Q = U / 2684354560 := ⟨_, rfl⟩
  have e5 : IntKind.u64.wrap (U.tdiv 2684354560) = Q := by rw [Int.tdiv_eq_ediv_of_nonneg (by omega), IntKind.wrap_u64, hQ]; omega
  obtain ⟨R, hR⟩ : ∃ R, R = U % 2684354560 := ⟨_, rfl⟩
  have e6 : IntKind.u64.wrap (U - IntKind.u64.wrap (Q * 2684354560)) = R := by rw [IntKind.wrap_u64, IntKind.wrap_u64]; omega
  have c1 : decide (4294967296 ≤ Q) = false := decide_eq_false (by omega)
  have e7 : IntKind.u64.wrap (4294967296 * R) = 4294967296 * R := by rw [IntKind.wrap_u64]; omega
  have e8 : IntKind.u64.wrap (4294967296 * R + S) = 4294967296 * R + S := by rw [IntKind.wrap_u64]; omega
  have c2 : decide (4294967296 * R + S < 0) = false := decide_eq_false (by omega)
  obtain ⟨M, hM⟩ : ∃ M, M = R * 4294967296 + S := ⟨_, rfl⟩
  have e9 : IntKind.u64.wrap (IntKind.u64.wrap (IntKind.u64.wrap (U * 4294967296) + S) - IntKind.u64.wrap (Q * 11529215046068469760)) = M := by simp only [IntKind.wrap_u64]; omega
  obtain ⟨Z, hZ⟩ : ∃ Z, Z = M / 2684354560 := ⟨_, rfl⟩
  have e10 : IntKind.u64.wrap (M.tdiv 2684354560) = Z := by rw [Int.tdiv_eq_ediv_of_nonneg (by omega), IntKind.wrap_u64, hZ]; omega
  obtain ⟨Y, hY⟩ : ∃ Y, Y = M % 2684354560 := ⟨_, rfl⟩
  have e11 : IntKind.u64.wrap (M - IntKind.u64.wrap (Z * 2684354560)) = Y := by rw [IntKind.wrap_u64, IntKind.wrap_u64]; omega
  have c3 : decide (4294967296 ≤ Z) = false := decide_eq_false (by omega)
  have e12 : IntKind.u64.wrap (4294967296 * Y) = 4294967296 * Y := by rw [IntKind.wrap_u64]; omega
  have c4 : decide (4294967296 * Y < 0) = false := decide_eq_false (by omega)
  have k1 := Lib.hid (show IntKind.u64.wrap (IntKind.u64.wrap (Q * 4294967296) + Z) = (h * 18446744073709551616 + l) / 10 by simp only [IntKind.wrap_u64]; omega)
  have k2 := Lib.hid (show IntKind.u64.wrap (IntKind.u64.wrap (IntKind.u64.wrap (M * 4294967296)) - IntKind.u64.wrap (Z * 11529215046068469760)) / 1152921504606846976 = (h * 18446744073709551616 + l) % 10 by simp only [IntKind.wrap_u64]; omega)
  replace hU := Lib.hid hU
  replace hT := Lib.hid hT
  replace hS := Lib.hid hS
  replace hQ := Lib.hid hQ
  replace hR := Lib.hid hR
  replace hM := Lib.hid hM
  replace hZ := Lib.hid hZ
  replace hY := Lib.hid hY
  go_enter Tryd.func13, Tryd.ntmps13
  go_wp2_with fail
  refine (HZ.out _).mono ?_
  rintro r w1 ⟨rfl, rfl⟩
  go_wp2_with fail
  go_loopw [15, 16] (fun a b wr => a = .int .u64 Q ∧ b = .int .u64 R ∧ wr = w1) (fun _ _ _ => 1)
  case atStart => exact ⟨rfl, rfl, rfl⟩
  case round =>
    obtain ⟨rfl, rfl, rfl⟩ := hrel
    go_wp2
    go_loopw [18, 16] (fun a b w2 => a = .int .u64 Z ∧ b = .int .u64 Y ∧ w2 = wr) (fun _ _ _ => 1)
    case atStart => exact ⟨rfl, rfl, rfl⟩
    case round =>
      obtain ⟨rfl, rfl, rfl⟩ := hrel
      go_wp2
      go_ret2
      exact ⟨by rw [← k1.out, ← k2.out]; rfl, Below.refl _ _⟩
end Go.Proofs.YtmlaehjjeadbeaaDoor
