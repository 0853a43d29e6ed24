/-
  The verdict of any account that is handed in: the document's answer.
-/
import Derived.Test.YtplhdiomedbhnaaOpenB
namespace Go.Proofs.Ytplhdiomedbhnaa
set_option linter.unusedVariables false
set_option linter.unusedSimpArgs false
open Go.RowKit

theorem bit_any (f b : Int) (hf : 0 ≤ f ∧ f < 65536) (hb : 1 ≤ b ∧ b < 65536) (w : World) : Calls Try.prog 17 #[.int .u16 f, .int .u16 b] w fun r w' => r = .returned (.bool (f / b % 2 == 1)) ∧ Below w.heap.size w w' := by
  have h0 : 0 ≤ f := hf.1
  have h1 : 1 ≤ b := hb.1
  have h2 : ¬ b = 0 := by omega
  have h3 : 0 ≤ f / b := Int.ediv_nonneg h0 (by omega)
  have h4 : f / b ≤ f := Int.ediv_le_self _ h0
  go_enter Try.func17, Try.ntmps17
  go_wp2
  go_ret
  refine ⟨?_, (by repeat (first | exact Below.refl _ _ | assumption | refine below_drewN ?_ _ | refine bel_grow ?_ _ | refine Below.drew ?_ | refine bel_alloc ?_ _ | refine bel_set ?_ (by first | exact Nat.le_refl _ | (simp; done) | (simp; omega) | omega) _ | refine bel_trans ?_ (by assumption)))⟩
  show Ending.returned (Value.bool ((IntKind.u16.wrap (f.tdiv b)).tmod 2 == 1)) = _
  rw [Int.tdiv_eq_ediv_of_nonneg h0, IntKind.wrap_u16, Int.emod_eq_of_lt h3 (by omega), Int.tmod_eq_emod_of_nonneg h3]

def ref1V (ai1 ai2 afl ast : Int) : Int := if 0 < ast then 3 else if 15 < afl then 4 else if (ai1 == 0 && ai2 == 0) = true then 5 else if (ai1 == 18446744073709551615 && ai2 == 18446744073709551615) = true then 6 else 0
def ref2V (atg alg acd afl otg olg ocd ofl : Int) : Int :=
  if afl ≠ (if (ofl / 16 % 2 == 1) = true then (ofl - 16) % 65536 else ofl) then 7 else if atg ≠ otg then 13 else if alg ≠ olg then 14 else if acd ≠ ocd then 15 else 16
def ref3V (p q : Bool) (ap1 ap2 aq1 aq2 ar1 ar2 as1 as2 alg acd : Int) : Int :=
  if (p && q) = true then 17 else if (!(balB ap1 ap2 aq1 aq2 ar1 ar2 as1 as2)) = true then 18 else if alg = 0 then 27 else if acd = 0 then 28 else 0
def refV (x : Bool) (ai1 ai2 ap1 ap2 aq1 aq2 ar1 ar2 as1 as2 atg alg acd afl ast oi1 oi2 op1 op2 oq1 oq2 or1 or2 os1 os2 otg olg ocd ofl ost : Int) : Int :=
  if 0 < ast then 3 else if 15 < afl then 4 else if (ai1 == 0 && ai2 == 0) = true then 5 else if (ai1 == 18446744073709551615 && ai2 == 18446744073709551615) = true then 6 else
  if x then ref2V atg alg acd afl otg olg ocd ofl else ref3V (afl / 2 % 2 == 1) (afl / 4 % 2 == 1) ap1 ap2 aq1 aq2 ar1 ar2 as1 as2 alg acd

set_option maxHeartbeats 4000000 in
theorem refcheck_any (ai1 ai2 ap1 ap2 aq1 aq2 ar1 ar2 as1 as2 atg alg acd afl ast oi1 oi2 op1 op2 oq1 oq2 or1 or2 os1 os2 otg olg ocd ofl ost : Int) (x : Bool) (hst : 0 ≤ ast) (hfl : 0 ≤ afl ∧ afl < 65536) (hofl : 0 ≤ ofl ∧ ofl < 65536) (w : World) : Calls Try.prog 11 #[.agg #[.int .u64 ai1, .int .u64 ai2, .int .u64 ap1, .int .u64 ap2, .int .u64 aq1, .int .u64 aq2, .int .u64 ar1, .int .u64 ar2, .int .u64 as1, .int .u64 as2, .int .u64 atg, .int .u32 alg, .int .u16 acd, .int .u16 afl, .int .u64 ast], .agg #[.int .u64 oi1, .int .u64 oi2, .int .u64 op1, .int .u64 op2, .int .u64 oq1, .int .u64 oq2, .int .u64 or1, .int .u64 or2, .int .u64 os1, .int .u64 os2, .int .u64 otg, .int .u32 olg, .int .u16 ocd, .int .u16 ofl, .int .u64 ost], .bool x] w fun r w' =>
      r = .returned (.int .i64 (refV x ai1 ai2 ap1 ap2 aq1 aq2 ar1 ar2 as1 as2 atg alg acd afl ast oi1 oi2 op1 op2 oq1 oq2 or1 or2 os1 os2 otg olg ocd ofl ost)) ∧ Below w.heap.size w w' := by
  have HB1 := Lib.hid (fun w => bit_any ofl 16 hofl (by omega) w)
  have HB2 := Lib.hid (fun w => bit_any afl 2 hfl (by omega) w)
  have HB4 := Lib.hid (fun w => bit_any afl 4 hfl (by omega) w)
  by_cases k1 : 0 < ast
  · go_enter Try.func11, Try.ntmps11
    go_wp2_with fail
    go_ret
    exact ⟨by simp [refV, k1], (by repeat (first | exact Below.refl _ _ | assumption | refine below_drewN ?_ _ | refine bel_grow ?_ _ | refine Below.drew ?_ | refine bel_alloc ?_ _ | refine bel_set ?_ (by first | exact Nat.le_refl _ | (simp; done) | (simp; omega) | omega) _ | refine bel_trans ?_ (by assumption)))⟩
  by_cases k2 : 15 < afl
  · go_enter Try.func11, Try.ntmps11
    go_wp2_with fail
    go_ret
    have n1 : ¬ 0 < ast := by omega
    exact ⟨by simp [refV, n1, k2], (by repeat (first | exact Below.refl _ _ | assumption | refine below_drewN ?_ _ | refine bel_grow ?_ _ | refine Below.drew ?_ | refine bel_alloc ?_ _ | refine bel_set ?_ (by first | exact Nat.le_refl _ | (simp; done) | (simp; omega) | omega) _ | refine bel_trans ?_ (by assumption)))⟩
  by_cases k3 : (ai1 == 0) = true
  · by_cases k4 : (ai2 == 0) = true
    · go_enter Try.func11, Try.ntmps11
      go_wp2_with fail
      go_ret
      have n1 : ¬ 0 < ast := by omega
      have n2 : ¬ 15 < afl := by omega
      exact ⟨by simp [refV, n1, n2, k3, k4], (by repeat (first | exact Below.refl _ _ | assumption | refine below_drewN ?_ _ | refine bel_grow ?_ _ | refine Below.drew ?_ | refine bel_alloc ?_ _ | refine bel_set ?_ (by first | exact Nat.le_refl _ | (simp; done) | (simp; omega) | omega) _ | refine bel_trans ?_ (by assumption)))⟩
    · have k4 : (ai2 == 0) = false := by simpa using k4
      have k5 : (ai1 == 18446744073709551615 && ai2 == 18446744073709551615) = false := by simp at k3; simp [k3]
      have N3 := Lib.hid (show ¬ (ai1 == 0 && ai2 == 0) = true by simp [k4])
      have N4 := Lib.hid (show ¬ (ai1 == 18446744073709551615 && ai2 == 18446744073709551615) = true by simp [k5])
      go_enter Try.func11, Try.ntmps11
      go_wp2_with fail
      first | (with_reducible refine rgrow2 (by kernel_rfl) (by kernel_rfl) ?_) | (refine rgrow (by kernel_rfl) (by kernel_rfl) ?_)
      repeat (go_big_quiet_step (((go_at_call 8; exact grow_call (top_any _)))))
      refine wpQuiet_nil ?_
      intro dr
      go_wp2_with (first | (go_at_call 17; first | ((with_reducible refine (grow_call (HB1.out _)).mono ?_); rintro e w' ⟨rfl, d2, rfl⟩) | ((with_reducible refine (grow_call (HB2.out _)).mono ?_); rintro e w' ⟨rfl, d2, rfl⟩) | ((with_reducible refine (grow_call (HB4.out _)).mono ?_); rintro e w' ⟨rfl, d2, rfl⟩)))
      all_goals (
        go_ret
        refine ⟨congrArg (fun x => Ending.returned (Value.int .i64 x)) ?_, (by repeat (first | exact Below.refl _ _ | assumption | refine below_drewN ?_ _ | refine bel_grow ?_ _ | refine Below.drew ?_ | refine bel_alloc ?_ _ | refine bel_set ?_ (by first | exact Nat.le_refl _ | (simp; done) | (simp; omega) | omega) _ | refine bel_trans ?_ (by assumption)))⟩
        have n1 : ¬ 0 < ast := by omega
        have n2 : ¬ 15 < afl := by omega
        unfold refV
        rw [if_neg n1, if_neg n2, if_neg N3.out]
        first | rw [if_neg N4.out] | (rw [if_pos N4.out]; done)
        all_goals clear n1 n2
        all_goals simp only [ref2V, ref3V, balB, IntKind.wrap_u16] at *
        all_goals simp_all)
      all_goals (repeat' split) <;> first | rfl | omega
  · have k3 : (ai1 == 0) = false := by simpa using k3
    have N3 := Lib.hid (show ¬ (ai1 == 0 && ai2 == 0) = true by simp [k3])
    by_cases k5 : (ai1 == 18446744073709551615 && ai2 == 18446744073709551615) = true
    · have N4 := Lib.hid k5
      go_enter Try.func11, Try.ntmps11
      go_wp2_with fail
      first | (with_reducible refine rgrow2 (by kernel_rfl) (by kernel_rfl) ?_) | (refine rgrow (by kernel_rfl) (by kernel_rfl) ?_)
      repeat (go_big_quiet_step (((go_at_call 8; exact grow_call (top_any _)))))
      refine wpQuiet_nil ?_
      intro dr
      go_wp2_with (first | (go_at_call 17; first | ((with_reducible refine (grow_call (HB1.out _)).mono ?_); rintro e w' ⟨rfl, d2, rfl⟩) | ((with_reducible refine (grow_call (HB2.out _)).mono ?_); rintro e w' ⟨rfl, d2, rfl⟩) | ((with_reducible refine (grow_call (HB4.out _)).mono ?_); rintro e w' ⟨rfl, d2, rfl⟩)))
      all_goals (
        go_ret
        refine ⟨congrArg (fun x => Ending.returned (Value.int .i64 x)) ?_, (by repeat (first | exact Below.refl _ _ | assumption | refine below_drewN ?_ _ | refine bel_grow ?_ _ | refine Below.drew ?_ | refine bel_alloc ?_ _ | refine bel_set ?_ (by first | exact Nat.le_refl _ | (simp; done) | (simp; omega) | omega) _ | refine bel_trans ?_ (by assumption)))⟩
        have n1 : ¬ 0 < ast := by omega
        have n2 : ¬ 15 < afl := by omega
        unfold refV
        rw [if_neg n1, if_neg n2, if_neg N3.out]
        first | rw [if_neg N4.out] | (rw [if_pos N4.out]; done)
        all_goals clear n1 n2
        all_goals simp only [ref2V, ref3V, balB, IntKind.wrap_u16] at *
        all_goals simp_all)
      all_goals (repeat' split) <;> first | rfl | omega
    · have k5 : (ai1 == 18446744073709551615 && ai2 == 18446744073709551615) = false := by simpa using k5
      have N4 := Lib.hid (show ¬ (ai1 == 18446744073709551615 && ai2 == 18446744073709551615) = true by simp [k5])
      go_enter Try.func11, Try.ntmps11
      go_wp2_with fail
      first | (with_reducible refine rgrow2 (by kernel_rfl) (by kernel_rfl) ?_) | (refine rgrow (by kernel_rfl) (by kernel_rfl) ?_)
      repeat (go_big_quiet_step (((go_at_call 8; exact grow_call (top_any _)))))
      refine wpQuiet_nil ?_
      intro dr
      go_wp2_with (first | (go_at_call 17; first | ((with_reducible refine (grow_call (HB1.out _)).mono ?_); rintro e w' ⟨rfl, d2, rfl⟩) | ((with_reducible refine (grow_call (HB2.out _)).mono ?_); rintro e w' ⟨rfl, d2, rfl⟩) | ((with_reducible refine (grow_call (HB4.out _)).mono ?_); rintro e w' ⟨rfl, d2, rfl⟩)))
      all_goals (
        go_ret
        refine ⟨congrArg (fun x => Ending.returned (Value.int .i64 x)) ?_, (by repeat (first | exact Below.refl _ _ | assumption | refine below_drewN ?_ _ | refine bel_grow ?_ _ | refine Below.drew ?_ | refine bel_alloc ?_ _ | refine bel_set ?_ (by first | exact Nat.le_refl _ | (simp; done) | (simp; omega) | omega) _ | refine bel_trans ?_ (by assumption)))⟩
        have n1 : ¬ 0 < ast := by omega
        have n2 : ¬ 15 < afl := by omega
        unfold refV
        rw [if_neg n1, if_neg n2, if_neg N3.out]
        first | rw [if_neg N4.out] | (rw [if_pos N4.out]; done)
        all_goals clear n1 n2
        all_goals simp only [ref2V, ref3V, balB, IntKind.wrap_u16] at *
        all_goals simp_all)
      all_goals (repeat' split) <;> first | rfl | omega
  end Go.Proofs.Ytplhdiomedbhnaa
