/-
  What may be opened: the walk of the statement OpeningGood.
-/
import Derived.Test.YtplhdiomedbhnaaOpenL
namespace Go.Proofs.Ytplhdiomedbhnaa
set_option linter.unusedVariables false
set_option linter.unusedSimpArgs false
open Go.RowKit

def goodB (ai1 ai2 ap1 ap2 aq1 aq2 ar1 ar2 as1 as2 atg alg acd afl ast : Int) : Bool := (ast == 0) && (decide (afl < 16)) && !(ai1 == 0 && ai2 == 0) && !(ai1 == 18446744073709551615 && ai2 == 18446744073709551615) && (alg != 0) && (acd != 0) && (ap1 == 0 && ap2 == 0) && (aq1 == 0 && aq2 == 0) && (ar1 == 0 && ar2 == 0) && (as1 == 0 && as2 == 0) && (bits .and .u16 afl 6 != 6)

theorem good_is (ai1 ai2 ap1 ap2 aq1 aq2 ar1 ar2 as1 as2 atg alg acd afl ast oi1 oi2 op1 op2 oq1 oq2 or1 or2 os1 os2 otg olg ocd ofl ost : Int) (hst : 0 ≤ ast) (hfl : 0 ≤ afl ∧ afl < 65536) (hofl : 0 ≤ ofl ∧ ofl < 65536) : (chkV false ai1 ai2 ap1 ap2 aq1 aq2 ar1 ar2 as1 as2 atg alg acd afl ast oi1 oi2 op1 op2 oq1 oq2 or1 or2 os1 os2 otg olg ocd ofl ost == 0) = goodB ai1 ai2 ap1 ap2 aq1 aq2 ar1 ar2 as1 as2 atg alg acd afl ast := by
  rw [chk_ref false ai1 ai2 ap1 ap2 aq1 aq2 ar1 ar2 as1 as2 atg alg acd afl ast oi1 oi2 op1 op2 oq1 oq2 or1 or2 os1 os2 otg olg ocd ofl ost hst hfl hofl]
  unfold refV goodB ref3V balB
  rw [u16_6 afl hfl.1 hfl.2]
  by_cases k1 : 0 < ast
  · have : (ast == 0) = false := by simp; omega
    simp [k1, this]
  obtain rfl : ast = 0 := by omega
  by_cases k2 : 15 < afl
  · have : decide (afl < 16) = false := by simp; omega
    simp [k2, this]
  have k2' : decide (afl < 16) = true := by simp; omega
  rw [if_neg k1, if_neg k2, k2']
  cases k3 : (ai1 == 0 && ai2 == 0)
  case true => simp
  cases k4 : (ai1 == 18446744073709551615 && ai2 == 18446744073709551615)
  case true => simp
  have k6 : (afl / 2 % 4 * 2 != 6) = !((afl / 2 % 2 == 1) && (afl / 4 % 2 == 1)) := by
    rw [Bool.eq_iff_iff]; simp; omega
  rw [k6]
  cases k7 : ((afl / 2 % 2 == 1) && (afl / 4 % 2 == 1))
  case true => simp
  cases (ap1 == 0 && ap2 == 0) <;> cases (aq1 == 0 && aq2 == 0) <;> cases (ar1 == 0 && ar2 == 0) <;> cases (as1 == 0 && as2 == 0) <;> simp
  by_cases h1 : alg = 0 <;> by_cases h2 : acd = 0 <;> simp [h1, h2]
theorem chk_old (ai1 ai2 ap1 ap2 aq1 aq2 ar1 ar2 as1 as2 atg alg acd afl ast oi1 oi2 op1 op2 oq1 oq2 or1 or2 os1 os2 otg olg ocd ofl ost zi1 zi2 zp1 zp2 zq1 zq2 zr1 zr2 zs1 zs2 ztg zlg zcd zfl zst : Int) : chkV false ai1 ai2 ap1 ap2 aq1 aq2 ar1 ar2 as1 as2 atg alg acd afl ast oi1 oi2 op1 op2 oq1 oq2 or1 or2 os1 os2 otg olg ocd ofl ost = chkV false ai1 ai2 ap1 ap2 aq1 aq2 ar1 ar2 as1 as2 atg alg acd afl ast zi1 zi2 zp1 zp2 zq1 zq2 zr1 zr2 zs1 zs2 ztg zlg zcd zfl zst := by simp [chkV]
theorem chk_there (ai1 ai2 ap1 ap2 aq1 aq2 ar1 ar2 as1 as2 atg alg acd afl ast oi1 oi2 op1 op2 oq1 oq2 or1 or2 os1 os2 otg olg ocd ofl ost : Int) (hst : 0 ≤ ast) (hfl : 0 ≤ afl ∧ afl < 65536) (hofl : 0 ≤ ofl ∧ ofl < 65536) : (chkV true ai1 ai2 ap1 ap2 aq1 aq2 ar1 ar2 as1 as2 atg alg acd afl ast oi1 oi2 op1 op2 oq1 oq2 or1 or2 os1 os2 otg olg ocd ofl ost != 0) = true := by
  rw [chk_ref true ai1 ai2 ap1 ap2 aq1 aq2 ar1 ar2 as1 as2 atg alg acd afl ast oi1 oi2 op1 op2 oq1 oq2 or1 or2 os1 os2 otg olg ocd ofl ost hst hfl hofl]
  unfold refV ref2V
  repeat' split
  all_goals first | rfl | contradiction

set_option maxHeartbeats 8000000 in
theorem openingGood_walk (ai1 ai2 ap1 ap2 aq1 aq2 ar1 ar2 as1 as2 atg alg acd afl ast oi1 oi2 op1 op2 oq1 oq2 or1 or2 os1 os2 otg olg ocd ofl ost : Int) (hst : 0 ≤ ast) (hfl : 0 ≤ afl ∧ afl < 65536) (hofl : 0 ≤ ofl ∧ ofl < 65536) (w : World) :
    Calls Try.prog 3 #[.agg #[.int .u64 ai1, .int .u64 ai2, .int .u64 ap1, .int .u64 ap2, .int .u64 aq1, .int .u64 aq2, .int .u64 ar1, .int .u64 ar2, .int .u64 as1, .int .u64 as2, .int .u64 atg, .int .u32 alg, .int .u16 acd, .int .u16 afl, .int .u64 ast], .agg #[.int .u64 oi1, .int .u64 oi2, .int .u64 op1, .int .u64 op2, .int .u64 oq1, .int .u64 oq2, .int .u64 or1, .int .u64 or2, .int .u64 os1, .int .u64 os2, .int .u64 otg, .int .u32 olg, .int .u16 ocd, .int .u16 ofl, .int .u64 ost]] w fun r w' => r = .returned (.bool true) ∧ Below w.heap.size w w' := by
  have H1 : ∀ w, Calls Try.prog 7 #[.agg #[.int .u64 ai1, .int .u64 ai2, .int .u64 ap1, .int .u64 ap2, .int .u64 aq1, .int .u64 aq2, .int .u64 ar1, .int .u64 ar2, .int .u64 as1, .int .u64 as2, .int .u64 atg, .int .u32 alg, .int .u16 acd, .int .u16 afl, .int .u64 ast], .agg #[.int .u64 oi1, .int .u64 oi2, .int .u64 op1, .int .u64 op2, .int .u64 oq1, .int .u64 oq2, .int .u64 or1, .int .u64 or2, .int .u64 os1, .int .u64 os2, .int .u64 otg, .int .u32 olg, .int .u16 ocd, .int .u16 ofl, .int .u64 ost], .bool false] w fun r w' => r = .returned (.int .u32 (chkV false ai1 ai2 ap1 ap2 aq1 aq2 ar1 ar2 as1 as2 atg alg acd afl ast oi1 oi2 op1 op2 oq1 oq2 or1 or2 os1 os2 otg olg ocd ofl ost)) ∧ Below w.heap.size w w' := fun w => check_any ai1 ai2 ap1 ap2 aq1 aq2 ar1 ar2 as1 as2 atg alg acd afl ast oi1 oi2 op1 op2 oq1 oq2 or1 or2 os1 os2 otg olg ocd ofl ost false w
  have H2 : ∀ w, Calls Try.prog 7 #[.agg #[.int .u64 ai1, .int .u64 ai2, .int .u64 ap1, .int .u64 ap2, .int .u64 aq1, .int .u64 aq2, .int .u64 ar1, .int .u64 ar2, .int .u64 as1, .int .u64 as2, .int .u64 atg, .int .u32 alg, .int .u16 acd, .int .u16 afl, .int .u64 ast], .agg #[.int .u64 0, .int .u64 0, .int .u64 0, .int .u64 0, .int .u64 0, .int .u64 0, .int .u64 0, .int .u64 0, .int .u64 0, .int .u64 0, .int .u64 0, .int .u32 0, .int .u16 0, .int .u16 0, .int .u64 0], .bool false] w fun r w' => r = .returned (.int .u32 (chkV false ai1 ai2 ap1 ap2 aq1 aq2 ar1 ar2 as1 as2 atg alg acd afl ast oi1 oi2 op1 op2 oq1 oq2 or1 or2 os1 os2 otg olg ocd ofl ost)) ∧ Below w.heap.size w w' := fun w => chk_is (chk_old ai1 ai2 ap1 ap2 aq1 aq2 ar1 ar2 as1 as2 atg alg acd afl ast 0 0 0 0 0 0 0 0 0 0 0 0 0 0 0 oi1 oi2 op1 op2 oq1 oq2 or1 or2 os1 os2 otg olg ocd ofl ost) w
  have H3 : ∀ w, Calls Try.prog 7 #[.agg #[.int .u64 ai1, .int .u64 ai2, .int .u64 ap1, .int .u64 ap2, .int .u64 aq1, .int .u64 aq2, .int .u64 ar1, .int .u64 ar2, .int .u64 as1, .int .u64 as2, .int .u64 atg, .int .u32 alg, .int .u16 acd, .int .u16 afl, .int .u64 ast], .agg #[.int .u64 oi1, .int .u64 oi2, .int .u64 op1, .int .u64 op2, .int .u64 oq1, .int .u64 oq2, .int .u64 or1, .int .u64 or2, .int .u64 os1, .int .u64 os2, .int .u64 otg, .int .u32 olg, .int .u16 ocd, .int .u16 ofl, .int .u64 ost], .bool true] w fun r w' => r = .returned (.int .u32 (chkV true ai1 ai2 ap1 ap2 aq1 aq2 ar1 ar2 as1 as2 atg alg acd afl ast oi1 oi2 op1 op2 oq1 oq2 or1 or2 os1 os2 otg olg ocd ofl ost)) ∧ Below w.heap.size w w' := fun w => check_any ai1 ai2 ap1 ap2 aq1 aq2 ar1 ar2 as1 as2 atg alg acd afl ast oi1 oi2 op1 op2 oq1 oq2 or1 or2 os1 os2 otg olg ocd ofl ost true w
  have HU := chk_there ai1 ai2 ap1 ap2 aq1 aq2 ar1 ar2 as1 as2 atg alg acd afl ast oi1 oi2 op1 op2 oq1 oq2 or1 or2 os1 os2 otg olg ocd ofl ost hst hfl hofl
  have HV := good_is ai1 ai2 ap1 ap2 aq1 aq2 ar1 ar2 as1 as2 atg alg acd afl ast oi1 oi2 op1 op2 oq1 oq2 or1 or2 os1 os2 otg olg ocd ofl ost hst hfl hofl
  generalize chkV false ai1 ai2 ap1 ap2 aq1 aq2 ar1 ar2 as1 as2 atg alg acd afl ast oi1 oi2 op1 op2 oq1 oq2 or1 or2 os1 os2 otg olg ocd ofl ost = V at *
  generalize chkV true ai1 ai2 ap1 ap2 aq1 aq2 ar1 ar2 as1 as2 atg alg acd afl ast oi1 oi2 op1 op2 oq1 oq2 or1 or2 os1 os2 otg olg ocd ofl ost = U at *
  replace H1 := Lib.hid H1
  replace H2 := Lib.hid H2
  replace H3 := Lib.hid H3
  clear hst hfl hofl
  unfold goodB at HV
  cases c1 : (ast == 0)
  case false =>
    simp only [c1, Bool.true_and, Bool.and_true, Bool.false_and, Bool.and_false, Bool.not_true, Bool.not_false] at HV
    go_enter Try.func3, Try.ntmps3
    go_wp2_with (go_at_call 7; refine (gro (H1.out _)).mono ?_; rintro e w' ⟨rfl, d1, rfl⟩)
    first | (with_reducible refine rgrow2 (by kernel_rfl) (by kernel_rfl) ?_) | (refine rgrow (by kernel_rfl) (by kernel_rfl) ?_)
    repeat (go_big_quiet_step (((go_at_call 8; exact grow_call (top_any _)))))
    refine wpQuiet_nil ?_
    intro dr
    go_wp2_with (first | (go_at_call 9; refine (grow_call (fixed17_any _)).mono ?_; rintro e w' ⟨rfl, d1, rfl⟩) | (go_at_call 7; first | ((with_reducible refine (grow_call (H2.out _)).mono ?_); rintro e w' ⟨rfl, d1, rfl⟩) | ((with_reducible refine (grow_call (H3.out _)).mono ?_); rintro e w' ⟨rfl, d1, rfl⟩)))
    go_ret
    exact ⟨rfl, (by repeat (first | exact Below.refl _ _ | assumption | refine below_drewN ?_ _ | refine bel_grow ?_ _ | refine Below.drew ?_ | refine bel_alloc ?_ _ | refine bel_set ?_ (by first | exact Nat.le_refl _ | (simp; done) | (simp; omega) | omega) _ | refine bel_trans ?_ (by assumption)))⟩
  case true =>
   cases c2 : (decide (afl < 16))
   case false =>
     simp only [c1, c2, Bool.true_and, Bool.and_true, Bool.false_and, Bool.and_false, Bool.not_true, Bool.not_false] at HV
     go_enter Try.func3, Try.ntmps3
     go_wp2_with (go_at_call 7; refine (gro (H1.out _)).mono ?_; rintro e w' ⟨rfl, d1, rfl⟩)
     first | (with_reducible refine rgrow2 (by kernel_rfl) (by kernel_rfl) ?_) | (refine rgrow (by kernel_rfl) (by kernel_rfl) ?_)
     repeat (go_big_quiet_step (((go_at_call 8; exact grow_call (top_any _)))))
     refine wpQuiet_nil ?_
     intro dr
     go_wp2_with (first | (go_at_call 9; refine (grow_call (fixed17_any _)).mono ?_; rintro e w' ⟨rfl, d1, rfl⟩) | (go_at_call 7; first | ((with_reducible refine (grow_call (H2.out _)).mono ?_); rintro e w' ⟨rfl, d1, rfl⟩) | ((with_reducible refine (grow_call (H3.out _)).mono ?_); rintro e w' ⟨rfl, d1, rfl⟩)))
     go_ret
     exact ⟨rfl, (by repeat (first | exact Below.refl _ _ | assumption | refine below_drewN ?_ _ | refine bel_grow ?_ _ | refine Below.drew ?_ | refine bel_alloc ?_ _ | refine bel_set ?_ (by first | exact Nat.le_refl _ | (simp; done) | (simp; omega) | omega) _ | refine bel_trans ?_ (by assumption)))⟩
   case true =>
    cases c3 : (ai1 == 0 && ai2 == 0)
    case true =>
      simp only [c1, c2, c3, Bool.true_and, Bool.and_true, Bool.false_and, Bool.and_false, Bool.not_true, Bool.not_false] at HV
      go_enter Try.func3, Try.ntmps3
      go_wp2_with (go_at_call 7; refine (gro (H1.out _)).mono ?_; rintro e w' ⟨rfl, d1, rfl⟩)
      first | (with_reducible refine rgrow2 (by kernel_rfl) (by kernel_rfl) ?_) | (refine rgrow (by kernel_rfl) (by kernel_rfl) ?_)
      repeat (go_big_quiet_step (((go_at_call 8; exact grow_call (top_any _)))))
      refine wpQuiet_nil ?_
      intro dr
      go_wp2_with (first | (go_at_call 9; refine (grow_call (fixed17_any _)).mono ?_; rintro e w' ⟨rfl, d1, rfl⟩) | (go_at_call 7; first | ((with_reducible refine (grow_call (H2.out _)).mono ?_); rintro e w' ⟨rfl, d1, rfl⟩) | ((with_reducible refine (grow_call (H3.out _)).mono ?_); rintro e w' ⟨rfl, d1, rfl⟩)))
      go_ret
      exact ⟨rfl, (by repeat (first | exact Below.refl _ _ | assumption | refine below_drewN ?_ _ | refine bel_grow ?_ _ | refine Below.drew ?_ | refine bel_alloc ?_ _ | refine bel_set ?_ (by first | exact Nat.le_refl _ | (simp; done) | (simp; omega) | omega) _ | refine bel_trans ?_ (by assumption)))⟩
    case false =>
     cases c4 : (ai1 == 18446744073709551615 && ai2 == 18446744073709551615)
     case true =>
       simp only [c1, c2, c3, c4, Bool.true_and, Bool.and_true, Bool.false_and, Bool.and_false, Bool.not_true, Bool.not_false] at HV
       go_enter Try.func3, Try.ntmps3
       go_wp2_with (go_at_call 7; refine (gro (H1.out _)).mono ?_; rintro e w' ⟨rfl, d1, rfl⟩)
       first | (with_reducible refine rgrow2 (by kernel_rfl) (by kernel_rfl) ?_) | (refine rgrow (by kernel_rfl) (by kernel_rfl) ?_)
       repeat (go_big_quiet_step (((go_at_call 8; exact grow_call (top_any _)))))
       refine wpQuiet_nil ?_
       intro dr
       go_wp2_with (first | (go_at_call 9; refine (grow_call (fixed17_any _)).mono ?_; rintro e w' ⟨rfl, d1, rfl⟩) | (go_at_call 7; first | ((with_reducible refine (grow_call (H2.out _)).mono ?_); rintro e w' ⟨rfl, d1, rfl⟩) | ((with_reducible refine (grow_call (H3.out _)).mono ?_); rintro e w' ⟨rfl, d1, rfl⟩)))
       go_ret
       exact ⟨rfl, (by repeat (first | exact Below.refl _ _ | assumption | refine below_drewN ?_ _ | refine bel_grow ?_ _ | refine Below.drew ?_ | refine bel_alloc ?_ _ | refine bel_set ?_ (by first | exact Nat.le_refl _ | (simp; done) | (simp; omega) | omega) _ | refine bel_trans ?_ (by assumption)))⟩
     case false =>
      cases c5 : (alg != 0)
      case false =>
        simp only [c1, c2, c3, c4, c5, Bool.true_and, Bool.and_true, Bool.false_and, Bool.and_false, Bool.not_true, Bool.not_false] at HV
        go_enter Try.func3, Try.ntmps3
        go_wp2_with (go_at_call 7; refine (gro (H1.out _)).mono ?_; rintro e w' ⟨rfl, d1, rfl⟩)
        first | (with_reducible refine rgrow2 (by kernel_rfl) (by kernel_rfl) ?_) | (refine rgrow (by kernel_rfl) (by kernel_rfl) ?_)
        repeat (go_big_quiet_step (((go_at_call 8; exact grow_call (top_any _)))))
        refine wpQuiet_nil ?_
        intro dr
        go_wp2_with (first | (go_at_call 9; refine (grow_call (fixed17_any _)).mono ?_; rintro e w' ⟨rfl, d1, rfl⟩) | (go_at_call 7; first | ((with_reducible refine (grow_call (H2.out _)).mono ?_); rintro e w' ⟨rfl, d1, rfl⟩) | ((with_reducible refine (grow_call (H3.out _)).mono ?_); rintro e w' ⟨rfl, d1, rfl⟩)))
        go_ret
        exact ⟨rfl, (by repeat (first | exact Below.refl _ _ | assumption | refine below_drewN ?_ _ | refine bel_grow ?_ _ | refine Below.drew ?_ | refine bel_alloc ?_ _ | refine bel_set ?_ (by first | exact Nat.le_refl _ | (simp; done) | (simp; omega) | omega) _ | refine bel_trans ?_ (by assumption)))⟩
      case true =>
       cases c6 : (acd != 0)
       case false =>
         simp only [c1, c2, c3, c4, c5, c6, Bool.true_and, Bool.and_true, Bool.false_and, Bool.and_false, Bool.not_true, Bool.not_false] at HV
         go_enter Try.func3, Try.ntmps3
         go_wp2_with (go_at_call 7; refine (gro (H1.out _)).mono ?_; rintro e w' ⟨rfl, d1, rfl⟩)
         first | (with_reducible refine rgrow2 (by kernel_rfl) (by kernel_rfl) ?_) | (refine rgrow (by kernel_rfl) (by kernel_rfl) ?_)
         repeat (go_big_quiet_step (((go_at_call 8; exact grow_call (top_any _)))))
         refine wpQuiet_nil ?_
         intro dr
         go_wp2_with (first | (go_at_call 9; refine (grow_call (fixed17_any _)).mono ?_; rintro e w' ⟨rfl, d1, rfl⟩) | (go_at_call 7; first | ((with_reducible refine (grow_call (H2.out _)).mono ?_); rintro e w' ⟨rfl, d1, rfl⟩) | ((with_reducible refine (grow_call (H3.out _)).mono ?_); rintro e w' ⟨rfl, d1, rfl⟩)))
         go_ret
         exact ⟨rfl, (by repeat (first | exact Below.refl _ _ | assumption | refine below_drewN ?_ _ | refine bel_grow ?_ _ | refine Below.drew ?_ | refine bel_alloc ?_ _ | refine bel_set ?_ (by first | exact Nat.le_refl _ | (simp; done) | (simp; omega) | omega) _ | refine bel_trans ?_ (by assumption)))⟩
       case true =>
        cases c7 : (ap1 == 0 && ap2 == 0)
        case false =>
          simp only [c1, c2, c3, c4, c5, c6, c7, Bool.true_and, Bool.and_true, Bool.false_and, Bool.and_false, Bool.not_true, Bool.not_false] at HV
          go_enter Try.func3, Try.ntmps3
          go_wp2_with (go_at_call 7; refine (gro (H1.out _)).mono ?_; rintro e w' ⟨rfl, d1, rfl⟩)
          first | (with_reducible refine rgrow2 (by kernel_rfl) (by kernel_rfl) ?_) | (refine rgrow (by kernel_rfl) (by kernel_rfl) ?_)
          repeat (go_big_quiet_step (((go_at_call 8; exact grow_call (top_any _)))))
          refine wpQuiet_nil ?_
          intro dr
          go_wp2_with (first | (go_at_call 9; refine (grow_call (fixed17_any _)).mono ?_; rintro e w' ⟨rfl, d1, rfl⟩) | (go_at_call 7; first | ((with_reducible refine (grow_call (H2.out _)).mono ?_); rintro e w' ⟨rfl, d1, rfl⟩) | ((with_reducible refine (grow_call (H3.out _)).mono ?_); rintro e w' ⟨rfl, d1, rfl⟩)))
          go_ret
          exact ⟨rfl, (by repeat (first | exact Below.refl _ _ | assumption | refine below_drewN ?_ _ | refine bel_grow ?_ _ | refine Below.drew ?_ | refine bel_alloc ?_ _ | refine bel_set ?_ (by first | exact Nat.le_refl _ | (simp; done) | (simp; omega) | omega) _ | refine bel_trans ?_ (by assumption)))⟩
        case true =>
         cases c8 : (aq1 == 0 && aq2 == 0)
         case false =>
           simp only [c1, c2, c3, c4, c5, c6, c7, c8, Bool.true_and, Bool.and_true, Bool.false_and, Bool.and_false, Bool.not_true, Bool.not_false] at HV
           go_enter Try.func3, Try.ntmps3
           go_wp2_with (go_at_call 7; refine (gro (H1.out _)).mono ?_; rintro e w' ⟨rfl, d1, rfl⟩)
           first | (with_reducible refine rgrow2 (by kernel_rfl) (by kernel_rfl) ?_) | (refine rgrow (by kernel_rfl) (by kernel_rfl) ?_)
           repeat (go_big_quiet_step (((go_at_call 8; exact grow_call (top_any _)))))
           refine wpQuiet_nil ?_
           intro dr
           go_wp2_with (first | (go_at_call 9; refine (grow_call (fixed17_any _)).mono ?_; rintro e w' ⟨rfl, d1, rfl⟩) | (go_at_call 7; first | ((with_reducible refine (grow_call (H2.out _)).mono ?_); rintro e w' ⟨rfl, d1, rfl⟩) | ((with_reducible refine (grow_call (H3.out _)).mono ?_); rintro e w' ⟨rfl, d1, rfl⟩)))
           go_ret
           exact ⟨rfl, (by repeat (first | exact Below.refl _ _ | assumption | refine below_drewN ?_ _ | refine bel_grow ?_ _ | refine Below.drew ?_ | refine bel_alloc ?_ _ | refine bel_set ?_ (by first | exact Nat.le_refl _ | (simp; done) | (simp; omega) | omega) _ | refine bel_trans ?_ (by assumption)))⟩
         case true =>
          cases c9 : (ar1 == 0 && ar2 == 0)
          case false =>
            simp only [c1, c2, c3, c4, c5, c6, c7, c8, c9, Bool.true_and, Bool.and_true, Bool.false_and, Bool.and_false, Bool.not_true, Bool.not_false] at HV
            go_enter Try.func3, Try.ntmps3
            go_wp2_with (go_at_call 7; refine (gro (H1.out _)).mono ?_; rintro e w' ⟨rfl, d1, rfl⟩)
            first | (with_reducible refine rgrow2 (by kernel_rfl) (by kernel_rfl) ?_) | (refine rgrow (by kernel_rfl) (by kernel_rfl) ?_)
            repeat (go_big_quiet_step (((go_at_call 8; exact grow_call (top_any _)))))
            refine wpQuiet_nil ?_
            intro dr
            go_wp2_with (first | (go_at_call 9; refine (grow_call (fixed17_any _)).mono ?_; rintro e w' ⟨rfl, d1, rfl⟩) | (go_at_call 7; first | ((with_reducible refine (grow_call (H2.out _)).mono ?_); rintro e w' ⟨rfl, d1, rfl⟩) | ((with_reducible refine (grow_call (H3.out _)).mono ?_); rintro e w' ⟨rfl, d1, rfl⟩)))
            go_ret
            exact ⟨rfl, (by repeat (first | exact Below.refl _ _ | assumption | refine below_drewN ?_ _ | refine bel_grow ?_ _ | refine Below.drew ?_ | refine bel_alloc ?_ _ | refine bel_set ?_ (by first | exact Nat.le_refl _ | (simp; done) | (simp; omega) | omega) _ | refine bel_trans ?_ (by assumption)))⟩
          case true =>
           cases c10 : (as1 == 0 && as2 == 0)
           case false =>
             simp only [c1, c2, c3, c4, c5, c6, c7, c8, c9, c10, Bool.true_and, Bool.and_true, Bool.false_and, Bool.and_false, Bool.not_true, Bool.not_false] at HV
             go_enter Try.func3, Try.ntmps3
             go_wp2_with (go_at_call 7; refine (gro (H1.out _)).mono ?_; rintro e w' ⟨rfl, d1, rfl⟩)
             first | (with_reducible refine rgrow2 (by kernel_rfl) (by kernel_rfl) ?_) | (refine rgrow (by kernel_rfl) (by kernel_rfl) ?_)
             repeat (go_big_quiet_step (((go_at_call 8; exact grow_call (top_any _)))))
             refine wpQuiet_nil ?_
             intro dr
             go_wp2_with (first | (go_at_call 9; refine (grow_call (fixed17_any _)).mono ?_; rintro e w' ⟨rfl, d1, rfl⟩) | (go_at_call 7; first | ((with_reducible refine (grow_call (H2.out _)).mono ?_); rintro e w' ⟨rfl, d1, rfl⟩) | ((with_reducible refine (grow_call (H3.out _)).mono ?_); rintro e w' ⟨rfl, d1, rfl⟩)))
             go_ret
             exact ⟨rfl, (by repeat (first | exact Below.refl _ _ | assumption | refine below_drewN ?_ _ | refine bel_grow ?_ _ | refine Below.drew ?_ | refine bel_alloc ?_ _ | refine bel_set ?_ (by first | exact Nat.le_refl _ | (simp; done) | (simp; omega) | omega) _ | refine bel_trans ?_ (by assumption)))⟩
           case true =>
            cases c11 : (bits .and .u16 afl 6 != 6)
            case false =>
              simp only [c1, c2, c3, c4, c5, c6, c7, c8, c9, c10, c11, Bool.true_and, Bool.and_true, Bool.false_and, Bool.and_false, Bool.not_true, Bool.not_false] at HV
              go_enter Try.func3, Try.ntmps3
              go_wp2_with (go_at_call 7; refine (gro (H1.out _)).mono ?_; rintro e w' ⟨rfl, d1, rfl⟩)
              first | (with_reducible refine rgrow2 (by kernel_rfl) (by kernel_rfl) ?_) | (refine rgrow (by kernel_rfl) (by kernel_rfl) ?_)
              repeat (go_big_quiet_step (((go_at_call 8; exact grow_call (top_any _)))))
              refine wpQuiet_nil ?_
              intro dr
              go_wp2_with (first | (go_at_call 9; refine (grow_call (fixed17_any _)).mono ?_; rintro e w' ⟨rfl, d1, rfl⟩) | (go_at_call 7; first | ((with_reducible refine (grow_call (H2.out _)).mono ?_); rintro e w' ⟨rfl, d1, rfl⟩) | ((with_reducible refine (grow_call (H3.out _)).mono ?_); rintro e w' ⟨rfl, d1, rfl⟩)))
              go_ret
              exact ⟨rfl, (by repeat (first | exact Below.refl _ _ | assumption | refine below_drewN ?_ _ | refine bel_grow ?_ _ | refine Below.drew ?_ | refine bel_alloc ?_ _ | refine bel_set ?_ (by first | exact Nat.le_refl _ | (simp; done) | (simp; omega) | omega) _ | refine bel_trans ?_ (by assumption)))⟩
            case true =>
             simp only [c1, c2, c3, c4, c5, c6, c7, c8, c9, c10, c11, Bool.true_and, Bool.and_true, Bool.false_and, Bool.and_false, Bool.not_true, Bool.not_false] at HV
             go_enter Try.func3, Try.ntmps3
             go_wp2_with (go_at_call 7; refine (gro (H1.out _)).mono ?_; rintro e w' ⟨rfl, d1, rfl⟩)
             first | (with_reducible refine rgrow2 (by kernel_rfl) (by kernel_rfl) ?_) | (refine rgrow (by kernel_rfl) (by kernel_rfl) ?_)
             repeat (go_big_quiet_step (((go_at_call 8; exact grow_call (top_any _)))))
             refine wpQuiet_nil ?_
             intro dr
             go_wp2_with (first | (go_at_call 9; refine (grow_call (fixed17_any _)).mono ?_; rintro e w' ⟨rfl, d1, rfl⟩) | (go_at_call 7; first | ((with_reducible refine (grow_call (H2.out _)).mono ?_); rintro e w' ⟨rfl, d1, rfl⟩) | ((with_reducible refine (grow_call (H3.out _)).mono ?_); rintro e w' ⟨rfl, d1, rfl⟩)))
             go_ret
             exact ⟨rfl, (by repeat (first | exact Below.refl _ _ | assumption | refine below_drewN ?_ _ | refine bel_grow ?_ _ | refine Below.drew ?_ | refine bel_alloc ?_ _ | refine bel_set ?_ (by first | exact Nat.le_refl _ | (simp; done) | (simp; omega) | omega) _ | refine bel_trans ?_ (by assumption)))⟩
end Go.Proofs.Ytplhdiomedbhnaa
