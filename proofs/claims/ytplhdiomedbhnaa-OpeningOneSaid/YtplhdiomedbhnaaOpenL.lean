/-
  The chapter's examples of opening hold; the walks of the statements OpeningVerdicts and OpeningAgain.
-/
import Derived.Test.YtplhdiomedbhnaaOpenP
import Derived.Test.YtplhdiomedbhnaaAcc
namespace Go.Proofs.Ytplhdiomedbhnaa
set_option linter.unusedVariables false
set_option linter.unusedSimpArgs false
open Go.RowKit

theorem refV_lo (x : Bool) (ai1 ai2 ap1 ap2 aq1 aq2 ar1 ar2 as1 as2 atg alg acd afl ast oi1 oi2 op1 op2 oq1 oq2 or1 or2 os1 os2 otg olg ocd ofl ost : Int) : 0 ≤ refV x ai1 ai2 ap1 ap2 aq1 aq2 ar1 ar2 as1 as2 atg alg acd afl ast oi1 oi2 op1 op2 oq1 oq2 or1 or2 os1 os2 otg olg ocd ofl ost ∧ refV x ai1 ai2 ap1 ap2 aq1 aq2 ar1 ar2 as1 as2 atg alg acd afl ast oi1 oi2 op1 op2 oq1 oq2 or1 or2 os1 os2 otg olg ocd ofl ost < 100 := by
  unfold refV ref2V ref3V
  repeat' split
  all_goals decide

theorem opened_any (ai1 ai2 ap1 ap2 aq1 aq2 ar1 ar2 as1 as2 atg alg acd afl ast t : Int) (w : World) : Calls Try.prog 10 #[.agg #[.int .u64 ai1, .int .u64 ai2, .int .u64 ap1, .int .u64 ap2, .int .u64 aq1, .int .u64 aq2, .int .u64 ar1, .int .u64 ar2, .int .u64 as1, .int .u64 as2, .int .u64 atg, .int .u32 alg, .int .u16 acd, .int .u16 afl, .int .u64 ast], .int .u64 t] w fun r w' => r = .returned (.agg #[.int .u64 ai1, .int .u64 ai2, .int .u64 ap1, .int .u64 ap2, .int .u64 aq1, .int .u64 aq2, .int .u64 ar1, .int .u64 ar2, .int .u64 as1, .int .u64 as2, .int .u64 atg, .int .u32 alg, .int .u16 acd, .int .u16 afl, .int .u64 t]) ∧ Below w.heap.size w w' := by
  go_enter Try.func10, Try.ntmps10
  go_wp2
  refine bodyPost_ret (v := .agg #[.int .u64 ai1, .int .u64 ai2, .int .u64 ap1, .int .u64 ap2, .int .u64 aq1, .int .u64 aq2, .int .u64 ar1, .int .u64 ar2, .int .u64 as1, .int .u64 as2, .int .u64 atg, .int .u32 alg, .int .u16 acd, .int .u16 afl, .int .u64 t]) (by simp [results, Try.results10, go_sem]) rfl ⟨rfl, ?_⟩
  (repeat (first | exact Below.refl _ _ | assumption | refine below_drewN ?_ _ | refine bel_grow ?_ _ | refine Below.drew ?_ | refine bel_alloc ?_ _ | refine bel_set ?_ (by first | exact Nat.le_refl _ | (simp; done) | (simp; omega) | omega) _ | refine bel_trans ?_ (by assumption)))

theorem chk_is {x : Bool} {ai1 ai2 ap1 ap2 aq1 aq2 ar1 ar2 as1 as2 atg alg acd afl ast oi1 oi2 op1 op2 oq1 oq2 or1 or2 os1 os2 otg olg ocd ofl ost v : Int} (h : chkV x ai1 ai2 ap1 ap2 aq1 aq2 ar1 ar2 as1 as2 atg alg acd afl ast oi1 oi2 op1 op2 oq1 oq2 or1 or2 os1 os2 otg olg ocd ofl ost = v) (w : World) : Calls Try.prog 7 #[.agg #[.int .u64 ai1, .int .u64 ai2, .int .u64 ap1, .int .u64 ap2, .int .u64 aq1, .int .u64 aq2, .int .u64 ar1, .int .u64 ar2, .int .u64 as1, .int .u64 as2, .int .u64 atg, .int .u32 alg, .int .u16 acd, .int .u16 afl, .int .u64 ast], .agg #[.int .u64 oi1, .int .u64 oi2, .int .u64 op1, .int .u64 op2, .int .u64 oq1, .int .u64 oq2, .int .u64 or1, .int .u64 or2, .int .u64 os1, .int .u64 os2, .int .u64 otg, .int .u32 olg, .int .u16 ocd, .int .u16 ofl, .int .u64 ost], .bool x] w fun r w' => r = .returned (.int .u32 v) ∧ Below w.heap.size w w' := h ▸ check_any ai1 ai2 ap1 ap2 aq1 aq2 ar1 ar2 as1 as2 atg alg acd afl ast oi1 oi2 op1 op2 oq1 oq2 or1 or2 os1 os2 otg olg ocd ofl ost x w

theorem ex1 : chkV false 0 1 0 0 0 0 0 0 0 0 0 0 0 0 0 0 0 0 0 0 0 0 0 0 0 0 0 0 0 0 = 27 := by kernel_rfl
theorem ex2 : chkV false 0 0 0 0 0 0 0 0 0 0 0 0 0 6 0 0 0 0 0 0 0 0 0 0 0 0 0 0 0 0 = 5 := by kernel_rfl
theorem fixed17_any (w : World) : Calls Try.prog 9 #[] w fun r w' => r = .returned (.bool true) ∧ Below w.heap.size w w' := by
  have H1 := Lib.hid (fun w => chk_is ex1 w)
  have H2 := Lib.hid (fun w => chk_is ex2 w)
  go_enter Try.func9, Try.ntmps9
  go_wp2_with (go_at_call 7; first | ((with_reducible refine (gro (H1.out _)).mono ?_); rintro e w' ⟨rfl, d1, rfl⟩) | ((with_reducible refine (grow_call (H2.out _)).mono ?_); rintro e w' ⟨rfl, d2, rfl⟩))
  go_ret
  exact ⟨rfl, (by repeat (first | exact Below.refl _ _ | assumption | refine below_drewN ?_ _ | refine bel_grow ?_ _ | refine Below.drew ?_ | refine bel_alloc ?_ _ | refine bel_set ?_ (by first | exact Nat.le_refl _ | (simp; done) | (simp; omega) | omega) _ | refine bel_trans ?_ (by assumption)))⟩

set_option maxHeartbeats 2000000 in
theorem openingVerdicts_walk (ai1 ai2 ap1 ap2 aq1 aq2 ar1 ar2 as1 as2 atg alg acd afl ast oi1 oi2 op1 op2 oq1 oq2 or1 or2 os1 os2 otg olg ocd ofl ost : Int) (x : Bool) (hst : 0 ≤ ast) (hfl : 0 ≤ afl ∧ afl < 65536) (hofl : 0 ≤ ofl ∧ ofl < 65536) (w : World) :
    Calls Try.prog 5 #[.agg #[.int .u64 ai1, .int .u64 ai2, .int .u64 ap1, .int .u64 ap2, .int .u64 aq1, .int .u64 aq2, .int .u64 ar1, .int .u64 ar2, .int .u64 as1, .int .u64 as2, .int .u64 atg, .int .u32 alg, .int .u16 acd, .int .u16 afl, .int .u64 ast], .agg #[.int .u64 oi1, .int .u64 oi2, .int .u64 op1, .int .u64 op2, .int .u64 oq1, .int .u64 oq2, .int .u64 or1, .int .u64 or2, .int .u64 os1, .int .u64 os2, .int .u64 otg, .int .u32 olg, .int .u16 ocd, .int .u16 ofl, .int .u64 ost], .bool x] w fun r w' => r = .returned (.bool true) ∧ Below w.heap.size w w' := by
  have H1 : ∀ w, Calls Try.prog 7 #[.agg #[.int .u64 ai1, .int .u64 ai2, .int .u64 ap1, .int .u64 ap2, .int .u64 aq1, .int .u64 aq2, .int .u64 ar1, .int .u64 ar2, .int .u64 as1, .int .u64 as2, .int .u64 atg, .int .u32 alg, .int .u16 acd, .int .u16 afl, .int .u64 ast], .agg #[.int .u64 oi1, .int .u64 oi2, .int .u64 op1, .int .u64 op2, .int .u64 oq1, .int .u64 oq2, .int .u64 or1, .int .u64 or2, .int .u64 os1, .int .u64 os2, .int .u64 otg, .int .u32 olg, .int .u16 ocd, .int .u16 ofl, .int .u64 ost], .bool x] w fun r w' => r = .returned (.int .u32 (refV x ai1 ai2 ap1 ap2 aq1 aq2 ar1 ar2 as1 as2 atg alg acd afl ast oi1 oi2 op1 op2 oq1 oq2 or1 or2 os1 os2 otg olg ocd ofl ost)) ∧ Below w.heap.size w w' := fun w => chk_is (chk_ref x ai1 ai2 ap1 ap2 aq1 aq2 ar1 ar2 as1 as2 atg alg acd afl ast oi1 oi2 op1 op2 oq1 oq2 or1 or2 os1 os2 otg olg ocd ofl ost hst hfl hofl) w
  have H2 := fun w => refcheck_any ai1 ai2 ap1 ap2 aq1 aq2 ar1 ar2 as1 as2 atg alg acd afl ast oi1 oi2 op1 op2 oq1 oq2 or1 or2 os1 os2 otg olg ocd ofl ost x hst hfl hofl w
  have HV := refV_lo x ai1 ai2 ap1 ap2 aq1 aq2 ar1 ar2 as1 as2 atg alg acd afl ast oi1 oi2 op1 op2 oq1 oq2 or1 or2 os1 os2 otg olg ocd ofl ost
  have HO := Lib.hid (fun w => opened_any ai1 ai2 ap1 ap2 aq1 aq2 ar1 ar2 as1 as2 atg alg acd afl ast ost w)
  generalize refV x ai1 ai2 ap1 ap2 aq1 aq2 ar1 ar2 as1 as2 atg alg acd afl ast oi1 oi2 op1 op2 oq1 oq2 or1 or2 os1 os2 otg olg ocd ofl ost = V at *
  replace H1 := Lib.hid H1
  replace H2 := Lib.hid H2
  clear hst hfl hofl
  go_enter Try.func5, Try.ntmps5
  go_wp2_with (go_at_call 10; refine (gro (HO.out _)).mono ?_; rintro e w' ⟨rfl, d1, rfl⟩)
  first | (with_reducible refine rgrow2 (by kernel_rfl) (by kernel_rfl) ?_) | (refine rgrow (by kernel_rfl) (by kernel_rfl) ?_)
  repeat (go_big_quiet_step ((first | (go_at_call 9; exact grow_call (fixed17_any _)) | (go_at_call 7; exact grow_call (H1.out _)) | (go_at_call 11; exact grow_call (H2.out _)))))
  refine wpQuiet_nil ?_
  intro dr
  go_wp2
  go_ret
  exact ⟨rfl, (by repeat (first | exact Below.refl _ _ | assumption | refine below_drewN ?_ _ | refine bel_grow ?_ _ | refine Below.drew ?_ | refine bel_alloc ?_ _ | refine bel_set ?_ (by first | exact Nat.le_refl _ | (simp; done) | (simp; omega) | omega) _ | refine bel_trans ?_ (by assumption)))⟩
end Go.Proofs.Ytplhdiomedbhnaa
