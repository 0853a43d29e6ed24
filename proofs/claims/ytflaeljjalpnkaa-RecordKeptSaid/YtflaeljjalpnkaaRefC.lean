/-
  Accounts, transfers, balances, filters and results, their bytes: the document's, walked.
-/
import Derived.Test.YtflaeljjalpnkaaRefB
import Derived.Test.YtflaeljjalpnkaaRecD
namespace Go.Proofs.Ytflaeljjalpnkaa
set_option linter.unusedVariables false
set_option linter.unusedSimpArgs false
open Go.RowKit

theorem refFilter_D (xa xb xc xd xe xf : Int) : putFilterD xa xb xc xd xe xf = (cat (cat (cat (cat (dgt xa xb) 16 (nb 8 xc)) 24 (nb 8 xd)) 32 (nb 4 xe)) 36 (nb 4 xf)) := by
  unfold putFilterD
  simp only [wcat]
  rw [show (0 + 0 * 16) = 0 from rfl, cat_zero]
  rfl
set_option maxRecDepth 16000 in
set_option maxHeartbeats 4000000 in
theorem refFilter_any (xa xb xc xd xe xf : Int) (ha : 0 ≤ xa ∧ xa < 18446744073709551616) (hb : 0 ≤ xb ∧ xb < 18446744073709551616) (hc : 0 ≤ xc ∧ xc < 18446744073709551616) (hd : 0 ≤ xd ∧ xd < 18446744073709551616) (he : 0 ≤ xe ∧ xe < 4294967296) (hf : 0 ≤ xf ∧ xf < 4294967296) (w : World) : Calls Try.prog 18 #[.agg #[.int .u64 xa, .int .u64 xb, .int .u64 xc, .int .u64 xd, .int .u32 xe, .int .u32 xf]] w fun r w' => r = .returned (.string (strF (putFilterD xa xb xc xd xe xf) 40)) ∧ Below w.heap.size w w' := by
  rw [refFilter_D]
  have H1 := Lib.hid (fun w => refbytes_any xa xb ha hb w)
  have H2 := Lib.hid (fun w => rstamp_any xc hc w)
  have H3 := Lib.hid (fun w => rstamp_any xd hd w)
  have H4 := Lib.hid (fun w => Four_any xe he w)
  have H5 := Lib.hid (fun w => Four_any xf hf w)
  clear ha hb hc hd he hf
  go_enter Try.func18, Try.ntmps18
  go_wp2_with fail
  first | (with_reducible refine rgrow2 (by kernel_rfl) (by kernel_rfl) ?_) | (refine rgrow (by kernel_rfl) (by kernel_rfl) ?_)
  repeat (go_big_quiet_step (((first | (go_at_call 36; first | (with_reducible exact grow_call (H1.out _))) | (go_at_call 42; first | (with_reducible exact grow_call (H2.out _)) | (with_reducible exact grow_call (H3.out _))) | (go_at_call 56; first | (with_reducible exact grow_call (H4.out _)) | (with_reducible exact grow_call (H5.out _)))))))
  refine wpQuiet_nil ?_
  intro dr
  go_wp2_with fail
  go_ret
  exact ⟨rfl, (by repeat (first | exact Below.refl _ _ | assumption | refine below_drewN ?_ _ | refine bel_grow ?_ _ | refine Below.drew ?_ | refine bel_alloc ?_ _ | refine bel_set ?_ (by first | exact Nat.le_refl _ | (simp; done) | (simp; omega) | omega) _ | refine bel_trans ?_ (by assumption)))⟩
theorem refResult_D (xa xb : Int) : putResultD xa xb = (cat (nb 4 xa) 4 (nb 4 xb)) := by
  unfold putResultD
  rw [cat_zero]
set_option maxRecDepth 16000 in
set_option maxHeartbeats 4000000 in
theorem refResult_any (xa xb : Int) (ha : 0 ≤ xa ∧ xa < 4294967296) (hb : 0 ≤ xb ∧ xb < 4294967296) (w : World) : Calls Try.prog 19 #[.agg #[.int .u32 xa, .int .u32 xb]] w fun r w' => r = .returned (.string (strF (putResultD xa xb) 8)) ∧ Below w.heap.size w w' := by
  rw [refResult_D]
  have H1 := Lib.hid (fun w => Four_any xa ha w)
  have H2 := Lib.hid (fun w => Four_any xb hb w)
  clear ha hb
  go_enter Try.func19, Try.ntmps19
  go_wp2_with fail
  first | (with_reducible refine rgrow2 (by kernel_rfl) (by kernel_rfl) ?_) | (refine rgrow (by kernel_rfl) (by kernel_rfl) ?_)
  repeat (go_big_quiet_step (((first | (go_at_call 56; first | (with_reducible exact grow_call (H1.out _)) | (with_reducible exact grow_call (H2.out _)))))))
  refine wpQuiet_nil ?_
  intro dr
  go_wp2_with fail
  go_ret
  exact ⟨rfl, (by repeat (first | exact Below.refl _ _ | assumption | refine below_drewN ?_ _ | refine bel_grow ?_ _ | refine Below.drew ?_ | refine bel_alloc ?_ _ | refine bel_set ?_ (by first | exact Nat.le_refl _ | (simp; done) | (simp; omega) | omega) _ | refine bel_trans ?_ (by assumption)))⟩
theorem refBalance_D (xp1 xp2 xq1 xq2 xr1 xr2 xs1 xs2 xst : Int) : putBalanceD xp1 xp2 xq1 xq2 xr1 xr2 xs1 xs2 xst = (cat (cat (cat (cat (dgt xp1 xp2) 16 (dgt xq1 xq2)) 32 (dgt xr1 xr2)) 48 (dgt xs1 xs2)) 64 (nb 8 xst)) := by
  unfold putBalanceD
  simp only [wcat]
  rw [show (0 + 0 * 16) = 0 from rfl, cat_zero]
  rfl
set_option maxRecDepth 16000 in
set_option maxHeartbeats 4000000 in
theorem refBalance_any (xp1 xp2 xq1 xq2 xr1 xr2 xs1 xs2 xst : Int) (hp1 : 0 ≤ xp1 ∧ xp1 < 18446744073709551616) (hp2 : 0 ≤ xp2 ∧ xp2 < 18446744073709551616) (hq1 : 0 ≤ xq1 ∧ xq1 < 18446744073709551616) (hq2 : 0 ≤ xq2 ∧ xq2 < 18446744073709551616) (hr1 : 0 ≤ xr1 ∧ xr1 < 18446744073709551616) (hr2 : 0 ≤ xr2 ∧ xr2 < 18446744073709551616) (hs1 : 0 ≤ xs1 ∧ xs1 < 18446744073709551616) (hs2 : 0 ≤ xs2 ∧ xs2 < 18446744073709551616) (hst : 0 ≤ xst ∧ xst < 18446744073709551616) (w : World) : Calls Try.prog 39 #[.agg #[.int .u64 xp1, .int .u64 xp2, .int .u64 xq1, .int .u64 xq2, .int .u64 xr1, .int .u64 xr2, .int .u64 xs1, .int .u64 xs2, .int .u64 xst]] w fun r w' => r = .returned (.string (strF (putBalanceD xp1 xp2 xq1 xq2 xr1 xr2 xs1 xs2 xst) 72)) ∧ Below w.heap.size w w' := by
  rw [refBalance_D]
  have H1 := Lib.hid (fun w => refbytes_any xp1 xp2 hp1 hp2 w)
  have H2 := Lib.hid (fun w => refbytes_any xq1 xq2 hq1 hq2 w)
  have H3 := Lib.hid (fun w => refbytes_any xr1 xr2 hr1 hr2 w)
  have H4 := Lib.hid (fun w => refbytes_any xs1 xs2 hs1 hs2 w)
  have H5 := Lib.hid (fun w => rstamp_any xst hst w)
  clear hp1 hp2 hq1 hq2 hr1 hr2 hs1 hs2 hst
  go_enter Try.func39, Try.ntmps39
  go_wp2_with fail
  first | (with_reducible refine rgrow2 (by kernel_rfl) (by kernel_rfl) ?_) | (refine rgrow (by kernel_rfl) (by kernel_rfl) ?_)
  repeat (go_big_quiet_step (((first | (go_at_call 36; first | (with_reducible exact grow_call (H1.out _)) | (with_reducible exact grow_call (H2.out _)) | (with_reducible exact grow_call (H3.out _)) | (with_reducible exact grow_call (H4.out _))) | (go_at_call 42; first | (with_reducible exact grow_call (H5.out _)))))))
  refine wpQuiet_nil ?_
  intro dr
  go_wp2_with fail
  go_ret
  exact ⟨rfl, (by repeat (first | exact Below.refl _ _ | assumption | refine below_drewN ?_ _ | refine bel_grow ?_ _ | refine Below.drew ?_ | refine bel_alloc ?_ _ | refine bel_set ?_ (by first | exact Nat.le_refl _ | (simp; done) | (simp; omega) | omega) _ | refine bel_trans ?_ (by assumption)))⟩
theorem refAccount_D (xi1 xi2 xp1 xp2 xq1 xq2 xr1 xr2 xs1 xs2 xtg xlg xcd xfl xst : Int) : putAccountD xi1 xi2 xp1 xp2 xq1 xq2 xr1 xr2 xs1 xs2 xtg xlg xcd xfl xst = (cat (cat (cat (cat (cat (cat (cat (cat (cat (dgt xi1 xi2) 16 (dgt xp1 xp2)) 32 (dgt xq1 xq2)) 48 (dgt xr1 xr2)) 64 (dgt xs1 xs2)) 80 (nb 8 xtg)) 88 (nb 4 xlg)) 92 (nb 2 xcd)) 94 (nb 2 xfl)) 96 (nb 8 xst)) := by
  unfold putAccountD
  simp only [wcat]
  rw [show (0 + 0 * 16) = 0 from rfl, cat_zero]
  rfl
set_option maxRecDepth 16000 in
set_option maxHeartbeats 4000000 in
theorem refAccount_any (xi1 xi2 xp1 xp2 xq1 xq2 xr1 xr2 xs1 xs2 xtg xlg xcd xfl xst : Int) (hi1 : 0 ≤ xi1 ∧ xi1 < 18446744073709551616) (hi2 : 0 ≤ xi2 ∧ xi2 < 18446744073709551616) (hp1 : 0 ≤ xp1 ∧ xp1 < 18446744073709551616) (hp2 : 0 ≤ xp2 ∧ xp2 < 18446744073709551616) (hq1 : 0 ≤ xq1 ∧ xq1 < 18446744073709551616) (hq2 : 0 ≤ xq2 ∧ xq2 < 18446744073709551616) (hr1 : 0 ≤ xr1 ∧ xr1 < 18446744073709551616) (hr2 : 0 ≤ xr2 ∧ xr2 < 18446744073709551616) (hs1 : 0 ≤ xs1 ∧ xs1 < 18446744073709551616) (hs2 : 0 ≤ xs2 ∧ xs2 < 18446744073709551616) (htg : 0 ≤ xtg ∧ xtg < 18446744073709551616) (hlg : 0 ≤ xlg ∧ xlg < 4294967296) (hcd : 0 ≤ xcd ∧ xcd < 65536) (hfl : 0 ≤ xfl ∧ xfl < 65536) (hst : 0 ≤ xst ∧ xst < 18446744073709551616) (w : World) : Calls Try.prog 24 #[.agg #[.int .u64 xi1, .int .u64 xi2, .int .u64 xp1, .int .u64 xp2, .int .u64 xq1, .int .u64 xq2, .int .u64 xr1, .int .u64 xr2, .int .u64 xs1, .int .u64 xs2, .int .u64 xtg, .int .u32 xlg, .int .u16 xcd, .int .u16 xfl, .int .u64 xst]] w fun r w' => r = .returned (.string (strF (putAccountD xi1 xi2 xp1 xp2 xq1 xq2 xr1 xr2 xs1 xs2 xtg xlg xcd xfl xst) 104)) ∧ Below w.heap.size w w' := by
  rw [refAccount_D]
  have H1 := Lib.hid (fun w => refbytes_any xi1 xi2 hi1 hi2 w)
  have H2 := Lib.hid (fun w => refbytes_any xp1 xp2 hp1 hp2 w)
  have H3 := Lib.hid (fun w => refbytes_any xq1 xq2 hq1 hq2 w)
  have H4 := Lib.hid (fun w => refbytes_any xr1 xr2 hr1 hr2 w)
  have H5 := Lib.hid (fun w => refbytes_any xs1 xs2 hs1 hs2 w)
  have H6 := Lib.hid (fun w => rstamp_any xtg htg w)
  have H7 := Lib.hid (fun w => Four_any xlg hlg w)
  have H8 := Lib.hid (fun w => Two_w xcd hcd w)
  have H9 := Lib.hid (fun w => Two_w xfl hfl w)
  have H10 := Lib.hid (fun w => rstamp_any xst hst w)
  clear hi1 hi2 hp1 hp2 hq1 hq2 hr1 hr2 hs1 hs2 htg hlg hcd hfl hst
  go_enter Try.func24, Try.ntmps24
  go_wp2_with fail
  first | (with_reducible refine rgrow2 (by kernel_rfl) (by kernel_rfl) ?_) | (refine rgrow (by kernel_rfl) (by kernel_rfl) ?_)
  repeat (go_big_quiet_step (((first | (go_at_call 36; first | (with_reducible exact grow_call (H1.out _)) | (with_reducible exact grow_call (H2.out _)) | (with_reducible exact grow_call (H3.out _)) | (with_reducible exact grow_call (H4.out _)) | (with_reducible exact grow_call (H5.out _))) | (go_at_call 42; first | (with_reducible exact grow_call (H6.out _)) | (with_reducible exact grow_call (H10.out _))) | (go_at_call 56; first | (with_reducible exact grow_call (H7.out _))) | (go_at_call 59; first | (with_reducible exact grow_call (H8.out _)) | (with_reducible exact grow_call (H9.out _)))))))
  refine wpQuiet_nil ?_
  intro dr
  go_wp2_with fail
  go_ret
  exact ⟨rfl, (by repeat (first | exact Below.refl _ _ | assumption | refine below_drewN ?_ _ | refine bel_grow ?_ _ | refine Below.drew ?_ | refine bel_alloc ?_ _ | refine bel_set ?_ (by first | exact Nat.le_refl _ | (simp; done) | (simp; omega) | omega) _ | refine bel_trans ?_ (by assumption)))⟩
theorem refTransfer_D (xi1 xi2 xd1 xd2 xc1 xc2 xm1 xm2 xw1 xw2 xtg xto xlg xcd xfl xst : Int) : putTransferD xi1 xi2 xd1 xd2 xc1 xc2 xm1 xm2 xw1 xw2 xtg xto xlg xcd xfl xst = (cat (cat (cat (cat (cat (cat (cat (cat (cat (cat (dgt xi1 xi2) 16 (dgt xd1 xd2)) 32 (dgt xc1 xc2)) 48 (dgt xm1 xm2)) 64 (dgt xw1 xw2)) 80 (nb 8 xtg)) 88 (nb 4 xto)) 92 (nb 4 xlg)) 96 (nb 2 xcd)) 98 (nb 2 xfl)) 100 (nb 8 xst)) := by
  unfold putTransferD
  simp only [wcat]
  rw [show (0 + 0 * 16) = 0 from rfl, cat_zero]
  rfl
set_option maxRecDepth 16000 in
set_option maxHeartbeats 4000000 in
theorem refTransfer_any (xi1 xi2 xd1 xd2 xc1 xc2 xm1 xm2 xw1 xw2 xtg xto xlg xcd xfl xst : Int) (hi1 : 0 ≤ xi1 ∧ xi1 < 18446744073709551616) (hi2 : 0 ≤ xi2 ∧ xi2 < 18446744073709551616) (hd1 : 0 ≤ xd1 ∧ xd1 < 18446744073709551616) (hd2 : 0 ≤ xd2 ∧ xd2 < 18446744073709551616) (hc1 : 0 ≤ xc1 ∧ xc1 < 18446744073709551616) (hc2 : 0 ≤ xc2 ∧ xc2 < 18446744073709551616) (hm1 : 0 ≤ xm1 ∧ xm1 < 18446744073709551616) (hm2 : 0 ≤ xm2 ∧ xm2 < 18446744073709551616) (hw1 : 0 ≤ xw1 ∧ xw1 < 18446744073709551616) (hw2 : 0 ≤ xw2 ∧ xw2 < 18446744073709551616) (htg : 0 ≤ xtg ∧ xtg < 18446744073709551616) (hto : 0 ≤ xto ∧ xto < 4294967296) (hlg : 0 ≤ xlg ∧ xlg < 4294967296) (hcd : 0 ≤ xcd ∧ xcd < 65536) (hfl : 0 ≤ xfl ∧ xfl < 65536) (hst : 0 ≤ xst ∧ xst < 18446744073709551616) (w : World) : Calls Try.prog 35 #[.agg #[.int .u64 xi1, .int .u64 xi2, .int .u64 xd1, .int .u64 xd2, .int .u64 xc1, .int .u64 xc2, .int .u64 xm1, .int .u64 xm2, .int .u64 xw1, .int .u64 xw2, .int .u64 xtg, .int .u32 xto, .int .u32 xlg, .int .u16 xcd, .int .u16 xfl, .int .u64 xst]] w fun r w' => r = .returned (.string (strF (putTransferD xi1 xi2 xd1 xd2 xc1 xc2 xm1 xm2 xw1 xw2 xtg xto xlg xcd xfl xst) 108)) ∧ Below w.heap.size w w' := by
  rw [refTransfer_D]
  have H1 := Lib.hid (fun w => refbytes_any xi1 xi2 hi1 hi2 w)
  have H2 := Lib.hid (fun w => refbytes_any xd1 xd2 hd1 hd2 w)
  have H3 := Lib.hid (fun w => refbytes_any xc1 xc2 hc1 hc2 w)
  have H4 := Lib.hid (fun w => refbytes_any xm1 xm2 hm1 hm2 w)
  have H5 := Lib.hid (fun w => refbytes_any xw1 xw2 hw1 hw2 w)
  have H6 := Lib.hid (fun w => rstamp_any xtg htg w)
  have H7 := Lib.hid (fun w => Four_any xto hto w)
  have H8 := Lib.hid (fun w => Four_any xlg hlg w)
  have H9 := Lib.hid (fun w => Two_w xcd hcd w)
  have H10 := Lib.hid (fun w => Two_w xfl hfl w)
  have H11 := Lib.hid (fun w => rstamp_any xst hst w)
  clear hi1 hi2 hd1 hd2 hc1 hc2 hm1 hm2 hw1 hw2 htg hto hlg hcd hfl hst
  go_enter Try.func35, Try.ntmps35
  go_wp2_with fail
  first | (with_reducible refine rgrow2 (by kernel_rfl) (by kernel_rfl) ?_) | (refine rgrow (by kernel_rfl) (by kernel_rfl) ?_)
  repeat (go_big_quiet_step (((first | (go_at_call 36; first | (with_reducible exact grow_call (H1.out _)) | (with_reducible exact grow_call (H2.out _)) | (with_reducible exact grow_call (H3.out _)) | (with_reducible exact grow_call (H4.out _)) | (with_reducible exact grow_call (H5.out _))) | (go_at_call 42; first | (with_reducible exact grow_call (H6.out _)) | (with_reducible exact grow_call (H11.out _))) | (go_at_call 56; first | (with_reducible exact grow_call (H7.out _)) | (with_reducible exact grow_call (H8.out _))) | (go_at_call 59; first | (with_reducible exact grow_call (H9.out _)) | (with_reducible exact grow_call (H10.out _)))))))
  refine wpQuiet_nil ?_
  intro dr
  go_wp2_with fail
  go_ret
  exact ⟨rfl, (by repeat (first | exact Below.refl _ _ | assumption | refine below_drewN ?_ _ | refine bel_grow ?_ _ | refine Below.drew ?_ | refine bel_alloc ?_ _ | refine bel_set ?_ (by first | exact Nat.le_refl _ | (simp; done) | (simp; omega) | omega) _ | refine bel_trans ?_ (by assumption)))⟩
end Go.Proofs.Ytflaeljjalpnkaa
