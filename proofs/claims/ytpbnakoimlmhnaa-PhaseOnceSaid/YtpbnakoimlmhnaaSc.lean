/-
  phase.fits, walked.
-/
import Derived.Test.YtpbnakoimlmhnaaSb
import Derived.Test.YtpbnakoimlmhnaaWd
import Derived.Deep.DeepCutAuto
namespace Go.Proofs.Ytpbnakoimlmhnaa
set_option linter.unusedVariables false
set_option linter.unusedSimpArgs false
open Go.RowKit

def fitsV (th b2 p3 q3 p4 q4 p5 q5 p6 q6 n7 r7 q7 s8 m8 e8 : Bool) : Int := if !th then 47 else if b2 then 48 else if (!p3 && !q3) then 49 else if (!p4 && !q4) then 50 else if (!p5 && !q5) then 51 else if (!p6 && !q6) then 52 else if (!n7 && !r7 && q7) then 53 else if (n7 && !s8 && !m8 && !e8) then 54 else 0
attribute [local go_sem] loadV_ptr storeV_ptr
attribute [local go_sem ↓] load_Transfer store_Transfer load_Waits store_Waits load_Parties store_Parties
set_option maxRecDepth 8000 in
set_option maxHeartbeats 8000000 in
theorem fits_any (xi1 xi2 xd1 xd2 xc1 xc2 xm1 xm2 xw1 xw2 xtg xto xlg xcd xfl xst yi1 yi2 yd1 yd2 yc1 yc2 ym1 ym2 yw1 yw2 ytg yto ylg ycd yfl yst sv : Int) (th b2 p3 q3 p4 q4 p5 q5 p6 q6 n7 r7 q7 s8 m8 e8 : Bool) (hb2 : (bits .and .u16 yfl 2 == 0) = b2) (hp3 : (xd1 == 0 && xd2 == 0) = p3) (hq3 : (xd1 == yd1 && xd2 == yd2) = q3) (hp4 : (xc1 == 0 && xc2 == 0) = p4) (hq4 : (xc1 == yc1 && xc2 == yc2) = q4) (hp5 : (xlg == 0) = p5) (hq5 : (xlg == ylg) = q5) (hp6 : (xcd == 0) = p6) (hq6 : (xcd == ycd) = q6) (hn7 : (bits .and .u16 xfl 4 == 0) = n7) (hr7 : (xm1 == 18446744073709551615 && xm2 == 18446744073709551615) = r7) (hq7 : decide (0 < cmpV xm1 xm2 ym1 ym2) = q7) (hs8 : (bits .and .u16 xfl 8 == 0) = s8) (hm8 : (xm1 == 0 && xm2 == 0) = m8) (he8 : (xm1 == ym1 && xm2 == ym2) = e8) (w : World) : Calls Try.prog 69 #[.agg #[.int .u64 xi1, .int .u64 xi2, .int .u64 xd1, .int .u64 xd2, .int .u64 xc1, .int .u64 xc2, .int .u64 xm1, .int .u64 xm2, .int .u64 xw1, .int .u64 xw2, .int .u64 xtg, .int .u32 xto, .int .u32 xlg, .int .u16 xcd, .int .u16 xfl, .int .u64 xst], .agg #[.int .u64 yi1, .int .u64 yi2, .int .u64 yd1, .int .u64 yd2, .int .u64 yc1, .int .u64 yc2, .int .u64 ym1, .int .u64 ym2, .int .u64 yw1, .int .u64 yw2, .int .u64 ytg, .int .u32 yto, .int .u32 ylg, .int .u16 ycd, .int .u16 yfl, .int .u64 yst, .bool th, .int .u8 sv]] w fun r w' => r = .returned (.int .u32 (fitsV th b2 p3 q3 p4 q4 p5 q5 p6 q6 n7 r7 q7 s8 m8 e8)) ∧ Below w.heap.size w w' := by
  have HC := Lib.hid (fun w => cmp_any xm1 xm2 ym1 ym2 w)
  generalize cmpV xm1 xm2 ym1 ym2 = cc at *
  go_enter Try.func69, Try.ntmps69
  go_upto_region 2 with fail
  refine abs_wp (fun X => Below w.heap.size w X ∧ Blk X w.heap.size 28 #[.int .u64 xi1, .int .u64 xi2, .int .u64 xd1, .int .u64 xd2, .int .u64 xc1, .int .u64 xc2, .int .u64 xm1, .int .u64 xm2, .int .u64 xw1, .int .u64 xw2, .int .u64 xtg, .int .u32 xto, .int .u32 xlg, .int .u16 xcd, .int .u16 xfl, .int .u64 xst] ∧ Blk X (w.heap.size + 1) 66 #[.int .u64 yi1, .int .u64 yi2, .int .u64 yd1, .int .u64 yd2, .int .u64 yc1, .int .u64 yc2, .int .u64 ym1, .int .u64 ym2, .int .u64 yw1, .int .u64 yw2, .int .u64 ytg, .int .u32 yto, .int .u32 ylg, .int .u16 ycd, .int .u16 yfl, .int .u64 yst, .bool th, .int .u8 sv] ∧ Blk X (w.heap.size + 2) 28 #[.int .u64 yi1, .int .u64 yi2, .int .u64 yd1, .int .u64 yd2, .int .u64 yc1, .int .u64 yc2, .int .u64 ym1, .int .u64 ym2, .int .u64 yw1, .int .u64 yw2, .int .u64 ytg, .int .u32 yto, .int .u32 ylg, .int .u16 ycd, .int .u16 yfl, .int .u64 yst]) ?_ ?_
  · refine ⟨by (repeat (first | with_reducible exact Below.refl _ _ | with_reducible assumption | (with_reducible refine bel_set ?_ (by first | exact Nat.le_refl _ | (simp; done) | (simp; omega) | omega) _) | with_reducible refine bel_grow ?_ _ | with_reducible refine Below.drew ?_ | with_reducible refine below_drewN ?_ _ | with_reducible refine bel_alloc ?_ _ | with_reducible refine bel_trans ?_ (by assumption))), ?_, ?_, ?_⟩
    · exact ((Blk.new _ _ _).alloc _).alloc _
    · exact (Blk.new' (by simp)).alloc _
    · exact Blk.new' (by simp)
  rintro X ⟨bX, fx, fw, fy⟩
  have t0 : X.cell? ⟨w.heap.size + 1, 16, none⟩ = some (.bool th) := fw.cell 16
  have tl := fw.lt
  have xl := fx.lt
  have yl := fy.lt
  have x_2 : X.cell? ⟨w.heap.size, 2, none⟩ = some (.int .u64 xd1) := fx.cell 2
  have x_3 : X.cell? ⟨w.heap.size, 3, none⟩ = some (.int .u64 xd2) := fx.cell 3
  have x_4 : X.cell? ⟨w.heap.size, 4, none⟩ = some (.int .u64 xc1) := fx.cell 4
  have x_5 : X.cell? ⟨w.heap.size, 5, none⟩ = some (.int .u64 xc2) := fx.cell 5
  have x_6 : X.cell? ⟨w.heap.size, 6, none⟩ = some (.int .u64 xm1) := fx.cell 6
  have x_7 : X.cell? ⟨w.heap.size, 7, none⟩ = some (.int .u64 xm2) := fx.cell 7
  have x_12 : X.cell? ⟨w.heap.size, 12, none⟩ = some (.int .u32 xlg) := fx.cell 12
  have x_13 : X.cell? ⟨w.heap.size, 13, none⟩ = some (.int .u16 xcd) := fx.cell 13
  have x_14 : X.cell? ⟨w.heap.size, 14, none⟩ = some (.int .u16 xfl) := fx.cell 14
  have y_2 : X.cell? ⟨w.heap.size + 2, 2, none⟩ = some (.int .u64 yd1) := fy.cell 2
  have y_3 : X.cell? ⟨w.heap.size + 2, 3, none⟩ = some (.int .u64 yd2) := fy.cell 3
  have y_4 : X.cell? ⟨w.heap.size + 2, 4, none⟩ = some (.int .u64 yc1) := fy.cell 4
  have y_5 : X.cell? ⟨w.heap.size + 2, 5, none⟩ = some (.int .u64 yc2) := fy.cell 5
  have y_6 : X.cell? ⟨w.heap.size + 2, 6, none⟩ = some (.int .u64 ym1) := fy.cell 6
  have y_7 : X.cell? ⟨w.heap.size + 2, 7, none⟩ = some (.int .u64 ym2) := fy.cell 7
  have y_12 : X.cell? ⟨w.heap.size + 2, 12, none⟩ = some (.int .u32 ylg) := fy.cell 12
  have y_13 : X.cell? ⟨w.heap.size + 2, 13, none⟩ = some (.int .u16 ycd) := fy.cell 13
  have y_14 : X.cell? ⟨w.heap.size + 2, 14, none⟩ = some (.int .u16 yfl) := fy.cell 14
  replace bX := Lib.hid bX
  replace fx := Lib.hid fx
  replace fy := Lib.hid fy
  clear fw
  cases th
  case false =>
    go_wp2_with fail
    go_ret
    exact ⟨rfl, bX.out⟩
  case true =>
  cases b2
  case true =>
    go_wp2_with fail
    go_ret
    exact ⟨rfl, bX.out⟩
  case false =>
  go_upto_region 6 with fail
  go_cut [17] (fun s wx => s = .bool (!p3 && !q3) ∧ X = wx)
  case first =>
    cases p3 <;> cases q3
    all_goals (
      go_wp2_with fail
      go_meet
      exact ⟨by first | rfl | simp, rfl⟩)
  case rest =>
  obtain ⟨rfl, hw⟩ := hcut
  subst hw
  cases hv49 : (!p3 && !q3)
  case true =>
    go_wp2_with fail
    go_ret
    exact ⟨by (simp only [fitsV, Bool.not_true, Bool.false_eq_true, if_false, if_true, hv49]; try rfl), bX.out⟩
  case false =>
  go_upto_region 8 with fail
  go_cut [29] (fun s wx => s = .bool (!p4 && !q4) ∧ X = wx)
  case first =>
    cases p4 <;> cases q4
    all_goals (
      go_wp2_with fail
      go_meet
      exact ⟨by first | rfl | simp, rfl⟩)
  case rest =>
  obtain ⟨rfl, hw⟩ := hcut
  subst hw
  cases hv50 : (!p4 && !q4)
  case true =>
    go_wp2_with fail
    go_ret
    exact ⟨by (simp only [fitsV, Bool.not_true, Bool.false_eq_true, if_false, if_true, hv49, hv50]; try rfl), bX.out⟩
  case false =>
  go_upto_region 10 with fail
  go_cut [41] (fun s wx => s = .bool (!p5 && !q5) ∧ X = wx)
  case first =>
    have k1 : (xlg != 0) = !p5 := by rw [← hp5]; rfl
    have k2 : (xlg != ylg) = !q5 := by rw [← hq5]; rfl
    cases p5
    case true =>
      have e : xlg = 0 := by simpa using hp5
      subst e
      go_wp2_with fail
      go_meet
      exact ⟨by first | rfl | simp, rfl⟩
    case false =>
      cases q5
      case true =>
        have e : xlg = ylg := by simpa using hq5
        subst e
        go_wp2_with fail
        go_meet
        exact ⟨by first | rfl | simp, rfl⟩
      case false =>
        go_wp2_with fail
        go_meet
        exact ⟨by first | rfl | simp, rfl⟩
  case rest =>
  obtain ⟨rfl, hw⟩ := hcut
  subst hw
  cases hv51 : (!p5 && !q5)
  case true =>
    go_wp2_with fail
    go_ret
    exact ⟨by (simp only [fitsV, Bool.not_true, Bool.false_eq_true, if_false, if_true, hv49, hv50, hv51]; try rfl), bX.out⟩
  case false =>
  go_upto_region 12 with fail
  go_cut [52] (fun s wx => s = .bool (!p6 && !q6) ∧ X = wx)
  case first =>
    have k1 : (xcd != 0) = !p6 := by rw [← hp6]; rfl
    have k2 : (xcd != ycd) = !q6 := by rw [← hq6]; rfl
    cases p6
    case true =>
      have e : xcd = 0 := by simpa using hp6
      subst e
      go_wp2_with fail
      go_meet
      exact ⟨by first | rfl | simp, rfl⟩
    case false =>
      cases q6
      case true =>
        have e : xcd = ycd := by simpa using hq6
        subst e
        go_wp2_with fail
        go_meet
        exact ⟨by first | rfl | simp, rfl⟩
      case false =>
        go_wp2_with fail
        go_meet
        exact ⟨by first | rfl | simp, rfl⟩
  case rest =>
  obtain ⟨rfl, hw⟩ := hcut
  subst hw
  cases hv52 : (!p6 && !q6)
  case true =>
    go_wp2_with fail
    go_ret
    exact ⟨by (simp only [fitsV, Bool.not_true, Bool.false_eq_true, if_false, if_true, hv49, hv50, hv51, hv52]; try rfl), bX.out⟩
  case false =>
  go_upto_region 14 with fail
  go_cut [63] (fun s wx => s = .bool (!n7 && !r7 && q7) ∧ Below X.heap.size X wx)
  case first =>
    have hn7' : (bits .and .u16 xfl 4 != 0) = !n7 := by rw [← hn7]; rfl
    cases n7 <;> cases r7
    all_goals (
      simp only [Bool.not_true, Bool.not_false] at hn7'
      first | (with_reducible refine rgrow2 (by kernel_rfl) (by kernel_rfl) ?_) | (refine rgrow (by kernel_rfl) (by kernel_rfl) ?_)
      repeat (go_big_quiet_step (((first | (go_at_call 65; exact grow_call (wtop_any _)) | (go_at_call 54; exact grow_call (HC.out _))))))
      refine wpQuiet_nil ?_
      intro dr
      go_wp2_with fail
      go_meet
      refine ⟨by first | rfl | simp | simp_all, ?_⟩
      first | exact grow_below _ _ | exact Below.drew (grow_below _ _))
  case rest =>
  obtain ⟨rfl, hw⟩ := hcut
  have fx2 := fx.out.kept hw
  have fy2 := fy.out.kept hw
  have bX2 := bX.out.trans (hw.mono bX.out.size)
  clear x_2 y_2 x_3 y_3 x_4 y_4 x_5 y_5 x_6 y_6 x_7 y_7 x_12 y_12 x_13 y_13 x_14 y_14 t0 tl xl yl
  have xl := fx2.lt
  have yl := fy2.lt
  have x_6 : wc.cell? ⟨w.heap.size, 6, none⟩ = some (.int .u64 xm1) := fx2.cell 6
  have x_7 : wc.cell? ⟨w.heap.size, 7, none⟩ = some (.int .u64 xm2) := fx2.cell 7
  have x_14 : wc.cell? ⟨w.heap.size, 14, none⟩ = some (.int .u16 xfl) := fx2.cell 14
  have y_6 : wc.cell? ⟨w.heap.size + 2, 6, none⟩ = some (.int .u64 ym1) := fy2.cell 6
  have y_7 : wc.cell? ⟨w.heap.size + 2, 7, none⟩ = some (.int .u64 ym2) := fy2.cell 7
  have y_14 : wc.cell? ⟨w.heap.size + 2, 14, none⟩ = some (.int .u16 yfl) := fy2.cell 14
  replace bX2 := Lib.hid bX2
  clear hw fx fy bX fx2 fy2
  cases hv53 : (!n7 && !r7 && q7)
  case true =>
    go_wp2_with fail
    go_ret
    exact ⟨by (simp only [fitsV, Bool.not_true, Bool.false_eq_true, if_false, if_true, hv49, hv50, hv51, hv52, hv53]; try rfl), bX2.out⟩
  case false =>
  go_upto_region 16 with fail
  go_cut [82] (fun s wx => s = .bool (n7 && !s8 && !m8 && !e8) ∧ wc = wx)
  case first =>
    have k1 : (bits .and .u16 xfl 8 != 0) = !s8 := by rw [← hs8]; rfl
    cases n7 <;> cases s8 <;> cases m8 <;> cases e8
    all_goals (
      go_wp2_with fail
      go_meet
      exact ⟨by first | rfl | simp, rfl⟩)
  case rest =>
  obtain ⟨rfl, hw⟩ := hcut
  subst hw
  cases hv54 : (n7 && !s8 && !m8 && !e8)
  case true =>
    go_wp2_with fail
    go_ret
    exact ⟨by (simp only [fitsV, Bool.not_true, Bool.false_eq_true, if_false, if_true, hv49, hv50, hv51, hv52, hv53, hv54]; try rfl), bX2.out⟩
  case false =>
  go_wp2_with fail
  go_ret
  exact ⟨by (simp only [fitsV, Bool.not_true, Bool.false_eq_true, if_false, if_true, hv49, hv50, hv51, hv52, hv53, hv54]; try rfl), bX2.out⟩
end Go.Proofs.Ytpbnakoimlmhnaa
