/-
  posting.Again of what was made; PhaseMakes, walked.
-/
import Derived.Test.YtogipdmhfmjecaaPhI
namespace Go.Proofs.Ytogipdmhfmjecaa
set_option linter.unusedVariables false
set_option linter.unusedSimpArgs false
open Go.RowKit

attribute [local go_sem] bK_is loadV_ptr storeV_ptr
attribute [local go_sem ↓] load_Transfer store_Transfer load_Kept store_Kept build_Kept
set_option maxRecDepth 8000 in
set_option maxHeartbeats 4000000 in
theorem again_same (xi1 xi2 xd1 xd2 xc1 xc2 xm1 xm2 xw1 xw2 xtg xto xlg xcd xfl xst n1 n2 ss : Int) (w : World) : Calls Try.prog 11 #[.agg #[.int .u64 xi1, .int .u64 xi2, .int .u64 xd1, .int .u64 xd2, .int .u64 xc1, .int .u64 xc2, .int .u64 xm1, .int .u64 xm2, .int .u64 xw1, .int .u64 xw2, .int .u64 xtg, .int .u32 xto, .int .u32 xlg, .int .u16 xcd, .int .u16 xfl, .int .u64 xst], .agg #[.int .u64 xi1, .int .u64 xi2, .int .u64 xd1, .int .u64 xd2, .int .u64 xc1, .int .u64 xc2, .int .u64 n1, .int .u64 n2, .int .u64 xw1, .int .u64 xw2, .int .u64 xtg, .int .u32 xto, .int .u32 xlg, .int .u16 xcd, .int .u16 xfl, .int .u64 ss, .int .u64 xm1, .int .u64 xm2]] w fun r w' => r = .returned (.int .u32 16) ∧ Below w.heap.size w w' := by
  have E1 := Lib.hid (fun w => eitherW_same xi1 xi2 xd1 xd2 xc1 xc2 xm1 xm2 xw1 xw2 xtg xto xlg xcd xfl xst xd1 xd2 w)
  have E2 := Lib.hid (fun w => eitherW_same xi1 xi2 xd1 xd2 xc1 xc2 xm1 xm2 xw1 xw2 xtg xto xlg xcd xfl xst xc1 xc2 w)
  have E3 := Lib.hid (fun w => eitherD_same xi1 xi2 xd1 xd2 xc1 xc2 xm1 xm2 xw1 xw2 xtg xto xlg xcd xfl xst xlg w)
  have E4 := Lib.hid (fun w => eitherH_same xi1 xi2 xd1 xd2 xc1 xc2 xm1 xm2 xw1 xw2 xtg xto xlg xcd xfl xst xcd w)
  go_enter Try.func11, Try.ntmps11
  go_upto_region 2 with fail
  refine abs_wp (fun X => Below w.heap.size w X ∧ Blk X w.heap.size 28 #[.int .u64 xi1, .int .u64 xi2, .int .u64 xd1, .int .u64 xd2, .int .u64 xc1, .int .u64 xc2, .int .u64 xm1, .int .u64 xm2, .int .u64 xw1, .int .u64 xw2, .int .u64 xtg, .int .u32 xto, .int .u32 xlg, .int .u16 xcd, .int .u16 xfl, .int .u64 xst] ∧ Blk X (w.heap.size + 1) 45 #[.int .u64 xi1, .int .u64 xi2, .int .u64 xd1, .int .u64 xd2, .int .u64 xc1, .int .u64 xc2, .int .u64 n1, .int .u64 n2, .int .u64 xw1, .int .u64 xw2, .int .u64 xtg, .int .u32 xto, .int .u32 xlg, .int .u16 xcd, .int .u16 xfl, .int .u64 ss, .int .u64 xm1, .int .u64 xm2] ∧ Blk X (w.heap.size + 2) 28 #[.int .u64 xi1, .int .u64 xi2, .int .u64 xd1, .int .u64 xd2, .int .u64 xc1, .int .u64 xc2, .int .u64 n1, .int .u64 n2, .int .u64 xw1, .int .u64 xw2, .int .u64 xtg, .int .u32 xto, .int .u32 xlg, .int .u16 xcd, .int .u16 xfl, .int .u64 ss]) ?_ ?_
  · refine ⟨by (repeat (first | with_reducible exact Below.refl _ _ | with_reducible assumption | (with_reducible refine bel_set ?_ (by first | exact Nat.le_refl _ | (simp; done) | (simp; omega) | omega) _) | with_reducible refine bel_grow ?_ _ | with_reducible refine Below.drew ?_ | with_reducible refine below_drewN ?_ _ | with_reducible refine bel_alloc ?_ _ | with_reducible refine bel_trans ?_ (by assumption))), ?_, ?_, ?_⟩
    · exact ((Blk.new _ _ _).alloc _).alloc _
    · exact (Blk.new' (by simp)).alloc _
    · exact Blk.new' (by simp)
  rintro X ⟨bX, gx, gk, go_⟩
  have rx := rowAt_blk gx
  have xl := gx.lt
  have kl := gk.lt
  have ol := go_.lt
  have x_2 : X.cell? ⟨w.heap.size, 2, none⟩ = some (.int .u64 xd1) := gx.cell 2
  have o_2 : X.cell? ⟨w.heap.size + 2, 2, none⟩ = some (.int .u64 xd1) := go_.cell 2
  have x_3 : X.cell? ⟨w.heap.size, 3, none⟩ = some (.int .u64 xd2) := gx.cell 3
  have o_3 : X.cell? ⟨w.heap.size + 2, 3, none⟩ = some (.int .u64 xd2) := go_.cell 3
  have x_4 : X.cell? ⟨w.heap.size, 4, none⟩ = some (.int .u64 xc1) := gx.cell 4
  have o_4 : X.cell? ⟨w.heap.size + 2, 4, none⟩ = some (.int .u64 xc1) := go_.cell 4
  have x_5 : X.cell? ⟨w.heap.size, 5, none⟩ = some (.int .u64 xc2) := gx.cell 5
  have o_5 : X.cell? ⟨w.heap.size + 2, 5, none⟩ = some (.int .u64 xc2) := go_.cell 5
  have x_6 : X.cell? ⟨w.heap.size, 6, none⟩ = some (.int .u64 xm1) := gx.cell 6
  have o_6 : X.cell? ⟨w.heap.size + 2, 6, none⟩ = some (.int .u64 n1) := go_.cell 6
  have x_7 : X.cell? ⟨w.heap.size, 7, none⟩ = some (.int .u64 xm2) := gx.cell 7
  have o_7 : X.cell? ⟨w.heap.size + 2, 7, none⟩ = some (.int .u64 n2) := go_.cell 7
  have x_8 : X.cell? ⟨w.heap.size, 8, none⟩ = some (.int .u64 xw1) := gx.cell 8
  have o_8 : X.cell? ⟨w.heap.size + 2, 8, none⟩ = some (.int .u64 xw1) := go_.cell 8
  have x_9 : X.cell? ⟨w.heap.size, 9, none⟩ = some (.int .u64 xw2) := gx.cell 9
  have o_9 : X.cell? ⟨w.heap.size + 2, 9, none⟩ = some (.int .u64 xw2) := go_.cell 9
  have x_10 : X.cell? ⟨w.heap.size, 10, none⟩ = some (.int .u64 xtg) := gx.cell 10
  have o_10 : X.cell? ⟨w.heap.size + 2, 10, none⟩ = some (.int .u64 xtg) := go_.cell 10
  have x_11 : X.cell? ⟨w.heap.size, 11, none⟩ = some (.int .u32 xto) := gx.cell 11
  have o_11 : X.cell? ⟨w.heap.size + 2, 11, none⟩ = some (.int .u32 xto) := go_.cell 11
  have x_12 : X.cell? ⟨w.heap.size, 12, none⟩ = some (.int .u32 xlg) := gx.cell 12
  have o_12 : X.cell? ⟨w.heap.size + 2, 12, none⟩ = some (.int .u32 xlg) := go_.cell 12
  have x_13 : X.cell? ⟨w.heap.size, 13, none⟩ = some (.int .u16 xcd) := gx.cell 13
  have o_13 : X.cell? ⟨w.heap.size + 2, 13, none⟩ = some (.int .u16 xcd) := go_.cell 13
  have x_14 : X.cell? ⟨w.heap.size, 14, none⟩ = some (.int .u16 xfl) := gx.cell 14
  have o_14 : X.cell? ⟨w.heap.size + 2, 14, none⟩ = some (.int .u16 xfl) := go_.cell 14
  have k_0 : X.cell? ⟨w.heap.size + 1, 16, none⟩ = some (.int .u64 xm1) := gk.cell 16
  have k_1 : X.cell? ⟨w.heap.size + 1, 17, none⟩ = some (.int .u64 xm2) := gk.cell 17
  replace bX := Lib.hid bX
  go_upto_region 8 with fail
  go_cut [26] (fun u1 wx => u1 = .bool false ∧ Below X.heap.size X wx)
  case first =>
    first | (with_reducible refine rgrow2 (by kernel_rfl) (by kernel_rfl) ?_) | (refine rgrow (by kernel_rfl) (by kernel_rfl) ?_)
    repeat (go_big_quiet_step (((first | (go_at_call 21; first | (with_reducible exact grow_call (E1.out _)) | (with_reducible exact grow_call (E2.out _))) | (go_at_call 22; exact grow_call (E3.out _)) | (go_at_call 23; exact grow_call (E4.out _))))))
    refine wpQuiet_nil ?_
    intro dr
    go_wp2_with fail
    go_meet
    exact ⟨by first | rfl | simp, by first | exact grow_below _ _ | exact Below.drew (grow_below _ _)⟩
  case rest =>
  obtain ⟨rfl, hw⟩ := hcut
  have hx0 := gx.kept hw
  have hk0 := gk.kept hw
  have ho0 := go_.kept hw
  have hb0 := bel_eld bX.out hw
  clear gx gk go_ bX hw rx xl kl ol k_0 k_1 x_2 o_2 x_3 o_3 x_4 o_4 x_5 o_5 x_6 o_6 x_7 o_7 x_8 o_8 x_9 o_9 x_10 o_10 x_11 o_11 x_12 o_12 x_13 o_13 x_14 o_14
  rename World => Y0
  have rx := rowAt_blk hx0
  have xl := hx0.lt
  have kl := hk0.lt
  have ol := ho0.lt
  have x_2 : Y0.cell? ⟨w.heap.size, 2, none⟩ = some (.int .u64 xd1) := hx0.cell 2
  have o_2 : Y0.cell? ⟨w.heap.size + 2, 2, none⟩ = some (.int .u64 xd1) := ho0.cell 2
  have x_3 : Y0.cell? ⟨w.heap.size, 3, none⟩ = some (.int .u64 xd2) := hx0.cell 3
  have o_3 : Y0.cell? ⟨w.heap.size + 2, 3, none⟩ = some (.int .u64 xd2) := ho0.cell 3
  have x_4 : Y0.cell? ⟨w.heap.size, 4, none⟩ = some (.int .u64 xc1) := hx0.cell 4
  have o_4 : Y0.cell? ⟨w.heap.size + 2, 4, none⟩ = some (.int .u64 xc1) := ho0.cell 4
  have x_5 : Y0.cell? ⟨w.heap.size, 5, none⟩ = some (.int .u64 xc2) := hx0.cell 5
  have o_5 : Y0.cell? ⟨w.heap.size + 2, 5, none⟩ = some (.int .u64 xc2) := ho0.cell 5
  have x_6 : Y0.cell? ⟨w.heap.size, 6, none⟩ = some (.int .u64 xm1) := hx0.cell 6
  have o_6 : Y0.cell? ⟨w.heap.size + 2, 6, none⟩ = some (.int .u64 n1) := ho0.cell 6
  have x_7 : Y0.cell? ⟨w.heap.size, 7, none⟩ = some (.int .u64 xm2) := hx0.cell 7
  have o_7 : Y0.cell? ⟨w.heap.size + 2, 7, none⟩ = some (.int .u64 n2) := ho0.cell 7
  have x_8 : Y0.cell? ⟨w.heap.size, 8, none⟩ = some (.int .u64 xw1) := hx0.cell 8
  have o_8 : Y0.cell? ⟨w.heap.size + 2, 8, none⟩ = some (.int .u64 xw1) := ho0.cell 8
  have x_9 : Y0.cell? ⟨w.heap.size, 9, none⟩ = some (.int .u64 xw2) := hx0.cell 9
  have o_9 : Y0.cell? ⟨w.heap.size + 2, 9, none⟩ = some (.int .u64 xw2) := ho0.cell 9
  have x_10 : Y0.cell? ⟨w.heap.size, 10, none⟩ = some (.int .u64 xtg) := hx0.cell 10
  have o_10 : Y0.cell? ⟨w.heap.size + 2, 10, none⟩ = some (.int .u64 xtg) := ho0.cell 10
  have x_11 : Y0.cell? ⟨w.heap.size, 11, none⟩ = some (.int .u32 xto) := hx0.cell 11
  have o_11 : Y0.cell? ⟨w.heap.size + 2, 11, none⟩ = some (.int .u32 xto) := ho0.cell 11
  have x_12 : Y0.cell? ⟨w.heap.size, 12, none⟩ = some (.int .u32 xlg) := hx0.cell 12
  have o_12 : Y0.cell? ⟨w.heap.size + 2, 12, none⟩ = some (.int .u32 xlg) := ho0.cell 12
  have x_13 : Y0.cell? ⟨w.heap.size, 13, none⟩ = some (.int .u16 xcd) := hx0.cell 13
  have o_13 : Y0.cell? ⟨w.heap.size + 2, 13, none⟩ = some (.int .u16 xcd) := ho0.cell 13
  have x_14 : Y0.cell? ⟨w.heap.size, 14, none⟩ = some (.int .u16 xfl) := hx0.cell 14
  have o_14 : Y0.cell? ⟨w.heap.size + 2, 14, none⟩ = some (.int .u16 xfl) := ho0.cell 14
  have k_0 : Y0.cell? ⟨w.heap.size + 1, 16, none⟩ = some (.int .u64 xm1) := hk0.cell 16
  have k_1 : Y0.cell? ⟨w.heap.size + 1, 17, none⟩ = some (.int .u64 xm2) := hk0.cell 17
  replace hb0 := Lib.hid hb0
  go_upto_region 10 with fail
  go_cut [36] (fun u1 wx => u1 = .bool false ∧ Below Y0.heap.size Y0 wx)
  case first =>
    first | (with_reducible refine rgrow2 (by kernel_rfl) (by kernel_rfl) ?_) | (refine rgrow (by kernel_rfl) (by kernel_rfl) ?_)
    repeat (go_big_quiet_step (((first | (go_at_call 21; first | (with_reducible exact grow_call (E1.out _)) | (with_reducible exact grow_call (E2.out _))) | (go_at_call 22; exact grow_call (E3.out _)) | (go_at_call 23; exact grow_call (E4.out _))))))
    refine wpQuiet_nil ?_
    intro dr
    go_wp2_with fail
    go_meet
    exact ⟨by first | rfl | simp, by first | exact grow_below _ _ | exact Below.drew (grow_below _ _)⟩
  case rest =>
  obtain ⟨rfl, hw⟩ := hcut
  have hx1 := hx0.kept hw
  have hk1 := hk0.kept hw
  have ho1 := ho0.kept hw
  have hb1 := bel_eld hb0.out hw
  clear hx0 hk0 ho0 hb0 hw rx xl kl ol k_0 k_1 x_2 o_2 x_3 o_3 x_4 o_4 x_5 o_5 x_6 o_6 x_7 o_7 x_8 o_8 x_9 o_9 x_10 o_10 x_11 o_11 x_12 o_12 x_13 o_13 x_14 o_14
  rename World => Y1
  have rx := rowAt_blk hx1
  have xl := hx1.lt
  have kl := hk1.lt
  have ol := ho1.lt
  have x_2 : Y1.cell? ⟨w.heap.size, 2, none⟩ = some (.int .u64 xd1) := hx1.cell 2
  have o_2 : Y1.cell? ⟨w.heap.size + 2, 2, none⟩ = some (.int .u64 xd1) := ho1.cell 2
  have x_3 : Y1.cell? ⟨w.heap.size, 3, none⟩ = some (.int .u64 xd2) := hx1.cell 3
  have o_3 : Y1.cell? ⟨w.heap.size + 2, 3, none⟩ = some (.int .u64 xd2) := ho1.cell 3
  have x_4 : Y1.cell? ⟨w.heap.size, 4, none⟩ = some (.int .u64 xc1) := hx1.cell 4
  have o_4 : Y1.cell? ⟨w.heap.size + 2, 4, none⟩ = some (.int .u64 xc1) := ho1.cell 4
  have x_5 : Y1.cell? ⟨w.heap.size, 5, none⟩ = some (.int .u64 xc2) := hx1.cell 5
  have o_5 : Y1.cell? ⟨w.heap.size + 2, 5, none⟩ = some (.int .u64 xc2) := ho1.cell 5
  have x_6 : Y1.cell? ⟨w.heap.size, 6, none⟩ = some (.int .u64 xm1) := hx1.cell 6
  have o_6 : Y1.cell? ⟨w.heap.size + 2, 6, none⟩ = some (.int .u64 n1) := ho1.cell 6
  have x_7 : Y1.cell? ⟨w.heap.size, 7, none⟩ = some (.int .u64 xm2) := hx1.cell 7
  have o_7 : Y1.cell? ⟨w.heap.size + 2, 7, none⟩ = some (.int .u64 n2) := ho1.cell 7
  have x_8 : Y1.cell? ⟨w.heap.size, 8, none⟩ = some (.int .u64 xw1) := hx1.cell 8
  have o_8 : Y1.cell? ⟨w.heap.size + 2, 8, none⟩ = some (.int .u64 xw1) := ho1.cell 8
  have x_9 : Y1.cell? ⟨w.heap.size, 9, none⟩ = some (.int .u64 xw2) := hx1.cell 9
  have o_9 : Y1.cell? ⟨w.heap.size + 2, 9, none⟩ = some (.int .u64 xw2) := ho1.cell 9
  have x_10 : Y1.cell? ⟨w.heap.size, 10, none⟩ = some (.int .u64 xtg) := hx1.cell 10
  have o_10 : Y1.cell? ⟨w.heap.size + 2, 10, none⟩ = some (.int .u64 xtg) := ho1.cell 10
  have x_11 : Y1.cell? ⟨w.heap.size, 11, none⟩ = some (.int .u32 xto) := hx1.cell 11
  have o_11 : Y1.cell? ⟨w.heap.size + 2, 11, none⟩ = some (.int .u32 xto) := ho1.cell 11
  have x_12 : Y1.cell? ⟨w.heap.size, 12, none⟩ = some (.int .u32 xlg) := hx1.cell 12
  have o_12 : Y1.cell? ⟨w.heap.size + 2, 12, none⟩ = some (.int .u32 xlg) := ho1.cell 12
  have x_13 : Y1.cell? ⟨w.heap.size, 13, none⟩ = some (.int .u16 xcd) := hx1.cell 13
  have o_13 : Y1.cell? ⟨w.heap.size + 2, 13, none⟩ = some (.int .u16 xcd) := ho1.cell 13
  have x_14 : Y1.cell? ⟨w.heap.size, 14, none⟩ = some (.int .u16 xfl) := hx1.cell 14
  have o_14 : Y1.cell? ⟨w.heap.size + 2, 14, none⟩ = some (.int .u16 xfl) := ho1.cell 14
  have k_0 : Y1.cell? ⟨w.heap.size + 1, 16, none⟩ = some (.int .u64 xm1) := hk1.cell 16
  have k_1 : Y1.cell? ⟨w.heap.size + 1, 17, none⟩ = some (.int .u64 xm2) := hk1.cell 17
  replace hb1 := Lib.hid hb1
  go_upto_region 16 with fail
  go_cut [58] (fun u1 wx => u1 = .bool false ∧ Below Y1.heap.size Y1 wx)
  case first =>
    first | (with_reducible refine rgrow2 (by kernel_rfl) (by kernel_rfl) ?_) | (refine rgrow (by kernel_rfl) (by kernel_rfl) ?_)
    repeat (go_big_quiet_step (((first | (go_at_call 21; first | (with_reducible exact grow_call (E1.out _)) | (with_reducible exact grow_call (E2.out _))) | (go_at_call 22; exact grow_call (E3.out _)) | (go_at_call 23; exact grow_call (E4.out _))))))
    refine wpQuiet_nil ?_
    intro dr
    go_wp2_with fail
    go_meet
    exact ⟨by first | rfl | simp, by first | exact grow_below _ _ | exact Below.drew (grow_below _ _)⟩
  case rest =>
  obtain ⟨rfl, hw⟩ := hcut
  have hx2 := hx1.kept hw
  have hk2 := hk1.kept hw
  have ho2 := ho1.kept hw
  have hb2 := bel_eld hb1.out hw
  clear hx1 hk1 ho1 hb1 hw rx xl kl ol k_0 k_1 x_2 o_2 x_3 o_3 x_4 o_4 x_5 o_5 x_6 o_6 x_7 o_7 x_8 o_8 x_9 o_9 x_10 o_10 x_11 o_11 x_12 o_12 x_13 o_13 x_14 o_14
  rename World => Y2
  have rx := rowAt_blk hx2
  have xl := hx2.lt
  have kl := hk2.lt
  have ol := ho2.lt
  have x_2 : Y2.cell? ⟨w.heap.size, 2, none⟩ = some (.int .u64 xd1) := hx2.cell 2
  have o_2 : Y2.cell? ⟨w.heap.size + 2, 2, none⟩ = some (.int .u64 xd1) := ho2.cell 2
  have x_3 : Y2.cell? ⟨w.heap.size, 3, none⟩ = some (.int .u64 xd2) := hx2.cell 3
  have o_3 : Y2.cell? ⟨w.heap.size + 2, 3, none⟩ = some (.int .u64 xd2) := ho2.cell 3
  have x_4 : Y2.cell? ⟨w.heap.size, 4, none⟩ = some (.int .u64 xc1) := hx2.cell 4
  have o_4 : Y2.cell? ⟨w.heap.size + 2, 4, none⟩ = some (.int .u64 xc1) := ho2.cell 4
  have x_5 : Y2.cell? ⟨w.heap.size, 5, none⟩ = some (.int .u64 xc2) := hx2.cell 5
  have o_5 : Y2.cell? ⟨w.heap.size + 2, 5, none⟩ = some (.int .u64 xc2) := ho2.cell 5
  have x_6 : Y2.cell? ⟨w.heap.size, 6, none⟩ = some (.int .u64 xm1) := hx2.cell 6
  have o_6 : Y2.cell? ⟨w.heap.size + 2, 6, none⟩ = some (.int .u64 n1) := ho2.cell 6
  have x_7 : Y2.cell? ⟨w.heap.size, 7, none⟩ = some (.int .u64 xm2) := hx2.cell 7
  have o_7 : Y2.cell? ⟨w.heap.size + 2, 7, none⟩ = some (.int .u64 n2) := ho2.cell 7
  have x_8 : Y2.cell? ⟨w.heap.size, 8, none⟩ = some (.int .u64 xw1) := hx2.cell 8
  have o_8 : Y2.cell? ⟨w.heap.size + 2, 8, none⟩ = some (.int .u64 xw1) := ho2.cell 8
  have x_9 : Y2.cell? ⟨w.heap.size, 9, none⟩ = some (.int .u64 xw2) := hx2.cell 9
  have o_9 : Y2.cell? ⟨w.heap.size + 2, 9, none⟩ = some (.int .u64 xw2) := ho2.cell 9
  have x_10 : Y2.cell? ⟨w.heap.size, 10, none⟩ = some (.int .u64 xtg) := hx2.cell 10
  have o_10 : Y2.cell? ⟨w.heap.size + 2, 10, none⟩ = some (.int .u64 xtg) := ho2.cell 10
  have x_11 : Y2.cell? ⟨w.heap.size, 11, none⟩ = some (.int .u32 xto) := hx2.cell 11
  have o_11 : Y2.cell? ⟨w.heap.size + 2, 11, none⟩ = some (.int .u32 xto) := ho2.cell 11
  have x_12 : Y2.cell? ⟨w.heap.size, 12, none⟩ = some (.int .u32 xlg) := hx2.cell 12
  have o_12 : Y2.cell? ⟨w.heap.size + 2, 12, none⟩ = some (.int .u32 xlg) := ho2.cell 12
  have x_13 : Y2.cell? ⟨w.heap.size, 13, none⟩ = some (.int .u16 xcd) := hx2.cell 13
  have o_13 : Y2.cell? ⟨w.heap.size + 2, 13, none⟩ = some (.int .u16 xcd) := ho2.cell 13
  have x_14 : Y2.cell? ⟨w.heap.size, 14, none⟩ = some (.int .u16 xfl) := hx2.cell 14
  have o_14 : Y2.cell? ⟨w.heap.size + 2, 14, none⟩ = some (.int .u16 xfl) := ho2.cell 14
  have k_0 : Y2.cell? ⟨w.heap.size + 1, 16, none⟩ = some (.int .u64 xm1) := hk2.cell 16
  have k_1 : Y2.cell? ⟨w.heap.size + 1, 17, none⟩ = some (.int .u64 xm2) := hk2.cell 17
  replace hb2 := Lib.hid hb2
  go_upto_region 18 with fail
  go_cut [68] (fun u1 wx => u1 = .bool false ∧ Below Y2.heap.size Y2 wx)
  case first =>
    first | (with_reducible refine rgrow2 (by kernel_rfl) (by kernel_rfl) ?_) | (refine rgrow (by kernel_rfl) (by kernel_rfl) ?_)
    repeat (go_big_quiet_step (((first | (go_at_call 21; first | (with_reducible exact grow_call (E1.out _)) | (with_reducible exact grow_call (E2.out _))) | (go_at_call 22; exact grow_call (E3.out _)) | (go_at_call 23; exact grow_call (E4.out _))))))
    refine wpQuiet_nil ?_
    intro dr
    go_wp2_with fail
    go_meet
    exact ⟨by first | rfl | simp, by first | exact grow_below _ _ | exact Below.drew (grow_below _ _)⟩
  case rest =>
  obtain ⟨rfl, hw⟩ := hcut
  have hx3 := hx2.kept hw
  have hk3 := hk2.kept hw
  have ho3 := ho2.kept hw
  have hb3 := bel_eld hb2.out hw
  clear hx2 hk2 ho2 hb2 hw rx xl kl ol k_0 k_1 x_2 o_2 x_3 o_3 x_4 o_4 x_5 o_5 x_6 o_6 x_7 o_7 x_8 o_8 x_9 o_9 x_10 o_10 x_11 o_11 x_12 o_12 x_13 o_13 x_14 o_14
  rename World => Y3
  have rx := rowAt_blk hx3
  have xl := hx3.lt
  have kl := hk3.lt
  have ol := ho3.lt
  have x_2 : Y3.cell? ⟨w.heap.size, 2, none⟩ = some (.int .u64 xd1) := hx3.cell 2
  have o_2 : Y3.cell? ⟨w.heap.size + 2, 2, none⟩ = some (.int .u64 xd1) := ho3.cell 2
  have x_3 : Y3.cell? ⟨w.heap.size, 3, none⟩ = some (.int .u64 xd2) := hx3.cell 3
  have o_3 : Y3.cell? ⟨w.heap.size + 2, 3, none⟩ = some (.int .u64 xd2) := ho3.cell 3
  have x_4 : Y3.cell? ⟨w.heap.size, 4, none⟩ = some (.int .u64 xc1) := hx3.cell 4
  have o_4 : Y3.cell? ⟨w.heap.size + 2, 4, none⟩ = some (.int .u64 xc1) := ho3.cell 4
  have x_5 : Y3.cell? ⟨w.heap.size, 5, none⟩ = some (.int .u64 xc2) := hx3.cell 5
  have o_5 : Y3.cell? ⟨w.heap.size + 2, 5, none⟩ = some (.int .u64 xc2) := ho3.cell 5
  have x_6 : Y3.cell? ⟨w.heap.size, 6, none⟩ = some (.int .u64 xm1) := hx3.cell 6
  have o_6 : Y3.cell? ⟨w.heap.size + 2, 6, none⟩ = some (.int .u64 n1) := ho3.cell 6
  have x_7 : Y3.cell? ⟨w.heap.size, 7, none⟩ = some (.int .u64 xm2) := hx3.cell 7
  have o_7 : Y3.cell? ⟨w.heap.size + 2, 7, none⟩ = some (.int .u64 n2) := ho3.cell 7
  have x_8 : Y3.cell? ⟨w.heap.size, 8, none⟩ = some (.int .u64 xw1) := hx3.cell 8
  have o_8 : Y3.cell? ⟨w.heap.size + 2, 8, none⟩ = some (.int .u64 xw1) := ho3.cell 8
  have x_9 : Y3.cell? ⟨w.heap.size, 9, none⟩ = some (.int .u64 xw2) := hx3.cell 9
  have o_9 : Y3.cell? ⟨w.heap.size + 2, 9, none⟩ = some (.int .u64 xw2) := ho3.cell 9
  have x_10 : Y3.cell? ⟨w.heap.size, 10, none⟩ = some (.int .u64 xtg) := hx3.cell 10
  have o_10 : Y3.cell? ⟨w.heap.size + 2, 10, none⟩ = some (.int .u64 xtg) := ho3.cell 10
  have x_11 : Y3.cell? ⟨w.heap.size, 11, none⟩ = some (.int .u32 xto) := hx3.cell 11
  have o_11 : Y3.cell? ⟨w.heap.size + 2, 11, none⟩ = some (.int .u32 xto) := ho3.cell 11
  have x_12 : Y3.cell? ⟨w.heap.size, 12, none⟩ = some (.int .u32 xlg) := hx3.cell 12
  have o_12 : Y3.cell? ⟨w.heap.size + 2, 12, none⟩ = some (.int .u32 xlg) := ho3.cell 12
  have x_13 : Y3.cell? ⟨w.heap.size, 13, none⟩ = some (.int .u16 xcd) := hx3.cell 13
  have o_13 : Y3.cell? ⟨w.heap.size + 2, 13, none⟩ = some (.int .u16 xcd) := ho3.cell 13
  have x_14 : Y3.cell? ⟨w.heap.size, 14, none⟩ = some (.int .u16 xfl) := hx3.cell 14
  have o_14 : Y3.cell? ⟨w.heap.size + 2, 14, none⟩ = some (.int .u16 xfl) := ho3.cell 14
  have k_0 : Y3.cell? ⟨w.heap.size + 1, 16, none⟩ = some (.int .u64 xm1) := hk3.cell 16
  have k_1 : Y3.cell? ⟨w.heap.size + 1, 17, none⟩ = some (.int .u64 xm2) := hk3.cell 17
  replace hb3 := Lib.hid hb3
  go_wp2_with fail
  go_ret
  exact ⟨rfl, hb3.out⟩

end Go.Proofs.Ytogipdmhfmjecaa
