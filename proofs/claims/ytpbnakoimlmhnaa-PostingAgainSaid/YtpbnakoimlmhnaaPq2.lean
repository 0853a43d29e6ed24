/-
  posting.Again, walked.
-/
import Derived.Test.YtpbnakoimlmhnaaBk
import Derived.Test.YtpbnakoimlmhnaaEq
import Derived.Deep.DeepCutAuto
namespace Go.Proofs.Ytpbnakoimlmhnaa
set_option linter.unusedVariables false
set_option linter.unusedSimpArgs false
open Go.RowKit

attribute [local go_sem] loadV_ptr storeV_ptr one_func drew_hs ext_deb ext_cre ext_cols ext_acc
attribute [local go_sem ↓] load_Cols store_Cols load_Transfer store_Transfer load_Parties store_Parties load_Acct store_Acct
attribute [local go_sem] bK_is
attribute [local go_sem ↓] load_Kept store_Kept build_Kept
def againV (b1 s2 b3 s4 s5 s6 b7 b8 b9 : Bool) : Int := if b1 then 7 else if !s2 then 8 else if b3 then 9 else if !s4 then 10 else if !s5 then 11 else if !s6 then 12 else if b7 then 13 else if b8 then 14 else if b9 then 15 else 16
set_option maxRecDepth 20000 in
set_option maxHeartbeats 8000000 in
theorem again_of (xi1 xi2 xd1 xd2 xc1 xc2 xm1 xm2 xw1 xw2 xtg xto xlg xcd xfl xst yi1 yi2 yd1 yd2 yc1 yc2 ym1 ym2 yw1 yw2 ytg yto ylg ycd yfl yst a1 a2 u1 u2 v1 v2 lv cv : Int) (b1 s2 b3 s4 s5 s6 b7 b8 b9 : Bool) (hb1 : (xfl != yfl) = b1) (hs2 : (xw1 == yw1 && xw2 == yw2) = s2) (hb3 : (xto != yto) = b3) (hs4 : (u1 == yd1 && u2 == yd2) = s4) (hs5 : (v1 == yc1 && v2 == yc2) = s5) (hs6 : (xm1 == a1 && xm2 == a2) = s6) (hb7 : (xtg != ytg) = b7) (hb8 : (lv != ylg) = b8) (hb9 : (cv != ycd) = b9)
    (E1 : ∀ w, Calls Try.prog 62 #[.agg #[.int .u64 xi1, .int .u64 xi2, .int .u64 xd1, .int .u64 xd2, .int .u64 xc1, .int .u64 xc2, .int .u64 xm1, .int .u64 xm2, .int .u64 xw1, .int .u64 xw2, .int .u64 xtg, .int .u32 xto, .int .u32 xlg, .int .u16 xcd, .int .u16 xfl, .int .u64 xst], .agg #[.int .u64 xd1, .int .u64 xd2], .agg #[.int .u64 yd1, .int .u64 yd2]] w fun r w' => r = .returned (.agg #[.int .u64 u1, .int .u64 u2]) ∧ Below w.heap.size w w')
    (E2 : ∀ w, Calls Try.prog 62 #[.agg #[.int .u64 xi1, .int .u64 xi2, .int .u64 xd1, .int .u64 xd2, .int .u64 xc1, .int .u64 xc2, .int .u64 xm1, .int .u64 xm2, .int .u64 xw1, .int .u64 xw2, .int .u64 xtg, .int .u32 xto, .int .u32 xlg, .int .u16 xcd, .int .u16 xfl, .int .u64 xst], .agg #[.int .u64 xc1, .int .u64 xc2], .agg #[.int .u64 yc1, .int .u64 yc2]] w fun r w' => r = .returned (.agg #[.int .u64 v1, .int .u64 v2]) ∧ Below w.heap.size w w')
    (E3 : ∀ w, Calls Try.prog 63 #[.agg #[.int .u64 xi1, .int .u64 xi2, .int .u64 xd1, .int .u64 xd2, .int .u64 xc1, .int .u64 xc2, .int .u64 xm1, .int .u64 xm2, .int .u64 xw1, .int .u64 xw2, .int .u64 xtg, .int .u32 xto, .int .u32 xlg, .int .u16 xcd, .int .u16 xfl, .int .u64 xst], .int .u32 xlg, .int .u32 ylg] w fun r w' => r = .returned (.int .u32 lv) ∧ Below w.heap.size w w')
    (E4 : ∀ w, Calls Try.prog 64 #[.agg #[.int .u64 xi1, .int .u64 xi2, .int .u64 xd1, .int .u64 xd2, .int .u64 xc1, .int .u64 xc2, .int .u64 xm1, .int .u64 xm2, .int .u64 xw1, .int .u64 xw2, .int .u64 xtg, .int .u32 xto, .int .u32 xlg, .int .u16 xcd, .int .u16 xfl, .int .u64 xst], .int .u16 xcd, .int .u16 ycd] w fun r w' => r = .returned (.int .u16 cv) ∧ Below w.heap.size w w')
    (w : World) : Calls Try.prog 31 #[.agg #[.int .u64 xi1, .int .u64 xi2, .int .u64 xd1, .int .u64 xd2, .int .u64 xc1, .int .u64 xc2, .int .u64 xm1, .int .u64 xm2, .int .u64 xw1, .int .u64 xw2, .int .u64 xtg, .int .u32 xto, .int .u32 xlg, .int .u16 xcd, .int .u16 xfl, .int .u64 xst], .agg #[.int .u64 yi1, .int .u64 yi2, .int .u64 yd1, .int .u64 yd2, .int .u64 yc1, .int .u64 yc2, .int .u64 ym1, .int .u64 ym2, .int .u64 yw1, .int .u64 yw2, .int .u64 ytg, .int .u32 yto, .int .u32 ylg, .int .u16 ycd, .int .u16 yfl, .int .u64 yst, .int .u64 a1, .int .u64 a2]] w fun r w' => r = .returned (.int .u32 (againV b1 s2 b3 s4 s5 s6 b7 b8 b9)) ∧ Below w.heap.size w w' := by
  replace E1 := Lib.hid E1
  replace E2 := Lib.hid E2
  replace E3 := Lib.hid E3
  replace E4 := Lib.hid E4
  have hb0 := Below.refl w.heap.size w
  go_enter Try.func31, Try.ntmps31
  go_upto_region 2 with fail
  replace hb0 := Lib.hid hb0
  refine abs_wp (fun Y_ => Below w.heap.size w Y_ ∧ Blk Y_ (w.heap.size) 28 #[.int .u64 xi1, .int .u64 xi2, .int .u64 xd1, .int .u64 xd2, .int .u64 xc1, .int .u64 xc2, .int .u64 xm1, .int .u64 xm2, .int .u64 xw1, .int .u64 xw2, .int .u64 xtg, .int .u32 xto, .int .u32 xlg, .int .u16 xcd, .int .u16 xfl, .int .u64 xst] ∧ Blk Y_ (w.heap.size + 1) 58 #[.int .u64 yi1, .int .u64 yi2, .int .u64 yd1, .int .u64 yd2, .int .u64 yc1, .int .u64 yc2, .int .u64 ym1, .int .u64 ym2, .int .u64 yw1, .int .u64 yw2, .int .u64 ytg, .int .u32 yto, .int .u32 ylg, .int .u16 ycd, .int .u16 yfl, .int .u64 yst, .int .u64 a1, .int .u64 a2] ∧ Blk Y_ (w.heap.size + 2) 28 #[.int .u64 yi1, .int .u64 yi2, .int .u64 yd1, .int .u64 yd2, .int .u64 yc1, .int .u64 yc2, .int .u64 ym1, .int .u64 ym2, .int .u64 yw1, .int .u64 yw2, .int .u64 ytg, .int .u32 yto, .int .u32 ylg, .int .u16 ycd, .int .u16 yfl, .int .u64 yst]) ?_ ?_
  · have t_B := hb0.out
    refine ⟨by (repeat (first | with_reducible exact Below.refl _ _ | with_reducible assumption | (with_reducible refine bel_set ?_ (by first | exact Nat.le_refl _ | (simp; done) | (simp; omega) | omega) _) | with_reducible refine bel_grow ?_ _ | with_reducible refine Below.drew ?_ | with_reducible refine bel_alloc ?_ _ | with_reducible refine bel_eld ?_ (by assumption))), ?_, ?_, ?_⟩
    · (repeat (first | with_reducible assumption | (with_reducible refine Blk.new' ?_; first | with_reducible rfl | (simp; done)) | with_reducible refine Blk.alloc ?_ _ | with_reducible refine Blk.grow ?_ _ | with_reducible refine Blk.drew ?_ | with_reducible refine Blk.drewN ?_ _ | (with_reducible refine Blk.far ?_ (by first | (dsimp only; omega) | (simp; omega)) _) | (with_reducible apply Blk.two) | (with_reducible refine Blk.kept ?_ (by assumption)) | (with_reducible refine Blk.setRow ?_ (by first | rfl | (simp; done))) | (with_reducible refine Blk.setRow_far ?_ (by first | omega | (simp; omega)) _) | (with_reducible refine Blk.set' ?_ _ _ (by first | rfl | (simp; done)))))
    · (repeat (first | with_reducible assumption | (with_reducible refine Blk.new' ?_; first | with_reducible rfl | (simp; done)) | with_reducible refine Blk.alloc ?_ _ | with_reducible refine Blk.grow ?_ _ | with_reducible refine Blk.drew ?_ | with_reducible refine Blk.drewN ?_ _ | (with_reducible refine Blk.far ?_ (by first | (dsimp only; omega) | (simp; omega)) _) | (with_reducible apply Blk.two) | (with_reducible refine Blk.kept ?_ (by assumption)) | (with_reducible refine Blk.setRow ?_ (by first | rfl | (simp; done))) | (with_reducible refine Blk.setRow_far ?_ (by first | omega | (simp; omega)) _) | (with_reducible refine Blk.set' ?_ _ _ (by first | rfl | (simp; done)))))
    · (repeat (first | with_reducible assumption | (with_reducible refine Blk.new' ?_; first | with_reducible rfl | (simp; done)) | with_reducible refine Blk.alloc ?_ _ | with_reducible refine Blk.grow ?_ _ | with_reducible refine Blk.drew ?_ | with_reducible refine Blk.drewN ?_ _ | (with_reducible refine Blk.far ?_ (by first | (dsimp only; omega) | (simp; omega)) _) | (with_reducible apply Blk.two) | (with_reducible refine Blk.kept ?_ (by assumption)) | (with_reducible refine Blk.setRow ?_ (by first | rfl | (simp; done))) | (with_reducible refine Blk.setRow_far ?_ (by first | omega | (simp; omega)) _) | (with_reducible refine Blk.set' ?_ _ _ (by first | rfl | (simp; done)))))
  clear hb0
  rintro X0 ⟨hB_1, f_x, f_k, f_o⟩
  have r_x := rowAt_blk f_x
  have x_l := f_x.lt
  have x_2 : X0.cell? ⟨w.heap.size, 2, none⟩ = some (.int .u64 xd1) := (f_x).cell 2
  have x_f2 := (f_x).frozen 2
  have x_3 : X0.cell? ⟨w.heap.size, 3, none⟩ = some (.int .u64 xd2) := (f_x).cell 3
  have x_f3 := (f_x).frozen 3
  have x_4 : X0.cell? ⟨w.heap.size, 4, none⟩ = some (.int .u64 xc1) := (f_x).cell 4
  have x_f4 := (f_x).frozen 4
  have x_5 : X0.cell? ⟨w.heap.size, 5, none⟩ = some (.int .u64 xc2) := (f_x).cell 5
  have x_f5 := (f_x).frozen 5
  have x_6 : X0.cell? ⟨w.heap.size, 6, none⟩ = some (.int .u64 xm1) := (f_x).cell 6
  have x_f6 := (f_x).frozen 6
  have x_7 : X0.cell? ⟨w.heap.size, 7, none⟩ = some (.int .u64 xm2) := (f_x).cell 7
  have x_f7 := (f_x).frozen 7
  have x_8 : X0.cell? ⟨w.heap.size, 8, none⟩ = some (.int .u64 xw1) := (f_x).cell 8
  have x_f8 := (f_x).frozen 8
  have x_9 : X0.cell? ⟨w.heap.size, 9, none⟩ = some (.int .u64 xw2) := (f_x).cell 9
  have x_f9 := (f_x).frozen 9
  have x_10 : X0.cell? ⟨w.heap.size, 10, none⟩ = some (.int .u64 xtg) := (f_x).cell 10
  have x_f10 := (f_x).frozen 10
  have x_11 : X0.cell? ⟨w.heap.size, 11, none⟩ = some (.int .u32 xto) := (f_x).cell 11
  have x_f11 := (f_x).frozen 11
  have x_12 : X0.cell? ⟨w.heap.size, 12, none⟩ = some (.int .u32 xlg) := (f_x).cell 12
  have x_f12 := (f_x).frozen 12
  have x_13 : X0.cell? ⟨w.heap.size, 13, none⟩ = some (.int .u16 xcd) := (f_x).cell 13
  have x_f13 := (f_x).frozen 13
  have x_14 : X0.cell? ⟨w.heap.size, 14, none⟩ = some (.int .u16 xfl) := (f_x).cell 14
  have x_f14 := (f_x).frozen 14
  replace f_x := Lib.hid f_x
  have r_k := rowAt_blk f_k
  have k_l := f_k.lt
  have k_16 : X0.cell? ⟨w.heap.size + 1, 16, none⟩ = some (.int .u64 a1) := (f_k).cell 16
  have k_f16 := (f_k).frozen 16
  have k_17 : X0.cell? ⟨w.heap.size + 1, 17, none⟩ = some (.int .u64 a2) := (f_k).cell 17
  have k_f17 := (f_k).frozen 17
  replace f_k := Lib.hid f_k
  have r_o := rowAt_blk f_o
  have o_l := f_o.lt
  have o_2 : X0.cell? ⟨w.heap.size + 2, 2, none⟩ = some (.int .u64 yd1) := (f_o).cell 2
  have o_f2 := (f_o).frozen 2
  have o_3 : X0.cell? ⟨w.heap.size + 2, 3, none⟩ = some (.int .u64 yd2) := (f_o).cell 3
  have o_f3 := (f_o).frozen 3
  have o_4 : X0.cell? ⟨w.heap.size + 2, 4, none⟩ = some (.int .u64 yc1) := (f_o).cell 4
  have o_f4 := (f_o).frozen 4
  have o_5 : X0.cell? ⟨w.heap.size + 2, 5, none⟩ = some (.int .u64 yc2) := (f_o).cell 5
  have o_f5 := (f_o).frozen 5
  have o_6 : X0.cell? ⟨w.heap.size + 2, 6, none⟩ = some (.int .u64 ym1) := (f_o).cell 6
  have o_f6 := (f_o).frozen 6
  have o_7 : X0.cell? ⟨w.heap.size + 2, 7, none⟩ = some (.int .u64 ym2) := (f_o).cell 7
  have o_f7 := (f_o).frozen 7
  have o_8 : X0.cell? ⟨w.heap.size + 2, 8, none⟩ = some (.int .u64 yw1) := (f_o).cell 8
  have o_f8 := (f_o).frozen 8
  have o_9 : X0.cell? ⟨w.heap.size + 2, 9, none⟩ = some (.int .u64 yw2) := (f_o).cell 9
  have o_f9 := (f_o).frozen 9
  have o_10 : X0.cell? ⟨w.heap.size + 2, 10, none⟩ = some (.int .u64 ytg) := (f_o).cell 10
  have o_f10 := (f_o).frozen 10
  have o_11 : X0.cell? ⟨w.heap.size + 2, 11, none⟩ = some (.int .u32 yto) := (f_o).cell 11
  have o_f11 := (f_o).frozen 11
  have o_12 : X0.cell? ⟨w.heap.size + 2, 12, none⟩ = some (.int .u32 ylg) := (f_o).cell 12
  have o_f12 := (f_o).frozen 12
  have o_13 : X0.cell? ⟨w.heap.size + 2, 13, none⟩ = some (.int .u16 ycd) := (f_o).cell 13
  have o_f13 := (f_o).frozen 13
  have o_14 : X0.cell? ⟨w.heap.size + 2, 14, none⟩ = some (.int .u16 yfl) := (f_o).cell 14
  have o_f14 := (f_o).frozen 14
  replace f_o := Lib.hid f_o
  replace hB_1 := Lib.hid hB_1
  go_upto_if 8 with fail
  cases b1
  case true =>
    go_wp2_with fail
    go_ret
    exact ⟨rfl, by have t_B := hB_1.out; (repeat (first | with_reducible exact Below.refl _ _ | with_reducible assumption | (with_reducible refine bel_set ?_ (by first | exact Nat.le_refl _ | (simp; done) | (simp; omega) | omega) _) | with_reducible refine bel_grow ?_ _ | with_reducible refine Below.drew ?_ | with_reducible refine bel_alloc ?_ _ | with_reducible refine bel_eld ?_ (by assumption)))⟩
  case false =>
  go_upto_if 14 with fail
  cases s2
  case false =>
    go_wp2_with fail
    go_ret
    exact ⟨rfl, by have t_B := hB_1.out; (repeat (first | with_reducible exact Below.refl _ _ | with_reducible assumption | (with_reducible refine bel_set ?_ (by first | exact Nat.le_refl _ | (simp; done) | (simp; omega) | omega) _) | with_reducible refine bel_grow ?_ _ | with_reducible refine Below.drew ?_ | with_reducible refine bel_alloc ?_ _ | with_reducible refine bel_eld ?_ (by assumption)))⟩
  case true =>
  go_upto_if 20 with fail
  cases b3
  case true =>
    go_wp2_with fail
    go_ret
    exact ⟨rfl, by have t_B := hB_1.out; (repeat (first | with_reducible exact Below.refl _ _ | with_reducible assumption | (with_reducible refine bel_set ?_ (by first | exact Nat.le_refl _ | (simp; done) | (simp; omega) | omega) _) | with_reducible refine bel_grow ?_ _ | with_reducible refine Below.drew ?_ | with_reducible refine bel_alloc ?_ _ | with_reducible refine bel_eld ?_ (by assumption)))⟩
  case false =>
  go_upto_region 8 with fail
  first | (with_reducible refine rgrow2 (by kernel_rfl) (by kernel_rfl) ?_) | (refine rgrow (by kernel_rfl) (by kernel_rfl) ?_)
  repeat (go_big_quiet_step (((first | (go_at_call 62; exact grow_call (E1.out _))))))
  refine wpQuiet_nil ?_
  intro dr
  go_upto_if 26 with fail
  refine abs_wp (fun Y_ => Below w.heap.size w Y_ ∧ Blk Y_ (w.heap.size) 28 #[.int .u64 xi1, .int .u64 xi2, .int .u64 xd1, .int .u64 xd2, .int .u64 xc1, .int .u64 xc2, .int .u64 xm1, .int .u64 xm2, .int .u64 xw1, .int .u64 xw2, .int .u64 xtg, .int .u32 xto, .int .u32 xlg, .int .u16 xcd, .int .u16 xfl, .int .u64 xst] ∧ Blk Y_ (w.heap.size + 1) 58 #[.int .u64 yi1, .int .u64 yi2, .int .u64 yd1, .int .u64 yd2, .int .u64 yc1, .int .u64 yc2, .int .u64 ym1, .int .u64 ym2, .int .u64 yw1, .int .u64 yw2, .int .u64 ytg, .int .u32 yto, .int .u32 ylg, .int .u16 ycd, .int .u16 yfl, .int .u64 yst, .int .u64 a1, .int .u64 a2] ∧ Blk Y_ (w.heap.size + 2) 28 #[.int .u64 yi1, .int .u64 yi2, .int .u64 yd1, .int .u64 yd2, .int .u64 yc1, .int .u64 yc2, .int .u64 ym1, .int .u64 ym2, .int .u64 yw1, .int .u64 yw2, .int .u64 ytg, .int .u32 yto, .int .u32 ylg, .int .u16 ycd, .int .u16 yfl, .int .u64 yst]) ?_ ?_
  · have t_B := hB_1.out
    have t_x := f_x.out
    have t_k := f_k.out
    have t_o := f_o.out
    refine ⟨by (repeat (first | with_reducible exact Below.refl _ _ | with_reducible assumption | (with_reducible refine bel_set ?_ (by first | exact Nat.le_refl _ | (simp; done) | (simp; omega) | omega) _) | with_reducible refine bel_grow ?_ _ | with_reducible refine Below.drew ?_ | with_reducible refine bel_alloc ?_ _ | with_reducible refine bel_eld ?_ (by assumption))), ?_, ?_, ?_⟩
    · (repeat (first | with_reducible assumption | (with_reducible refine Blk.new' ?_; first | with_reducible rfl | (simp; done)) | with_reducible refine Blk.alloc ?_ _ | with_reducible refine Blk.grow ?_ _ | with_reducible refine Blk.drew ?_ | with_reducible refine Blk.drewN ?_ _ | (with_reducible refine Blk.far ?_ (by first | (dsimp only; omega) | (simp; omega)) _) | (with_reducible apply Blk.two) | (with_reducible refine Blk.kept ?_ (by assumption)) | (with_reducible refine Blk.setRow ?_ (by first | rfl | (simp; done))) | (with_reducible refine Blk.setRow_far ?_ (by first | omega | (simp; omega)) _) | (with_reducible refine Blk.set' ?_ _ _ (by first | rfl | (simp; done)))))
    · (repeat (first | with_reducible assumption | (with_reducible refine Blk.new' ?_; first | with_reducible rfl | (simp; done)) | with_reducible refine Blk.alloc ?_ _ | with_reducible refine Blk.grow ?_ _ | with_reducible refine Blk.drew ?_ | with_reducible refine Blk.drewN ?_ _ | (with_reducible refine Blk.far ?_ (by first | (dsimp only; omega) | (simp; omega)) _) | (with_reducible apply Blk.two) | (with_reducible refine Blk.kept ?_ (by assumption)) | (with_reducible refine Blk.setRow ?_ (by first | rfl | (simp; done))) | (with_reducible refine Blk.setRow_far ?_ (by first | omega | (simp; omega)) _) | (with_reducible refine Blk.set' ?_ _ _ (by first | rfl | (simp; done)))))
    · (repeat (first | with_reducible assumption | (with_reducible refine Blk.new' ?_; first | with_reducible rfl | (simp; done)) | with_reducible refine Blk.alloc ?_ _ | with_reducible refine Blk.grow ?_ _ | with_reducible refine Blk.drew ?_ | with_reducible refine Blk.drewN ?_ _ | (with_reducible refine Blk.far ?_ (by first | (dsimp only; omega) | (simp; omega)) _) | (with_reducible apply Blk.two) | (with_reducible refine Blk.kept ?_ (by assumption)) | (with_reducible refine Blk.setRow ?_ (by first | rfl | (simp; done))) | (with_reducible refine Blk.setRow_far ?_ (by first | omega | (simp; omega)) _) | (with_reducible refine Blk.set' ?_ _ _ (by first | rfl | (simp; done)))))
  clear f_x x_l r_x x_2 x_f2 x_3 x_f3 x_4 x_f4 x_5 x_f5 x_6 x_f6 x_7 x_f7 x_8 x_f8 x_9 x_f9 x_10 x_f10 x_11 x_f11 x_12 x_f12 x_13 x_f13 x_14 x_f14 f_k k_l r_k k_16 k_f16 k_17 k_f17 f_o o_l r_o o_2 o_f2 o_3 o_f3 o_4 o_f4 o_5 o_f5 o_6 o_f6 o_7 o_f7 o_8 o_f8 o_9 o_f9 o_10 o_f10 o_11 o_f11 o_12 o_f12 o_13 o_f13 o_14 o_f14 hB_1
  rintro X1 ⟨hB_2, f_x, f_k, f_o⟩
  have r_x := rowAt_blk f_x
  have x_l := f_x.lt
  have x_2 : X1.cell? ⟨w.heap.size, 2, none⟩ = some (.int .u64 xd1) := (f_x).cell 2
  have x_f2 := (f_x).frozen 2
  have x_3 : X1.cell? ⟨w.heap.size, 3, none⟩ = some (.int .u64 xd2) := (f_x).cell 3
  have x_f3 := (f_x).frozen 3
  have x_4 : X1.cell? ⟨w.heap.size, 4, none⟩ = some (.int .u64 xc1) := (f_x).cell 4
  have x_f4 := (f_x).frozen 4
  have x_5 : X1.cell? ⟨w.heap.size, 5, none⟩ = some (.int .u64 xc2) := (f_x).cell 5
  have x_f5 := (f_x).frozen 5
  have x_6 : X1.cell? ⟨w.heap.size, 6, none⟩ = some (.int .u64 xm1) := (f_x).cell 6
  have x_f6 := (f_x).frozen 6
  have x_7 : X1.cell? ⟨w.heap.size, 7, none⟩ = some (.int .u64 xm2) := (f_x).cell 7
  have x_f7 := (f_x).frozen 7
  have x_8 : X1.cell? ⟨w.heap.size, 8, none⟩ = some (.int .u64 xw1) := (f_x).cell 8
  have x_f8 := (f_x).frozen 8
  have x_9 : X1.cell? ⟨w.heap.size, 9, none⟩ = some (.int .u64 xw2) := (f_x).cell 9
  have x_f9 := (f_x).frozen 9
  have x_10 : X1.cell? ⟨w.heap.size, 10, none⟩ = some (.int .u64 xtg) := (f_x).cell 10
  have x_f10 := (f_x).frozen 10
  have x_11 : X1.cell? ⟨w.heap.size, 11, none⟩ = some (.int .u32 xto) := (f_x).cell 11
  have x_f11 := (f_x).frozen 11
  have x_12 : X1.cell? ⟨w.heap.size, 12, none⟩ = some (.int .u32 xlg) := (f_x).cell 12
  have x_f12 := (f_x).frozen 12
  have x_13 : X1.cell? ⟨w.heap.size, 13, none⟩ = some (.int .u16 xcd) := (f_x).cell 13
  have x_f13 := (f_x).frozen 13
  have x_14 : X1.cell? ⟨w.heap.size, 14, none⟩ = some (.int .u16 xfl) := (f_x).cell 14
  have x_f14 := (f_x).frozen 14
  replace f_x := Lib.hid f_x
  have r_k := rowAt_blk f_k
  have k_l := f_k.lt
  have k_16 : X1.cell? ⟨w.heap.size + 1, 16, none⟩ = some (.int .u64 a1) := (f_k).cell 16
  have k_f16 := (f_k).frozen 16
  have k_17 : X1.cell? ⟨w.heap.size + 1, 17, none⟩ = some (.int .u64 a2) := (f_k).cell 17
  have k_f17 := (f_k).frozen 17
  replace f_k := Lib.hid f_k
  have r_o := rowAt_blk f_o
  have o_l := f_o.lt
  have o_2 : X1.cell? ⟨w.heap.size + 2, 2, none⟩ = some (.int .u64 yd1) := (f_o).cell 2
  have o_f2 := (f_o).frozen 2
  have o_3 : X1.cell? ⟨w.heap.size + 2, 3, none⟩ = some (.int .u64 yd2) := (f_o).cell 3
  have o_f3 := (f_o).frozen 3
  have o_4 : X1.cell? ⟨w.heap.size + 2, 4, none⟩ = some (.int .u64 yc1) := (f_o).cell 4
  have o_f4 := (f_o).frozen 4
  have o_5 : X1.cell? ⟨w.heap.size + 2, 5, none⟩ = some (.int .u64 yc2) := (f_o).cell 5
  have o_f5 := (f_o).frozen 5
  have o_6 : X1.cell? ⟨w.heap.size + 2, 6, none⟩ = some (.int .u64 ym1) := (f_o).cell 6
  have o_f6 := (f_o).frozen 6
  have o_7 : X1.cell? ⟨w.heap.size + 2, 7, none⟩ = some (.int .u64 ym2) := (f_o).cell 7
  have o_f7 := (f_o).frozen 7
  have o_8 : X1.cell? ⟨w.heap.size + 2, 8, none⟩ = some (.int .u64 yw1) := (f_o).cell 8
  have o_f8 := (f_o).frozen 8
  have o_9 : X1.cell? ⟨w.heap.size + 2, 9, none⟩ = some (.int .u64 yw2) := (f_o).cell 9
  have o_f9 := (f_o).frozen 9
  have o_10 : X1.cell? ⟨w.heap.size + 2, 10, none⟩ = some (.int .u64 ytg) := (f_o).cell 10
  have o_f10 := (f_o).frozen 10
  have o_11 : X1.cell? ⟨w.heap.size + 2, 11, none⟩ = some (.int .u32 yto) := (f_o).cell 11
  have o_f11 := (f_o).frozen 11
  have o_12 : X1.cell? ⟨w.heap.size + 2, 12, none⟩ = some (.int .u32 ylg) := (f_o).cell 12
  have o_f12 := (f_o).frozen 12
  have o_13 : X1.cell? ⟨w.heap.size + 2, 13, none⟩ = some (.int .u16 ycd) := (f_o).cell 13
  have o_f13 := (f_o).frozen 13
  have o_14 : X1.cell? ⟨w.heap.size + 2, 14, none⟩ = some (.int .u16 yfl) := (f_o).cell 14
  have o_f14 := (f_o).frozen 14
  replace f_o := Lib.hid f_o
  replace hB_2 := Lib.hid hB_2
  cases s4
  case false =>
    go_wp2_with fail
    go_ret
    exact ⟨rfl, by have t_B := hB_2.out; (repeat (first | with_reducible exact Below.refl _ _ | with_reducible assumption | (with_reducible refine bel_set ?_ (by first | exact Nat.le_refl _ | (simp; done) | (simp; omega) | omega) _) | with_reducible refine bel_grow ?_ _ | with_reducible refine Below.drew ?_ | with_reducible refine bel_alloc ?_ _ | with_reducible refine bel_eld ?_ (by assumption)))⟩
  case true =>
  go_upto_region 10 with fail
  first | (with_reducible refine rgrow2 (by kernel_rfl) (by kernel_rfl) ?_) | (refine rgrow (by kernel_rfl) (by kernel_rfl) ?_)
  repeat (go_big_quiet_step (((first | (go_at_call 62; exact grow_call (E2.out _))))))
  refine wpQuiet_nil ?_
  intro dr
  go_upto_if 36 with fail
  refine abs_wp (fun Y_ => Below w.heap.size w Y_ ∧ Blk Y_ (w.heap.size) 28 #[.int .u64 xi1, .int .u64 xi2, .int .u64 xd1, .int .u64 xd2, .int .u64 xc1, .int .u64 xc2, .int .u64 xm1, .int .u64 xm2, .int .u64 xw1, .int .u64 xw2, .int .u64 xtg, .int .u32 xto, .int .u32 xlg, .int .u16 xcd, .int .u16 xfl, .int .u64 xst] ∧ Blk Y_ (w.heap.size + 1) 58 #[.int .u64 yi1, .int .u64 yi2, .int .u64 yd1, .int .u64 yd2, .int .u64 yc1, .int .u64 yc2, .int .u64 ym1, .int .u64 ym2, .int .u64 yw1, .int .u64 yw2, .int .u64 ytg, .int .u32 yto, .int .u32 ylg, .int .u16 ycd, .int .u16 yfl, .int .u64 yst, .int .u64 a1, .int .u64 a2] ∧ Blk Y_ (w.heap.size + 2) 28 #[.int .u64 yi1, .int .u64 yi2, .int .u64 yd1, .int .u64 yd2, .int .u64 yc1, .int .u64 yc2, .int .u64 ym1, .int .u64 ym2, .int .u64 yw1, .int .u64 yw2, .int .u64 ytg, .int .u32 yto, .int .u32 ylg, .int .u16 ycd, .int .u16 yfl, .int .u64 yst]) ?_ ?_
  · have t_B := hB_2.out
    have t_x := f_x.out
    have t_k := f_k.out
    have t_o := f_o.out
    refine ⟨by (repeat (first | with_reducible exact Below.refl _ _ | with_reducible assumption | (with_reducible refine bel_set ?_ (by first | exact Nat.le_refl _ | (simp; done) | (simp; omega) | omega) _) | with_reducible refine bel_grow ?_ _ | with_reducible refine Below.drew ?_ | with_reducible refine bel_alloc ?_ _ | with_reducible refine bel_eld ?_ (by assumption))), ?_, ?_, ?_⟩
    · (repeat (first | with_reducible assumption | (with_reducible refine Blk.new' ?_; first | with_reducible rfl | (simp; done)) | with_reducible refine Blk.alloc ?_ _ | with_reducible refine Blk.grow ?_ _ | with_reducible refine Blk.drew ?_ | with_reducible refine Blk.drewN ?_ _ | (with_reducible refine Blk.far ?_ (by first | (dsimp only; omega) | (simp; omega)) _) | (with_reducible apply Blk.two) | (with_reducible refine Blk.kept ?_ (by assumption)) | (with_reducible refine Blk.setRow ?_ (by first | rfl | (simp; done))) | (with_reducible refine Blk.setRow_far ?_ (by first | omega | (simp; omega)) _) | (with_reducible refine Blk.set' ?_ _ _ (by first | rfl | (simp; done)))))
    · (repeat (first | with_reducible assumption | (with_reducible refine Blk.new' ?_; first | with_reducible rfl | (simp; done)) | with_reducible refine Blk.alloc ?_ _ | with_reducible refine Blk.grow ?_ _ | with_reducible refine Blk.drew ?_ | with_reducible refine Blk.drewN ?_ _ | (with_reducible refine Blk.far ?_ (by first | (dsimp only; omega) | (simp; omega)) _) | (with_reducible apply Blk.two) | (with_reducible refine Blk.kept ?_ (by assumption)) | (with_reducible refine Blk.setRow ?_ (by first | rfl | (simp; done))) | (with_reducible refine Blk.setRow_far ?_ (by first | omega | (simp; omega)) _) | (with_reducible refine Blk.set' ?_ _ _ (by first | rfl | (simp; done)))))
    · (repeat (first | with_reducible assumption | (with_reducible refine Blk.new' ?_; first | with_reducible rfl | (simp; done)) | with_reducible refine Blk.alloc ?_ _ | with_reducible refine Blk.grow ?_ _ | with_reducible refine Blk.drew ?_ | with_reducible refine Blk.drewN ?_ _ | (with_reducible refine Blk.far ?_ (by first | (dsimp only; omega) | (simp; omega)) _) | (with_reducible apply Blk.two) | (with_reducible refine Blk.kept ?_ (by assumption)) | (with_reducible refine Blk.setRow ?_ (by first | rfl | (simp; done))) | (with_reducible refine Blk.setRow_far ?_ (by first | omega | (simp; omega)) _) | (with_reducible refine Blk.set' ?_ _ _ (by first | rfl | (simp; done)))))
  clear f_x x_l r_x x_2 x_f2 x_3 x_f3 x_4 x_f4 x_5 x_f5 x_6 x_f6 x_7 x_f7 x_8 x_f8 x_9 x_f9 x_10 x_f10 x_11 x_f11 x_12 x_f12 x_13 x_f13 x_14 x_f14 f_k k_l r_k k_16 k_f16 k_17 k_f17 f_o o_l r_o o_2 o_f2 o_3 o_f3 o_4 o_f4 o_5 o_f5 o_6 o_f6 o_7 o_f7 o_8 o_f8 o_9 o_f9 o_10 o_f10 o_11 o_f11 o_12 o_f12 o_13 o_f13 o_14 o_f14 hB_2
  rintro X2 ⟨hB_3, f_x, f_k, f_o⟩
  have r_x := rowAt_blk f_x
  have x_l := f_x.lt
  have x_2 : X2.cell? ⟨w.heap.size, 2, none⟩ = some (.int .u64 xd1) := (f_x).cell 2
  have x_f2 := (f_x).frozen 2
  have x_3 : X2.cell? ⟨w.heap.size, 3, none⟩ = some (.int .u64 xd2) := (f_x).cell 3
  have x_f3 := (f_x).frozen 3
  have x_4 : X2.cell? ⟨w.heap.size, 4, none⟩ = some (.int .u64 xc1) := (f_x).cell 4
  have x_f4 := (f_x).frozen 4
  have x_5 : X2.cell? ⟨w.heap.size, 5, none⟩ = some (.int .u64 xc2) := (f_x).cell 5
  have x_f5 := (f_x).frozen 5
  have x_6 : X2.cell? ⟨w.heap.size, 6, none⟩ = some (.int .u64 xm1) := (f_x).cell 6
  have x_f6 := (f_x).frozen 6
  have x_7 : X2.cell? ⟨w.heap.size, 7, none⟩ = some (.int .u64 xm2) := (f_x).cell 7
  have x_f7 := (f_x).frozen 7
  have x_8 : X2.cell? ⟨w.heap.size, 8, none⟩ = some (.int .u64 xw1) := (f_x).cell 8
  have x_f8 := (f_x).frozen 8
  have x_9 : X2.cell? ⟨w.heap.size, 9, none⟩ = some (.int .u64 xw2) := (f_x).cell 9
  have x_f9 := (f_x).frozen 9
  have x_10 : X2.cell? ⟨w.heap.size, 10, none⟩ = some (.int .u64 xtg) := (f_x).cell 10
  have x_f10 := (f_x).frozen 10
  have x_11 : X2.cell? ⟨w.heap.size, 11, none⟩ = some (.int .u32 xto) := (f_x).cell 11
  have x_f11 := (f_x).frozen 11
  have x_12 : X2.cell? ⟨w.heap.size, 12, none⟩ = some (.int .u32 xlg) := (f_x).cell 12
  have x_f12 := (f_x).frozen 12
  have x_13 : X2.cell? ⟨w.heap.size, 13, none⟩ = some (.int .u16 xcd) := (f_x).cell 13
  have x_f13 := (f_x).frozen 13
  have x_14 : X2.cell? ⟨w.heap.size, 14, none⟩ = some (.int .u16 xfl) := (f_x).cell 14
  have x_f14 := (f_x).frozen 14
  replace f_x := Lib.hid f_x
  have r_k := rowAt_blk f_k
  have k_l := f_k.lt
  have k_16 : X2.cell? ⟨w.heap.size + 1, 16, none⟩ = some (.int .u64 a1) := (f_k).cell 16
  have k_f16 := (f_k).frozen 16
  have k_17 : X2.cell? ⟨w.heap.size + 1, 17, none⟩ = some (.int .u64 a2) := (f_k).cell 17
  have k_f17 := (f_k).frozen 17
  replace f_k := Lib.hid f_k
  have r_o := rowAt_blk f_o
  have o_l := f_o.lt
  have o_2 : X2.cell? ⟨w.heap.size + 2, 2, none⟩ = some (.int .u64 yd1) := (f_o).cell 2
  have o_f2 := (f_o).frozen 2
  have o_3 : X2.cell? ⟨w.heap.size + 2, 3, none⟩ = some (.int .u64 yd2) := (f_o).cell 3
  have o_f3 := (f_o).frozen 3
  have o_4 : X2.cell? ⟨w.heap.size + 2, 4, none⟩ = some (.int .u64 yc1) := (f_o).cell 4
  have o_f4 := (f_o).frozen 4
  have o_5 : X2.cell? ⟨w.heap.size + 2, 5, none⟩ = some (.int .u64 yc2) := (f_o).cell 5
  have o_f5 := (f_o).frozen 5
  have o_6 : X2.cell? ⟨w.heap.size + 2, 6, none⟩ = some (.int .u64 ym1) := (f_o).cell 6
  have o_f6 := (f_o).frozen 6
  have o_7 : X2.cell? ⟨w.heap.size + 2, 7, none⟩ = some (.int .u64 ym2) := (f_o).cell 7
  have o_f7 := (f_o).frozen 7
  have o_8 : X2.cell? ⟨w.heap.size + 2, 8, none⟩ = some (.int .u64 yw1) := (f_o).cell 8
  have o_f8 := (f_o).frozen 8
  have o_9 : X2.cell? ⟨w.heap.size + 2, 9, none⟩ = some (.int .u64 yw2) := (f_o).cell 9
  have o_f9 := (f_o).frozen 9
  have o_10 : X2.cell? ⟨w.heap.size + 2, 10, none⟩ = some (.int .u64 ytg) := (f_o).cell 10
  have o_f10 := (f_o).frozen 10
  have o_11 : X2.cell? ⟨w.heap.size + 2, 11, none⟩ = some (.int .u32 yto) := (f_o).cell 11
  have o_f11 := (f_o).frozen 11
  have o_12 : X2.cell? ⟨w.heap.size + 2, 12, none⟩ = some (.int .u32 ylg) := (f_o).cell 12
  have o_f12 := (f_o).frozen 12
  have o_13 : X2.cell? ⟨w.heap.size + 2, 13, none⟩ = some (.int .u16 ycd) := (f_o).cell 13
  have o_f13 := (f_o).frozen 13
  have o_14 : X2.cell? ⟨w.heap.size + 2, 14, none⟩ = some (.int .u16 yfl) := (f_o).cell 14
  have o_f14 := (f_o).frozen 14
  replace f_o := Lib.hid f_o
  replace hB_3 := Lib.hid hB_3
  cases s5
  case false =>
    go_wp2_with fail
    go_ret
    exact ⟨rfl, by have t_B := hB_3.out; (repeat (first | with_reducible exact Below.refl _ _ | with_reducible assumption | (with_reducible refine bel_set ?_ (by first | exact Nat.le_refl _ | (simp; done) | (simp; omega) | omega) _) | with_reducible refine bel_grow ?_ _ | with_reducible refine Below.drew ?_ | with_reducible refine bel_alloc ?_ _ | with_reducible refine bel_eld ?_ (by assumption)))⟩
  case true =>
  go_upto_if 46 with fail
  cases s6
  case false =>
    go_wp2_with fail
    go_ret
    exact ⟨rfl, by have t_B := hB_3.out; (repeat (first | with_reducible exact Below.refl _ _ | with_reducible assumption | (with_reducible refine bel_set ?_ (by first | exact Nat.le_refl _ | (simp; done) | (simp; omega) | omega) _) | with_reducible refine bel_grow ?_ _ | with_reducible refine Below.drew ?_ | with_reducible refine bel_alloc ?_ _ | with_reducible refine bel_eld ?_ (by assumption)))⟩
  case true =>
  go_upto_if 52 with fail
  cases b7
  case true =>
    go_wp2_with fail
    go_ret
    exact ⟨rfl, by have t_B := hB_3.out; (repeat (first | with_reducible exact Below.refl _ _ | with_reducible assumption | (with_reducible refine bel_set ?_ (by first | exact Nat.le_refl _ | (simp; done) | (simp; omega) | omega) _) | with_reducible refine bel_grow ?_ _ | with_reducible refine Below.drew ?_ | with_reducible refine bel_alloc ?_ _ | with_reducible refine bel_eld ?_ (by assumption)))⟩
  case false =>
  go_upto_region 16 with fail
  first | (with_reducible refine rgrow2 (by kernel_rfl) (by kernel_rfl) ?_) | (refine rgrow (by kernel_rfl) (by kernel_rfl) ?_)
  repeat (go_big_quiet_step (((first | (go_at_call 63; exact grow_call (E3.out _))))))
  refine wpQuiet_nil ?_
  intro dr
  go_upto_if 58 with fail
  refine abs_wp (fun Y_ => Below w.heap.size w Y_ ∧ Blk Y_ (w.heap.size) 28 #[.int .u64 xi1, .int .u64 xi2, .int .u64 xd1, .int .u64 xd2, .int .u64 xc1, .int .u64 xc2, .int .u64 xm1, .int .u64 xm2, .int .u64 xw1, .int .u64 xw2, .int .u64 xtg, .int .u32 xto, .int .u32 xlg, .int .u16 xcd, .int .u16 xfl, .int .u64 xst] ∧ Blk Y_ (w.heap.size + 1) 58 #[.int .u64 yi1, .int .u64 yi2, .int .u64 yd1, .int .u64 yd2, .int .u64 yc1, .int .u64 yc2, .int .u64 ym1, .int .u64 ym2, .int .u64 yw1, .int .u64 yw2, .int .u64 ytg, .int .u32 yto, .int .u32 ylg, .int .u16 ycd, .int .u16 yfl, .int .u64 yst, .int .u64 a1, .int .u64 a2] ∧ Blk Y_ (w.heap.size + 2) 28 #[.int .u64 yi1, .int .u64 yi2, .int .u64 yd1, .int .u64 yd2, .int .u64 yc1, .int .u64 yc2, .int .u64 ym1, .int .u64 ym2, .int .u64 yw1, .int .u64 yw2, .int .u64 ytg, .int .u32 yto, .int .u32 ylg, .int .u16 ycd, .int .u16 yfl, .int .u64 yst]) ?_ ?_
  · have t_B := hB_3.out
    have t_x := f_x.out
    have t_k := f_k.out
    have t_o := f_o.out
    refine ⟨by (repeat (first | with_reducible exact Below.refl _ _ | with_reducible assumption | (with_reducible refine bel_set ?_ (by first | exact Nat.le_refl _ | (simp; done) | (simp; omega) | omega) _) | with_reducible refine bel_grow ?_ _ | with_reducible refine Below.drew ?_ | with_reducible refine bel_alloc ?_ _ | with_reducible refine bel_eld ?_ (by assumption))), ?_, ?_, ?_⟩
    · (repeat (first | with_reducible assumption | (with_reducible refine Blk.new' ?_; first | with_reducible rfl | (simp; done)) | with_reducible refine Blk.alloc ?_ _ | with_reducible refine Blk.grow ?_ _ | with_reducible refine Blk.drew ?_ | with_reducible refine Blk.drewN ?_ _ | (with_reducible refine Blk.far ?_ (by first | (dsimp only; omega) | (simp; omega)) _) | (with_reducible apply Blk.two) | (with_reducible refine Blk.kept ?_ (by assumption)) | (with_reducible refine Blk.setRow ?_ (by first | rfl | (simp; done))) | (with_reducible refine Blk.setRow_far ?_ (by first | omega | (simp; omega)) _) | (with_reducible refine Blk.set' ?_ _ _ (by first | rfl | (simp; done)))))
    · (repeat (first | with_reducible assumption | (with_reducible refine Blk.new' ?_; first | with_reducible rfl | (simp; done)) | with_reducible refine Blk.alloc ?_ _ | with_reducible refine Blk.grow ?_ _ | with_reducible refine Blk.drew ?_ | with_reducible refine Blk.drewN ?_ _ | (with_reducible refine Blk.far ?_ (by first | (dsimp only; omega) | (simp; omega)) _) | (with_reducible apply Blk.two) | (with_reducible refine Blk.kept ?_ (by assumption)) | (with_reducible refine Blk.setRow ?_ (by first | rfl | (simp; done))) | (with_reducible refine Blk.setRow_far ?_ (by first | omega | (simp; omega)) _) | (with_reducible refine Blk.set' ?_ _ _ (by first | rfl | (simp; done)))))
    · (repeat (first | with_reducible assumption | (with_reducible refine Blk.new' ?_; first | with_reducible rfl | (simp; done)) | with_reducible refine Blk.alloc ?_ _ | with_reducible refine Blk.grow ?_ _ | with_reducible refine Blk.drew ?_ | with_reducible refine Blk.drewN ?_ _ | (with_reducible refine Blk.far ?_ (by first | (dsimp only; omega) | (simp; omega)) _) | (with_reducible apply Blk.two) | (with_reducible refine Blk.kept ?_ (by assumption)) | (with_reducible refine Blk.setRow ?_ (by first | rfl | (simp; done))) | (with_reducible refine Blk.setRow_far ?_ (by first | omega | (simp; omega)) _) | (with_reducible refine Blk.set' ?_ _ _ (by first | rfl | (simp; done)))))
  clear f_x x_l r_x x_2 x_f2 x_3 x_f3 x_4 x_f4 x_5 x_f5 x_6 x_f6 x_7 x_f7 x_8 x_f8 x_9 x_f9 x_10 x_f10 x_11 x_f11 x_12 x_f12 x_13 x_f13 x_14 x_f14 f_k k_l r_k k_16 k_f16 k_17 k_f17 f_o o_l r_o o_2 o_f2 o_3 o_f3 o_4 o_f4 o_5 o_f5 o_6 o_f6 o_7 o_f7 o_8 o_f8 o_9 o_f9 o_10 o_f10 o_11 o_f11 o_12 o_f12 o_13 o_f13 o_14 o_f14 hB_3
  rintro X3 ⟨hB_4, f_x, f_k, f_o⟩
  have r_x := rowAt_blk f_x
  have x_l := f_x.lt
  have x_2 : X3.cell? ⟨w.heap.size, 2, none⟩ = some (.int .u64 xd1) := (f_x).cell 2
  have x_f2 := (f_x).frozen 2
  have x_3 : X3.cell? ⟨w.heap.size, 3, none⟩ = some (.int .u64 xd2) := (f_x).cell 3
  have x_f3 := (f_x).frozen 3
  have x_4 : X3.cell? ⟨w.heap.size, 4, none⟩ = some (.int .u64 xc1) := (f_x).cell 4
  have x_f4 := (f_x).frozen 4
  have x_5 : X3.cell? ⟨w.heap.size, 5, none⟩ = some (.int .u64 xc2) := (f_x).cell 5
  have x_f5 := (f_x).frozen 5
  have x_6 : X3.cell? ⟨w.heap.size, 6, none⟩ = some (.int .u64 xm1) := (f_x).cell 6
  have x_f6 := (f_x).frozen 6
  have x_7 : X3.cell? ⟨w.heap.size, 7, none⟩ = some (.int .u64 xm2) := (f_x).cell 7
  have x_f7 := (f_x).frozen 7
  have x_8 : X3.cell? ⟨w.heap.size, 8, none⟩ = some (.int .u64 xw1) := (f_x).cell 8
  have x_f8 := (f_x).frozen 8
  have x_9 : X3.cell? ⟨w.heap.size, 9, none⟩ = some (.int .u64 xw2) := (f_x).cell 9
  have x_f9 := (f_x).frozen 9
  have x_10 : X3.cell? ⟨w.heap.size, 10, none⟩ = some (.int .u64 xtg) := (f_x).cell 10
  have x_f10 := (f_x).frozen 10
  have x_11 : X3.cell? ⟨w.heap.size, 11, none⟩ = some (.int .u32 xto) := (f_x).cell 11
  have x_f11 := (f_x).frozen 11
  have x_12 : X3.cell? ⟨w.heap.size, 12, none⟩ = some (.int .u32 xlg) := (f_x).cell 12
  have x_f12 := (f_x).frozen 12
  have x_13 : X3.cell? ⟨w.heap.size, 13, none⟩ = some (.int .u16 xcd) := (f_x).cell 13
  have x_f13 := (f_x).frozen 13
  have x_14 : X3.cell? ⟨w.heap.size, 14, none⟩ = some (.int .u16 xfl) := (f_x).cell 14
  have x_f14 := (f_x).frozen 14
  replace f_x := Lib.hid f_x
  have r_k := rowAt_blk f_k
  have k_l := f_k.lt
  have k_16 : X3.cell? ⟨w.heap.size + 1, 16, none⟩ = some (.int .u64 a1) := (f_k).cell 16
  have k_f16 := (f_k).frozen 16
  have k_17 : X3.cell? ⟨w.heap.size + 1, 17, none⟩ = some (.int .u64 a2) := (f_k).cell 17
  have k_f17 := (f_k).frozen 17
  replace f_k := Lib.hid f_k
  have r_o := rowAt_blk f_o
  have o_l := f_o.lt
  have o_2 : X3.cell? ⟨w.heap.size + 2, 2, none⟩ = some (.int .u64 yd1) := (f_o).cell 2
  have o_f2 := (f_o).frozen 2
  have o_3 : X3.cell? ⟨w.heap.size + 2, 3, none⟩ = some (.int .u64 yd2) := (f_o).cell 3
  have o_f3 := (f_o).frozen 3
  have o_4 : X3.cell? ⟨w.heap.size + 2, 4, none⟩ = some (.int .u64 yc1) := (f_o).cell 4
  have o_f4 := (f_o).frozen 4
  have o_5 : X3.cell? ⟨w.heap.size + 2, 5, none⟩ = some (.int .u64 yc2) := (f_o).cell 5
  have o_f5 := (f_o).frozen 5
  have o_6 : X3.cell? ⟨w.heap.size + 2, 6, none⟩ = some (.int .u64 ym1) := (f_o).cell 6
  have o_f6 := (f_o).frozen 6
  have o_7 : X3.cell? ⟨w.heap.size + 2, 7, none⟩ = some (.int .u64 ym2) := (f_o).cell 7
  have o_f7 := (f_o).frozen 7
  have o_8 : X3.cell? ⟨w.heap.size + 2, 8, none⟩ = some (.int .u64 yw1) := (f_o).cell 8
  have o_f8 := (f_o).frozen 8
  have o_9 : X3.cell? ⟨w.heap.size + 2, 9, none⟩ = some (.int .u64 yw2) := (f_o).cell 9
  have o_f9 := (f_o).frozen 9
  have o_10 : X3.cell? ⟨w.heap.size + 2, 10, none⟩ = some (.int .u64 ytg) := (f_o).cell 10
  have o_f10 := (f_o).frozen 10
  have o_11 : X3.cell? ⟨w.heap.size + 2, 11, none⟩ = some (.int .u32 yto) := (f_o).cell 11
  have o_f11 := (f_o).frozen 11
  have o_12 : X3.cell? ⟨w.heap.size + 2, 12, none⟩ = some (.int .u32 ylg) := (f_o).cell 12
  have o_f12 := (f_o).frozen 12
  have o_13 : X3.cell? ⟨w.heap.size + 2, 13, none⟩ = some (.int .u16 ycd) := (f_o).cell 13
  have o_f13 := (f_o).frozen 13
  have o_14 : X3.cell? ⟨w.heap.size + 2, 14, none⟩ = some (.int .u16 yfl) := (f_o).cell 14
  have o_f14 := (f_o).frozen 14
  replace f_o := Lib.hid f_o
  replace hB_4 := Lib.hid hB_4
  cases b8
  case true =>
    go_wp2_with fail
    go_ret
    exact ⟨rfl, by have t_B := hB_4.out; (repeat (first | with_reducible exact Below.refl _ _ | with_reducible assumption | (with_reducible refine bel_set ?_ (by first | exact Nat.le_refl _ | (simp; done) | (simp; omega) | omega) _) | with_reducible refine bel_grow ?_ _ | with_reducible refine Below.drew ?_ | with_reducible refine bel_alloc ?_ _ | with_reducible refine bel_eld ?_ (by assumption)))⟩
  case false =>
  go_upto_region 18 with fail
  first | (with_reducible refine rgrow2 (by kernel_rfl) (by kernel_rfl) ?_) | (refine rgrow (by kernel_rfl) (by kernel_rfl) ?_)
  repeat (go_big_quiet_step (((first | (go_at_call 64; exact grow_call (E4.out _))))))
  refine wpQuiet_nil ?_
  intro dr
  go_upto_if 68 with fail
  refine abs_wp (fun Y_ => Below w.heap.size w Y_ ∧ Blk Y_ (w.heap.size) 28 #[.int .u64 xi1, .int .u64 xi2, .int .u64 xd1, .int .u64 xd2, .int .u64 xc1, .int .u64 xc2, .int .u64 xm1, .int .u64 xm2, .int .u64 xw1, .int .u64 xw2, .int .u64 xtg, .int .u32 xto, .int .u32 xlg, .int .u16 xcd, .int .u16 xfl, .int .u64 xst] ∧ Blk Y_ (w.heap.size + 1) 58 #[.int .u64 yi1, .int .u64 yi2, .int .u64 yd1, .int .u64 yd2, .int .u64 yc1, .int .u64 yc2, .int .u64 ym1, .int .u64 ym2, .int .u64 yw1, .int .u64 yw2, .int .u64 ytg, .int .u32 yto, .int .u32 ylg, .int .u16 ycd, .int .u16 yfl, .int .u64 yst, .int .u64 a1, .int .u64 a2] ∧ Blk Y_ (w.heap.size + 2) 28 #[.int .u64 yi1, .int .u64 yi2, .int .u64 yd1, .int .u64 yd2, .int .u64 yc1, .int .u64 yc2, .int .u64 ym1, .int .u64 ym2, .int .u64 yw1, .int .u64 yw2, .int .u64 ytg, .int .u32 yto, .int .u32 ylg, .int .u16 ycd, .int .u16 yfl, .int .u64 yst]) ?_ ?_
  · have t_B := hB_4.out
    have t_x := f_x.out
    have t_k := f_k.out
    have t_o := f_o.out
    refine ⟨by (repeat (first | with_reducible exact Below.refl _ _ | with_reducible assumption | (with_reducible refine bel_set ?_ (by first | exact Nat.le_refl _ | (simp; done) | (simp; omega) | omega) _) | with_reducible refine bel_grow ?_ _ | with_reducible refine Below.drew ?_ | with_reducible refine bel_alloc ?_ _ | with_reducible refine bel_eld ?_ (by assumption))), ?_, ?_, ?_⟩
    · (repeat (first | with_reducible assumption | (with_reducible refine Blk.new' ?_; first | with_reducible rfl | (simp; done)) | with_reducible refine Blk.alloc ?_ _ | with_reducible refine Blk.grow ?_ _ | with_reducible refine Blk.drew ?_ | with_reducible refine Blk.drewN ?_ _ | (with_reducible refine Blk.far ?_ (by first | (dsimp only; omega) | (simp; omega)) _) | (with_reducible apply Blk.two) | (with_reducible refine Blk.kept ?_ (by assumption)) | (with_reducible refine Blk.setRow ?_ (by first | rfl | (simp; done))) | (with_reducible refine Blk.setRow_far ?_ (by first | omega | (simp; omega)) _) | (with_reducible refine Blk.set' ?_ _ _ (by first | rfl | (simp; done)))))
    · (repeat (first | with_reducible assumption | (with_reducible refine Blk.new' ?_; first | with_reducible rfl | (simp; done)) | with_reducible refine Blk.alloc ?_ _ | with_reducible refine Blk.grow ?_ _ | with_reducible refine Blk.drew ?_ | with_reducible refine Blk.drewN ?_ _ | (with_reducible refine Blk.far ?_ (by first | (dsimp only; omega) | (simp; omega)) _) | (with_reducible apply Blk.two) | (with_reducible refine Blk.kept ?_ (by assumption)) | (with_reducible refine Blk.setRow ?_ (by first | rfl | (simp; done))) | (with_reducible refine Blk.setRow_far ?_ (by first | omega | (simp; omega)) _) | (with_reducible refine Blk.set' ?_ _ _ (by first | rfl | (simp; done)))))
    · (repeat (first | with_reducible assumption | (with_reducible refine Blk.new' ?_; first | with_reducible rfl | (simp; done)) | with_reducible refine Blk.alloc ?_ _ | with_reducible refine Blk.grow ?_ _ | with_reducible refine Blk.drew ?_ | with_reducible refine Blk.drewN ?_ _ | (with_reducible refine Blk.far ?_ (by first | (dsimp only; omega) | (simp; omega)) _) | (with_reducible apply Blk.two) | (with_reducible refine Blk.kept ?_ (by assumption)) | (with_reducible refine Blk.setRow ?_ (by first | rfl | (simp; done))) | (with_reducible refine Blk.setRow_far ?_ (by first | omega | (simp; omega)) _) | (with_reducible refine Blk.set' ?_ _ _ (by first | rfl | (simp; done)))))
  clear f_x x_l r_x x_2 x_f2 x_3 x_f3 x_4 x_f4 x_5 x_f5 x_6 x_f6 x_7 x_f7 x_8 x_f8 x_9 x_f9 x_10 x_f10 x_11 x_f11 x_12 x_f12 x_13 x_f13 x_14 x_f14 f_k k_l r_k k_16 k_f16 k_17 k_f17 f_o o_l r_o o_2 o_f2 o_3 o_f3 o_4 o_f4 o_5 o_f5 o_6 o_f6 o_7 o_f7 o_8 o_f8 o_9 o_f9 o_10 o_f10 o_11 o_f11 o_12 o_f12 o_13 o_f13 o_14 o_f14 hB_4
  rintro X4 ⟨hB_5, f_x, f_k, f_o⟩
  have r_x := rowAt_blk f_x
  have x_l := f_x.lt
  have x_2 : X4.cell? ⟨w.heap.size, 2, none⟩ = some (.int .u64 xd1) := (f_x).cell 2
  have x_f2 := (f_x).frozen 2
  have x_3 : X4.cell? ⟨w.heap.size, 3, none⟩ = some (.int .u64 xd2) := (f_x).cell 3
  have x_f3 := (f_x).frozen 3
  have x_4 : X4.cell? ⟨w.heap.size, 4, none⟩ = some (.int .u64 xc1) := (f_x).cell 4
  have x_f4 := (f_x).frozen 4
  have x_5 : X4.cell? ⟨w.heap.size, 5, none⟩ = some (.int .u64 xc2) := (f_x).cell 5
  have x_f5 := (f_x).frozen 5
  have x_6 : X4.cell? ⟨w.heap.size, 6, none⟩ = some (.int .u64 xm1) := (f_x).cell 6
  have x_f6 := (f_x).frozen 6
  have x_7 : X4.cell? ⟨w.heap.size, 7, none⟩ = some (.int .u64 xm2) := (f_x).cell 7
  have x_f7 := (f_x).frozen 7
  have x_8 : X4.cell? ⟨w.heap.size, 8, none⟩ = some (.int .u64 xw1) := (f_x).cell 8
  have x_f8 := (f_x).frozen 8
  have x_9 : X4.cell? ⟨w.heap.size, 9, none⟩ = some (.int .u64 xw2) := (f_x).cell 9
  have x_f9 := (f_x).frozen 9
  have x_10 : X4.cell? ⟨w.heap.size, 10, none⟩ = some (.int .u64 xtg) := (f_x).cell 10
  have x_f10 := (f_x).frozen 10
  have x_11 : X4.cell? ⟨w.heap.size, 11, none⟩ = some (.int .u32 xto) := (f_x).cell 11
  have x_f11 := (f_x).frozen 11
  have x_12 : X4.cell? ⟨w.heap.size, 12, none⟩ = some (.int .u32 xlg) := (f_x).cell 12
  have x_f12 := (f_x).frozen 12
  have x_13 : X4.cell? ⟨w.heap.size, 13, none⟩ = some (.int .u16 xcd) := (f_x).cell 13
  have x_f13 := (f_x).frozen 13
  have x_14 : X4.cell? ⟨w.heap.size, 14, none⟩ = some (.int .u16 xfl) := (f_x).cell 14
  have x_f14 := (f_x).frozen 14
  replace f_x := Lib.hid f_x
  have r_k := rowAt_blk f_k
  have k_l := f_k.lt
  have k_16 : X4.cell? ⟨w.heap.size + 1, 16, none⟩ = some (.int .u64 a1) := (f_k).cell 16
  have k_f16 := (f_k).frozen 16
  have k_17 : X4.cell? ⟨w.heap.size + 1, 17, none⟩ = some (.int .u64 a2) := (f_k).cell 17
  have k_f17 := (f_k).frozen 17
  replace f_k := Lib.hid f_k
  have r_o := rowAt_blk f_o
  have o_l := f_o.lt
  have o_2 : X4.cell? ⟨w.heap.size + 2, 2, none⟩ = some (.int .u64 yd1) := (f_o).cell 2
  have o_f2 := (f_o).frozen 2
  have o_3 : X4.cell? ⟨w.heap.size + 2, 3, none⟩ = some (.int .u64 yd2) := (f_o).cell 3
  have o_f3 := (f_o).frozen 3
  have o_4 : X4.cell? ⟨w.heap.size + 2, 4, none⟩ = some (.int .u64 yc1) := (f_o).cell 4
  have o_f4 := (f_o).frozen 4
  have o_5 : X4.cell? ⟨w.heap.size + 2, 5, none⟩ = some (.int .u64 yc2) := (f_o).cell 5
  have o_f5 := (f_o).frozen 5
  have o_6 : X4.cell? ⟨w.heap.size + 2, 6, none⟩ = some (.int .u64 ym1) := (f_o).cell 6
  have o_f6 := (f_o).frozen 6
  have o_7 : X4.cell? ⟨w.heap.size + 2, 7, none⟩ = some (.int .u64 ym2) := (f_o).cell 7
  have o_f7 := (f_o).frozen 7
  have o_8 : X4.cell? ⟨w.heap.size + 2, 8, none⟩ = some (.int .u64 yw1) := (f_o).cell 8
  have o_f8 := (f_o).frozen 8
  have o_9 : X4.cell? ⟨w.heap.size + 2, 9, none⟩ = some (.int .u64 yw2) := (f_o).cell 9
  have o_f9 := (f_o).frozen 9
  have o_10 : X4.cell? ⟨w.heap.size + 2, 10, none⟩ = some (.int .u64 ytg) := (f_o).cell 10
  have o_f10 := (f_o).frozen 10
  have o_11 : X4.cell? ⟨w.heap.size + 2, 11, none⟩ = some (.int .u32 yto) := (f_o).cell 11
  have o_f11 := (f_o).frozen 11
  have o_12 : X4.cell? ⟨w.heap.size + 2, 12, none⟩ = some (.int .u32 ylg) := (f_o).cell 12
  have o_f12 := (f_o).frozen 12
  have o_13 : X4.cell? ⟨w.heap.size + 2, 13, none⟩ = some (.int .u16 ycd) := (f_o).cell 13
  have o_f13 := (f_o).frozen 13
  have o_14 : X4.cell? ⟨w.heap.size + 2, 14, none⟩ = some (.int .u16 yfl) := (f_o).cell 14
  have o_f14 := (f_o).frozen 14
  replace f_o := Lib.hid f_o
  replace hB_5 := Lib.hid hB_5
  cases b9
  case true =>
    go_wp2_with fail
    go_ret
    exact ⟨rfl, by have t_B := hB_5.out; (repeat (first | with_reducible exact Below.refl _ _ | with_reducible assumption | (with_reducible refine bel_set ?_ (by first | exact Nat.le_refl _ | (simp; done) | (simp; omega) | omega) _) | with_reducible refine bel_grow ?_ _ | with_reducible refine Below.drew ?_ | with_reducible refine bel_alloc ?_ _ | with_reducible refine bel_eld ?_ (by assumption)))⟩
  case false =>
  go_wp2_with fail
  go_ret
  exact ⟨rfl, by have t_B := hB_5.out; (repeat (first | with_reducible exact Below.refl _ _ | with_reducible assumption | (with_reducible refine bel_set ?_ (by first | exact Nat.le_refl _ | (simp; done) | (simp; omega) | omega) _) | with_reducible refine bel_grow ?_ _ | with_reducible refine Below.drew ?_ | with_reducible refine bel_alloc ?_ _ | with_reducible refine bel_eld ?_ (by assumption)))⟩
end Go.Proofs.Ytpbnakoimlmhnaa
