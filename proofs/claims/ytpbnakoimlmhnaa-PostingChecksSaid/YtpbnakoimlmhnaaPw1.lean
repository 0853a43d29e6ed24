/-
  The document's words, walked.
-/
import Derived.Test.YtpbnakoimlmhnaaPn1
import Derived.Test.YtpbnakoimlmhnaaPn2
import Derived.Test.YtpbnakoimlmhnaaRef1
import Derived.Test.YtpbnakoimlmhnaaBk
import Derived.Deep.DeepCutAuto
namespace Go.Proofs.Ytpbnakoimlmhnaa
set_option linter.unusedVariables false
set_option linter.unusedSimpArgs false
open Go.RowKit

attribute [local go_sem] loadV_ptr storeV_ptr one_func drew_hs ext_deb ext_cre ext_cols ext_acc
attribute [local go_sem ↓] load_Cols store_Cols load_Transfer store_Transfer load_Parties store_Parties load_Acct store_Acct
def pwordsV (a b : Int) : Int := if a ≠ 0 then a else b
set_option maxRecDepth 8000 in
set_option maxHeartbeats 8000000 in
theorem refwords_of (xi1 xi2 xd1 xd2 xc1 xc2 xm1 xm2 xw1 xw2 xtg xto xlg xcd xfl xst : Int) (d0 dT c0 cT sm w0 tz p2 p64 p128 l0 k0 : Bool) (hd0 : (xd1 == 0 && xd2 == 0) = d0) (hdT : (xd1 == 18446744073709551615 && xd2 == 18446744073709551615) = dT) (hc0 : (xc1 == 0 && xc2 == 0) = c0) (hcT : (xc1 == 18446744073709551615 && xc2 == 18446744073709551615) = cT) (hsm : (xd1 == xc1 && xd2 == xc2) = sm)
    (hw0 : (xw1 == 0 && xw2 == 0) = w0) (htz : decide (0 < xto) = tz) (hl0 : (xlg == 0) = l0) (hk0 : (xcd == 0) = k0)
    (HP2 : ∀ w, Calls Try.prog 45 #[.int .u16 xfl, .int .u16 2] w fun r w' => r = .returned (.bool p2) ∧ Below w.heap.size w w')
    (HP64 : ∀ w, Calls Try.prog 45 #[.int .u16 xfl, .int .u16 64] w fun r w' => r = .returned (.bool p64) ∧ Below w.heap.size w w')
    (HP128 : ∀ w, Calls Try.prog 45 #[.int .u16 xfl, .int .u16 128] w fun r w' => r = .returned (.bool p128) ∧ Below w.heap.size w w')
    (w : World) : Calls Try.prog 61 #[.agg #[.int .u64 xi1, .int .u64 xi2, .int .u64 xd1, .int .u64 xd2, .int .u64 xc1, .int .u64 xc2, .int .u64 xm1, .int .u64 xm2, .int .u64 xw1, .int .u64 xw2, .int .u64 xtg, .int .u32 xto, .int .u32 xlg, .int .u16 xcd, .int .u16 xfl, .int .u64 xst]] w fun r w' => r = .returned (.int .i64 (pwordsV (pnamesV d0 dT c0 cT sm) (pfieldsV w0 tz p2 (p64 || p128) l0 k0))) ∧ Below w.heap.size w w' := by
  replace HP2 := Lib.hid HP2
  replace HP64 := Lib.hid HP64
  replace HP128 := Lib.hid HP128
  have hb0 := Below.refl w.heap.size w
  go_enter Try.func61, Try.ntmps61
  replace hb0 := Lib.hid hb0
  go_wp2_with fail
  refine (top_any _).mono ?_
  rintro e w_1 ⟨rfl, hb_1⟩
  have z_1 := hb_1.size
  try simp at z_1
  have t_ := hb0.out
  have hB_1 := bel_eld (w := w) (X := _) (by first | ((repeat (first | with_reducible exact Below.refl _ _ | with_reducible assumption | (with_reducible refine bel_set ?_ (by first | exact Nat.le_refl _ | (simp; done) | (simp; omega) | omega) _) | with_reducible refine bel_grow ?_ _ | with_reducible refine Below.drew ?_ | with_reducible refine below_drewN ?_ _ | with_reducible refine bel_alloc ?_ _ | with_reducible refine bel_trans ?_ (by assumption))); done) | (repeat (first | exact Below.refl _ _ | assumption | refine below_drewN ?_ _ | refine bel_grow ?_ _ | refine Below.drew ?_ | refine bel_alloc ?_ _ | refine bel_set ?_ (by first | exact Nat.le_refl _ | (simp; done) | (simp; omega) | omega) _ | refine bel_trans ?_ (by assumption)))) hb_1
  clear t_
  have g_x : Blk w_1 (w.heap.size) 28 #[.int .u64 xi1, .int .u64 xi2, .int .u64 xd1, .int .u64 xd2, .int .u64 xc1, .int .u64 xc2, .int .u64 xm1, .int .u64 xm2, .int .u64 xw1, .int .u64 xw2, .int .u64 xtg, .int .u32 xto, .int .u32 xlg, .int .u16 xcd, .int .u16 xfl, .int .u64 xst] := by
    refine Blk.kept ?_ hb_1
    (repeat (first | with_reducible assumption | (with_reducible refine Blk.new' ?_; first | with_reducible rfl | (simp; done)) | with_reducible refine Blk.alloc ?_ _ | with_reducible refine Blk.grow ?_ _ | with_reducible refine Blk.drew ?_ | with_reducible refine Blk.drewN ?_ _ | (with_reducible refine Blk.far ?_ (by first | (dsimp only; omega) | (simp; omega)) _) | (with_reducible apply Blk.two) | (with_reducible refine Blk.set' ?_ _ _ ?_) | (with_reducible rfl) | rfl))
  clear hb0 hb_1
  have f_x := g_x
  clear g_x
  have r_x := rowAt_blk f_x
  have x_l := f_x.lt
  have x_2 : w_1.cell? ⟨w.heap.size, 2, none⟩ = some (.int .u64 xd1) := (f_x).cell 2
  have x_f2 := (f_x).frozen 2
  have x_3 : w_1.cell? ⟨w.heap.size, 3, none⟩ = some (.int .u64 xd2) := (f_x).cell 3
  have x_f3 := (f_x).frozen 3
  have x_4 : w_1.cell? ⟨w.heap.size, 4, none⟩ = some (.int .u64 xc1) := (f_x).cell 4
  have x_f4 := (f_x).frozen 4
  have x_5 : w_1.cell? ⟨w.heap.size, 5, none⟩ = some (.int .u64 xc2) := (f_x).cell 5
  have x_f5 := (f_x).frozen 5
  have x_8 : w_1.cell? ⟨w.heap.size, 8, none⟩ = some (.int .u64 xw1) := (f_x).cell 8
  have x_f8 := (f_x).frozen 8
  have x_9 : w_1.cell? ⟨w.heap.size, 9, none⟩ = some (.int .u64 xw2) := (f_x).cell 9
  have x_f9 := (f_x).frozen 9
  have x_11 : w_1.cell? ⟨w.heap.size, 11, none⟩ = some (.int .u32 xto) := (f_x).cell 11
  have x_f11 := (f_x).frozen 11
  have x_12 : w_1.cell? ⟨w.heap.size, 12, none⟩ = some (.int .u32 xlg) := (f_x).cell 12
  have x_f12 := (f_x).frozen 12
  have x_13 : w_1.cell? ⟨w.heap.size, 13, none⟩ = some (.int .u16 xcd) := (f_x).cell 13
  have x_f13 := (f_x).frozen 13
  have x_14 : w_1.cell? ⟨w.heap.size, 14, none⟩ = some (.int .u16 xfl) := (f_x).cell 14
  have x_f14 := (f_x).frozen 14
  replace f_x := Lib.hid f_x
  replace hB_1 := Lib.hid hB_1
  go_upto_region 2 with fail
  refine abs_wp (fun Y_ => Below w.heap.size w Y_ ∧ Blk Y_ (w.heap.size) 28 #[.int .u64 xi1, .int .u64 xi2, .int .u64 xd1, .int .u64 xd2, .int .u64 xc1, .int .u64 xc2, .int .u64 xm1, .int .u64 xm2, .int .u64 xw1, .int .u64 xw2, .int .u64 xtg, .int .u32 xto, .int .u32 xlg, .int .u16 xcd, .int .u16 xfl, .int .u64 xst] ∧ Blk Y_ (w_1.heap.size) 24 #[.int .u64 0, .int .u64 0] ∧ Blk Y_ (w_1.heap.size + 1) 24 #[.int .u64 18446744073709551615, .int .u64 18446744073709551615]) ?_ ?_
  · have t_B := hB_1.out
    have t_x := f_x.out
    refine ⟨by (repeat (first | with_reducible exact Below.refl _ _ | with_reducible assumption | (with_reducible refine bel_set ?_ (by first | exact Nat.le_refl _ | (simp; done) | (simp; omega) | omega) _) | with_reducible refine bel_grow ?_ _ | with_reducible refine Below.drew ?_ | with_reducible refine bel_alloc ?_ _ | with_reducible refine bel_eld ?_ (by assumption))), ?_, ?_, ?_⟩
    · (repeat (first | with_reducible assumption | (with_reducible refine Blk.new' ?_; first | with_reducible rfl | (simp; done)) | with_reducible refine Blk.alloc ?_ _ | with_reducible refine Blk.grow ?_ _ | with_reducible refine Blk.drew ?_ | with_reducible refine Blk.drewN ?_ _ | (with_reducible refine Blk.far ?_ (by first | (dsimp only; omega) | (simp; omega)) _) | (with_reducible apply Blk.two) | (with_reducible refine Blk.kept ?_ (by assumption)) | (with_reducible refine Blk.setRow ?_ (by first | rfl | (simp; done))) | (with_reducible refine Blk.setRow_far ?_ (by first | omega | (simp; omega)) _) | (with_reducible refine Blk.set' ?_ _ _ (by first | rfl | (simp; done)))))
    · (repeat (first | with_reducible assumption | (with_reducible refine Blk.new' ?_; first | with_reducible rfl | (simp; done)) | with_reducible refine Blk.alloc ?_ _ | with_reducible refine Blk.grow ?_ _ | with_reducible refine Blk.drew ?_ | with_reducible refine Blk.drewN ?_ _ | (with_reducible refine Blk.far ?_ (by first | (dsimp only; omega) | (simp; omega)) _) | (with_reducible apply Blk.two) | (with_reducible refine Blk.kept ?_ (by assumption)) | (with_reducible refine Blk.setRow ?_ (by first | rfl | (simp; done))) | (with_reducible refine Blk.setRow_far ?_ (by first | omega | (simp; omega)) _) | (with_reducible refine Blk.set' ?_ _ _ (by first | rfl | (simp; done)))))
    · (repeat (first | with_reducible assumption | (with_reducible refine Blk.new' ?_; first | with_reducible rfl | (simp; done)) | with_reducible refine Blk.alloc ?_ _ | with_reducible refine Blk.grow ?_ _ | with_reducible refine Blk.drew ?_ | with_reducible refine Blk.drewN ?_ _ | (with_reducible refine Blk.far ?_ (by first | (dsimp only; omega) | (simp; omega)) _) | (with_reducible apply Blk.two) | (with_reducible refine Blk.kept ?_ (by assumption)) | (with_reducible refine Blk.setRow ?_ (by first | rfl | (simp; done))) | (with_reducible refine Blk.setRow_far ?_ (by first | omega | (simp; omega)) _) | (with_reducible refine Blk.set' ?_ _ _ (by first | rfl | (simp; done)))))
  clear f_x x_l r_x x_2 x_f2 x_3 x_f3 x_4 x_f4 x_5 x_f5 x_8 x_f8 x_9 x_f9 x_11 x_f11 x_12 x_f12 x_13 x_f13 x_14 x_f14 hB_1
  rintro X1 ⟨hB_2, f_x, f_z, f_t⟩
  have r_x := rowAt_blk f_x
  have x_l := f_x.lt
  have x_2 : X1.cell? ⟨w.heap.size, 2, none⟩ = some (.int .u64 xd1) := (f_x).cell 2
  have x_f2 := (f_x).frozen 2
  have x_3 : X1.cell? ⟨w.heap.size, 3, none⟩ = some (.int .u64 xd2) := (f_x).cell 3
  have x_f3 := (f_x).frozen 3
  have x_4 : X1.cell? ⟨w.heap.size, 4, none⟩ = some (.int .u64 xc1) := (f_x).cell 4
  have x_f4 := (f_x).frozen 4
  have x_5 : X1.cell? ⟨w.heap.size, 5, none⟩ = some (.int .u64 xc2) := (f_x).cell 5
  have x_f5 := (f_x).frozen 5
  have x_8 : X1.cell? ⟨w.heap.size, 8, none⟩ = some (.int .u64 xw1) := (f_x).cell 8
  have x_f8 := (f_x).frozen 8
  have x_9 : X1.cell? ⟨w.heap.size, 9, none⟩ = some (.int .u64 xw2) := (f_x).cell 9
  have x_f9 := (f_x).frozen 9
  have x_11 : X1.cell? ⟨w.heap.size, 11, none⟩ = some (.int .u32 xto) := (f_x).cell 11
  have x_f11 := (f_x).frozen 11
  have x_12 : X1.cell? ⟨w.heap.size, 12, none⟩ = some (.int .u32 xlg) := (f_x).cell 12
  have x_f12 := (f_x).frozen 12
  have x_13 : X1.cell? ⟨w.heap.size, 13, none⟩ = some (.int .u16 xcd) := (f_x).cell 13
  have x_f13 := (f_x).frozen 13
  have x_14 : X1.cell? ⟨w.heap.size, 14, none⟩ = some (.int .u16 xfl) := (f_x).cell 14
  have x_f14 := (f_x).frozen 14
  replace f_x := Lib.hid f_x
  have z_0 : X1.cell? ⟨w_1.heap.size, 0, none⟩ = some (.int .u64 0) := (f_z).cell 0
  have z_1 : X1.cell? ⟨w_1.heap.size, 1, none⟩ = some (.int .u64 0) := (f_z).cell 1
  have z_f0 := (f_z).frozen 0
  have z_f1 := (f_z).frozen 1
  have z_l := (f_z).lt
  replace f_z := Lib.hid f_z
  have t_0 : X1.cell? ⟨w_1.heap.size + 1, 0, none⟩ = some (.int .u64 18446744073709551615) := (f_t).cell 0
  have t_1 : X1.cell? ⟨w_1.heap.size + 1, 1, none⟩ = some (.int .u64 18446744073709551615) := (f_t).cell 1
  have t_f0 := (f_t).frozen 0
  have t_f1 := (f_t).frozen 1
  have t_l := (f_t).lt
  replace f_t := Lib.hid f_t
  replace hB_2 := Lib.hid hB_2
  cases d0
  case true =>
    go_wp2_with fail
    go_ret
    exact ⟨by first | rfl | simp [pwordsV, pnamesV, pfieldsV], by have t_B := hB_2.out; (repeat (first | with_reducible exact Below.refl _ _ | with_reducible assumption | (with_reducible refine bel_set ?_ (by first | exact Nat.le_refl _ | (simp; done) | (simp; omega) | omega) _) | with_reducible refine bel_grow ?_ _ | with_reducible refine Below.drew ?_ | with_reducible refine bel_alloc ?_ _ | with_reducible refine bel_eld ?_ (by assumption)))⟩
  case false =>
  cases dT
  case true =>
    go_wp2_with fail
    go_ret
    exact ⟨by first | rfl | simp [pwordsV, pnamesV, pfieldsV], by have t_B := hB_2.out; (repeat (first | with_reducible exact Below.refl _ _ | with_reducible assumption | (with_reducible refine bel_set ?_ (by first | exact Nat.le_refl _ | (simp; done) | (simp; omega) | omega) _) | with_reducible refine bel_grow ?_ _ | with_reducible refine Below.drew ?_ | with_reducible refine bel_alloc ?_ _ | with_reducible refine bel_eld ?_ (by assumption)))⟩
  case false =>
  cases c0
  case true =>
    go_wp2_with fail
    go_ret
    exact ⟨by first | rfl | simp [pwordsV, pnamesV, pfieldsV], by have t_B := hB_2.out; (repeat (first | with_reducible exact Below.refl _ _ | with_reducible assumption | (with_reducible refine bel_set ?_ (by first | exact Nat.le_refl _ | (simp; done) | (simp; omega) | omega) _) | with_reducible refine bel_grow ?_ _ | with_reducible refine Below.drew ?_ | with_reducible refine bel_alloc ?_ _ | with_reducible refine bel_eld ?_ (by assumption)))⟩
  case false =>
  cases cT
  case true =>
    go_wp2_with fail
    go_ret
    exact ⟨by first | rfl | simp [pwordsV, pnamesV, pfieldsV], by have t_B := hB_2.out; (repeat (first | with_reducible exact Below.refl _ _ | with_reducible assumption | (with_reducible refine bel_set ?_ (by first | exact Nat.le_refl _ | (simp; done) | (simp; omega) | omega) _) | with_reducible refine bel_grow ?_ _ | with_reducible refine Below.drew ?_ | with_reducible refine bel_alloc ?_ _ | with_reducible refine bel_eld ?_ (by assumption)))⟩
  case false =>
  cases sm
  case true =>
    go_wp2_with fail
    go_ret
    exact ⟨by first | rfl | simp [pwordsV, pnamesV, pfieldsV], by have t_B := hB_2.out; (repeat (first | with_reducible exact Below.refl _ _ | with_reducible assumption | (with_reducible refine bel_set ?_ (by first | exact Nat.le_refl _ | (simp; done) | (simp; omega) | omega) _) | with_reducible refine bel_grow ?_ _ | with_reducible refine Below.drew ?_ | with_reducible refine bel_alloc ?_ _ | with_reducible refine bel_eld ?_ (by assumption)))⟩
  case false =>
  cases w0
  case false =>
    go_wp2_with fail
    go_ret
    exact ⟨by first | rfl | simp [pwordsV, pnamesV, pfieldsV], by have t_B := hB_2.out; (repeat (first | with_reducible exact Below.refl _ _ | with_reducible assumption | (with_reducible refine bel_set ?_ (by first | exact Nat.le_refl _ | (simp; done) | (simp; omega) | omega) _) | with_reducible refine bel_grow ?_ _ | with_reducible refine Below.drew ?_ | with_reducible refine bel_alloc ?_ _ | with_reducible refine bel_eld ?_ (by assumption)))⟩
  case true =>

  cases tz
  case false =>
    go_wp2_with fail
    refine (HP64.out _).mono ?_
    rintro e w_3 ⟨rfl, hb_3⟩
    have z_3 := hb_3.size
    try simp at z_3
    have t_ := hB_2.out
    have hB_3 := bel_eld (w := w) (X := _) (by first | ((repeat (first | with_reducible exact Below.refl _ _ | with_reducible assumption | (with_reducible refine bel_set ?_ (by first | exact Nat.le_refl _ | (simp; done) | (simp; omega) | omega) _) | with_reducible refine bel_grow ?_ _ | with_reducible refine Below.drew ?_ | with_reducible refine below_drewN ?_ _ | with_reducible refine bel_alloc ?_ _ | with_reducible refine bel_trans ?_ (by assumption))); done) | (repeat (first | exact Below.refl _ _ | assumption | refine below_drewN ?_ _ | refine bel_grow ?_ _ | refine Below.drew ?_ | refine bel_alloc ?_ _ | refine bel_set ?_ (by first | exact Nat.le_refl _ | (simp; done) | (simp; omega) | omega) _ | refine bel_trans ?_ (by assumption)))) hb_3
    clear t_
    have t_x := f_x.out
    have t_z := f_z.out
    have t_t := f_t.out
    have g_x : Blk w_3 (w.heap.size) 28 #[.int .u64 xi1, .int .u64 xi2, .int .u64 xd1, .int .u64 xd2, .int .u64 xc1, .int .u64 xc2, .int .u64 xm1, .int .u64 xm2, .int .u64 xw1, .int .u64 xw2, .int .u64 xtg, .int .u32 xto, .int .u32 xlg, .int .u16 xcd, .int .u16 xfl, .int .u64 xst] := by
      refine Blk.kept ?_ hb_3
      (repeat (first | with_reducible assumption | (with_reducible refine Blk.new' ?_; first | with_reducible rfl | (simp; done)) | with_reducible refine Blk.alloc ?_ _ | with_reducible refine Blk.grow ?_ _ | with_reducible refine Blk.drew ?_ | with_reducible refine Blk.drewN ?_ _ | (with_reducible refine Blk.far ?_ (by first | (dsimp only; omega) | (simp; omega)) _) | (with_reducible apply Blk.two) | (with_reducible refine Blk.set' ?_ _ _ ?_) | (with_reducible rfl) | rfl))
    have g_z : Blk w_3 (w_1.heap.size) 24 #[.int .u64 0, .int .u64 0] := by
      refine Blk.kept ?_ hb_3
      (repeat (first | with_reducible assumption | (with_reducible refine Blk.new' ?_; first | with_reducible rfl | (simp; done)) | with_reducible refine Blk.alloc ?_ _ | with_reducible refine Blk.grow ?_ _ | with_reducible refine Blk.drew ?_ | with_reducible refine Blk.drewN ?_ _ | (with_reducible refine Blk.far ?_ (by first | (dsimp only; omega) | (simp; omega)) _) | (with_reducible apply Blk.two) | (with_reducible refine Blk.set' ?_ _ _ ?_) | (with_reducible rfl) | rfl))
    have g_t : Blk w_3 (w_1.heap.size + 1) 24 #[.int .u64 18446744073709551615, .int .u64 18446744073709551615] := by
      refine Blk.kept ?_ hb_3
      (repeat (first | with_reducible assumption | (with_reducible refine Blk.new' ?_; first | with_reducible rfl | (simp; done)) | with_reducible refine Blk.alloc ?_ _ | with_reducible refine Blk.grow ?_ _ | with_reducible refine Blk.drew ?_ | with_reducible refine Blk.drewN ?_ _ | (with_reducible refine Blk.far ?_ (by first | (dsimp only; omega) | (simp; omega)) _) | (with_reducible apply Blk.two) | (with_reducible refine Blk.set' ?_ _ _ ?_) | (with_reducible rfl) | rfl))
    clear f_x x_l r_x x_2 x_f2 x_3 x_f3 x_4 x_f4 x_5 x_f5 x_8 x_f8 x_9 x_f9 x_11 x_f11 x_12 x_f12 x_13 x_f13 x_14 x_f14 f_z z_l z_0 z_1 z_f0 z_f1 f_t t_l t_0 t_1 t_f0 t_f1 t_x t_z t_t hB_2 hb_3
    have f_x := g_x
    clear g_x
    have f_z := g_z
    clear g_z
    have f_t := g_t
    clear g_t
    have r_x := rowAt_blk f_x
    have x_l := f_x.lt
    have x_2 : w_3.cell? ⟨w.heap.size, 2, none⟩ = some (.int .u64 xd1) := (f_x).cell 2
    have x_f2 := (f_x).frozen 2
    have x_3 : w_3.cell? ⟨w.heap.size, 3, none⟩ = some (.int .u64 xd2) := (f_x).cell 3
    have x_f3 := (f_x).frozen 3
    have x_4 : w_3.cell? ⟨w.heap.size, 4, none⟩ = some (.int .u64 xc1) := (f_x).cell 4
    have x_f4 := (f_x).frozen 4
    have x_5 : w_3.cell? ⟨w.heap.size, 5, none⟩ = some (.int .u64 xc2) := (f_x).cell 5
    have x_f5 := (f_x).frozen 5
    have x_8 : w_3.cell? ⟨w.heap.size, 8, none⟩ = some (.int .u64 xw1) := (f_x).cell 8
    have x_f8 := (f_x).frozen 8
    have x_9 : w_3.cell? ⟨w.heap.size, 9, none⟩ = some (.int .u64 xw2) := (f_x).cell 9
    have x_f9 := (f_x).frozen 9
    have x_11 : w_3.cell? ⟨w.heap.size, 11, none⟩ = some (.int .u32 xto) := (f_x).cell 11
    have x_f11 := (f_x).frozen 11
    have x_12 : w_3.cell? ⟨w.heap.size, 12, none⟩ = some (.int .u32 xlg) := (f_x).cell 12
    have x_f12 := (f_x).frozen 12
    have x_13 : w_3.cell? ⟨w.heap.size, 13, none⟩ = some (.int .u16 xcd) := (f_x).cell 13
    have x_f13 := (f_x).frozen 13
    have x_14 : w_3.cell? ⟨w.heap.size, 14, none⟩ = some (.int .u16 xfl) := (f_x).cell 14
    have x_f14 := (f_x).frozen 14
    replace f_x := Lib.hid f_x
    have z_0 : w_3.cell? ⟨w_1.heap.size, 0, none⟩ = some (.int .u64 0) := (f_z).cell 0
    have z_1 : w_3.cell? ⟨w_1.heap.size, 1, none⟩ = some (.int .u64 0) := (f_z).cell 1
    have z_f0 := (f_z).frozen 0
    have z_f1 := (f_z).frozen 1
    have z_l := (f_z).lt
    replace f_z := Lib.hid f_z
    have t_0 : w_3.cell? ⟨w_1.heap.size + 1, 0, none⟩ = some (.int .u64 18446744073709551615) := (f_t).cell 0
    have t_1 : w_3.cell? ⟨w_1.heap.size + 1, 1, none⟩ = some (.int .u64 18446744073709551615) := (f_t).cell 1
    have t_f0 := (f_t).frozen 0
    have t_f1 := (f_t).frozen 1
    have t_l := (f_t).lt
    replace f_t := Lib.hid f_t
    replace hB_3 := Lib.hid hB_3
    cases p64
    case true =>

      go_wp2_with fail
      refine (HP2.out _).mono ?_
      rintro e w_4 ⟨rfl, hb_4⟩
      have z_4 := hb_4.size
      try simp at z_4
      have t_ := hB_3.out
      have hB_4 := bel_eld (w := w) (X := _) (by first | ((repeat (first | with_reducible exact Below.refl _ _ | with_reducible assumption | (with_reducible refine bel_set ?_ (by first | exact Nat.le_refl _ | (simp; done) | (simp; omega) | omega) _) | with_reducible refine bel_grow ?_ _ | with_reducible refine Below.drew ?_ | with_reducible refine below_drewN ?_ _ | with_reducible refine bel_alloc ?_ _ | with_reducible refine bel_trans ?_ (by assumption))); done) | (repeat (first | exact Below.refl _ _ | assumption | refine below_drewN ?_ _ | refine bel_grow ?_ _ | refine Below.drew ?_ | refine bel_alloc ?_ _ | refine bel_set ?_ (by first | exact Nat.le_refl _ | (simp; done) | (simp; omega) | omega) _ | refine bel_trans ?_ (by assumption)))) hb_4
      clear t_
      have t_x := f_x.out
      have t_z := f_z.out
      have t_t := f_t.out
      have g_x : Blk w_4 (w.heap.size) 28 #[.int .u64 xi1, .int .u64 xi2, .int .u64 xd1, .int .u64 xd2, .int .u64 xc1, .int .u64 xc2, .int .u64 xm1, .int .u64 xm2, .int .u64 xw1, .int .u64 xw2, .int .u64 xtg, .int .u32 xto, .int .u32 xlg, .int .u16 xcd, .int .u16 xfl, .int .u64 xst] := by
        refine Blk.kept ?_ hb_4
        (repeat (first | with_reducible assumption | (with_reducible refine Blk.new' ?_; first | with_reducible rfl | (simp; done)) | with_reducible refine Blk.alloc ?_ _ | with_reducible refine Blk.grow ?_ _ | with_reducible refine Blk.drew ?_ | with_reducible refine Blk.drewN ?_ _ | (with_reducible refine Blk.far ?_ (by first | (dsimp only; omega) | (simp; omega)) _) | (with_reducible apply Blk.two) | (with_reducible refine Blk.set' ?_ _ _ ?_) | (with_reducible rfl) | rfl))
      have g_z : Blk w_4 (w_1.heap.size) 24 #[.int .u64 0, .int .u64 0] := by
        refine Blk.kept ?_ hb_4
        (repeat (first | with_reducible assumption | (with_reducible refine Blk.new' ?_; first | with_reducible rfl | (simp; done)) | with_reducible refine Blk.alloc ?_ _ | with_reducible refine Blk.grow ?_ _ | with_reducible refine Blk.drew ?_ | with_reducible refine Blk.drewN ?_ _ | (with_reducible refine Blk.far ?_ (by first | (dsimp only; omega) | (simp; omega)) _) | (with_reducible apply Blk.two) | (with_reducible refine Blk.set' ?_ _ _ ?_) | (with_reducible rfl) | rfl))
      have g_t : Blk w_4 (w_1.heap.size + 1) 24 #[.int .u64 18446744073709551615, .int .u64 18446744073709551615] := by
        refine Blk.kept ?_ hb_4
        (repeat (first | with_reducible assumption | (with_reducible refine Blk.new' ?_; first | with_reducible rfl | (simp; done)) | with_reducible refine Blk.alloc ?_ _ | with_reducible refine Blk.grow ?_ _ | with_reducible refine Blk.drew ?_ | with_reducible refine Blk.drewN ?_ _ | (with_reducible refine Blk.far ?_ (by first | (dsimp only; omega) | (simp; omega)) _) | (with_reducible apply Blk.two) | (with_reducible refine Blk.set' ?_ _ _ ?_) | (with_reducible rfl) | rfl))
      clear f_x x_l r_x x_2 x_f2 x_3 x_f3 x_4 x_f4 x_5 x_f5 x_8 x_f8 x_9 x_f9 x_11 x_f11 x_12 x_f12 x_13 x_f13 x_14 x_f14 f_z z_l z_0 z_1 z_f0 z_f1 f_t t_l t_0 t_1 t_f0 t_f1 t_x t_z t_t hB_3 hb_4
      have f_x := g_x
      clear g_x
      have f_z := g_z
      clear g_z
      have f_t := g_t
      clear g_t
      have r_x := rowAt_blk f_x
      have x_l := f_x.lt
      have x_2 : w_4.cell? ⟨w.heap.size, 2, none⟩ = some (.int .u64 xd1) := (f_x).cell 2
      have x_f2 := (f_x).frozen 2
      have x_3 : w_4.cell? ⟨w.heap.size, 3, none⟩ = some (.int .u64 xd2) := (f_x).cell 3
      have x_f3 := (f_x).frozen 3
      have x_4 : w_4.cell? ⟨w.heap.size, 4, none⟩ = some (.int .u64 xc1) := (f_x).cell 4
      have x_f4 := (f_x).frozen 4
      have x_5 : w_4.cell? ⟨w.heap.size, 5, none⟩ = some (.int .u64 xc2) := (f_x).cell 5
      have x_f5 := (f_x).frozen 5
      have x_8 : w_4.cell? ⟨w.heap.size, 8, none⟩ = some (.int .u64 xw1) := (f_x).cell 8
      have x_f8 := (f_x).frozen 8
      have x_9 : w_4.cell? ⟨w.heap.size, 9, none⟩ = some (.int .u64 xw2) := (f_x).cell 9
      have x_f9 := (f_x).frozen 9
      have x_11 : w_4.cell? ⟨w.heap.size, 11, none⟩ = some (.int .u32 xto) := (f_x).cell 11
      have x_f11 := (f_x).frozen 11
      have x_12 : w_4.cell? ⟨w.heap.size, 12, none⟩ = some (.int .u32 xlg) := (f_x).cell 12
      have x_f12 := (f_x).frozen 12
      have x_13 : w_4.cell? ⟨w.heap.size, 13, none⟩ = some (.int .u16 xcd) := (f_x).cell 13
      have x_f13 := (f_x).frozen 13
      have x_14 : w_4.cell? ⟨w.heap.size, 14, none⟩ = some (.int .u16 xfl) := (f_x).cell 14
      have x_f14 := (f_x).frozen 14
      replace f_x := Lib.hid f_x
      have z_0 : w_4.cell? ⟨w_1.heap.size, 0, none⟩ = some (.int .u64 0) := (f_z).cell 0
      have z_1 : w_4.cell? ⟨w_1.heap.size, 1, none⟩ = some (.int .u64 0) := (f_z).cell 1
      have z_f0 := (f_z).frozen 0
      have z_f1 := (f_z).frozen 1
      have z_l := (f_z).lt
      replace f_z := Lib.hid f_z
      have t_0 : w_4.cell? ⟨w_1.heap.size + 1, 0, none⟩ = some (.int .u64 18446744073709551615) := (f_t).cell 0
      have t_1 : w_4.cell? ⟨w_1.heap.size + 1, 1, none⟩ = some (.int .u64 18446744073709551615) := (f_t).cell 1
      have t_f0 := (f_t).frozen 0
      have t_f1 := (f_t).frozen 1
      have t_l := (f_t).lt
      replace f_t := Lib.hid f_t
      replace hB_4 := Lib.hid hB_4
      cases p2
      case false =>
        go_wp2_with fail
        go_ret
        exact ⟨by first | rfl | simp [pwordsV, pnamesV, pfieldsV], by have t_B := hB_4.out; (repeat (first | with_reducible exact Below.refl _ _ | with_reducible assumption | (with_reducible refine bel_set ?_ (by first | exact Nat.le_refl _ | (simp; done) | (simp; omega) | omega) _) | with_reducible refine bel_grow ?_ _ | with_reducible refine Below.drew ?_ | with_reducible refine bel_alloc ?_ _ | with_reducible refine bel_eld ?_ (by assumption)))⟩
      case true =>
        cases l0 <;> cases k0
        all_goals (
          go_wp2_with fail
          go_ret
          exact ⟨by first | rfl | simp [pwordsV, pnamesV, pfieldsV], by have t_B := hB_4.out; (repeat (first | with_reducible exact Below.refl _ _ | with_reducible assumption | (with_reducible refine bel_set ?_ (by first | exact Nat.le_refl _ | (simp; done) | (simp; omega) | omega) _) | with_reducible refine bel_grow ?_ _ | with_reducible refine Below.drew ?_ | with_reducible refine bel_alloc ?_ _ | with_reducible refine bel_eld ?_ (by assumption)))⟩)
    case false =>

      go_wp2_with fail
      refine (HP128.out _).mono ?_
      rintro e w_4 ⟨rfl, hb_4⟩
      have z_4 := hb_4.size
      try simp at z_4
      have t_ := hB_3.out
      have hB_4 := bel_eld (w := w) (X := _) (by first | ((repeat (first | with_reducible exact Below.refl _ _ | with_reducible assumption | (with_reducible refine bel_set ?_ (by first | exact Nat.le_refl _ | (simp; done) | (simp; omega) | omega) _) | with_reducible refine bel_grow ?_ _ | with_reducible refine Below.drew ?_ | with_reducible refine below_drewN ?_ _ | with_reducible refine bel_alloc ?_ _ | with_reducible refine bel_trans ?_ (by assumption))); done) | (repeat (first | exact Below.refl _ _ | assumption | refine below_drewN ?_ _ | refine bel_grow ?_ _ | refine Below.drew ?_ | refine bel_alloc ?_ _ | refine bel_set ?_ (by first | exact Nat.le_refl _ | (simp; done) | (simp; omega) | omega) _ | refine bel_trans ?_ (by assumption)))) hb_4
      clear t_
      have t_x := f_x.out
      have t_z := f_z.out
      have t_t := f_t.out
      have g_x : Blk w_4 (w.heap.size) 28 #[.int .u64 xi1, .int .u64 xi2, .int .u64 xd1, .int .u64 xd2, .int .u64 xc1, .int .u64 xc2, .int .u64 xm1, .int .u64 xm2, .int .u64 xw1, .int .u64 xw2, .int .u64 xtg, .int .u32 xto, .int .u32 xlg, .int .u16 xcd, .int .u16 xfl, .int .u64 xst] := by
        refine Blk.kept ?_ hb_4
        (repeat (first | with_reducible assumption | (with_reducible refine Blk.new' ?_; first | with_reducible rfl | (simp; done)) | with_reducible refine Blk.alloc ?_ _ | with_reducible refine Blk.grow ?_ _ | with_reducible refine Blk.drew ?_ | with_reducible refine Blk.drewN ?_ _ | (with_reducible refine Blk.far ?_ (by first | (dsimp only; omega) | (simp; omega)) _) | (with_reducible apply Blk.two) | (with_reducible refine Blk.set' ?_ _ _ ?_) | (with_reducible rfl) | rfl))
      have g_z : Blk w_4 (w_1.heap.size) 24 #[.int .u64 0, .int .u64 0] := by
        refine Blk.kept ?_ hb_4
        (repeat (first | with_reducible assumption | (with_reducible refine Blk.new' ?_; first | with_reducible rfl | (simp; done)) | with_reducible refine Blk.alloc ?_ _ | with_reducible refine Blk.grow ?_ _ | with_reducible refine Blk.drew ?_ | with_reducible refine Blk.drewN ?_ _ | (with_reducible refine Blk.far ?_ (by first | (dsimp only; omega) | (simp; omega)) _) | (with_reducible apply Blk.two) | (with_reducible refine Blk.set' ?_ _ _ ?_) | (with_reducible rfl) | rfl))
      have g_t : Blk w_4 (w_1.heap.size + 1) 24 #[.int .u64 18446744073709551615, .int .u64 18446744073709551615] := by
        refine Blk.kept ?_ hb_4
        (repeat (first | with_reducible assumption | (with_reducible refine Blk.new' ?_; first | with_reducible rfl | (simp; done)) | with_reducible refine Blk.alloc ?_ _ | with_reducible refine Blk.grow ?_ _ | with_reducible refine Blk.drew ?_ | with_reducible refine Blk.drewN ?_ _ | (with_reducible refine Blk.far ?_ (by first | (dsimp only; omega) | (simp; omega)) _) | (with_reducible apply Blk.two) | (with_reducible refine Blk.set' ?_ _ _ ?_) | (with_reducible rfl) | rfl))
      clear f_x x_l r_x x_2 x_f2 x_3 x_f3 x_4 x_f4 x_5 x_f5 x_8 x_f8 x_9 x_f9 x_11 x_f11 x_12 x_f12 x_13 x_f13 x_14 x_f14 f_z z_l z_0 z_1 z_f0 z_f1 f_t t_l t_0 t_1 t_f0 t_f1 t_x t_z t_t hB_3 hb_4
      have f_x := g_x
      clear g_x
      have f_z := g_z
      clear g_z
      have f_t := g_t
      clear g_t
      have r_x := rowAt_blk f_x
      have x_l := f_x.lt
      have x_2 : w_4.cell? ⟨w.heap.size, 2, none⟩ = some (.int .u64 xd1) := (f_x).cell 2
      have x_f2 := (f_x).frozen 2
      have x_3 : w_4.cell? ⟨w.heap.size, 3, none⟩ = some (.int .u64 xd2) := (f_x).cell 3
      have x_f3 := (f_x).frozen 3
      have x_4 : w_4.cell? ⟨w.heap.size, 4, none⟩ = some (.int .u64 xc1) := (f_x).cell 4
      have x_f4 := (f_x).frozen 4
      have x_5 : w_4.cell? ⟨w.heap.size, 5, none⟩ = some (.int .u64 xc2) := (f_x).cell 5
      have x_f5 := (f_x).frozen 5
      have x_8 : w_4.cell? ⟨w.heap.size, 8, none⟩ = some (.int .u64 xw1) := (f_x).cell 8
      have x_f8 := (f_x).frozen 8
      have x_9 : w_4.cell? ⟨w.heap.size, 9, none⟩ = some (.int .u64 xw2) := (f_x).cell 9
      have x_f9 := (f_x).frozen 9
      have x_11 : w_4.cell? ⟨w.heap.size, 11, none⟩ = some (.int .u32 xto) := (f_x).cell 11
      have x_f11 := (f_x).frozen 11
      have x_12 : w_4.cell? ⟨w.heap.size, 12, none⟩ = some (.int .u32 xlg) := (f_x).cell 12
      have x_f12 := (f_x).frozen 12
      have x_13 : w_4.cell? ⟨w.heap.size, 13, none⟩ = some (.int .u16 xcd) := (f_x).cell 13
      have x_f13 := (f_x).frozen 13
      have x_14 : w_4.cell? ⟨w.heap.size, 14, none⟩ = some (.int .u16 xfl) := (f_x).cell 14
      have x_f14 := (f_x).frozen 14
      replace f_x := Lib.hid f_x
      have z_0 : w_4.cell? ⟨w_1.heap.size, 0, none⟩ = some (.int .u64 0) := (f_z).cell 0
      have z_1 : w_4.cell? ⟨w_1.heap.size, 1, none⟩ = some (.int .u64 0) := (f_z).cell 1
      have z_f0 := (f_z).frozen 0
      have z_f1 := (f_z).frozen 1
      have z_l := (f_z).lt
      replace f_z := Lib.hid f_z
      have t_0 : w_4.cell? ⟨w_1.heap.size + 1, 0, none⟩ = some (.int .u64 18446744073709551615) := (f_t).cell 0
      have t_1 : w_4.cell? ⟨w_1.heap.size + 1, 1, none⟩ = some (.int .u64 18446744073709551615) := (f_t).cell 1
      have t_f0 := (f_t).frozen 0
      have t_f1 := (f_t).frozen 1
      have t_l := (f_t).lt
      replace f_t := Lib.hid f_t
      replace hB_4 := Lib.hid hB_4
      cases p128
      case true =>
        go_wp2_with fail
        refine (HP2.out _).mono ?_
        rintro e w_5 ⟨rfl, hb_5⟩
        have z_5 := hb_5.size
        try simp at z_5
        have t_ := hB_4.out
        have hB_5 := bel_eld (w := w) (X := _) (by first | ((repeat (first | with_reducible exact Below.refl _ _ | with_reducible assumption | (with_reducible refine bel_set ?_ (by first | exact Nat.le_refl _ | (simp; done) | (simp; omega) | omega) _) | with_reducible refine bel_grow ?_ _ | with_reducible refine Below.drew ?_ | with_reducible refine below_drewN ?_ _ | with_reducible refine bel_alloc ?_ _ | with_reducible refine bel_trans ?_ (by assumption))); done) | (repeat (first | exact Below.refl _ _ | assumption | refine below_drewN ?_ _ | refine bel_grow ?_ _ | refine Below.drew ?_ | refine bel_alloc ?_ _ | refine bel_set ?_ (by first | exact Nat.le_refl _ | (simp; done) | (simp; omega) | omega) _ | refine bel_trans ?_ (by assumption)))) hb_5
        clear t_
        have t_x := f_x.out
        have t_z := f_z.out
        have t_t := f_t.out
        have g_x : Blk w_5 (w.heap.size) 28 #[.int .u64 xi1, .int .u64 xi2, .int .u64 xd1, .int .u64 xd2, .int .u64 xc1, .int .u64 xc2, .int .u64 xm1, .int .u64 xm2, .int .u64 xw1, .int .u64 xw2, .int .u64 xtg, .int .u32 xto, .int .u32 xlg, .int .u16 xcd, .int .u16 xfl, .int .u64 xst] := by
          refine Blk.kept ?_ hb_5
          (repeat (first | with_reducible assumption | (with_reducible refine Blk.new' ?_; first | with_reducible rfl | (simp; done)) | with_reducible refine Blk.alloc ?_ _ | with_reducible refine Blk.grow ?_ _ | with_reducible refine Blk.drew ?_ | with_reducible refine Blk.drewN ?_ _ | (with_reducible refine Blk.far ?_ (by first | (dsimp only; omega) | (simp; omega)) _) | (with_reducible apply Blk.two) | (with_reducible refine Blk.set' ?_ _ _ ?_) | (with_reducible rfl) | rfl))
        have g_z : Blk w_5 (w_1.heap.size) 24 #[.int .u64 0, .int .u64 0] := by
          refine Blk.kept ?_ hb_5
          (repeat (first | with_reducible assumption | (with_reducible refine Blk.new' ?_; first | with_reducible rfl | (simp; done)) | with_reducible refine Blk.alloc ?_ _ | with_reducible refine Blk.grow ?_ _ | with_reducible refine Blk.drew ?_ | with_reducible refine Blk.drewN ?_ _ | (with_reducible refine Blk.far ?_ (by first | (dsimp only; omega) | (simp; omega)) _) | (with_reducible apply Blk.two) | (with_reducible refine Blk.set' ?_ _ _ ?_) | (with_reducible rfl) | rfl))
        have g_t : Blk w_5 (w_1.heap.size + 1) 24 #[.int .u64 18446744073709551615, .int .u64 18446744073709551615] := by
          refine Blk.kept ?_ hb_5
          (repeat (first | with_reducible assumption | (with_reducible refine Blk.new' ?_; first | with_reducible rfl | (simp; done)) | with_reducible refine Blk.alloc ?_ _ | with_reducible refine Blk.grow ?_ _ | with_reducible refine Blk.drew ?_ | with_reducible refine Blk.drewN ?_ _ | (with_reducible refine Blk.far ?_ (by first | (dsimp only; omega) | (simp; omega)) _) | (with_reducible apply Blk.two) | (with_reducible refine Blk.set' ?_ _ _ ?_) | (with_reducible rfl) | rfl))
        clear f_x x_l r_x x_2 x_f2 x_3 x_f3 x_4 x_f4 x_5 x_f5 x_8 x_f8 x_9 x_f9 x_11 x_f11 x_12 x_f12 x_13 x_f13 x_14 x_f14 f_z z_l z_0 z_1 z_f0 z_f1 f_t t_l t_0 t_1 t_f0 t_f1 t_x t_z t_t hB_4 hb_5
        have f_x := g_x
        clear g_x
        have f_z := g_z
        clear g_z
        have f_t := g_t
        clear g_t
        have r_x := rowAt_blk f_x
        have x_l := f_x.lt
        have x_2 : w_5.cell? ⟨w.heap.size, 2, none⟩ = some (.int .u64 xd1) := (f_x).cell 2
        have x_f2 := (f_x).frozen 2
        have x_3 : w_5.cell? ⟨w.heap.size, 3, none⟩ = some (.int .u64 xd2) := (f_x).cell 3
        have x_f3 := (f_x).frozen 3
        have x_4 : w_5.cell? ⟨w.heap.size, 4, none⟩ = some (.int .u64 xc1) := (f_x).cell 4
        have x_f4 := (f_x).frozen 4
        have x_5 : w_5.cell? ⟨w.heap.size, 5, none⟩ = some (.int .u64 xc2) := (f_x).cell 5
        have x_f5 := (f_x).frozen 5
        have x_8 : w_5.cell? ⟨w.heap.size, 8, none⟩ = some (.int .u64 xw1) := (f_x).cell 8
        have x_f8 := (f_x).frozen 8
        have x_9 : w_5.cell? ⟨w.heap.size, 9, none⟩ = some (.int .u64 xw2) := (f_x).cell 9
        have x_f9 := (f_x).frozen 9
        have x_11 : w_5.cell? ⟨w.heap.size, 11, none⟩ = some (.int .u32 xto) := (f_x).cell 11
        have x_f11 := (f_x).frozen 11
        have x_12 : w_5.cell? ⟨w.heap.size, 12, none⟩ = some (.int .u32 xlg) := (f_x).cell 12
        have x_f12 := (f_x).frozen 12
        have x_13 : w_5.cell? ⟨w.heap.size, 13, none⟩ = some (.int .u16 xcd) := (f_x).cell 13
        have x_f13 := (f_x).frozen 13
        have x_14 : w_5.cell? ⟨w.heap.size, 14, none⟩ = some (.int .u16 xfl) := (f_x).cell 14
        have x_f14 := (f_x).frozen 14
        replace f_x := Lib.hid f_x
        have z_0 : w_5.cell? ⟨w_1.heap.size, 0, none⟩ = some (.int .u64 0) := (f_z).cell 0
        have z_1 : w_5.cell? ⟨w_1.heap.size, 1, none⟩ = some (.int .u64 0) := (f_z).cell 1
        have z_f0 := (f_z).frozen 0
        have z_f1 := (f_z).frozen 1
        have z_l := (f_z).lt
        replace f_z := Lib.hid f_z
        have t_0 : w_5.cell? ⟨w_1.heap.size + 1, 0, none⟩ = some (.int .u64 18446744073709551615) := (f_t).cell 0
        have t_1 : w_5.cell? ⟨w_1.heap.size + 1, 1, none⟩ = some (.int .u64 18446744073709551615) := (f_t).cell 1
        have t_f0 := (f_t).frozen 0
        have t_f1 := (f_t).frozen 1
        have t_l := (f_t).lt
        replace f_t := Lib.hid f_t
        replace hB_5 := Lib.hid hB_5
        cases p2
        case false =>
          go_wp2_with fail
          go_ret
          exact ⟨by first | rfl | simp [pwordsV, pnamesV, pfieldsV], by have t_B := hB_5.out; (repeat (first | with_reducible exact Below.refl _ _ | with_reducible assumption | (with_reducible refine bel_set ?_ (by first | exact Nat.le_refl _ | (simp; done) | (simp; omega) | omega) _) | with_reducible refine bel_grow ?_ _ | with_reducible refine Below.drew ?_ | with_reducible refine bel_alloc ?_ _ | with_reducible refine bel_eld ?_ (by assumption)))⟩
        case true =>
          cases l0 <;> cases k0
          all_goals (
            go_wp2_with fail
            go_ret
            exact ⟨by first | rfl | simp [pwordsV, pnamesV, pfieldsV], by have t_B := hB_5.out; (repeat (first | with_reducible exact Below.refl _ _ | with_reducible assumption | (with_reducible refine bel_set ?_ (by first | exact Nat.le_refl _ | (simp; done) | (simp; omega) | omega) _) | with_reducible refine bel_grow ?_ _ | with_reducible refine Below.drew ?_ | with_reducible refine bel_alloc ?_ _ | with_reducible refine bel_eld ?_ (by assumption)))⟩)
      case false =>
        cases l0 <;> cases k0
        all_goals (
          go_wp2_with fail
          go_ret
          exact ⟨by first | rfl | simp [pwordsV, pnamesV, pfieldsV], by have t_B := hB_4.out; (repeat (first | with_reducible exact Below.refl _ _ | with_reducible assumption | (with_reducible refine bel_set ?_ (by first | exact Nat.le_refl _ | (simp; done) | (simp; omega) | omega) _) | with_reducible refine bel_grow ?_ _ | with_reducible refine Below.drew ?_ | with_reducible refine bel_alloc ?_ _ | with_reducible refine bel_eld ?_ (by assumption)))⟩)
  case true =>

    go_wp2_with fail
    refine (HP2.out _).mono ?_
    rintro e w_3 ⟨rfl, hb_3⟩
    have z_3 := hb_3.size
    try simp at z_3
    have t_ := hB_2.out
    have hB_3 := bel_eld (w := w) (X := _) (by first | ((repeat (first | with_reducible exact Below.refl _ _ | with_reducible assumption | (with_reducible refine bel_set ?_ (by first | exact Nat.le_refl _ | (simp; done) | (simp; omega) | omega) _) | with_reducible refine bel_grow ?_ _ | with_reducible refine Below.drew ?_ | with_reducible refine below_drewN ?_ _ | with_reducible refine bel_alloc ?_ _ | with_reducible refine bel_trans ?_ (by assumption))); done) | (repeat (first | exact Below.refl _ _ | assumption | refine below_drewN ?_ _ | refine bel_grow ?_ _ | refine Below.drew ?_ | refine bel_alloc ?_ _ | refine bel_set ?_ (by first | exact Nat.le_refl _ | (simp; done) | (simp; omega) | omega) _ | refine bel_trans ?_ (by assumption)))) hb_3
    clear t_
    have t_x := f_x.out
    have t_z := f_z.out
    have t_t := f_t.out
    have g_x : Blk w_3 (w.heap.size) 28 #[.int .u64 xi1, .int .u64 xi2, .int .u64 xd1, .int .u64 xd2, .int .u64 xc1, .int .u64 xc2, .int .u64 xm1, .int .u64 xm2, .int .u64 xw1, .int .u64 xw2, .int .u64 xtg, .int .u32 xto, .int .u32 xlg, .int .u16 xcd, .int .u16 xfl, .int .u64 xst] := by
      refine Blk.kept ?_ hb_3
      (repeat (first | with_reducible assumption | (with_reducible refine Blk.new' ?_; first | with_reducible rfl | (simp; done)) | with_reducible refine Blk.alloc ?_ _ | with_reducible refine Blk.grow ?_ _ | with_reducible refine Blk.drew ?_ | with_reducible refine Blk.drewN ?_ _ | (with_reducible refine Blk.far ?_ (by first | (dsimp only; omega) | (simp; omega)) _) | (with_reducible apply Blk.two) | (with_reducible refine Blk.set' ?_ _ _ ?_) | (with_reducible rfl) | rfl))
    have g_z : Blk w_3 (w_1.heap.size) 24 #[.int .u64 0, .int .u64 0] := by
      refine Blk.kept ?_ hb_3
      (repeat (first | with_reducible assumption | (with_reducible refine Blk.new' ?_; first | with_reducible rfl | (simp; done)) | with_reducible refine Blk.alloc ?_ _ | with_reducible refine Blk.grow ?_ _ | with_reducible refine Blk.drew ?_ | with_reducible refine Blk.drewN ?_ _ | (with_reducible refine Blk.far ?_ (by first | (dsimp only; omega) | (simp; omega)) _) | (with_reducible apply Blk.two) | (with_reducible refine Blk.set' ?_ _ _ ?_) | (with_reducible rfl) | rfl))
    have g_t : Blk w_3 (w_1.heap.size + 1) 24 #[.int .u64 18446744073709551615, .int .u64 18446744073709551615] := by
      refine Blk.kept ?_ hb_3
      (repeat (first | with_reducible assumption | (with_reducible refine Blk.new' ?_; first | with_reducible rfl | (simp; done)) | with_reducible refine Blk.alloc ?_ _ | with_reducible refine Blk.grow ?_ _ | with_reducible refine Blk.drew ?_ | with_reducible refine Blk.drewN ?_ _ | (with_reducible refine Blk.far ?_ (by first | (dsimp only; omega) | (simp; omega)) _) | (with_reducible apply Blk.two) | (with_reducible refine Blk.set' ?_ _ _ ?_) | (with_reducible rfl) | rfl))
    clear f_x x_l r_x x_2 x_f2 x_3 x_f3 x_4 x_f4 x_5 x_f5 x_8 x_f8 x_9 x_f9 x_11 x_f11 x_12 x_f12 x_13 x_f13 x_14 x_f14 f_z z_l z_0 z_1 z_f0 z_f1 f_t t_l t_0 t_1 t_f0 t_f1 t_x t_z t_t hB_2 hb_3
    have f_x := g_x
    clear g_x
    have f_z := g_z
    clear g_z
    have f_t := g_t
    clear g_t
    have r_x := rowAt_blk f_x
    have x_l := f_x.lt
    have x_2 : w_3.cell? ⟨w.heap.size, 2, none⟩ = some (.int .u64 xd1) := (f_x).cell 2
    have x_f2 := (f_x).frozen 2
    have x_3 : w_3.cell? ⟨w.heap.size, 3, none⟩ = some (.int .u64 xd2) := (f_x).cell 3
    have x_f3 := (f_x).frozen 3
    have x_4 : w_3.cell? ⟨w.heap.size, 4, none⟩ = some (.int .u64 xc1) := (f_x).cell 4
    have x_f4 := (f_x).frozen 4
    have x_5 : w_3.cell? ⟨w.heap.size, 5, none⟩ = some (.int .u64 xc2) := (f_x).cell 5
    have x_f5 := (f_x).frozen 5
    have x_8 : w_3.cell? ⟨w.heap.size, 8, none⟩ = some (.int .u64 xw1) := (f_x).cell 8
    have x_f8 := (f_x).frozen 8
    have x_9 : w_3.cell? ⟨w.heap.size, 9, none⟩ = some (.int .u64 xw2) := (f_x).cell 9
    have x_f9 := (f_x).frozen 9
    have x_11 : w_3.cell? ⟨w.heap.size, 11, none⟩ = some (.int .u32 xto) := (f_x).cell 11
    have x_f11 := (f_x).frozen 11
    have x_12 : w_3.cell? ⟨w.heap.size, 12, none⟩ = some (.int .u32 xlg) := (f_x).cell 12
    have x_f12 := (f_x).frozen 12
    have x_13 : w_3.cell? ⟨w.heap.size, 13, none⟩ = some (.int .u16 xcd) := (f_x).cell 13
    have x_f13 := (f_x).frozen 13
    have x_14 : w_3.cell? ⟨w.heap.size, 14, none⟩ = some (.int .u16 xfl) := (f_x).cell 14
    have x_f14 := (f_x).frozen 14
    replace f_x := Lib.hid f_x
    have z_0 : w_3.cell? ⟨w_1.heap.size, 0, none⟩ = some (.int .u64 0) := (f_z).cell 0
    have z_1 : w_3.cell? ⟨w_1.heap.size, 1, none⟩ = some (.int .u64 0) := (f_z).cell 1
    have z_f0 := (f_z).frozen 0
    have z_f1 := (f_z).frozen 1
    have z_l := (f_z).lt
    replace f_z := Lib.hid f_z
    have t_0 : w_3.cell? ⟨w_1.heap.size + 1, 0, none⟩ = some (.int .u64 18446744073709551615) := (f_t).cell 0
    have t_1 : w_3.cell? ⟨w_1.heap.size + 1, 1, none⟩ = some (.int .u64 18446744073709551615) := (f_t).cell 1
    have t_f0 := (f_t).frozen 0
    have t_f1 := (f_t).frozen 1
    have t_l := (f_t).lt
    replace f_t := Lib.hid f_t
    replace hB_3 := Lib.hid hB_3
    cases p2
    case false =>
      go_wp2_with fail
      go_ret
      exact ⟨by first | rfl | simp [pwordsV, pnamesV, pfieldsV], by have t_B := hB_3.out; (repeat (first | with_reducible exact Below.refl _ _ | with_reducible assumption | (with_reducible refine bel_set ?_ (by first | exact Nat.le_refl _ | (simp; done) | (simp; omega) | omega) _) | with_reducible refine bel_grow ?_ _ | with_reducible refine Below.drew ?_ | with_reducible refine bel_alloc ?_ _ | with_reducible refine bel_eld ?_ (by assumption)))⟩
    case true =>
      go_wp2_with fail
      refine (HP64.out _).mono ?_
      rintro e w_4 ⟨rfl, hb_4⟩
      have z_4 := hb_4.size
      try simp at z_4
      have t_ := hB_3.out
      have hB_4 := bel_eld (w := w) (X := _) (by first | ((repeat (first | with_reducible exact Below.refl _ _ | with_reducible assumption | (with_reducible refine bel_set ?_ (by first | exact Nat.le_refl _ | (simp; done) | (simp; omega) | omega) _) | with_reducible refine bel_grow ?_ _ | with_reducible refine Below.drew ?_ | with_reducible refine below_drewN ?_ _ | with_reducible refine bel_alloc ?_ _ | with_reducible refine bel_trans ?_ (by assumption))); done) | (repeat (first | exact Below.refl _ _ | assumption | refine below_drewN ?_ _ | refine bel_grow ?_ _ | refine Below.drew ?_ | refine bel_alloc ?_ _ | refine bel_set ?_ (by first | exact Nat.le_refl _ | (simp; done) | (simp; omega) | omega) _ | refine bel_trans ?_ (by assumption)))) hb_4
      clear t_
      have t_x := f_x.out
      have t_z := f_z.out
      have t_t := f_t.out
      have g_x : Blk w_4 (w.heap.size) 28 #[.int .u64 xi1, .int .u64 xi2, .int .u64 xd1, .int .u64 xd2, .int .u64 xc1, .int .u64 xc2, .int .u64 xm1, .int .u64 xm2, .int .u64 xw1, .int .u64 xw2, .int .u64 xtg, .int .u32 xto, .int .u32 xlg, .int .u16 xcd, .int .u16 xfl, .int .u64 xst] := by
        refine Blk.kept ?_ hb_4
        (repeat (first | with_reducible assumption | (with_reducible refine Blk.new' ?_; first | with_reducible rfl | (simp; done)) | with_reducible refine Blk.alloc ?_ _ | with_reducible refine Blk.grow ?_ _ | with_reducible refine Blk.drew ?_ | with_reducible refine Blk.drewN ?_ _ | (with_reducible refine Blk.far ?_ (by first | (dsimp only; omega) | (simp; omega)) _) | (with_reducible apply Blk.two) | (with_reducible refine Blk.set' ?_ _ _ ?_) | (with_reducible rfl) | rfl))
      have g_z : Blk w_4 (w_1.heap.size) 24 #[.int .u64 0, .int .u64 0] := by
        refine Blk.kept ?_ hb_4
        (repeat (first | with_reducible assumption | (with_reducible refine Blk.new' ?_; first | with_reducible rfl | (simp; done)) | with_reducible refine Blk.alloc ?_ _ | with_reducible refine Blk.grow ?_ _ | with_reducible refine Blk.drew ?_ | with_reducible refine Blk.drewN ?_ _ | (with_reducible refine Blk.far ?_ (by first | (dsimp only; omega) | (simp; omega)) _) | (with_reducible apply Blk.two) | (with_reducible refine Blk.set' ?_ _ _ ?_) | (with_reducible rfl) | rfl))
      have g_t : Blk w_4 (w_1.heap.size + 1) 24 #[.int .u64 18446744073709551615, .int .u64 18446744073709551615] := by
        refine Blk.kept ?_ hb_4
        (repeat (first | with_reducible assumption | (with_reducible refine Blk.new' ?_; first | with_reducible rfl | (simp; done)) | with_reducible refine Blk.alloc ?_ _ | with_reducible refine Blk.grow ?_ _ | with_reducible refine Blk.drew ?_ | with_reducible refine Blk.drewN ?_ _ | (with_reducible refine Blk.far ?_ (by first | (dsimp only; omega) | (simp; omega)) _) | (with_reducible apply Blk.two) | (with_reducible refine Blk.set' ?_ _ _ ?_) | (with_reducible rfl) | rfl))
      clear f_x x_l r_x x_2 x_f2 x_3 x_f3 x_4 x_f4 x_5 x_f5 x_8 x_f8 x_9 x_f9 x_11 x_f11 x_12 x_f12 x_13 x_f13 x_14 x_f14 f_z z_l z_0 z_1 z_f0 z_f1 f_t t_l t_0 t_1 t_f0 t_f1 t_x t_z t_t hB_3 hb_4
      have f_x := g_x
      clear g_x
      have f_z := g_z
      clear g_z
      have f_t := g_t
      clear g_t
      have r_x := rowAt_blk f_x
      have x_l := f_x.lt
      have x_2 : w_4.cell? ⟨w.heap.size, 2, none⟩ = some (.int .u64 xd1) := (f_x).cell 2
      have x_f2 := (f_x).frozen 2
      have x_3 : w_4.cell? ⟨w.heap.size, 3, none⟩ = some (.int .u64 xd2) := (f_x).cell 3
      have x_f3 := (f_x).frozen 3
      have x_4 : w_4.cell? ⟨w.heap.size, 4, none⟩ = some (.int .u64 xc1) := (f_x).cell 4
      have x_f4 := (f_x).frozen 4
      have x_5 : w_4.cell? ⟨w.heap.size, 5, none⟩ = some (.int .u64 xc2) := (f_x).cell 5
      have x_f5 := (f_x).frozen 5
      have x_8 : w_4.cell? ⟨w.heap.size, 8, none⟩ = some (.int .u64 xw1) := (f_x).cell 8
      have x_f8 := (f_x).frozen 8
      have x_9 : w_4.cell? ⟨w.heap.size, 9, none⟩ = some (.int .u64 xw2) := (f_x).cell 9
      have x_f9 := (f_x).frozen 9
      have x_11 : w_4.cell? ⟨w.heap.size, 11, none⟩ = some (.int .u32 xto) := (f_x).cell 11
      have x_f11 := (f_x).frozen 11
      have x_12 : w_4.cell? ⟨w.heap.size, 12, none⟩ = some (.int .u32 xlg) := (f_x).cell 12
      have x_f12 := (f_x).frozen 12
      have x_13 : w_4.cell? ⟨w.heap.size, 13, none⟩ = some (.int .u16 xcd) := (f_x).cell 13
      have x_f13 := (f_x).frozen 13
      have x_14 : w_4.cell? ⟨w.heap.size, 14, none⟩ = some (.int .u16 xfl) := (f_x).cell 14
      have x_f14 := (f_x).frozen 14
      replace f_x := Lib.hid f_x
      have z_0 : w_4.cell? ⟨w_1.heap.size, 0, none⟩ = some (.int .u64 0) := (f_z).cell 0
      have z_1 : w_4.cell? ⟨w_1.heap.size, 1, none⟩ = some (.int .u64 0) := (f_z).cell 1
      have z_f0 := (f_z).frozen 0
      have z_f1 := (f_z).frozen 1
      have z_l := (f_z).lt
      replace f_z := Lib.hid f_z
      have t_0 : w_4.cell? ⟨w_1.heap.size + 1, 0, none⟩ = some (.int .u64 18446744073709551615) := (f_t).cell 0
      have t_1 : w_4.cell? ⟨w_1.heap.size + 1, 1, none⟩ = some (.int .u64 18446744073709551615) := (f_t).cell 1
      have t_f0 := (f_t).frozen 0
      have t_f1 := (f_t).frozen 1
      have t_l := (f_t).lt
      replace f_t := Lib.hid f_t
      replace hB_4 := Lib.hid hB_4
      cases p64
      case true =>

        go_wp2_with fail
        refine (HP2.out _).mono ?_
        rintro e w_5 ⟨rfl, hb_5⟩
        have z_5 := hb_5.size
        try simp at z_5
        have t_ := hB_4.out
        have hB_5 := bel_eld (w := w) (X := _) (by first | ((repeat (first | with_reducible exact Below.refl _ _ | with_reducible assumption | (with_reducible refine bel_set ?_ (by first | exact Nat.le_refl _ | (simp; done) | (simp; omega) | omega) _) | with_reducible refine bel_grow ?_ _ | with_reducible refine Below.drew ?_ | with_reducible refine below_drewN ?_ _ | with_reducible refine bel_alloc ?_ _ | with_reducible refine bel_trans ?_ (by assumption))); done) | (repeat (first | exact Below.refl _ _ | assumption | refine below_drewN ?_ _ | refine bel_grow ?_ _ | refine Below.drew ?_ | refine bel_alloc ?_ _ | refine bel_set ?_ (by first | exact Nat.le_refl _ | (simp; done) | (simp; omega) | omega) _ | refine bel_trans ?_ (by assumption)))) hb_5
        clear t_
        have t_x := f_x.out
        have t_z := f_z.out
        have t_t := f_t.out
        have g_x : Blk w_5 (w.heap.size) 28 #[.int .u64 xi1, .int .u64 xi2, .int .u64 xd1, .int .u64 xd2, .int .u64 xc1, .int .u64 xc2, .int .u64 xm1, .int .u64 xm2, .int .u64 xw1, .int .u64 xw2, .int .u64 xtg, .int .u32 xto, .int .u32 xlg, .int .u16 xcd, .int .u16 xfl, .int .u64 xst] := by
          refine Blk.kept ?_ hb_5
          (repeat (first | with_reducible assumption | (with_reducible refine Blk.new' ?_; first | with_reducible rfl | (simp; done)) | with_reducible refine Blk.alloc ?_ _ | with_reducible refine Blk.grow ?_ _ | with_reducible refine Blk.drew ?_ | with_reducible refine Blk.drewN ?_ _ | (with_reducible refine Blk.far ?_ (by first | (dsimp only; omega) | (simp; omega)) _) | (with_reducible apply Blk.two) | (with_reducible refine Blk.set' ?_ _ _ ?_) | (with_reducible rfl) | rfl))
        have g_z : Blk w_5 (w_1.heap.size) 24 #[.int .u64 0, .int .u64 0] := by
          refine Blk.kept ?_ hb_5
          (repeat (first | with_reducible assumption | (with_reducible refine Blk.new' ?_; first | with_reducible rfl | (simp; done)) | with_reducible refine Blk.alloc ?_ _ | with_reducible refine Blk.grow ?_ _ | with_reducible refine Blk.drew ?_ | with_reducible refine Blk.drewN ?_ _ | (with_reducible refine Blk.far ?_ (by first | (dsimp only; omega) | (simp; omega)) _) | (with_reducible apply Blk.two) | (with_reducible refine Blk.set' ?_ _ _ ?_) | (with_reducible rfl) | rfl))
        have g_t : Blk w_5 (w_1.heap.size + 1) 24 #[.int .u64 18446744073709551615, .int .u64 18446744073709551615] := by
          refine Blk.kept ?_ hb_5
          (repeat (first | with_reducible assumption | (with_reducible refine Blk.new' ?_; first | with_reducible rfl | (simp; done)) | with_reducible refine Blk.alloc ?_ _ | with_reducible refine Blk.grow ?_ _ | with_reducible refine Blk.drew ?_ | with_reducible refine Blk.drewN ?_ _ | (with_reducible refine Blk.far ?_ (by first | (dsimp only; omega) | (simp; omega)) _) | (with_reducible apply Blk.two) | (with_reducible refine Blk.set' ?_ _ _ ?_) | (with_reducible rfl) | rfl))
        clear f_x x_l r_x x_2 x_f2 x_3 x_f3 x_4 x_f4 x_5 x_f5 x_8 x_f8 x_9 x_f9 x_11 x_f11 x_12 x_f12 x_13 x_f13 x_14 x_f14 f_z z_l z_0 z_1 z_f0 z_f1 f_t t_l t_0 t_1 t_f0 t_f1 t_x t_z t_t hB_4 hb_5
        have f_x := g_x
        clear g_x
        have f_z := g_z
        clear g_z
        have f_t := g_t
        clear g_t
        have r_x := rowAt_blk f_x
        have x_l := f_x.lt
        have x_2 : w_5.cell? ⟨w.heap.size, 2, none⟩ = some (.int .u64 xd1) := (f_x).cell 2
        have x_f2 := (f_x).frozen 2
        have x_3 : w_5.cell? ⟨w.heap.size, 3, none⟩ = some (.int .u64 xd2) := (f_x).cell 3
        have x_f3 := (f_x).frozen 3
        have x_4 : w_5.cell? ⟨w.heap.size, 4, none⟩ = some (.int .u64 xc1) := (f_x).cell 4
        have x_f4 := (f_x).frozen 4
        have x_5 : w_5.cell? ⟨w.heap.size, 5, none⟩ = some (.int .u64 xc2) := (f_x).cell 5
        have x_f5 := (f_x).frozen 5
        have x_8 : w_5.cell? ⟨w.heap.size, 8, none⟩ = some (.int .u64 xw1) := (f_x).cell 8
        have x_f8 := (f_x).frozen 8
        have x_9 : w_5.cell? ⟨w.heap.size, 9, none⟩ = some (.int .u64 xw2) := (f_x).cell 9
        have x_f9 := (f_x).frozen 9
        have x_11 : w_5.cell? ⟨w.heap.size, 11, none⟩ = some (.int .u32 xto) := (f_x).cell 11
        have x_f11 := (f_x).frozen 11
        have x_12 : w_5.cell? ⟨w.heap.size, 12, none⟩ = some (.int .u32 xlg) := (f_x).cell 12
        have x_f12 := (f_x).frozen 12
        have x_13 : w_5.cell? ⟨w.heap.size, 13, none⟩ = some (.int .u16 xcd) := (f_x).cell 13
        have x_f13 := (f_x).frozen 13
        have x_14 : w_5.cell? ⟨w.heap.size, 14, none⟩ = some (.int .u16 xfl) := (f_x).cell 14
        have x_f14 := (f_x).frozen 14
        replace f_x := Lib.hid f_x
        have z_0 : w_5.cell? ⟨w_1.heap.size, 0, none⟩ = some (.int .u64 0) := (f_z).cell 0
        have z_1 : w_5.cell? ⟨w_1.heap.size, 1, none⟩ = some (.int .u64 0) := (f_z).cell 1
        have z_f0 := (f_z).frozen 0
        have z_f1 := (f_z).frozen 1
        have z_l := (f_z).lt
        replace f_z := Lib.hid f_z
        have t_0 : w_5.cell? ⟨w_1.heap.size + 1, 0, none⟩ = some (.int .u64 18446744073709551615) := (f_t).cell 0
        have t_1 : w_5.cell? ⟨w_1.heap.size + 1, 1, none⟩ = some (.int .u64 18446744073709551615) := (f_t).cell 1
        have t_f0 := (f_t).frozen 0
        have t_f1 := (f_t).frozen 1
        have t_l := (f_t).lt
        replace f_t := Lib.hid f_t
        replace hB_5 := Lib.hid hB_5
        cases l0 <;> cases k0
        all_goals (
          go_wp2_with fail
          go_ret
          exact ⟨by first | rfl | simp [pwordsV, pnamesV, pfieldsV], by have t_B := hB_5.out; (repeat (first | with_reducible exact Below.refl _ _ | with_reducible assumption | (with_reducible refine bel_set ?_ (by first | exact Nat.le_refl _ | (simp; done) | (simp; omega) | omega) _) | with_reducible refine bel_grow ?_ _ | with_reducible refine Below.drew ?_ | with_reducible refine bel_alloc ?_ _ | with_reducible refine bel_eld ?_ (by assumption)))⟩)
      case false =>

        go_wp2_with fail
        refine (HP128.out _).mono ?_
        rintro e w_5 ⟨rfl, hb_5⟩
        have z_5 := hb_5.size
        try simp at z_5
        have t_ := hB_4.out
        have hB_5 := bel_eld (w := w) (X := _) (by first | ((repeat (first | with_reducible exact Below.refl _ _ | with_reducible assumption | (with_reducible refine bel_set ?_ (by first | exact Nat.le_refl _ | (simp; done) | (simp; omega) | omega) _) | with_reducible refine bel_grow ?_ _ | with_reducible refine Below.drew ?_ | with_reducible refine below_drewN ?_ _ | with_reducible refine bel_alloc ?_ _ | with_reducible refine bel_trans ?_ (by assumption))); done) | (repeat (first | exact Below.refl _ _ | assumption | refine below_drewN ?_ _ | refine bel_grow ?_ _ | refine Below.drew ?_ | refine bel_alloc ?_ _ | refine bel_set ?_ (by first | exact Nat.le_refl _ | (simp; done) | (simp; omega) | omega) _ | refine bel_trans ?_ (by assumption)))) hb_5
        clear t_
        have t_x := f_x.out
        have t_z := f_z.out
        have t_t := f_t.out
        have g_x : Blk w_5 (w.heap.size) 28 #[.int .u64 xi1, .int .u64 xi2, .int .u64 xd1, .int .u64 xd2, .int .u64 xc1, .int .u64 xc2, .int .u64 xm1, .int .u64 xm2, .int .u64 xw1, .int .u64 xw2, .int .u64 xtg, .int .u32 xto, .int .u32 xlg, .int .u16 xcd, .int .u16 xfl, .int .u64 xst] := by
          refine Blk.kept ?_ hb_5
          (repeat (first | with_reducible assumption | (with_reducible refine Blk.new' ?_; first | with_reducible rfl | (simp; done)) | with_reducible refine Blk.alloc ?_ _ | with_reducible refine Blk.grow ?_ _ | with_reducible refine Blk.drew ?_ | with_reducible refine Blk.drewN ?_ _ | (with_reducible refine Blk.far ?_ (by first | (dsimp only; omega) | (simp; omega)) _) | (with_reducible apply Blk.two) | (with_reducible refine Blk.set' ?_ _ _ ?_) | (with_reducible rfl) | rfl))
        have g_z : Blk w_5 (w_1.heap.size) 24 #[.int .u64 0, .int .u64 0] := by
          refine Blk.kept ?_ hb_5
          (repeat (first | with_reducible assumption | (with_reducible refine Blk.new' ?_; first | with_reducible rfl | (simp; done)) | with_reducible refine Blk.alloc ?_ _ | with_reducible refine Blk.grow ?_ _ | with_reducible refine Blk.drew ?_ | with_reducible refine Blk.drewN ?_ _ | (with_reducible refine Blk.far ?_ (by first | (dsimp only; omega) | (simp; omega)) _) | (with_reducible apply Blk.two) | (with_reducible refine Blk.set' ?_ _ _ ?_) | (with_reducible rfl) | rfl))
        have g_t : Blk w_5 (w_1.heap.size + 1) 24 #[.int .u64 18446744073709551615, .int .u64 18446744073709551615] := by
          refine Blk.kept ?_ hb_5
          (repeat (first | with_reducible assumption | (with_reducible refine Blk.new' ?_; first | with_reducible rfl | (simp; done)) | with_reducible refine Blk.alloc ?_ _ | with_reducible refine Blk.grow ?_ _ | with_reducible refine Blk.drew ?_ | with_reducible refine Blk.drewN ?_ _ | (with_reducible refine Blk.far ?_ (by first | (dsimp only; omega) | (simp; omega)) _) | (with_reducible apply Blk.two) | (with_reducible refine Blk.set' ?_ _ _ ?_) | (with_reducible rfl) | rfl))
        clear f_x x_l r_x x_2 x_f2 x_3 x_f3 x_4 x_f4 x_5 x_f5 x_8 x_f8 x_9 x_f9 x_11 x_f11 x_12 x_f12 x_13 x_f13 x_14 x_f14 f_z z_l z_0 z_1 z_f0 z_f1 f_t t_l t_0 t_1 t_f0 t_f1 t_x t_z t_t hB_4 hb_5
        have f_x := g_x
        clear g_x
        have f_z := g_z
        clear g_z
        have f_t := g_t
        clear g_t
        have r_x := rowAt_blk f_x
        have x_l := f_x.lt
        have x_2 : w_5.cell? ⟨w.heap.size, 2, none⟩ = some (.int .u64 xd1) := (f_x).cell 2
        have x_f2 := (f_x).frozen 2
        have x_3 : w_5.cell? ⟨w.heap.size, 3, none⟩ = some (.int .u64 xd2) := (f_x).cell 3
        have x_f3 := (f_x).frozen 3
        have x_4 : w_5.cell? ⟨w.heap.size, 4, none⟩ = some (.int .u64 xc1) := (f_x).cell 4
        have x_f4 := (f_x).frozen 4
        have x_5 : w_5.cell? ⟨w.heap.size, 5, none⟩ = some (.int .u64 xc2) := (f_x).cell 5
        have x_f5 := (f_x).frozen 5
        have x_8 : w_5.cell? ⟨w.heap.size, 8, none⟩ = some (.int .u64 xw1) := (f_x).cell 8
        have x_f8 := (f_x).frozen 8
        have x_9 : w_5.cell? ⟨w.heap.size, 9, none⟩ = some (.int .u64 xw2) := (f_x).cell 9
        have x_f9 := (f_x).frozen 9
        have x_11 : w_5.cell? ⟨w.heap.size, 11, none⟩ = some (.int .u32 xto) := (f_x).cell 11
        have x_f11 := (f_x).frozen 11
        have x_12 : w_5.cell? ⟨w.heap.size, 12, none⟩ = some (.int .u32 xlg) := (f_x).cell 12
        have x_f12 := (f_x).frozen 12
        have x_13 : w_5.cell? ⟨w.heap.size, 13, none⟩ = some (.int .u16 xcd) := (f_x).cell 13
        have x_f13 := (f_x).frozen 13
        have x_14 : w_5.cell? ⟨w.heap.size, 14, none⟩ = some (.int .u16 xfl) := (f_x).cell 14
        have x_f14 := (f_x).frozen 14
        replace f_x := Lib.hid f_x
        have z_0 : w_5.cell? ⟨w_1.heap.size, 0, none⟩ = some (.int .u64 0) := (f_z).cell 0
        have z_1 : w_5.cell? ⟨w_1.heap.size, 1, none⟩ = some (.int .u64 0) := (f_z).cell 1
        have z_f0 := (f_z).frozen 0
        have z_f1 := (f_z).frozen 1
        have z_l := (f_z).lt
        replace f_z := Lib.hid f_z
        have t_0 : w_5.cell? ⟨w_1.heap.size + 1, 0, none⟩ = some (.int .u64 18446744073709551615) := (f_t).cell 0
        have t_1 : w_5.cell? ⟨w_1.heap.size + 1, 1, none⟩ = some (.int .u64 18446744073709551615) := (f_t).cell 1
        have t_f0 := (f_t).frozen 0
        have t_f1 := (f_t).frozen 1
        have t_l := (f_t).lt
        replace f_t := Lib.hid f_t
        replace hB_5 := Lib.hid hB_5
        cases p128
        case true =>
          go_wp2_with fail
          refine (HP2.out _).mono ?_
          rintro e w_6 ⟨rfl, hb_6⟩
          have z_6 := hb_6.size
          try simp at z_6
          have t_ := hB_5.out
          have hB_6 := bel_eld (w := w) (X := _) (by first | ((repeat (first | with_reducible exact Below.refl _ _ | with_reducible assumption | (with_reducible refine bel_set ?_ (by first | exact Nat.le_refl _ | (simp; done) | (simp; omega) | omega) _) | with_reducible refine bel_grow ?_ _ | with_reducible refine Below.drew ?_ | with_reducible refine below_drewN ?_ _ | with_reducible refine bel_alloc ?_ _ | with_reducible refine bel_trans ?_ (by assumption))); done) | (repeat (first | exact Below.refl _ _ | assumption | refine below_drewN ?_ _ | refine bel_grow ?_ _ | refine Below.drew ?_ | refine bel_alloc ?_ _ | refine bel_set ?_ (by first | exact Nat.le_refl _ | (simp; done) | (simp; omega) | omega) _ | refine bel_trans ?_ (by assumption)))) hb_6
          clear t_
          have t_x := f_x.out
          have t_z := f_z.out
          have t_t := f_t.out
          have g_x : Blk w_6 (w.heap.size) 28 #[.int .u64 xi1, .int .u64 xi2, .int .u64 xd1, .int .u64 xd2, .int .u64 xc1, .int .u64 xc2, .int .u64 xm1, .int .u64 xm2, .int .u64 xw1, .int .u64 xw2, .int .u64 xtg, .int .u32 xto, .int .u32 xlg, .int .u16 xcd, .int .u16 xfl, .int .u64 xst] := by
            refine Blk.kept ?_ hb_6
            (repeat (first | with_reducible assumption | (with_reducible refine Blk.new' ?_; first | with_reducible rfl | (simp; done)) | with_reducible refine Blk.alloc ?_ _ | with_reducible refine Blk.grow ?_ _ | with_reducible refine Blk.drew ?_ | with_reducible refine Blk.drewN ?_ _ | (with_reducible refine Blk.far ?_ (by first | (dsimp only; omega) | (simp; omega)) _) | (with_reducible apply Blk.two) | (with_reducible refine Blk.set' ?_ _ _ ?_) | (with_reducible rfl) | rfl))
          have g_z : Blk w_6 (w_1.heap.size) 24 #[.int .u64 0, .int .u64 0] := by
            refine Blk.kept ?_ hb_6
            (repeat (first | with_reducible assumption | (with_reducible refine Blk.new' ?_; first | with_reducible rfl | (simp; done)) | with_reducible refine Blk.alloc ?_ _ | with_reducible refine Blk.grow ?_ _ | with_reducible refine Blk.drew ?_ | with_reducible refine Blk.drewN ?_ _ | (with_reducible refine Blk.far ?_ (by first | (dsimp only; omega) | (simp; omega)) _) | (with_reducible apply Blk.two) | (with_reducible refine Blk.set' ?_ _ _ ?_) | (with_reducible rfl) | rfl))
          have g_t : Blk w_6 (w_1.heap.size + 1) 24 #[.int .u64 18446744073709551615, .int .u64 18446744073709551615] := by
            refine Blk.kept ?_ hb_6
            (repeat (first | with_reducible assumption | (with_reducible refine Blk.new' ?_; first | with_reducible rfl | (simp; done)) | with_reducible refine Blk.alloc ?_ _ | with_reducible refine Blk.grow ?_ _ | with_reducible refine Blk.drew ?_ | with_reducible refine Blk.drewN ?_ _ | (with_reducible refine Blk.far ?_ (by first | (dsimp only; omega) | (simp; omega)) _) | (with_reducible apply Blk.two) | (with_reducible refine Blk.set' ?_ _ _ ?_) | (with_reducible rfl) | rfl))
          clear f_x x_l r_x x_2 x_f2 x_3 x_f3 x_4 x_f4 x_5 x_f5 x_8 x_f8 x_9 x_f9 x_11 x_f11 x_12 x_f12 x_13 x_f13 x_14 x_f14 f_z z_l z_0 z_1 z_f0 z_f1 f_t t_l t_0 t_1 t_f0 t_f1 t_x t_z t_t hB_5 hb_6
          have f_x := g_x
          clear g_x
          have f_z := g_z
          clear g_z
          have f_t := g_t
          clear g_t
          have r_x := rowAt_blk f_x
          have x_l := f_x.lt
          have x_2 : w_6.cell? ⟨w.heap.size, 2, none⟩ = some (.int .u64 xd1) := (f_x).cell 2
          have x_f2 := (f_x).frozen 2
          have x_3 : w_6.cell? ⟨w.heap.size, 3, none⟩ = some (.int .u64 xd2) := (f_x).cell 3
          have x_f3 := (f_x).frozen 3
          have x_4 : w_6.cell? ⟨w.heap.size, 4, none⟩ = some (.int .u64 xc1) := (f_x).cell 4
          have x_f4 := (f_x).frozen 4
          have x_5 : w_6.cell? ⟨w.heap.size, 5, none⟩ = some (.int .u64 xc2) := (f_x).cell 5
          have x_f5 := (f_x).frozen 5
          have x_8 : w_6.cell? ⟨w.heap.size, 8, none⟩ = some (.int .u64 xw1) := (f_x).cell 8
          have x_f8 := (f_x).frozen 8
          have x_9 : w_6.cell? ⟨w.heap.size, 9, none⟩ = some (.int .u64 xw2) := (f_x).cell 9
          have x_f9 := (f_x).frozen 9
          have x_11 : w_6.cell? ⟨w.heap.size, 11, none⟩ = some (.int .u32 xto) := (f_x).cell 11
          have x_f11 := (f_x).frozen 11
          have x_12 : w_6.cell? ⟨w.heap.size, 12, none⟩ = some (.int .u32 xlg) := (f_x).cell 12
          have x_f12 := (f_x).frozen 12
          have x_13 : w_6.cell? ⟨w.heap.size, 13, none⟩ = some (.int .u16 xcd) := (f_x).cell 13
          have x_f13 := (f_x).frozen 13
          have x_14 : w_6.cell? ⟨w.heap.size, 14, none⟩ = some (.int .u16 xfl) := (f_x).cell 14
          have x_f14 := (f_x).frozen 14
          replace f_x := Lib.hid f_x
          have z_0 : w_6.cell? ⟨w_1.heap.size, 0, none⟩ = some (.int .u64 0) := (f_z).cell 0
          have z_1 : w_6.cell? ⟨w_1.heap.size, 1, none⟩ = some (.int .u64 0) := (f_z).cell 1
          have z_f0 := (f_z).frozen 0
          have z_f1 := (f_z).frozen 1
          have z_l := (f_z).lt
          replace f_z := Lib.hid f_z
          have t_0 : w_6.cell? ⟨w_1.heap.size + 1, 0, none⟩ = some (.int .u64 18446744073709551615) := (f_t).cell 0
          have t_1 : w_6.cell? ⟨w_1.heap.size + 1, 1, none⟩ = some (.int .u64 18446744073709551615) := (f_t).cell 1
          have t_f0 := (f_t).frozen 0
          have t_f1 := (f_t).frozen 1
          have t_l := (f_t).lt
          replace f_t := Lib.hid f_t
          replace hB_6 := Lib.hid hB_6
          cases l0 <;> cases k0
          all_goals (
            go_wp2_with fail
            go_ret
            exact ⟨by first | rfl | simp [pwordsV, pnamesV, pfieldsV], by have t_B := hB_6.out; (repeat (first | with_reducible exact Below.refl _ _ | with_reducible assumption | (with_reducible refine bel_set ?_ (by first | exact Nat.le_refl _ | (simp; done) | (simp; omega) | omega) _) | with_reducible refine bel_grow ?_ _ | with_reducible refine Below.drew ?_ | with_reducible refine bel_alloc ?_ _ | with_reducible refine bel_eld ?_ (by assumption)))⟩)
        case false =>
          cases l0 <;> cases k0
          all_goals (
            go_wp2_with fail
            go_ret
            exact ⟨by first | rfl | simp [pwordsV, pnamesV, pfieldsV], by have t_B := hB_5.out; (repeat (first | with_reducible exact Below.refl _ _ | with_reducible assumption | (with_reducible refine bel_set ?_ (by first | exact Nat.le_refl _ | (simp; done) | (simp; omega) | omega) _) | with_reducible refine bel_grow ?_ _ | with_reducible refine Below.drew ?_ | with_reducible refine bel_alloc ?_ _ | with_reducible refine bel_eld ?_ (by assumption)))⟩)
end Go.Proofs.Ytpbnakoimlmhnaa
