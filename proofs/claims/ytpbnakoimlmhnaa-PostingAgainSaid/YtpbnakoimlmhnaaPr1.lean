/-
  posting.Made, walked.
-/
import Derived.Test.YtpbnakoimlmhnaaBm
import Derived.Test.YtpbnakoimlmhnaaEq
import Derived.Deep.DeepCutAuto
namespace Go.Proofs.Ytpbnakoimlmhnaa
set_option linter.unusedVariables false
set_option linter.unusedSimpArgs false
open Go.RowKit

attribute [local go_sem] loadV_ptr storeV_ptr one_func drew_hs ext_deb ext_cre ext_cols ext_acc
attribute [local go_sem ↓] load_Cols store_Cols load_Transfer store_Transfer load_Parties store_Parties load_Acct store_Acct
attribute [local go_sem] bK_is
attribute [local go_sem ↓] load_Kept store_Kept build_Kept
set_option maxRecDepth 8000 in
set_option maxHeartbeats 8000000 in
theorem made19_any (xi1 xi2 xd1 xd2 xc1 xc2 xm1 xm2 xw1 xw2 xtg xto xlg xcd xfl xst n1 n2 ss : Int) (w : World) : Calls Try.prog 30 #[.agg #[.int .u64 xi1, .int .u64 xi2, .int .u64 xd1, .int .u64 xd2, .int .u64 xc1, .int .u64 xc2, .int .u64 xm1, .int .u64 xm2, .int .u64 xw1, .int .u64 xw2, .int .u64 xtg, .int .u32 xto, .int .u32 xlg, .int .u16 xcd, .int .u16 xfl, .int .u64 xst], .agg #[.int .u64 n1, .int .u64 n2], .int .u64 ss] w fun r w' => r = .returned (.agg #[.int .u64 xi1, .int .u64 xi2, .int .u64 xd1, .int .u64 xd2, .int .u64 xc1, .int .u64 xc2, .int .u64 n1, .int .u64 n2, .int .u64 xw1, .int .u64 xw2, .int .u64 xtg, .int .u32 xto, .int .u32 xlg, .int .u16 xcd, .int .u16 xfl, .int .u64 ss, .int .u64 xm1, .int .u64 xm2]) ∧ Below w.heap.size w w' := by
  have hb0 := Below.refl w.heap.size w
  go_enter Try.func30, Try.ntmps30
  go_upto_region 1 with fail
  replace hb0 := Lib.hid hb0
  refine abs_wp (fun Y_ => Below w.heap.size w Y_ ∧ Blk Y_ (w.heap.size) 28 #[.int .u64 xi1, .int .u64 xi2, .int .u64 xd1, .int .u64 xd2, .int .u64 xc1, .int .u64 xc2, .int .u64 xm1, .int .u64 xm2, .int .u64 xw1, .int .u64 xw2, .int .u64 xtg, .int .u32 xto, .int .u32 xlg, .int .u16 xcd, .int .u16 xfl, .int .u64 xst] ∧ Blk Y_ (w.heap.size + 1) 24 #[.int .u64 n1, .int .u64 n2] ∧ Blk Y_ (w.heap.size + 2) 58 #[.int .u64 0, .int .u64 0, .int .u64 0, .int .u64 0, .int .u64 0, .int .u64 0, .int .u64 0, .int .u64 0, .int .u64 0, .int .u64 0, .int .u64 0, .int .u32 0, .int .u32 0, .int .u16 0, .int .u16 0, .int .u64 0, .int .u64 0, .int .u64 0]) ?_ ?_
  · have t_B := hb0.out
    refine ⟨by (repeat (first | with_reducible exact Below.refl _ _ | with_reducible assumption | (with_reducible refine bel_set ?_ (by first | exact Nat.le_refl _ | (simp; done) | (simp; omega) | omega) _) | with_reducible refine bel_grow ?_ _ | with_reducible refine Below.drew ?_ | with_reducible refine bel_alloc ?_ _ | with_reducible refine bel_eld ?_ (by assumption))), ?_, ?_, ?_⟩
    · (repeat (first | with_reducible assumption | (with_reducible refine Blk.new' ?_; first | with_reducible rfl | (simp; done)) | with_reducible refine Blk.alloc ?_ _ | with_reducible refine Blk.grow ?_ _ | with_reducible refine Blk.drew ?_ | with_reducible refine Blk.drewN ?_ _ | (with_reducible refine Blk.far ?_ (by first | (dsimp only; omega) | (simp; omega)) _) | (with_reducible apply Blk.two) | (with_reducible refine Blk.kept ?_ (by assumption)) | (with_reducible refine Blk.setRow ?_ (by first | rfl | (simp; done))) | (with_reducible refine Blk.setRow_far ?_ (by first | omega | (simp; omega)) _) | (with_reducible refine Blk.set' ?_ _ _ (by first | rfl | (simp; done)))))
    · (repeat (first | with_reducible assumption | (with_reducible refine Blk.new' ?_; first | with_reducible rfl | (simp; done)) | with_reducible refine Blk.alloc ?_ _ | with_reducible refine Blk.grow ?_ _ | with_reducible refine Blk.drew ?_ | with_reducible refine Blk.drewN ?_ _ | (with_reducible refine Blk.far ?_ (by first | (dsimp only; omega) | (simp; omega)) _) | (with_reducible apply Blk.two) | (with_reducible refine Blk.kept ?_ (by assumption)) | (with_reducible refine Blk.setRow ?_ (by first | rfl | (simp; done))) | (with_reducible refine Blk.setRow_far ?_ (by first | omega | (simp; omega)) _) | (with_reducible refine Blk.set' ?_ _ _ (by first | rfl | (simp; done)))))
    · (repeat (first | with_reducible assumption | (with_reducible refine Blk.new' ?_; first | with_reducible rfl | (simp; done)) | with_reducible refine Blk.alloc ?_ _ | with_reducible refine Blk.grow ?_ _ | with_reducible refine Blk.drew ?_ | with_reducible refine Blk.drewN ?_ _ | (with_reducible refine Blk.far ?_ (by first | (dsimp only; omega) | (simp; omega)) _) | (with_reducible apply Blk.two) | (with_reducible refine Blk.kept ?_ (by assumption)) | (with_reducible refine Blk.setRow ?_ (by first | rfl | (simp; done))) | (with_reducible refine Blk.setRow_far ?_ (by first | omega | (simp; omega)) _) | (with_reducible refine Blk.set' ?_ _ _ (by first | rfl | (simp; done)))))
  clear hb0
  rintro X0 ⟨hB_1, f_x, f_n, f_r⟩
  have r_x := rowAt_blk f_x
  have x_l := f_x.lt
  have x_6 : X0.cell? ⟨w.heap.size, 6, none⟩ = some (.int .u64 xm1) := (f_x).cell 6
  have x_f6 := (f_x).frozen 6
  have x_7 : X0.cell? ⟨w.heap.size, 7, none⟩ = some (.int .u64 xm2) := (f_x).cell 7
  have x_f7 := (f_x).frozen 7
  replace f_x := Lib.hid f_x
  have n_0 : X0.cell? ⟨w.heap.size + 1, 0, none⟩ = some (.int .u64 n1) := (f_n).cell 0
  have n_1 : X0.cell? ⟨w.heap.size + 1, 1, none⟩ = some (.int .u64 n2) := (f_n).cell 1
  have n_f0 := (f_n).frozen 0
  have n_f1 := (f_n).frozen 1
  have n_l := (f_n).lt
  replace f_n := Lib.hid f_n
  have r_r := rowAt_blk f_r
  have r_l := f_r.lt
  replace f_r := Lib.hid f_r
  replace hB_1 := Lib.hid hB_1
  have zr0 := r_l
  go_upto_region 2 with fail
  refine abs_wp (fun Y_ => Below w.heap.size w Y_ ∧ Blk Y_ (w.heap.size) 28 #[.int .u64 xi1, .int .u64 xi2, .int .u64 xd1, .int .u64 xd2, .int .u64 xc1, .int .u64 xc2, .int .u64 xm1, .int .u64 xm2, .int .u64 xw1, .int .u64 xw2, .int .u64 xtg, .int .u32 xto, .int .u32 xlg, .int .u16 xcd, .int .u16 xfl, .int .u64 xst] ∧ Blk Y_ (w.heap.size + 1) 24 #[.int .u64 n1, .int .u64 n2] ∧ Blk Y_ (w.heap.size + 2) 58 #[.int .u64 0, .int .u64 0, .int .u64 0, .int .u64 0, .int .u64 0, .int .u64 0, .int .u64 0, .int .u64 0, .int .u64 0, .int .u64 0, .int .u64 0, .int .u32 0, .int .u32 0, .int .u16 0, .int .u16 0, .int .u64 0, .int .u64 0, .int .u64 0] ∧ Blk Y_ (X0.heap.size) 58 #[.int .u64 xi1, .int .u64 xi2, .int .u64 xd1, .int .u64 xd2, .int .u64 xc1, .int .u64 xc2, .int .u64 xm1, .int .u64 xm2, .int .u64 xw1, .int .u64 xw2, .int .u64 xtg, .int .u32 xto, .int .u32 xlg, .int .u16 xcd, .int .u16 xfl, .int .u64 xst, .int .u64 xm1, .int .u64 xm2]) ?_ ?_
  · have t_B := hB_1.out
    have t_x := f_x.out
    have t_n := f_n.out
    have t_r := f_r.out
    refine ⟨by (repeat (first | with_reducible exact Below.refl _ _ | with_reducible assumption | (with_reducible refine bel_set ?_ (by first | exact Nat.le_refl _ | (simp; done) | (simp; omega) | omega) _) | with_reducible refine bel_grow ?_ _ | with_reducible refine Below.drew ?_ | with_reducible refine bel_alloc ?_ _ | with_reducible refine bel_eld ?_ (by assumption))), ?_, ?_, ?_, ?_⟩
    · (repeat (first | with_reducible assumption | (with_reducible refine Blk.new' ?_; first | with_reducible rfl | (simp; done)) | with_reducible refine Blk.alloc ?_ _ | with_reducible refine Blk.grow ?_ _ | with_reducible refine Blk.drew ?_ | with_reducible refine Blk.drewN ?_ _ | (with_reducible refine Blk.far ?_ (by first | (dsimp only; omega) | (simp; omega)) _) | (with_reducible apply Blk.two) | (with_reducible refine Blk.kept ?_ (by assumption)) | (with_reducible refine Blk.setRow ?_ (by first | rfl | (simp; done))) | (with_reducible refine Blk.setRow_far ?_ (by first | omega | (simp; omega)) _) | (with_reducible refine Blk.set' ?_ _ _ (by first | rfl | (simp; done)))))
    · (repeat (first | with_reducible assumption | (with_reducible refine Blk.new' ?_; first | with_reducible rfl | (simp; done)) | with_reducible refine Blk.alloc ?_ _ | with_reducible refine Blk.grow ?_ _ | with_reducible refine Blk.drew ?_ | with_reducible refine Blk.drewN ?_ _ | (with_reducible refine Blk.far ?_ (by first | (dsimp only; omega) | (simp; omega)) _) | (with_reducible apply Blk.two) | (with_reducible refine Blk.kept ?_ (by assumption)) | (with_reducible refine Blk.setRow ?_ (by first | rfl | (simp; done))) | (with_reducible refine Blk.setRow_far ?_ (by first | omega | (simp; omega)) _) | (with_reducible refine Blk.set' ?_ _ _ (by first | rfl | (simp; done)))))
    · (repeat (first | with_reducible assumption | (with_reducible refine Blk.new' ?_; first | with_reducible rfl | (simp; done)) | with_reducible refine Blk.alloc ?_ _ | with_reducible refine Blk.grow ?_ _ | with_reducible refine Blk.drew ?_ | with_reducible refine Blk.drewN ?_ _ | (with_reducible refine Blk.far ?_ (by first | (dsimp only; omega) | (simp; omega)) _) | (with_reducible apply Blk.two) | (with_reducible refine Blk.kept ?_ (by assumption)) | (with_reducible refine Blk.setRow ?_ (by first | rfl | (simp; done))) | (with_reducible refine Blk.setRow_far ?_ (by first | omega | (simp; omega)) _) | (with_reducible refine Blk.set' ?_ _ _ (by first | rfl | (simp; done)))))
    · (repeat (first | with_reducible assumption | (with_reducible refine Blk.new' ?_; first | with_reducible rfl | (simp; done)) | with_reducible refine Blk.alloc ?_ _ | with_reducible refine Blk.grow ?_ _ | with_reducible refine Blk.drew ?_ | with_reducible refine Blk.drewN ?_ _ | (with_reducible refine Blk.far ?_ (by first | (dsimp only; omega) | (simp; omega)) _) | (with_reducible apply Blk.two) | (with_reducible refine Blk.kept ?_ (by assumption)) | (with_reducible refine Blk.setRow ?_ (by first | rfl | (simp; done))) | (with_reducible refine Blk.setRow_far ?_ (by first | omega | (simp; omega)) _) | (with_reducible refine Blk.set' ?_ _ _ (by first | rfl | (simp; done)))))
  clear f_x x_l r_x x_6 x_f6 x_7 x_f7 f_n n_l n_0 n_1 n_f0 n_f1 f_r r_l r_r hB_1
  rintro X1 ⟨hB_2, f_x, f_n, f_r, f_k⟩
  have r_x := rowAt_blk f_x
  have x_l := f_x.lt
  have x_6 : X1.cell? ⟨w.heap.size, 6, none⟩ = some (.int .u64 xm1) := (f_x).cell 6
  have x_f6 := (f_x).frozen 6
  have x_7 : X1.cell? ⟨w.heap.size, 7, none⟩ = some (.int .u64 xm2) := (f_x).cell 7
  have x_f7 := (f_x).frozen 7
  replace f_x := Lib.hid f_x
  have n_0 : X1.cell? ⟨w.heap.size + 1, 0, none⟩ = some (.int .u64 n1) := (f_n).cell 0
  have n_1 : X1.cell? ⟨w.heap.size + 1, 1, none⟩ = some (.int .u64 n2) := (f_n).cell 1
  have n_f0 := (f_n).frozen 0
  have n_f1 := (f_n).frozen 1
  have n_l := (f_n).lt
  replace f_n := Lib.hid f_n
  have r_r := rowAt_blk f_r
  have r_l := f_r.lt
  replace f_r := Lib.hid f_r
  have r_k := rowAt_blk f_k
  have k_l := f_k.lt
  have k_6 : X1.cell? ⟨X0.heap.size, 6, none⟩ = some (.int .u64 xm1) := (f_k).cell 6
  have k_f6 := (f_k).frozen 6
  have k_7 : X1.cell? ⟨X0.heap.size, 7, none⟩ = some (.int .u64 xm2) := (f_k).cell 7
  have k_f7 := (f_k).frozen 7
  have k_15 : X1.cell? ⟨X0.heap.size, 15, none⟩ = some (.int .u64 xst) := (f_k).cell 15
  have k_f15 := (f_k).frozen 15
  replace f_k := Lib.hid f_k
  replace hB_2 := Lib.hid hB_2
  go_upto_region 3 with fail
  refine abs_wp (fun Y_ => Below w.heap.size w Y_ ∧ Blk Y_ (w.heap.size) 28 #[.int .u64 xi1, .int .u64 xi2, .int .u64 xd1, .int .u64 xd2, .int .u64 xc1, .int .u64 xc2, .int .u64 xm1, .int .u64 xm2, .int .u64 xw1, .int .u64 xw2, .int .u64 xtg, .int .u32 xto, .int .u32 xlg, .int .u16 xcd, .int .u16 xfl, .int .u64 xst] ∧ Blk Y_ (w.heap.size + 1) 24 #[.int .u64 n1, .int .u64 n2] ∧ Blk Y_ (w.heap.size + 2) 58 #[.int .u64 0, .int .u64 0, .int .u64 0, .int .u64 0, .int .u64 0, .int .u64 0, .int .u64 0, .int .u64 0, .int .u64 0, .int .u64 0, .int .u64 0, .int .u32 0, .int .u32 0, .int .u16 0, .int .u16 0, .int .u64 0, .int .u64 0, .int .u64 0] ∧ Blk Y_ (X0.heap.size) 58 #[.int .u64 xi1, .int .u64 xi2, .int .u64 xd1, .int .u64 xd2, .int .u64 xc1, .int .u64 xc2, .int .u64 n1, .int .u64 n2, .int .u64 xw1, .int .u64 xw2, .int .u64 xtg, .int .u32 xto, .int .u32 xlg, .int .u16 xcd, .int .u16 xfl, .int .u64 ss, .int .u64 xm1, .int .u64 xm2]) ?_ ?_
  · have t_B := hB_2.out
    have t_x := f_x.out
    have t_n := f_n.out
    have t_r := f_r.out
    have t_k := f_k.out
    refine ⟨by (repeat (first | with_reducible exact Below.refl _ _ | with_reducible assumption | (with_reducible refine bel_set ?_ (by first | exact Nat.le_refl _ | (simp; done) | (simp; omega) | omega) _) | with_reducible refine bel_grow ?_ _ | with_reducible refine Below.drew ?_ | with_reducible refine bel_alloc ?_ _ | with_reducible refine bel_eld ?_ (by assumption))), ?_, ?_, ?_, ?_⟩
    · (repeat (first | with_reducible assumption | (with_reducible refine Blk.new' ?_; first | with_reducible rfl | (simp; done)) | with_reducible refine Blk.alloc ?_ _ | with_reducible refine Blk.grow ?_ _ | with_reducible refine Blk.drew ?_ | with_reducible refine Blk.drewN ?_ _ | (with_reducible refine Blk.far ?_ (by first | (dsimp only; omega) | (simp; omega)) _) | (with_reducible apply Blk.two) | (with_reducible refine Blk.kept ?_ (by assumption)) | (with_reducible refine Blk.setRow ?_ (by first | rfl | (simp; done))) | (with_reducible refine Blk.setRow_far ?_ (by first | omega | (simp; omega)) _) | (with_reducible refine Blk.set' ?_ _ _ (by first | rfl | (simp; done)))))
    · (repeat (first | with_reducible assumption | (with_reducible refine Blk.new' ?_; first | with_reducible rfl | (simp; done)) | with_reducible refine Blk.alloc ?_ _ | with_reducible refine Blk.grow ?_ _ | with_reducible refine Blk.drew ?_ | with_reducible refine Blk.drewN ?_ _ | (with_reducible refine Blk.far ?_ (by first | (dsimp only; omega) | (simp; omega)) _) | (with_reducible apply Blk.two) | (with_reducible refine Blk.kept ?_ (by assumption)) | (with_reducible refine Blk.setRow ?_ (by first | rfl | (simp; done))) | (with_reducible refine Blk.setRow_far ?_ (by first | omega | (simp; omega)) _) | (with_reducible refine Blk.set' ?_ _ _ (by first | rfl | (simp; done)))))
    · (repeat (first | with_reducible assumption | (with_reducible refine Blk.new' ?_; first | with_reducible rfl | (simp; done)) | with_reducible refine Blk.alloc ?_ _ | with_reducible refine Blk.grow ?_ _ | with_reducible refine Blk.drew ?_ | with_reducible refine Blk.drewN ?_ _ | (with_reducible refine Blk.far ?_ (by first | (dsimp only; omega) | (simp; omega)) _) | (with_reducible apply Blk.two) | (with_reducible refine Blk.kept ?_ (by assumption)) | (with_reducible refine Blk.setRow ?_ (by first | rfl | (simp; done))) | (with_reducible refine Blk.setRow_far ?_ (by first | omega | (simp; omega)) _) | (with_reducible refine Blk.set' ?_ _ _ (by first | rfl | (simp; done)))))
    · first | exact Blk.eqv (((t_k.set_ 6 _).set_ 7 _).set_ 15 _) (by first | rfl | simp) | (repeat (first | with_reducible assumption | (with_reducible refine Blk.new' ?_; first | with_reducible rfl | (simp; done)) | with_reducible refine Blk.alloc ?_ _ | with_reducible refine Blk.grow ?_ _ | with_reducible refine Blk.drew ?_ | with_reducible refine Blk.drewN ?_ _ | (with_reducible refine Blk.far ?_ (by first | (dsimp only; omega) | (simp; omega)) _) | (with_reducible apply Blk.two) | (with_reducible refine Blk.kept ?_ (by assumption)) | (with_reducible refine Blk.setRow ?_ (by first | rfl | (simp; done))) | (with_reducible refine Blk.setRow_far ?_ (by first | omega | (simp; omega)) _) | (with_reducible refine Blk.set' ?_ _ _ (by first | rfl | (simp; done)))))
  clear f_x x_l r_x x_6 x_f6 x_7 x_f7 f_n n_l n_0 n_1 n_f0 n_f1 f_r r_l r_r f_k k_l r_k hB_2
  rintro X2 ⟨hB_3, f_x, f_n, f_r, f_k⟩
  have r_x := rowAt_blk f_x
  have x_l := f_x.lt
  have x_6 : X2.cell? ⟨w.heap.size, 6, none⟩ = some (.int .u64 xm1) := (f_x).cell 6
  have x_f6 := (f_x).frozen 6
  have x_7 : X2.cell? ⟨w.heap.size, 7, none⟩ = some (.int .u64 xm2) := (f_x).cell 7
  have x_f7 := (f_x).frozen 7
  replace f_x := Lib.hid f_x
  have n_0 : X2.cell? ⟨w.heap.size + 1, 0, none⟩ = some (.int .u64 n1) := (f_n).cell 0
  have n_1 : X2.cell? ⟨w.heap.size + 1, 1, none⟩ = some (.int .u64 n2) := (f_n).cell 1
  have n_f0 := (f_n).frozen 0
  have n_f1 := (f_n).frozen 1
  have n_l := (f_n).lt
  replace f_n := Lib.hid f_n
  have r_r := rowAt_blk f_r
  have r_l := f_r.lt
  replace f_r := Lib.hid f_r
  have r_k := rowAt_blk f_k
  have k_l := f_k.lt
  replace f_k := Lib.hid f_k
  replace hB_3 := Lib.hid hB_3
  go_wp2_with fail
  refine abs_post (fun Y_ => Below w.heap.size w Y_ ∧ Blk Y_ (w.heap.size + 2) 58 #[.int .u64 xi1, .int .u64 xi2, .int .u64 xd1, .int .u64 xd2, .int .u64 xc1, .int .u64 xc2, .int .u64 n1, .int .u64 n2, .int .u64 xw1, .int .u64 xw2, .int .u64 xtg, .int .u32 xto, .int .u32 xlg, .int .u16 xcd, .int .u16 xfl, .int .u64 ss, .int .u64 xm1, .int .u64 xm2]) ?_ ?_
  · have t_B := hB_3.out
    have t_x := f_x.out
    have t_n := f_n.out
    have t_r := f_r.out
    have t_k := f_k.out
    exact ⟨by (repeat (first | with_reducible exact Below.refl _ _ | with_reducible assumption | (with_reducible refine bel_set ?_ (by first | exact Nat.le_refl _ | (simp; done) | (simp; omega) | omega) _) | with_reducible refine bel_grow ?_ _ | with_reducible refine Below.drew ?_ | with_reducible refine bel_alloc ?_ _ | (with_reducible refine below_setRow ?_ (by first | omega | (simp; omega)) _) | with_reducible refine bel_eld ?_ (by assumption))), by (repeat (first | with_reducible assumption | (with_reducible refine Blk.new' ?_; first | with_reducible rfl | (simp; done)) | with_reducible refine Blk.alloc ?_ _ | with_reducible refine Blk.grow ?_ _ | with_reducible refine Blk.drew ?_ | with_reducible refine Blk.drewN ?_ _ | (with_reducible refine Blk.far ?_ (by first | (dsimp only; omega) | (simp; omega)) _) | (with_reducible apply Blk.two) | (with_reducible refine Blk.kept ?_ (by assumption)) | (with_reducible refine Blk.setRow (by assumption) (by first | rfl | (simp; done))) | (with_reducible refine Blk.setRow_far ?_ (by first | omega | (simp; omega)) _) | (with_reducible refine Blk.set' ?_ _ _ (by first | rfl | (simp; done)))))⟩
  rintro Y_ ⟨bZ_, gP_⟩
  have HLV := loadVar_blk (ty := 58) Try.underlying58 rfl (by kernel_rfl) gP_ rfl
  refine bodyPost_ret (v := .agg #[.int .u64 xi1, .int .u64 xi2, .int .u64 xd1, .int .u64 xd2, .int .u64 xc1, .int .u64 xc2, .int .u64 n1, .int .u64 n2, .int .u64 xw1, .int .u64 xw2, .int .u64 xtg, .int .u32 xto, .int .u32 xlg, .int .u16 xcd, .int .u16 xfl, .int .u64 ss, .int .u64 xm1, .int .u64 xm2]) (results_c Try.results30 rfl HLV) rfl ⟨by first | rfl | (rw [hk.out]; rfl), bZ_⟩
end Go.Proofs.Ytpbnakoimlmhnaa
