/-
  BalanceEven, walked.
-/
import Derived.Test.YtpbnakoimlmhnaaBm
import Derived.Test.YtpbnakoimlmhnaaBj8
import Derived.Deep.RegionHeld
import Derived.Deep.DeepCutAuto
namespace Go.Proofs.Ytpbnakoimlmhnaa
set_option linter.unusedVariables false
set_option linter.unusedSimpArgs false
open Go.RowKit

attribute [local go_sem] loadV_ptr storeV_ptr one_func drew_hs ext_deb ext_cre ext_cols ext_acc
attribute [local go_sem ↓] load_Cols store_Cols load_Transfer store_Transfer load_Parties store_Parties load_Acct store_Acct
attribute [local go_sem ↓] eqlParties
set_option maxRecDepth 8000 in
set_option maxHeartbeats 8000000 in
theorem even_yes_true (xi1 xi2 xd1 xd2 xc1 xc2 xm1 xm2 xw1 xw2 xtg xto xlg xcd xfl xst n1 n2 ai1 ai2 ap1 ap2 aq1 aq2 ar1 ar2 as1 as2 atg alg acd afl ast ei1 ei2 ep1 ep2 eq1 eq2 er1 er2 es1 es2 etg elg ecd efl est h1 l1 h2 l2 fd fc : Int) (hd hc : Bool) (hpen : (bits .and .u16 xfl 2 != 0) = true) (F1 : (bits .andNot .u16 (bits .xor .u16 fd afl) 16 == 0) = true) (F2 : (bits .andNot .u16 (bits .xor .u16 fc efl) 16 == 0) = true)
    (HX : ∀ w, Calls Try.prog 15 #[] w fun r w' => r = .returned (.bool true) ∧ Below w.heap.size w w')
    (HM : ∀ w, Calls Try.prog 14 #[.agg #[.int .u64 xi1, .int .u64 xi2, .int .u64 xd1, .int .u64 xd2, .int .u64 xc1, .int .u64 xc2, .int .u64 xm1, .int .u64 xm2, .int .u64 xw1, .int .u64 xw2, .int .u64 xtg, .int .u32 xto, .int .u32 xlg, .int .u16 xcd, .int .u16 xfl, .int .u64 xst], .agg #[.int .u64 n1, .int .u64 n2], .agg #[.int .u64 ai1, .int .u64 ai2, .int .u64 ap1, .int .u64 ap2, .int .u64 aq1, .int .u64 aq2, .int .u64 ar1, .int .u64 ar2, .int .u64 as1, .int .u64 as2, .int .u64 atg, .int .u32 alg, .int .u16 acd, .int .u16 afl, .int .u64 ast, .int .u64 ei1, .int .u64 ei2, .int .u64 ep1, .int .u64 ep2, .int .u64 eq1, .int .u64 eq2, .int .u64 er1, .int .u64 er2, .int .u64 es1, .int .u64 es2, .int .u64 etg, .int .u32 elg, .int .u16 ecd, .int .u16 efl, .int .u64 est, .bool hd, .bool hc]] w fun r w' => r = .returned (.tuple #[.agg #[.int .u64 ai1, .int .u64 ai2, .int .u64 h1, .int .u64 l1, .int .u64 aq1, .int .u64 aq2, .int .u64 ar1, .int .u64 ar2, .int .u64 as1, .int .u64 as2, .int .u64 atg, .int .u32 alg, .int .u16 acd, .int .u16 fd, .int .u64 ast, .int .u64 ei1, .int .u64 ei2, .int .u64 ep1, .int .u64 ep2, .int .u64 eq1, .int .u64 eq2, .int .u64 h2, .int .u64 l2, .int .u64 es1, .int .u64 es2, .int .u64 etg, .int .u32 elg, .int .u16 ecd, .int .u16 fc, .int .u64 est, .bool hd, .bool hc], .bool true]) ∧ Below w.heap.size w w')
    (HS1 : ∀ w, Calls Try.prog 16 #[.agg #[.int .u64 h1, .int .u64 l1], .agg #[.int .u64 n1, .int .u64 n2]] w fun r w' => r = .returned (.tuple #[.agg #[.int .u64 ap1, .int .u64 ap2], .bool true]) ∧ Below w.heap.size w w')
    (HS2 : ∀ w, Calls Try.prog 16 #[.agg #[.int .u64 h2, .int .u64 l2], .agg #[.int .u64 n1, .int .u64 n2]] w fun r w' => r = .returned (.tuple #[.agg #[.int .u64 er1, .int .u64 er2], .bool true]) ∧ Below w.heap.size w w')
    (w : World) : Calls Try.prog 3 #[.agg #[.int .u64 xi1, .int .u64 xi2, .int .u64 xd1, .int .u64 xd2, .int .u64 xc1, .int .u64 xc2, .int .u64 xm1, .int .u64 xm2, .int .u64 xw1, .int .u64 xw2, .int .u64 xtg, .int .u32 xto, .int .u32 xlg, .int .u16 xcd, .int .u16 xfl, .int .u64 xst], .agg #[.int .u64 n1, .int .u64 n2], .agg #[.int .u64 ai1, .int .u64 ai2, .int .u64 ap1, .int .u64 ap2, .int .u64 aq1, .int .u64 aq2, .int .u64 ar1, .int .u64 ar2, .int .u64 as1, .int .u64 as2, .int .u64 atg, .int .u32 alg, .int .u16 acd, .int .u16 afl, .int .u64 ast, .int .u64 ei1, .int .u64 ei2, .int .u64 ep1, .int .u64 ep2, .int .u64 eq1, .int .u64 eq2, .int .u64 er1, .int .u64 er2, .int .u64 es1, .int .u64 es2, .int .u64 etg, .int .u32 elg, .int .u16 ecd, .int .u16 efl, .int .u64 est, .bool hd, .bool hc]] w fun r w' => r = .returned (.bool true) ∧ Below w.heap.size w w' := by
  replace HX := Lib.hid HX
  replace HM := Lib.hid HM
  replace HS1 := Lib.hid HS1
  replace HS2 := Lib.hid HS2
  have hb0 := Below.refl w.heap.size w
  go_enter Try.func3, Try.ntmps3
  replace hb0 := Lib.hid hb0
  go_wp2_with fail
  refine (HM.out _).mono ?_
  rintro e w_1 ⟨rfl, hb_1⟩
  have z_1 := hb_1.size
  try simp at z_1
  have t_ := hb0.out
  have hB_1 := bel_eld (w := w) (X := _) (by first | ((repeat (first | with_reducible exact Below.refl _ _ | with_reducible assumption | (with_reducible refine bel_set ?_ (by first | exact Nat.le_refl _ | (simp; done) | (simp; omega) | omega) _) | with_reducible refine bel_grow ?_ _ | with_reducible refine Below.drew ?_ | with_reducible refine below_drewN ?_ _ | with_reducible refine bel_alloc ?_ _ | with_reducible refine bel_trans ?_ (by assumption))); done) | (repeat (first | exact Below.refl _ _ | assumption | refine below_drewN ?_ _ | refine bel_grow ?_ _ | refine Below.drew ?_ | refine bel_alloc ?_ _ | refine bel_set ?_ (by first | exact Nat.le_refl _ | (simp; done) | (simp; omega) | omega) _ | refine bel_trans ?_ (by assumption)))) hb_1
  clear t_
  have g_x : Blk w_1 (w.heap.size) 28 #[.int .u64 xi1, .int .u64 xi2, .int .u64 xd1, .int .u64 xd2, .int .u64 xc1, .int .u64 xc2, .int .u64 xm1, .int .u64 xm2, .int .u64 xw1, .int .u64 xw2, .int .u64 xtg, .int .u32 xto, .int .u32 xlg, .int .u16 xcd, .int .u16 xfl, .int .u64 xst] := by
    refine Blk.kept ?_ hb_1
    (repeat (first | with_reducible assumption | (with_reducible refine Blk.new' ?_; first | with_reducible rfl | (simp; done)) | with_reducible refine Blk.alloc ?_ _ | with_reducible refine Blk.grow ?_ _ | with_reducible refine Blk.drew ?_ | with_reducible refine Blk.drewN ?_ _ | (with_reducible refine Blk.far ?_ (by first | (dsimp only; omega) | (simp; omega)) _) | (with_reducible apply Blk.two) | (with_reducible refine Blk.set' ?_ _ _ ?_) | (with_reducible rfl) | rfl))
  have g_n : Blk w_1 (w.heap.size + 1) 24 #[.int .u64 n1, .int .u64 n2] := by
    refine Blk.kept ?_ hb_1
    (repeat (first | with_reducible assumption | (with_reducible refine Blk.new' ?_; first | with_reducible rfl | (simp; done)) | with_reducible refine Blk.alloc ?_ _ | with_reducible refine Blk.grow ?_ _ | with_reducible refine Blk.drew ?_ | with_reducible refine Blk.drewN ?_ _ | (with_reducible refine Blk.far ?_ (by first | (dsimp only; omega) | (simp; omega)) _) | (with_reducible apply Blk.two) | (with_reducible refine Blk.set' ?_ _ _ ?_) | (with_reducible rfl) | rfl))
  have g_p : Blk w_1 (w.heap.size + 2) 32 #[.int .u64 ai1, .int .u64 ai2, .int .u64 ap1, .int .u64 ap2, .int .u64 aq1, .int .u64 aq2, .int .u64 ar1, .int .u64 ar2, .int .u64 as1, .int .u64 as2, .int .u64 atg, .int .u32 alg, .int .u16 acd, .int .u16 afl, .int .u64 ast, .int .u64 ei1, .int .u64 ei2, .int .u64 ep1, .int .u64 ep2, .int .u64 eq1, .int .u64 eq2, .int .u64 er1, .int .u64 er2, .int .u64 es1, .int .u64 es2, .int .u64 etg, .int .u32 elg, .int .u16 ecd, .int .u16 efl, .int .u64 est, .bool hd, .bool hc] := by
    refine Blk.kept ?_ hb_1
    (repeat (first | with_reducible assumption | (with_reducible refine Blk.new' ?_; first | with_reducible rfl | (simp; done)) | with_reducible refine Blk.alloc ?_ _ | with_reducible refine Blk.grow ?_ _ | with_reducible refine Blk.drew ?_ | with_reducible refine Blk.drewN ?_ _ | (with_reducible refine Blk.far ?_ (by first | (dsimp only; omega) | (simp; omega)) _) | (with_reducible apply Blk.two) | (with_reducible refine Blk.set' ?_ _ _ ?_) | (with_reducible rfl) | rfl))
  clear hb0 hb_1
  have f_x := g_x
  clear g_x
  have f_n := g_n
  clear g_n
  have f_p := g_p
  clear g_p
  have r_x := rowAt_blk f_x
  have x_l := f_x.lt
  have x_14 : w_1.cell? ⟨w.heap.size, 14, none⟩ = some (.int .u16 xfl) := (f_x).cell 14
  have x_f14 := (f_x).frozen 14
  replace f_x := Lib.hid f_x
  have n_0 : w_1.cell? ⟨w.heap.size + 1, 0, none⟩ = some (.int .u64 n1) := (f_n).cell 0
  have n_1 : w_1.cell? ⟨w.heap.size + 1, 1, none⟩ = some (.int .u64 n2) := (f_n).cell 1
  have n_f0 := (f_n).frozen 0
  have n_f1 := (f_n).frozen 1
  have n_l := (f_n).lt
  replace f_n := Lib.hid f_n
  have r_p := rowAt_blk f_p
  have p_l := f_p.lt
  have p_13 : w_1.cell? ⟨w.heap.size + 2, 13, none⟩ = some (.int .u16 afl) := (f_p).cell 13
  have p_f13 := (f_p).frozen 13
  have p_28 : w_1.cell? ⟨w.heap.size + 2, 28, none⟩ = some (.int .u16 efl) := (f_p).cell 28
  have p_f28 := (f_p).frozen 28
  replace f_p := Lib.hid f_p
  replace hB_1 := Lib.hid hB_1
  go_upto_region 5 with fail
  refine abs_wp (fun Y_ => Below w.heap.size w Y_ ∧ Blk Y_ (w.heap.size) 28 #[.int .u64 xi1, .int .u64 xi2, .int .u64 xd1, .int .u64 xd2, .int .u64 xc1, .int .u64 xc2, .int .u64 xm1, .int .u64 xm2, .int .u64 xw1, .int .u64 xw2, .int .u64 xtg, .int .u32 xto, .int .u32 xlg, .int .u16 xcd, .int .u16 xfl, .int .u64 xst] ∧ Blk Y_ (w.heap.size + 1) 24 #[.int .u64 n1, .int .u64 n2] ∧ Blk Y_ (w.heap.size + 2) 32 #[.int .u64 ai1, .int .u64 ai2, .int .u64 ap1, .int .u64 ap2, .int .u64 aq1, .int .u64 aq2, .int .u64 ar1, .int .u64 ar2, .int .u64 as1, .int .u64 as2, .int .u64 atg, .int .u32 alg, .int .u16 acd, .int .u16 afl, .int .u64 ast, .int .u64 ei1, .int .u64 ei2, .int .u64 ep1, .int .u64 ep2, .int .u64 eq1, .int .u64 eq2, .int .u64 er1, .int .u64 er2, .int .u64 es1, .int .u64 es2, .int .u64 etg, .int .u32 elg, .int .u16 ecd, .int .u16 efl, .int .u64 est, .bool hd, .bool hc] ∧ Blk Y_ (w_1.heap.size) 32 #[.int .u64 ai1, .int .u64 ai2, .int .u64 h1, .int .u64 l1, .int .u64 aq1, .int .u64 aq2, .int .u64 ar1, .int .u64 ar2, .int .u64 as1, .int .u64 as2, .int .u64 atg, .int .u32 alg, .int .u16 acd, .int .u16 fd, .int .u64 ast, .int .u64 ei1, .int .u64 ei2, .int .u64 ep1, .int .u64 ep2, .int .u64 eq1, .int .u64 eq2, .int .u64 h2, .int .u64 l2, .int .u64 es1, .int .u64 es2, .int .u64 etg, .int .u32 elg, .int .u16 ecd, .int .u16 fc, .int .u64 est, .bool hd, .bool hc] ∧ Blk Y_ (w_1.heap.size + 1) 32 #[.int .u64 ai1, .int .u64 ai2, .int .u64 h1, .int .u64 l1, .int .u64 aq1, .int .u64 aq2, .int .u64 ar1, .int .u64 ar2, .int .u64 as1, .int .u64 as2, .int .u64 atg, .int .u32 alg, .int .u16 acd, .int .u16 fd, .int .u64 ast, .int .u64 ei1, .int .u64 ei2, .int .u64 ep1, .int .u64 ep2, .int .u64 eq1, .int .u64 eq2, .int .u64 h2, .int .u64 l2, .int .u64 es1, .int .u64 es2, .int .u64 etg, .int .u32 elg, .int .u16 ecd, .int .u16 fc, .int .u64 est, .bool hd, .bool hc]) ?_ ?_
  · have t_B := hB_1.out
    have t_x := f_x.out
    have t_n := f_n.out
    have t_p := f_p.out
    refine ⟨by (repeat (first | with_reducible exact Below.refl _ _ | with_reducible assumption | (with_reducible refine bel_set ?_ (by first | exact Nat.le_refl _ | (simp; done) | (simp; omega) | omega) _) | with_reducible refine bel_grow ?_ _ | with_reducible refine Below.drew ?_ | with_reducible refine bel_alloc ?_ _ | with_reducible refine bel_eld ?_ (by assumption))), ?_, ?_, ?_, ?_, ?_⟩
    · (repeat (first | with_reducible assumption | (with_reducible refine Blk.new' ?_; first | with_reducible rfl | (simp; done)) | with_reducible refine Blk.alloc ?_ _ | with_reducible refine Blk.grow ?_ _ | with_reducible refine Blk.drew ?_ | with_reducible refine Blk.drewN ?_ _ | (with_reducible refine Blk.far ?_ (by first | (dsimp only; omega) | (simp; omega)) _) | (with_reducible apply Blk.two) | (with_reducible refine Blk.kept ?_ (by assumption)) | (with_reducible refine Blk.setRow ?_ (by first | rfl | (simp; done))) | (with_reducible refine Blk.setRow_far ?_ (by first | omega | (simp; omega)) _) | (with_reducible refine Blk.set' ?_ _ _ (by first | rfl | (simp; done)))))
    · (repeat (first | with_reducible assumption | (with_reducible refine Blk.new' ?_; first | with_reducible rfl | (simp; done)) | with_reducible refine Blk.alloc ?_ _ | with_reducible refine Blk.grow ?_ _ | with_reducible refine Blk.drew ?_ | with_reducible refine Blk.drewN ?_ _ | (with_reducible refine Blk.far ?_ (by first | (dsimp only; omega) | (simp; omega)) _) | (with_reducible apply Blk.two) | (with_reducible refine Blk.kept ?_ (by assumption)) | (with_reducible refine Blk.setRow ?_ (by first | rfl | (simp; done))) | (with_reducible refine Blk.setRow_far ?_ (by first | omega | (simp; omega)) _) | (with_reducible refine Blk.set' ?_ _ _ (by first | rfl | (simp; done)))))
    · (repeat (first | with_reducible assumption | (with_reducible refine Blk.new' ?_; first | with_reducible rfl | (simp; done)) | with_reducible refine Blk.alloc ?_ _ | with_reducible refine Blk.grow ?_ _ | with_reducible refine Blk.drew ?_ | with_reducible refine Blk.drewN ?_ _ | (with_reducible refine Blk.far ?_ (by first | (dsimp only; omega) | (simp; omega)) _) | (with_reducible apply Blk.two) | (with_reducible refine Blk.kept ?_ (by assumption)) | (with_reducible refine Blk.setRow ?_ (by first | rfl | (simp; done))) | (with_reducible refine Blk.setRow_far ?_ (by first | omega | (simp; omega)) _) | (with_reducible refine Blk.set' ?_ _ _ (by first | rfl | (simp; done)))))
    · (repeat (first | with_reducible assumption | (with_reducible refine Blk.new' ?_; first | with_reducible rfl | (simp; done)) | with_reducible refine Blk.alloc ?_ _ | with_reducible refine Blk.grow ?_ _ | with_reducible refine Blk.drew ?_ | with_reducible refine Blk.drewN ?_ _ | (with_reducible refine Blk.far ?_ (by first | (dsimp only; omega) | (simp; omega)) _) | (with_reducible apply Blk.two) | (with_reducible refine Blk.kept ?_ (by assumption)) | (with_reducible refine Blk.setRow ?_ (by first | rfl | (simp; done))) | (with_reducible refine Blk.setRow_far ?_ (by first | omega | (simp; omega)) _) | (with_reducible refine Blk.set' ?_ _ _ (by first | rfl | (simp; done)))))
    · (repeat (first | with_reducible assumption | (with_reducible refine Blk.new' ?_; first | with_reducible rfl | (simp; done)) | with_reducible refine Blk.alloc ?_ _ | with_reducible refine Blk.grow ?_ _ | with_reducible refine Blk.drew ?_ | with_reducible refine Blk.drewN ?_ _ | (with_reducible refine Blk.far ?_ (by first | (dsimp only; omega) | (simp; omega)) _) | (with_reducible apply Blk.two) | (with_reducible refine Blk.kept ?_ (by assumption)) | (with_reducible refine Blk.setRow ?_ (by first | rfl | (simp; done))) | (with_reducible refine Blk.setRow_far ?_ (by first | omega | (simp; omega)) _) | (with_reducible refine Blk.set' ?_ _ _ (by first | rfl | (simp; done)))))
  clear f_x x_l r_x x_14 x_f14 f_n n_l n_0 n_1 n_f0 n_f1 f_p p_l r_p p_13 p_f13 p_28 p_f28 hB_1
  rintro X2 ⟨hB_2, f_x, f_n, f_p, f_a, f_q⟩
  have r_x := rowAt_blk f_x
  have x_l := f_x.lt
  have x_14 : X2.cell? ⟨w.heap.size, 14, none⟩ = some (.int .u16 xfl) := (f_x).cell 14
  have x_f14 := (f_x).frozen 14
  replace f_x := Lib.hid f_x
  have n_0 : X2.cell? ⟨w.heap.size + 1, 0, none⟩ = some (.int .u64 n1) := (f_n).cell 0
  have n_1 : X2.cell? ⟨w.heap.size + 1, 1, none⟩ = some (.int .u64 n2) := (f_n).cell 1
  have n_f0 := (f_n).frozen 0
  have n_f1 := (f_n).frozen 1
  have n_l := (f_n).lt
  replace f_n := Lib.hid f_n
  have r_p := rowAt_blk f_p
  have p_l := f_p.lt
  have p_13 : X2.cell? ⟨w.heap.size + 2, 13, none⟩ = some (.int .u16 afl) := (f_p).cell 13
  have p_f13 := (f_p).frozen 13
  have p_28 : X2.cell? ⟨w.heap.size + 2, 28, none⟩ = some (.int .u16 efl) := (f_p).cell 28
  have p_f28 := (f_p).frozen 28
  replace f_p := Lib.hid f_p
  have r_a := rowAt_blk f_a
  have a_l := f_a.lt
  have a_13 : X2.cell? ⟨w_1.heap.size, 13, none⟩ = some (.int .u16 fd) := (f_a).cell 13
  have a_f13 := (f_a).frozen 13
  have a_28 : X2.cell? ⟨w_1.heap.size, 28, none⟩ = some (.int .u16 fc) := (f_a).cell 28
  have a_f28 := (f_a).frozen 28
  replace f_a := Lib.hid f_a
  have r_q := rowAt_blk f_q
  have q_l := f_q.lt
  have q_2 : X2.cell? ⟨w_1.heap.size + 1, 2, none⟩ = some (.int .u64 h1) := (f_q).cell 2
  have q_f2 := (f_q).frozen 2
  have q_3 : X2.cell? ⟨w_1.heap.size + 1, 3, none⟩ = some (.int .u64 l1) := (f_q).cell 3
  have q_f3 := (f_q).frozen 3
  have q_21 : X2.cell? ⟨w_1.heap.size + 1, 21, none⟩ = some (.int .u64 h2) := (f_q).cell 21
  have q_f21 := (f_q).frozen 21
  have q_22 : X2.cell? ⟨w_1.heap.size + 1, 22, none⟩ = some (.int .u64 l2) := (f_q).cell 22
  have q_f22 := (f_q).frozen 22
  have q_13 : X2.cell? ⟨w_1.heap.size + 1, 13, none⟩ = some (.int .u16 fd) := (f_q).cell 13
  have q_f13 := (f_q).frozen 13
  have q_28 : X2.cell? ⟨w_1.heap.size + 1, 28, none⟩ = some (.int .u16 fc) := (f_q).cell 28
  have q_f28 := (f_q).frozen 28
  replace f_q := Lib.hid f_q
  replace hB_2 := Lib.hid hB_2
  go_cut [] (fun  wx => Below w.heap.size w wx ∧ Blk wx (w.heap.size) 28 #[.int .u64 xi1, .int .u64 xi2, .int .u64 xd1, .int .u64 xd2, .int .u64 xc1, .int .u64 xc2, .int .u64 xm1, .int .u64 xm2, .int .u64 xw1, .int .u64 xw2, .int .u64 xtg, .int .u32 xto, .int .u32 xlg, .int .u16 xcd, .int .u16 xfl, .int .u64 xst] ∧ Blk wx (w.heap.size + 1) 24 #[.int .u64 n1, .int .u64 n2] ∧ Blk wx (w.heap.size + 2) 32 #[.int .u64 ai1, .int .u64 ai2, .int .u64 ap1, .int .u64 ap2, .int .u64 aq1, .int .u64 aq2, .int .u64 ar1, .int .u64 ar2, .int .u64 as1, .int .u64 as2, .int .u64 atg, .int .u32 alg, .int .u16 acd, .int .u16 afl, .int .u64 ast, .int .u64 ei1, .int .u64 ei2, .int .u64 ep1, .int .u64 ep2, .int .u64 eq1, .int .u64 eq2, .int .u64 er1, .int .u64 er2, .int .u64 es1, .int .u64 es2, .int .u64 etg, .int .u32 elg, .int .u16 ecd, .int .u16 efl, .int .u64 est, .bool hd, .bool hc] ∧ Blk wx (w_1.heap.size) 32 #[.int .u64 ai1, .int .u64 ai2, .int .u64 h1, .int .u64 l1, .int .u64 aq1, .int .u64 aq2, .int .u64 ar1, .int .u64 ar2, .int .u64 as1, .int .u64 as2, .int .u64 atg, .int .u32 alg, .int .u16 acd, .int .u16 fd, .int .u64 ast, .int .u64 ei1, .int .u64 ei2, .int .u64 ep1, .int .u64 ep2, .int .u64 eq1, .int .u64 eq2, .int .u64 h2, .int .u64 l2, .int .u64 es1, .int .u64 es2, .int .u64 etg, .int .u32 elg, .int .u16 ecd, .int .u16 fc, .int .u64 est, .bool hd, .bool hc] ∧ Blk wx (w_1.heap.size + 1) 32 #[.int .u64 ai1, .int .u64 ai2, .int .u64 h1, .int .u64 l1, .int .u64 aq1, .int .u64 aq2, .int .u64 ar1, .int .u64 ar2, .int .u64 as1, .int .u64 as2, .int .u64 atg, .int .u32 alg, .int .u16 acd, .int .u16 afl, .int .u64 ast, .int .u64 ei1, .int .u64 ei2, .int .u64 ep1, .int .u64 ep2, .int .u64 eq1, .int .u64 eq2, .int .u64 h2, .int .u64 l2, .int .u64 es1, .int .u64 es2, .int .u64 etg, .int .u32 elg, .int .u16 ecd, .int .u16 efl, .int .u64 est, .bool hd, .bool hc])
  case first =>
    (first | (go_region_held (fun w' => w'.cell? ⟨w.heap.size + 2, 13, none⟩ = some (.int .u16 afl) ∧ w'.cell? ⟨w.heap.size + 2, 28, none⟩ = some (.int .u16 efl))
      (first | ((try go_split_ands); (repeat' apply And.intro) <;> (first | with_reducible assumption | ((repeat (first | with_reducible refine keepd ?_ | with_reducible refine keepdr ?_ | with_reducible refine keepal ?_ | with_reducible refine keepral ?_ | with_reducible refine keeps (by dsimp only; omega) ?_ | with_reducible refine keepr (by dsimp only; omega) ?_ | with_reducible refine keepc (by assumption) ?_ | with_reducible refine keeprc (by assumption) ?_)); with_reducible assumption))))
      (fail)) | fail)
    all_goals (
      go_wp2_with fail
      go_meet
      have t_B := hB_2.out
      have t_x := f_x.out
      have t_n := f_n.out
      have t_p := f_p.out
      have t_a := f_a.out
      have t_q := f_q.out
      exact ⟨by (repeat (first | with_reducible exact Below.refl _ _ | with_reducible assumption | (with_reducible refine bel_set ?_ (by first | exact Nat.le_refl _ | (simp; done) | (simp; omega) | omega) _) | with_reducible refine bel_grow ?_ _ | with_reducible refine Below.drew ?_ | with_reducible refine bel_alloc ?_ _ | (with_reducible refine below_setRow ?_ (by first | omega | (simp; omega)) _) | with_reducible refine bel_eld ?_ (by assumption))), by (repeat (first | with_reducible assumption | (with_reducible refine Blk.new' ?_; first | with_reducible rfl | (simp; done)) | with_reducible refine Blk.alloc ?_ _ | with_reducible refine Blk.grow ?_ _ | with_reducible refine Blk.drew ?_ | with_reducible refine Blk.drewN ?_ _ | (with_reducible refine Blk.far ?_ (by first | (dsimp only; omega) | (simp; omega)) _) | (with_reducible apply Blk.two) | (with_reducible refine Blk.kept ?_ (by assumption)) | (with_reducible refine Blk.setRow ?_ (by first | rfl | (simp; done))) | (with_reducible refine Blk.setRow_far ?_ (by first | omega | (simp; omega)) _) | (with_reducible refine Blk.set' ?_ _ _ (by first | rfl | (simp; done))))), by (repeat (first | with_reducible assumption | (with_reducible refine Blk.new' ?_; first | with_reducible rfl | (simp; done)) | with_reducible refine Blk.alloc ?_ _ | with_reducible refine Blk.grow ?_ _ | with_reducible refine Blk.drew ?_ | with_reducible refine Blk.drewN ?_ _ | (with_reducible refine Blk.far ?_ (by first | (dsimp only; omega) | (simp; omega)) _) | (with_reducible apply Blk.two) | (with_reducible refine Blk.kept ?_ (by assumption)) | (with_reducible refine Blk.setRow ?_ (by first | rfl | (simp; done))) | (with_reducible refine Blk.setRow_far ?_ (by first | omega | (simp; omega)) _) | (with_reducible refine Blk.set' ?_ _ _ (by first | rfl | (simp; done))))), by (repeat (first | with_reducible assumption | (with_reducible refine Blk.new' ?_; first | with_reducible rfl | (simp; done)) | with_reducible refine Blk.alloc ?_ _ | with_reducible refine Blk.grow ?_ _ | with_reducible refine Blk.drew ?_ | with_reducible refine Blk.drewN ?_ _ | (with_reducible refine Blk.far ?_ (by first | (dsimp only; omega) | (simp; omega)) _) | (with_reducible apply Blk.two) | (with_reducible refine Blk.kept ?_ (by assumption)) | (with_reducible refine Blk.setRow ?_ (by first | rfl | (simp; done))) | (with_reducible refine Blk.setRow_far ?_ (by first | omega | (simp; omega)) _) | (with_reducible refine Blk.set' ?_ _ _ (by first | rfl | (simp; done))))), by (repeat (first | with_reducible assumption | (with_reducible refine Blk.new' ?_; first | with_reducible rfl | (simp; done)) | with_reducible refine Blk.alloc ?_ _ | with_reducible refine Blk.grow ?_ _ | with_reducible refine Blk.drew ?_ | with_reducible refine Blk.drewN ?_ _ | (with_reducible refine Blk.far ?_ (by first | (dsimp only; omega) | (simp; omega)) _) | (with_reducible apply Blk.two) | (with_reducible refine Blk.kept ?_ (by assumption)) | (with_reducible refine Blk.setRow ?_ (by first | rfl | (simp; done))) | (with_reducible refine Blk.setRow_far ?_ (by first | omega | (simp; omega)) _) | (with_reducible refine Blk.set' ?_ _ _ (by first | rfl | (simp; done))))), by first | exact (by first | exact Blk.eqv ((t_q.drew.set_ 13 _).set_ 28 _) (by first | rfl | simp) | exact Blk.eqv ((t_q.drew.set_ 28 _).set_ 13 _) (by first | rfl | simp)) | (repeat (first | with_reducible assumption | (with_reducible refine Blk.new' ?_; first | with_reducible rfl | (simp; done)) | with_reducible refine Blk.alloc ?_ _ | with_reducible refine Blk.grow ?_ _ | with_reducible refine Blk.drew ?_ | with_reducible refine Blk.drewN ?_ _ | (with_reducible refine Blk.far ?_ (by first | (dsimp only; omega) | (simp; omega)) _) | (with_reducible apply Blk.two) | (with_reducible refine Blk.kept ?_ (by assumption)) | (with_reducible refine Blk.setRow ?_ (by first | rfl | (simp; done))) | (with_reducible refine Blk.setRow_far ?_ (by first | omega | (simp; omega)) _) | (with_reducible refine Blk.set' ?_ _ _ (by first | rfl | (simp; done)))))⟩
      )
  case rest =>
  clear f_x x_l r_x x_14 x_f14 f_n n_l n_0 n_1 n_f0 n_f1 f_p p_l r_p p_13 p_f13 p_28 p_f28 f_a a_l r_a a_13 a_f13 a_28 a_f28 f_q q_l r_q q_2 q_f2 q_3 q_f3 q_21 q_f21 q_22 q_f22 q_13 q_f13 q_28 q_f28 hB_2
  obtain ⟨hB_3, f_x, f_n, f_p, f_a, f_q⟩ := hcut
  have r_x := rowAt_blk f_x
  have x_l := f_x.lt
  have x_14 : wc.cell? ⟨w.heap.size, 14, none⟩ = some (.int .u16 xfl) := (f_x).cell 14
  have x_f14 := (f_x).frozen 14
  replace f_x := Lib.hid f_x
  have n_0 : wc.cell? ⟨w.heap.size + 1, 0, none⟩ = some (.int .u64 n1) := (f_n).cell 0
  have n_1 : wc.cell? ⟨w.heap.size + 1, 1, none⟩ = some (.int .u64 n2) := (f_n).cell 1
  have n_f0 := (f_n).frozen 0
  have n_f1 := (f_n).frozen 1
  have n_l := (f_n).lt
  replace f_n := Lib.hid f_n
  have r_p := rowAt_blk f_p
  have p_l := f_p.lt
  have p_13 : wc.cell? ⟨w.heap.size + 2, 13, none⟩ = some (.int .u16 afl) := (f_p).cell 13
  have p_f13 := (f_p).frozen 13
  have p_28 : wc.cell? ⟨w.heap.size + 2, 28, none⟩ = some (.int .u16 efl) := (f_p).cell 28
  have p_f28 := (f_p).frozen 28
  replace f_p := Lib.hid f_p
  have r_a := rowAt_blk f_a
  have a_l := f_a.lt
  have a_13 : wc.cell? ⟨w_1.heap.size, 13, none⟩ = some (.int .u16 fd) := (f_a).cell 13
  have a_f13 := (f_a).frozen 13
  have a_28 : wc.cell? ⟨w_1.heap.size, 28, none⟩ = some (.int .u16 fc) := (f_a).cell 28
  have a_f28 := (f_a).frozen 28
  replace f_a := Lib.hid f_a
  have r_q := rowAt_blk f_q
  have q_l := f_q.lt
  have q_2 : wc.cell? ⟨w_1.heap.size + 1, 2, none⟩ = some (.int .u64 h1) := (f_q).cell 2
  have q_f2 := (f_q).frozen 2
  have q_3 : wc.cell? ⟨w_1.heap.size + 1, 3, none⟩ = some (.int .u64 l1) := (f_q).cell 3
  have q_f3 := (f_q).frozen 3
  have q_21 : wc.cell? ⟨w_1.heap.size + 1, 21, none⟩ = some (.int .u64 h2) := (f_q).cell 21
  have q_f21 := (f_q).frozen 21
  have q_22 : wc.cell? ⟨w_1.heap.size + 1, 22, none⟩ = some (.int .u64 l2) := (f_q).cell 22
  have q_f22 := (f_q).frozen 22
  have q_13 : wc.cell? ⟨w_1.heap.size + 1, 13, none⟩ = some (.int .u16 afl) := (f_q).cell 13
  have q_f13 := (f_q).frozen 13
  have q_28 : wc.cell? ⟨w_1.heap.size + 1, 28, none⟩ = some (.int .u16 efl) := (f_q).cell 28
  have q_f28 := (f_q).frozen 28
  replace f_q := Lib.hid f_q
  replace hB_3 := Lib.hid hB_3
  go_upto_region 10 with fail
  go_cut [12] (fun s wx => s = .bool true ∧ Below w.heap.size w wx ∧ Blk wx (w.heap.size) 28 #[.int .u64 xi1, .int .u64 xi2, .int .u64 xd1, .int .u64 xd2, .int .u64 xc1, .int .u64 xc2, .int .u64 xm1, .int .u64 xm2, .int .u64 xw1, .int .u64 xw2, .int .u64 xtg, .int .u32 xto, .int .u32 xlg, .int .u16 xcd, .int .u16 xfl, .int .u64 xst] ∧ Blk wx (w.heap.size + 1) 24 #[.int .u64 n1, .int .u64 n2] ∧ Blk wx (w.heap.size + 2) 32 #[.int .u64 ai1, .int .u64 ai2, .int .u64 ap1, .int .u64 ap2, .int .u64 aq1, .int .u64 aq2, .int .u64 ar1, .int .u64 ar2, .int .u64 as1, .int .u64 as2, .int .u64 atg, .int .u32 alg, .int .u16 acd, .int .u16 afl, .int .u64 ast, .int .u64 ei1, .int .u64 ei2, .int .u64 ep1, .int .u64 ep2, .int .u64 eq1, .int .u64 eq2, .int .u64 er1, .int .u64 er2, .int .u64 es1, .int .u64 es2, .int .u64 etg, .int .u32 elg, .int .u16 ecd, .int .u16 efl, .int .u64 est, .bool hd, .bool hc] ∧ Blk wx (w_1.heap.size) 32 #[.int .u64 ai1, .int .u64 ai2, .int .u64 h1, .int .u64 l1, .int .u64 aq1, .int .u64 aq2, .int .u64 ar1, .int .u64 ar2, .int .u64 as1, .int .u64 as2, .int .u64 atg, .int .u32 alg, .int .u16 acd, .int .u16 fd, .int .u64 ast, .int .u64 ei1, .int .u64 ei2, .int .u64 ep1, .int .u64 ep2, .int .u64 eq1, .int .u64 eq2, .int .u64 h2, .int .u64 l2, .int .u64 es1, .int .u64 es2, .int .u64 etg, .int .u32 elg, .int .u16 ecd, .int .u16 fc, .int .u64 est, .bool hd, .bool hc] ∧ Blk wx (w_1.heap.size + 1) 32 #[.int .u64 ai1, .int .u64 ai2, .int .u64 ap1, .int .u64 ap2, .int .u64 aq1, .int .u64 aq2, .int .u64 ar1, .int .u64 ar2, .int .u64 as1, .int .u64 as2, .int .u64 atg, .int .u32 alg, .int .u16 acd, .int .u16 afl, .int .u64 ast, .int .u64 ei1, .int .u64 ei2, .int .u64 ep1, .int .u64 ep2, .int .u64 eq1, .int .u64 eq2, .int .u64 h2, .int .u64 l2, .int .u64 es1, .int .u64 es2, .int .u64 etg, .int .u32 elg, .int .u16 ecd, .int .u16 efl, .int .u64 est, .bool hd, .bool hc])
  case first =>
    go_region_with (go_at_call 16; (with_reducible refine (HS1.out _).mono ?_); rintro e w7 ⟨rfl, hb7⟩; (have tq7 : Blk w7 (w_1.heap.size + 1) 32 #[.int .u64 ai1, .int .u64 ai2, .int .u64 h1, .int .u64 l1, .int .u64 aq1, .int .u64 aq2, .int .u64 ar1, .int .u64 ar2, .int .u64 as1, .int .u64 as2, .int .u64 atg, .int .u32 alg, .int .u16 acd, .int .u16 afl, .int .u64 ast, .int .u64 ei1, .int .u64 ei2, .int .u64 ep1, .int .u64 ep2, .int .u64 eq1, .int .u64 eq2, .int .u64 h2, .int .u64 l2, .int .u64 es1, .int .u64 es2, .int .u64 etg, .int .u32 elg, .int .u16 ecd, .int .u16 efl, .int .u64 est, .bool hd, .bool hc] := (by (refine Blk.kept ?_ hb7; (first | (have t := f_q.out; (repeat (first | with_reducible assumption | (with_reducible refine Blk.new' ?_; first | with_reducible rfl | (simp; done)) | with_reducible refine Blk.alloc ?_ _ | with_reducible refine Blk.grow ?_ _ | with_reducible refine Blk.drew ?_ | with_reducible refine Blk.drewN ?_ _ | (with_reducible refine Blk.far ?_ (by first | (dsimp only; omega) | (simp; omega)) _) | (with_reducible apply Blk.two) | (with_reducible refine Blk.set' ?_ _ _ ?_) | (with_reducible rfl) | rfl)); done) | fail)))); have qq0 := tq7.cell 2; have qq1 := tq7.cell 3; have qf0 := tq7.frozen 2; have qf1 := tq7.frozen 3; have ql := tq7.lt)
    all_goals (
      go_wp2_with fail
      go_meet
      have t_B := hB_3.out
      have t_x := f_x.out
      have t_n := f_n.out
      have t_p := f_p.out
      have t_a := f_a.out
      have t_q := f_q.out
      exact ⟨rfl, by (repeat (first | with_reducible exact Below.refl _ _ | with_reducible assumption | (with_reducible refine bel_set ?_ (by first | exact Nat.le_refl _ | (simp; done) | (simp; omega) | omega) _) | with_reducible refine bel_grow ?_ _ | with_reducible refine Below.drew ?_ | with_reducible refine bel_alloc ?_ _ | (with_reducible refine below_setRow ?_ (by first | omega | (simp; omega)) _) | with_reducible refine bel_eld ?_ (by assumption))), by (repeat (first | with_reducible assumption | (with_reducible refine Blk.new' ?_; first | with_reducible rfl | (simp; done)) | with_reducible refine Blk.alloc ?_ _ | with_reducible refine Blk.grow ?_ _ | with_reducible refine Blk.drew ?_ | with_reducible refine Blk.drewN ?_ _ | (with_reducible refine Blk.far ?_ (by first | (dsimp only; omega) | (simp; omega)) _) | (with_reducible apply Blk.two) | (with_reducible refine Blk.kept ?_ (by assumption)) | (with_reducible refine Blk.setRow ?_ (by first | rfl | (simp; done))) | (with_reducible refine Blk.setRow_far ?_ (by first | omega | (simp; omega)) _) | (with_reducible refine Blk.set' ?_ _ _ (by first | rfl | (simp; done))))), by (repeat (first | with_reducible assumption | (with_reducible refine Blk.new' ?_; first | with_reducible rfl | (simp; done)) | with_reducible refine Blk.alloc ?_ _ | with_reducible refine Blk.grow ?_ _ | with_reducible refine Blk.drew ?_ | with_reducible refine Blk.drewN ?_ _ | (with_reducible refine Blk.far ?_ (by first | (dsimp only; omega) | (simp; omega)) _) | (with_reducible apply Blk.two) | (with_reducible refine Blk.kept ?_ (by assumption)) | (with_reducible refine Blk.setRow ?_ (by first | rfl | (simp; done))) | (with_reducible refine Blk.setRow_far ?_ (by first | omega | (simp; omega)) _) | (with_reducible refine Blk.set' ?_ _ _ (by first | rfl | (simp; done))))), by (repeat (first | with_reducible assumption | (with_reducible refine Blk.new' ?_; first | with_reducible rfl | (simp; done)) | with_reducible refine Blk.alloc ?_ _ | with_reducible refine Blk.grow ?_ _ | with_reducible refine Blk.drew ?_ | with_reducible refine Blk.drewN ?_ _ | (with_reducible refine Blk.far ?_ (by first | (dsimp only; omega) | (simp; omega)) _) | (with_reducible apply Blk.two) | (with_reducible refine Blk.kept ?_ (by assumption)) | (with_reducible refine Blk.setRow ?_ (by first | rfl | (simp; done))) | (with_reducible refine Blk.setRow_far ?_ (by first | omega | (simp; omega)) _) | (with_reducible refine Blk.set' ?_ _ _ (by first | rfl | (simp; done))))), by (repeat (first | with_reducible assumption | (with_reducible refine Blk.new' ?_; first | with_reducible rfl | (simp; done)) | with_reducible refine Blk.alloc ?_ _ | with_reducible refine Blk.grow ?_ _ | with_reducible refine Blk.drew ?_ | with_reducible refine Blk.drewN ?_ _ | (with_reducible refine Blk.far ?_ (by first | (dsimp only; omega) | (simp; omega)) _) | (with_reducible apply Blk.two) | (with_reducible refine Blk.kept ?_ (by assumption)) | (with_reducible refine Blk.setRow ?_ (by first | rfl | (simp; done))) | (with_reducible refine Blk.setRow_far ?_ (by first | omega | (simp; omega)) _) | (with_reducible refine Blk.set' ?_ _ _ (by first | rfl | (simp; done))))), by first | exact Blk.eqv ((tq7.set_ 2 _).set_ 3 _) (by first | rfl | simp) | (repeat (first | with_reducible assumption | (with_reducible refine Blk.new' ?_; first | with_reducible rfl | (simp; done)) | with_reducible refine Blk.alloc ?_ _ | with_reducible refine Blk.grow ?_ _ | with_reducible refine Blk.drew ?_ | with_reducible refine Blk.drewN ?_ _ | (with_reducible refine Blk.far ?_ (by first | (dsimp only; omega) | (simp; omega)) _) | (with_reducible apply Blk.two) | (with_reducible refine Blk.kept ?_ (by assumption)) | (with_reducible refine Blk.setRow ?_ (by first | rfl | (simp; done))) | (with_reducible refine Blk.setRow_far ?_ (by first | omega | (simp; omega)) _) | (with_reducible refine Blk.set' ?_ _ _ (by first | rfl | (simp; done)))))⟩
      )
  case rest =>
  clear f_x x_l r_x x_14 x_f14 f_n n_l n_0 n_1 n_f0 n_f1 f_p p_l r_p p_13 p_f13 p_28 p_f28 f_a a_l r_a a_13 a_f13 a_28 a_f28 f_q q_l r_q q_2 q_f2 q_3 q_f3 q_21 q_f21 q_22 q_f22 q_13 q_f13 q_28 q_f28 hB_3
  obtain ⟨rfl, hB_4, f_x, f_n, f_p, f_a, f_q⟩ := hcut
  have r_x := rowAt_blk f_x
  have x_l := f_x.lt
  have x_14 : wc.cell? ⟨w.heap.size, 14, none⟩ = some (.int .u16 xfl) := (f_x).cell 14
  have x_f14 := (f_x).frozen 14
  replace f_x := Lib.hid f_x
  have n_0 : wc.cell? ⟨w.heap.size + 1, 0, none⟩ = some (.int .u64 n1) := (f_n).cell 0
  have n_1 : wc.cell? ⟨w.heap.size + 1, 1, none⟩ = some (.int .u64 n2) := (f_n).cell 1
  have n_f0 := (f_n).frozen 0
  have n_f1 := (f_n).frozen 1
  have n_l := (f_n).lt
  replace f_n := Lib.hid f_n
  have r_p := rowAt_blk f_p
  have p_l := f_p.lt
  have p_13 : wc.cell? ⟨w.heap.size + 2, 13, none⟩ = some (.int .u16 afl) := (f_p).cell 13
  have p_f13 := (f_p).frozen 13
  have p_28 : wc.cell? ⟨w.heap.size + 2, 28, none⟩ = some (.int .u16 efl) := (f_p).cell 28
  have p_f28 := (f_p).frozen 28
  replace f_p := Lib.hid f_p
  have r_a := rowAt_blk f_a
  have a_l := f_a.lt
  have a_13 : wc.cell? ⟨w_1.heap.size, 13, none⟩ = some (.int .u16 fd) := (f_a).cell 13
  have a_f13 := (f_a).frozen 13
  have a_28 : wc.cell? ⟨w_1.heap.size, 28, none⟩ = some (.int .u16 fc) := (f_a).cell 28
  have a_f28 := (f_a).frozen 28
  replace f_a := Lib.hid f_a
  have r_q := rowAt_blk f_q
  have q_l := f_q.lt
  have q_2 : wc.cell? ⟨w_1.heap.size + 1, 2, none⟩ = some (.int .u64 ap1) := (f_q).cell 2
  have q_f2 := (f_q).frozen 2
  have q_3 : wc.cell? ⟨w_1.heap.size + 1, 3, none⟩ = some (.int .u64 ap2) := (f_q).cell 3
  have q_f3 := (f_q).frozen 3
  have q_21 : wc.cell? ⟨w_1.heap.size + 1, 21, none⟩ = some (.int .u64 h2) := (f_q).cell 21
  have q_f21 := (f_q).frozen 21
  have q_22 : wc.cell? ⟨w_1.heap.size + 1, 22, none⟩ = some (.int .u64 l2) := (f_q).cell 22
  have q_f22 := (f_q).frozen 22
  have q_13 : wc.cell? ⟨w_1.heap.size + 1, 13, none⟩ = some (.int .u16 afl) := (f_q).cell 13
  have q_f13 := (f_q).frozen 13
  have q_28 : wc.cell? ⟨w_1.heap.size + 1, 28, none⟩ = some (.int .u16 efl) := (f_q).cell 28
  have q_f28 := (f_q).frozen 28
  replace f_q := Lib.hid f_q
  replace hB_4 := Lib.hid hB_4
  go_upto_region 11 with fail
  go_cut [13] (fun s wx => s = .bool true ∧ Below w.heap.size w wx ∧ Blk wx (w.heap.size) 28 #[.int .u64 xi1, .int .u64 xi2, .int .u64 xd1, .int .u64 xd2, .int .u64 xc1, .int .u64 xc2, .int .u64 xm1, .int .u64 xm2, .int .u64 xw1, .int .u64 xw2, .int .u64 xtg, .int .u32 xto, .int .u32 xlg, .int .u16 xcd, .int .u16 xfl, .int .u64 xst] ∧ Blk wx (w.heap.size + 1) 24 #[.int .u64 n1, .int .u64 n2] ∧ Blk wx (w.heap.size + 2) 32 #[.int .u64 ai1, .int .u64 ai2, .int .u64 ap1, .int .u64 ap2, .int .u64 aq1, .int .u64 aq2, .int .u64 ar1, .int .u64 ar2, .int .u64 as1, .int .u64 as2, .int .u64 atg, .int .u32 alg, .int .u16 acd, .int .u16 afl, .int .u64 ast, .int .u64 ei1, .int .u64 ei2, .int .u64 ep1, .int .u64 ep2, .int .u64 eq1, .int .u64 eq2, .int .u64 er1, .int .u64 er2, .int .u64 es1, .int .u64 es2, .int .u64 etg, .int .u32 elg, .int .u16 ecd, .int .u16 efl, .int .u64 est, .bool hd, .bool hc] ∧ Blk wx (w_1.heap.size) 32 #[.int .u64 ai1, .int .u64 ai2, .int .u64 h1, .int .u64 l1, .int .u64 aq1, .int .u64 aq2, .int .u64 ar1, .int .u64 ar2, .int .u64 as1, .int .u64 as2, .int .u64 atg, .int .u32 alg, .int .u16 acd, .int .u16 fd, .int .u64 ast, .int .u64 ei1, .int .u64 ei2, .int .u64 ep1, .int .u64 ep2, .int .u64 eq1, .int .u64 eq2, .int .u64 h2, .int .u64 l2, .int .u64 es1, .int .u64 es2, .int .u64 etg, .int .u32 elg, .int .u16 ecd, .int .u16 fc, .int .u64 est, .bool hd, .bool hc] ∧ Blk wx (w_1.heap.size + 1) 32 #[.int .u64 ai1, .int .u64 ai2, .int .u64 ap1, .int .u64 ap2, .int .u64 aq1, .int .u64 aq2, .int .u64 ar1, .int .u64 ar2, .int .u64 as1, .int .u64 as2, .int .u64 atg, .int .u32 alg, .int .u16 acd, .int .u16 afl, .int .u64 ast, .int .u64 ei1, .int .u64 ei2, .int .u64 ep1, .int .u64 ep2, .int .u64 eq1, .int .u64 eq2, .int .u64 er1, .int .u64 er2, .int .u64 es1, .int .u64 es2, .int .u64 etg, .int .u32 elg, .int .u16 ecd, .int .u16 efl, .int .u64 est, .bool hd, .bool hc])
  case first =>
    go_region_with (go_at_call 16; (with_reducible refine (HS2.out _).mono ?_); rintro e w7 ⟨rfl, hb7⟩; (have tq7 : Blk w7 (w_1.heap.size + 1) 32 #[.int .u64 ai1, .int .u64 ai2, .int .u64 ap1, .int .u64 ap2, .int .u64 aq1, .int .u64 aq2, .int .u64 ar1, .int .u64 ar2, .int .u64 as1, .int .u64 as2, .int .u64 atg, .int .u32 alg, .int .u16 acd, .int .u16 afl, .int .u64 ast, .int .u64 ei1, .int .u64 ei2, .int .u64 ep1, .int .u64 ep2, .int .u64 eq1, .int .u64 eq2, .int .u64 h2, .int .u64 l2, .int .u64 es1, .int .u64 es2, .int .u64 etg, .int .u32 elg, .int .u16 ecd, .int .u16 efl, .int .u64 est, .bool hd, .bool hc] := (by (refine Blk.kept ?_ hb7; (first | (have t := f_q.out; (repeat (first | with_reducible assumption | (with_reducible refine Blk.new' ?_; first | with_reducible rfl | (simp; done)) | with_reducible refine Blk.alloc ?_ _ | with_reducible refine Blk.grow ?_ _ | with_reducible refine Blk.drew ?_ | with_reducible refine Blk.drewN ?_ _ | (with_reducible refine Blk.far ?_ (by first | (dsimp only; omega) | (simp; omega)) _) | (with_reducible apply Blk.two) | (with_reducible refine Blk.set' ?_ _ _ ?_) | (with_reducible rfl) | rfl)); done) | fail)))); have qq0 := tq7.cell 21; have qq1 := tq7.cell 22; have qf0 := tq7.frozen 21; have qf1 := tq7.frozen 22; have ql := tq7.lt)
    all_goals (
      go_wp2_with fail
      go_meet
      have t_B := hB_4.out
      have t_x := f_x.out
      have t_n := f_n.out
      have t_p := f_p.out
      have t_a := f_a.out
      have t_q := f_q.out
      exact ⟨rfl, by (repeat (first | with_reducible exact Below.refl _ _ | with_reducible assumption | (with_reducible refine bel_set ?_ (by first | exact Nat.le_refl _ | (simp; done) | (simp; omega) | omega) _) | with_reducible refine bel_grow ?_ _ | with_reducible refine Below.drew ?_ | with_reducible refine bel_alloc ?_ _ | (with_reducible refine below_setRow ?_ (by first | omega | (simp; omega)) _) | with_reducible refine bel_eld ?_ (by assumption))), by (repeat (first | with_reducible assumption | (with_reducible refine Blk.new' ?_; first | with_reducible rfl | (simp; done)) | with_reducible refine Blk.alloc ?_ _ | with_reducible refine Blk.grow ?_ _ | with_reducible refine Blk.drew ?_ | with_reducible refine Blk.drewN ?_ _ | (with_reducible refine Blk.far ?_ (by first | (dsimp only; omega) | (simp; omega)) _) | (with_reducible apply Blk.two) | (with_reducible refine Blk.kept ?_ (by assumption)) | (with_reducible refine Blk.setRow ?_ (by first | rfl | (simp; done))) | (with_reducible refine Blk.setRow_far ?_ (by first | omega | (simp; omega)) _) | (with_reducible refine Blk.set' ?_ _ _ (by first | rfl | (simp; done))))), by (repeat (first | with_reducible assumption | (with_reducible refine Blk.new' ?_; first | with_reducible rfl | (simp; done)) | with_reducible refine Blk.alloc ?_ _ | with_reducible refine Blk.grow ?_ _ | with_reducible refine Blk.drew ?_ | with_reducible refine Blk.drewN ?_ _ | (with_reducible refine Blk.far ?_ (by first | (dsimp only; omega) | (simp; omega)) _) | (with_reducible apply Blk.two) | (with_reducible refine Blk.kept ?_ (by assumption)) | (with_reducible refine Blk.setRow ?_ (by first | rfl | (simp; done))) | (with_reducible refine Blk.setRow_far ?_ (by first | omega | (simp; omega)) _) | (with_reducible refine Blk.set' ?_ _ _ (by first | rfl | (simp; done))))), by (repeat (first | with_reducible assumption | (with_reducible refine Blk.new' ?_; first | with_reducible rfl | (simp; done)) | with_reducible refine Blk.alloc ?_ _ | with_reducible refine Blk.grow ?_ _ | with_reducible refine Blk.drew ?_ | with_reducible refine Blk.drewN ?_ _ | (with_reducible refine Blk.far ?_ (by first | (dsimp only; omega) | (simp; omega)) _) | (with_reducible apply Blk.two) | (with_reducible refine Blk.kept ?_ (by assumption)) | (with_reducible refine Blk.setRow ?_ (by first | rfl | (simp; done))) | (with_reducible refine Blk.setRow_far ?_ (by first | omega | (simp; omega)) _) | (with_reducible refine Blk.set' ?_ _ _ (by first | rfl | (simp; done))))), by (repeat (first | with_reducible assumption | (with_reducible refine Blk.new' ?_; first | with_reducible rfl | (simp; done)) | with_reducible refine Blk.alloc ?_ _ | with_reducible refine Blk.grow ?_ _ | with_reducible refine Blk.drew ?_ | with_reducible refine Blk.drewN ?_ _ | (with_reducible refine Blk.far ?_ (by first | (dsimp only; omega) | (simp; omega)) _) | (with_reducible apply Blk.two) | (with_reducible refine Blk.kept ?_ (by assumption)) | (with_reducible refine Blk.setRow ?_ (by first | rfl | (simp; done))) | (with_reducible refine Blk.setRow_far ?_ (by first | omega | (simp; omega)) _) | (with_reducible refine Blk.set' ?_ _ _ (by first | rfl | (simp; done))))), by first | exact Blk.eqv ((tq7.set_ 21 _).set_ 22 _) (by first | rfl | simp) | (repeat (first | with_reducible assumption | (with_reducible refine Blk.new' ?_; first | with_reducible rfl | (simp; done)) | with_reducible refine Blk.alloc ?_ _ | with_reducible refine Blk.grow ?_ _ | with_reducible refine Blk.drew ?_ | with_reducible refine Blk.drewN ?_ _ | (with_reducible refine Blk.far ?_ (by first | (dsimp only; omega) | (simp; omega)) _) | (with_reducible apply Blk.two) | (with_reducible refine Blk.kept ?_ (by assumption)) | (with_reducible refine Blk.setRow ?_ (by first | rfl | (simp; done))) | (with_reducible refine Blk.setRow_far ?_ (by first | omega | (simp; omega)) _) | (with_reducible refine Blk.set' ?_ _ _ (by first | rfl | (simp; done)))))⟩
      )
  case rest =>
  clear f_x x_l r_x x_14 x_f14 f_n n_l n_0 n_1 n_f0 n_f1 f_p p_l r_p p_13 p_f13 p_28 p_f28 f_a a_l r_a a_13 a_f13 a_28 a_f28 f_q q_l r_q q_2 q_f2 q_3 q_f3 q_21 q_f21 q_22 q_f22 q_13 q_f13 q_28 q_f28 hB_4
  obtain ⟨rfl, hB_5, f_x, f_n, f_p, f_a, f_q⟩ := hcut
  have r_x := rowAt_blk f_x
  have x_l := f_x.lt
  have x_14 : wc.cell? ⟨w.heap.size, 14, none⟩ = some (.int .u16 xfl) := (f_x).cell 14
  have x_f14 := (f_x).frozen 14
  replace f_x := Lib.hid f_x
  have n_0 : wc.cell? ⟨w.heap.size + 1, 0, none⟩ = some (.int .u64 n1) := (f_n).cell 0
  have n_1 : wc.cell? ⟨w.heap.size + 1, 1, none⟩ = some (.int .u64 n2) := (f_n).cell 1
  have n_f0 := (f_n).frozen 0
  have n_f1 := (f_n).frozen 1
  have n_l := (f_n).lt
  replace f_n := Lib.hid f_n
  have r_p := rowAt_blk f_p
  have p_l := f_p.lt
  have p_13 : wc.cell? ⟨w.heap.size + 2, 13, none⟩ = some (.int .u16 afl) := (f_p).cell 13
  have p_f13 := (f_p).frozen 13
  have p_28 : wc.cell? ⟨w.heap.size + 2, 28, none⟩ = some (.int .u16 efl) := (f_p).cell 28
  have p_f28 := (f_p).frozen 28
  replace f_p := Lib.hid f_p
  have r_a := rowAt_blk f_a
  have a_l := f_a.lt
  have a_13 : wc.cell? ⟨w_1.heap.size, 13, none⟩ = some (.int .u16 fd) := (f_a).cell 13
  have a_f13 := (f_a).frozen 13
  have a_28 : wc.cell? ⟨w_1.heap.size, 28, none⟩ = some (.int .u16 fc) := (f_a).cell 28
  have a_f28 := (f_a).frozen 28
  replace f_a := Lib.hid f_a
  have r_q := rowAt_blk f_q
  have q_l := f_q.lt
  have q_2 : wc.cell? ⟨w_1.heap.size + 1, 2, none⟩ = some (.int .u64 ap1) := (f_q).cell 2
  have q_f2 := (f_q).frozen 2
  have q_3 : wc.cell? ⟨w_1.heap.size + 1, 3, none⟩ = some (.int .u64 ap2) := (f_q).cell 3
  have q_f3 := (f_q).frozen 3
  have q_21 : wc.cell? ⟨w_1.heap.size + 1, 21, none⟩ = some (.int .u64 er1) := (f_q).cell 21
  have q_f21 := (f_q).frozen 21
  have q_22 : wc.cell? ⟨w_1.heap.size + 1, 22, none⟩ = some (.int .u64 er2) := (f_q).cell 22
  have q_f22 := (f_q).frozen 22
  have q_13 : wc.cell? ⟨w_1.heap.size + 1, 13, none⟩ = some (.int .u16 afl) := (f_q).cell 13
  have q_f13 := (f_q).frozen 13
  have q_28 : wc.cell? ⟨w_1.heap.size + 1, 28, none⟩ = some (.int .u16 efl) := (f_q).cell 28
  have q_f28 := (f_q).frozen 28
  replace f_q := Lib.hid f_q
  replace hB_5 := Lib.hid hB_5
  go_wp2_with fail
  refine (HX.out _).mono ?_
  rintro e w_6 ⟨rfl, hb_6⟩
  have z_6 := hb_6.size
  try simp at z_6
  have t_ := hB_5.out
  have hB_6 := bel_eld (w := w) (X := _) (by first | ((repeat (first | with_reducible exact Below.refl _ _ | with_reducible assumption | (with_reducible refine bel_set ?_ (by first | exact Nat.le_refl _ | (simp; done) | (simp; omega) | omega) _) | with_reducible refine bel_grow ?_ _ | with_reducible refine Below.drew ?_ | with_reducible refine below_drewN ?_ _ | with_reducible refine bel_alloc ?_ _ | with_reducible refine bel_trans ?_ (by assumption))); done) | (repeat (first | exact Below.refl _ _ | assumption | refine below_drewN ?_ _ | refine bel_grow ?_ _ | refine Below.drew ?_ | refine bel_alloc ?_ _ | refine bel_set ?_ (by first | exact Nat.le_refl _ | (simp; done) | (simp; omega) | omega) _ | refine bel_trans ?_ (by assumption)))) hb_6
  clear t_
  have t_x := f_x.out
  have t_n := f_n.out
  have t_p := f_p.out
  have t_a := f_a.out
  have t_q := f_q.out
  have g_x : Blk w_6 (w.heap.size) 28 #[.int .u64 xi1, .int .u64 xi2, .int .u64 xd1, .int .u64 xd2, .int .u64 xc1, .int .u64 xc2, .int .u64 xm1, .int .u64 xm2, .int .u64 xw1, .int .u64 xw2, .int .u64 xtg, .int .u32 xto, .int .u32 xlg, .int .u16 xcd, .int .u16 xfl, .int .u64 xst] := by
    refine Blk.kept ?_ hb_6
    (repeat (first | with_reducible assumption | (with_reducible refine Blk.new' ?_; first | with_reducible rfl | (simp; done)) | with_reducible refine Blk.alloc ?_ _ | with_reducible refine Blk.grow ?_ _ | with_reducible refine Blk.drew ?_ | with_reducible refine Blk.drewN ?_ _ | (with_reducible refine Blk.far ?_ (by first | (dsimp only; omega) | (simp; omega)) _) | (with_reducible apply Blk.two) | (with_reducible refine Blk.set' ?_ _ _ ?_) | (with_reducible rfl) | rfl))
  have g_n : Blk w_6 (w.heap.size + 1) 24 #[.int .u64 n1, .int .u64 n2] := by
    refine Blk.kept ?_ hb_6
    (repeat (first | with_reducible assumption | (with_reducible refine Blk.new' ?_; first | with_reducible rfl | (simp; done)) | with_reducible refine Blk.alloc ?_ _ | with_reducible refine Blk.grow ?_ _ | with_reducible refine Blk.drew ?_ | with_reducible refine Blk.drewN ?_ _ | (with_reducible refine Blk.far ?_ (by first | (dsimp only; omega) | (simp; omega)) _) | (with_reducible apply Blk.two) | (with_reducible refine Blk.set' ?_ _ _ ?_) | (with_reducible rfl) | rfl))
  have g_p : Blk w_6 (w.heap.size + 2) 32 #[.int .u64 ai1, .int .u64 ai2, .int .u64 ap1, .int .u64 ap2, .int .u64 aq1, .int .u64 aq2, .int .u64 ar1, .int .u64 ar2, .int .u64 as1, .int .u64 as2, .int .u64 atg, .int .u32 alg, .int .u16 acd, .int .u16 afl, .int .u64 ast, .int .u64 ei1, .int .u64 ei2, .int .u64 ep1, .int .u64 ep2, .int .u64 eq1, .int .u64 eq2, .int .u64 er1, .int .u64 er2, .int .u64 es1, .int .u64 es2, .int .u64 etg, .int .u32 elg, .int .u16 ecd, .int .u16 efl, .int .u64 est, .bool hd, .bool hc] := by
    refine Blk.kept ?_ hb_6
    (repeat (first | with_reducible assumption | (with_reducible refine Blk.new' ?_; first | with_reducible rfl | (simp; done)) | with_reducible refine Blk.alloc ?_ _ | with_reducible refine Blk.grow ?_ _ | with_reducible refine Blk.drew ?_ | with_reducible refine Blk.drewN ?_ _ | (with_reducible refine Blk.far ?_ (by first | (dsimp only; omega) | (simp; omega)) _) | (with_reducible apply Blk.two) | (with_reducible refine Blk.set' ?_ _ _ ?_) | (with_reducible rfl) | rfl))
  have g_a : Blk w_6 (w_1.heap.size) 32 #[.int .u64 ai1, .int .u64 ai2, .int .u64 h1, .int .u64 l1, .int .u64 aq1, .int .u64 aq2, .int .u64 ar1, .int .u64 ar2, .int .u64 as1, .int .u64 as2, .int .u64 atg, .int .u32 alg, .int .u16 acd, .int .u16 fd, .int .u64 ast, .int .u64 ei1, .int .u64 ei2, .int .u64 ep1, .int .u64 ep2, .int .u64 eq1, .int .u64 eq2, .int .u64 h2, .int .u64 l2, .int .u64 es1, .int .u64 es2, .int .u64 etg, .int .u32 elg, .int .u16 ecd, .int .u16 fc, .int .u64 est, .bool hd, .bool hc] := by
    refine Blk.kept ?_ hb_6
    (repeat (first | with_reducible assumption | (with_reducible refine Blk.new' ?_; first | with_reducible rfl | (simp; done)) | with_reducible refine Blk.alloc ?_ _ | with_reducible refine Blk.grow ?_ _ | with_reducible refine Blk.drew ?_ | with_reducible refine Blk.drewN ?_ _ | (with_reducible refine Blk.far ?_ (by first | (dsimp only; omega) | (simp; omega)) _) | (with_reducible apply Blk.two) | (with_reducible refine Blk.set' ?_ _ _ ?_) | (with_reducible rfl) | rfl))
  have g_q : Blk w_6 (w_1.heap.size + 1) 32 #[.int .u64 ai1, .int .u64 ai2, .int .u64 ap1, .int .u64 ap2, .int .u64 aq1, .int .u64 aq2, .int .u64 ar1, .int .u64 ar2, .int .u64 as1, .int .u64 as2, .int .u64 atg, .int .u32 alg, .int .u16 acd, .int .u16 afl, .int .u64 ast, .int .u64 ei1, .int .u64 ei2, .int .u64 ep1, .int .u64 ep2, .int .u64 eq1, .int .u64 eq2, .int .u64 er1, .int .u64 er2, .int .u64 es1, .int .u64 es2, .int .u64 etg, .int .u32 elg, .int .u16 ecd, .int .u16 efl, .int .u64 est, .bool hd, .bool hc] := by
    refine Blk.kept ?_ hb_6
    (repeat (first | with_reducible assumption | (with_reducible refine Blk.new' ?_; first | with_reducible rfl | (simp; done)) | with_reducible refine Blk.alloc ?_ _ | with_reducible refine Blk.grow ?_ _ | with_reducible refine Blk.drew ?_ | with_reducible refine Blk.drewN ?_ _ | (with_reducible refine Blk.far ?_ (by first | (dsimp only; omega) | (simp; omega)) _) | (with_reducible apply Blk.two) | (with_reducible refine Blk.set' ?_ _ _ ?_) | (with_reducible rfl) | rfl))
  clear f_x x_l r_x x_14 x_f14 f_n n_l n_0 n_1 n_f0 n_f1 f_p p_l r_p p_13 p_f13 p_28 p_f28 f_a a_l r_a a_13 a_f13 a_28 a_f28 f_q q_l r_q q_2 q_f2 q_3 q_f3 q_21 q_f21 q_22 q_f22 q_13 q_f13 q_28 q_f28 t_x t_n t_p t_a t_q hB_5 hb_6
  have f_x := g_x
  clear g_x
  have f_n := g_n
  clear g_n
  have f_p := g_p
  clear g_p
  have f_a := g_a
  clear g_a
  have f_q := g_q
  clear g_q
  have r_x := rowAt_blk f_x
  have x_l := f_x.lt
  have x_14 : w_6.cell? ⟨w.heap.size, 14, none⟩ = some (.int .u16 xfl) := (f_x).cell 14
  have x_f14 := (f_x).frozen 14
  replace f_x := Lib.hid f_x
  have n_0 : w_6.cell? ⟨w.heap.size + 1, 0, none⟩ = some (.int .u64 n1) := (f_n).cell 0
  have n_1 : w_6.cell? ⟨w.heap.size + 1, 1, none⟩ = some (.int .u64 n2) := (f_n).cell 1
  have n_f0 := (f_n).frozen 0
  have n_f1 := (f_n).frozen 1
  have n_l := (f_n).lt
  replace f_n := Lib.hid f_n
  have r_p := rowAt_blk f_p
  have p_l := f_p.lt
  have p_13 : w_6.cell? ⟨w.heap.size + 2, 13, none⟩ = some (.int .u16 afl) := (f_p).cell 13
  have p_f13 := (f_p).frozen 13
  have p_28 : w_6.cell? ⟨w.heap.size + 2, 28, none⟩ = some (.int .u16 efl) := (f_p).cell 28
  have p_f28 := (f_p).frozen 28
  replace f_p := Lib.hid f_p
  have r_a := rowAt_blk f_a
  have a_l := f_a.lt
  have a_13 : w_6.cell? ⟨w_1.heap.size, 13, none⟩ = some (.int .u16 fd) := (f_a).cell 13
  have a_f13 := (f_a).frozen 13
  have a_28 : w_6.cell? ⟨w_1.heap.size, 28, none⟩ = some (.int .u16 fc) := (f_a).cell 28
  have a_f28 := (f_a).frozen 28
  replace f_a := Lib.hid f_a
  have r_q := rowAt_blk f_q
  have q_l := f_q.lt
  have q_2 : w_6.cell? ⟨w_1.heap.size + 1, 2, none⟩ = some (.int .u64 ap1) := (f_q).cell 2
  have q_f2 := (f_q).frozen 2
  have q_3 : w_6.cell? ⟨w_1.heap.size + 1, 3, none⟩ = some (.int .u64 ap2) := (f_q).cell 3
  have q_f3 := (f_q).frozen 3
  have q_21 : w_6.cell? ⟨w_1.heap.size + 1, 21, none⟩ = some (.int .u64 er1) := (f_q).cell 21
  have q_f21 := (f_q).frozen 21
  have q_22 : w_6.cell? ⟨w_1.heap.size + 1, 22, none⟩ = some (.int .u64 er2) := (f_q).cell 22
  have q_f22 := (f_q).frozen 22
  have q_13 : w_6.cell? ⟨w_1.heap.size + 1, 13, none⟩ = some (.int .u16 afl) := (f_q).cell 13
  have q_f13 := (f_q).frozen 13
  have q_28 : w_6.cell? ⟨w_1.heap.size + 1, 28, none⟩ = some (.int .u16 efl) := (f_q).cell 28
  have q_f28 := (f_q).frozen 28
  replace f_q := Lib.hid f_q
  replace hB_6 := Lib.hid hB_6
  go_wp2_with fail
  go_ret
  exact ⟨by first | rfl | simp, by have t_B := hB_6.out; (repeat (first | with_reducible exact Below.refl _ _ | with_reducible assumption | (with_reducible refine bel_set ?_ (by first | exact Nat.le_refl _ | (simp; done) | (simp; omega) | omega) _) | with_reducible refine bel_grow ?_ _ | with_reducible refine Below.drew ?_ | with_reducible refine bel_alloc ?_ _ | with_reducible refine bel_eld ?_ (by assumption)))⟩
set_option maxRecDepth 8000 in
set_option maxHeartbeats 8000000 in
theorem even_yes_false (xi1 xi2 xd1 xd2 xc1 xc2 xm1 xm2 xw1 xw2 xtg xto xlg xcd xfl xst n1 n2 ai1 ai2 ap1 ap2 aq1 aq2 ar1 ar2 as1 as2 atg alg acd afl ast ei1 ei2 ep1 ep2 eq1 eq2 er1 er2 es1 es2 etg elg ecd efl est h1 l1 h2 l2 fd fc : Int) (hd hc : Bool) (hpen : (bits .and .u16 xfl 2 != 0) = false) (F1 : (bits .andNot .u16 (bits .xor .u16 fd afl) 16 == 0) = true) (F2 : (bits .andNot .u16 (bits .xor .u16 fc efl) 16 == 0) = true)
    (HX : ∀ w, Calls Try.prog 15 #[] w fun r w' => r = .returned (.bool true) ∧ Below w.heap.size w w')
    (HM : ∀ w, Calls Try.prog 14 #[.agg #[.int .u64 xi1, .int .u64 xi2, .int .u64 xd1, .int .u64 xd2, .int .u64 xc1, .int .u64 xc2, .int .u64 xm1, .int .u64 xm2, .int .u64 xw1, .int .u64 xw2, .int .u64 xtg, .int .u32 xto, .int .u32 xlg, .int .u16 xcd, .int .u16 xfl, .int .u64 xst], .agg #[.int .u64 n1, .int .u64 n2], .agg #[.int .u64 ai1, .int .u64 ai2, .int .u64 ap1, .int .u64 ap2, .int .u64 aq1, .int .u64 aq2, .int .u64 ar1, .int .u64 ar2, .int .u64 as1, .int .u64 as2, .int .u64 atg, .int .u32 alg, .int .u16 acd, .int .u16 afl, .int .u64 ast, .int .u64 ei1, .int .u64 ei2, .int .u64 ep1, .int .u64 ep2, .int .u64 eq1, .int .u64 eq2, .int .u64 er1, .int .u64 er2, .int .u64 es1, .int .u64 es2, .int .u64 etg, .int .u32 elg, .int .u16 ecd, .int .u16 efl, .int .u64 est, .bool hd, .bool hc]] w fun r w' => r = .returned (.tuple #[.agg #[.int .u64 ai1, .int .u64 ai2, .int .u64 ap1, .int .u64 ap2, .int .u64 h1, .int .u64 l1, .int .u64 ar1, .int .u64 ar2, .int .u64 as1, .int .u64 as2, .int .u64 atg, .int .u32 alg, .int .u16 acd, .int .u16 fd, .int .u64 ast, .int .u64 ei1, .int .u64 ei2, .int .u64 ep1, .int .u64 ep2, .int .u64 eq1, .int .u64 eq2, .int .u64 er1, .int .u64 er2, .int .u64 h2, .int .u64 l2, .int .u64 etg, .int .u32 elg, .int .u16 ecd, .int .u16 fc, .int .u64 est, .bool hd, .bool hc], .bool true]) ∧ Below w.heap.size w w')
    (HS1 : ∀ w, Calls Try.prog 16 #[.agg #[.int .u64 h1, .int .u64 l1], .agg #[.int .u64 n1, .int .u64 n2]] w fun r w' => r = .returned (.tuple #[.agg #[.int .u64 aq1, .int .u64 aq2], .bool true]) ∧ Below w.heap.size w w')
    (HS2 : ∀ w, Calls Try.prog 16 #[.agg #[.int .u64 h2, .int .u64 l2], .agg #[.int .u64 n1, .int .u64 n2]] w fun r w' => r = .returned (.tuple #[.agg #[.int .u64 es1, .int .u64 es2], .bool true]) ∧ Below w.heap.size w w')
    (w : World) : Calls Try.prog 3 #[.agg #[.int .u64 xi1, .int .u64 xi2, .int .u64 xd1, .int .u64 xd2, .int .u64 xc1, .int .u64 xc2, .int .u64 xm1, .int .u64 xm2, .int .u64 xw1, .int .u64 xw2, .int .u64 xtg, .int .u32 xto, .int .u32 xlg, .int .u16 xcd, .int .u16 xfl, .int .u64 xst], .agg #[.int .u64 n1, .int .u64 n2], .agg #[.int .u64 ai1, .int .u64 ai2, .int .u64 ap1, .int .u64 ap2, .int .u64 aq1, .int .u64 aq2, .int .u64 ar1, .int .u64 ar2, .int .u64 as1, .int .u64 as2, .int .u64 atg, .int .u32 alg, .int .u16 acd, .int .u16 afl, .int .u64 ast, .int .u64 ei1, .int .u64 ei2, .int .u64 ep1, .int .u64 ep2, .int .u64 eq1, .int .u64 eq2, .int .u64 er1, .int .u64 er2, .int .u64 es1, .int .u64 es2, .int .u64 etg, .int .u32 elg, .int .u16 ecd, .int .u16 efl, .int .u64 est, .bool hd, .bool hc]] w fun r w' => r = .returned (.bool true) ∧ Below w.heap.size w w' := by
  replace HX := Lib.hid HX
  replace HM := Lib.hid HM
  replace HS1 := Lib.hid HS1
  replace HS2 := Lib.hid HS2
  have hb0 := Below.refl w.heap.size w
  go_enter Try.func3, Try.ntmps3
  replace hb0 := Lib.hid hb0
  go_wp2_with fail
  refine (HM.out _).mono ?_
  rintro e w_1 ⟨rfl, hb_1⟩
  have z_1 := hb_1.size
  try simp at z_1
  have t_ := hb0.out
  have hB_1 := bel_eld (w := w) (X := _) (by first | ((repeat (first | with_reducible exact Below.refl _ _ | with_reducible assumption | (with_reducible refine bel_set ?_ (by first | exact Nat.le_refl _ | (simp; done) | (simp; omega) | omega) _) | with_reducible refine bel_grow ?_ _ | with_reducible refine Below.drew ?_ | with_reducible refine below_drewN ?_ _ | with_reducible refine bel_alloc ?_ _ | with_reducible refine bel_trans ?_ (by assumption))); done) | (repeat (first | exact Below.refl _ _ | assumption | refine below_drewN ?_ _ | refine bel_grow ?_ _ | refine Below.drew ?_ | refine bel_alloc ?_ _ | refine bel_set ?_ (by first | exact Nat.le_refl _ | (simp; done) | (simp; omega) | omega) _ | refine bel_trans ?_ (by assumption)))) hb_1
  clear t_
  have g_x : Blk w_1 (w.heap.size) 28 #[.int .u64 xi1, .int .u64 xi2, .int .u64 xd1, .int .u64 xd2, .int .u64 xc1, .int .u64 xc2, .int .u64 xm1, .int .u64 xm2, .int .u64 xw1, .int .u64 xw2, .int .u64 xtg, .int .u32 xto, .int .u32 xlg, .int .u16 xcd, .int .u16 xfl, .int .u64 xst] := by
    refine Blk.kept ?_ hb_1
    (repeat (first | with_reducible assumption | (with_reducible refine Blk.new' ?_; first | with_reducible rfl | (simp; done)) | with_reducible refine Blk.alloc ?_ _ | with_reducible refine Blk.grow ?_ _ | with_reducible refine Blk.drew ?_ | with_reducible refine Blk.drewN ?_ _ | (with_reducible refine Blk.far ?_ (by first | (dsimp only; omega) | (simp; omega)) _) | (with_reducible apply Blk.two) | (with_reducible refine Blk.set' ?_ _ _ ?_) | (with_reducible rfl) | rfl))
  have g_n : Blk w_1 (w.heap.size + 1) 24 #[.int .u64 n1, .int .u64 n2] := by
    refine Blk.kept ?_ hb_1
    (repeat (first | with_reducible assumption | (with_reducible refine Blk.new' ?_; first | with_reducible rfl | (simp; done)) | with_reducible refine Blk.alloc ?_ _ | with_reducible refine Blk.grow ?_ _ | with_reducible refine Blk.drew ?_ | with_reducible refine Blk.drewN ?_ _ | (with_reducible refine Blk.far ?_ (by first | (dsimp only; omega) | (simp; omega)) _) | (with_reducible apply Blk.two) | (with_reducible refine Blk.set' ?_ _ _ ?_) | (with_reducible rfl) | rfl))
  have g_p : Blk w_1 (w.heap.size + 2) 32 #[.int .u64 ai1, .int .u64 ai2, .int .u64 ap1, .int .u64 ap2, .int .u64 aq1, .int .u64 aq2, .int .u64 ar1, .int .u64 ar2, .int .u64 as1, .int .u64 as2, .int .u64 atg, .int .u32 alg, .int .u16 acd, .int .u16 afl, .int .u64 ast, .int .u64 ei1, .int .u64 ei2, .int .u64 ep1, .int .u64 ep2, .int .u64 eq1, .int .u64 eq2, .int .u64 er1, .int .u64 er2, .int .u64 es1, .int .u64 es2, .int .u64 etg, .int .u32 elg, .int .u16 ecd, .int .u16 efl, .int .u64 est, .bool hd, .bool hc] := by
    refine Blk.kept ?_ hb_1
    (repeat (first | with_reducible assumption | (with_reducible refine Blk.new' ?_; first | with_reducible rfl | (simp; done)) | with_reducible refine Blk.alloc ?_ _ | with_reducible refine Blk.grow ?_ _ | with_reducible refine Blk.drew ?_ | with_reducible refine Blk.drewN ?_ _ | (with_reducible refine Blk.far ?_ (by first | (dsimp only; omega) | (simp; omega)) _) | (with_reducible apply Blk.two) | (with_reducible refine Blk.set' ?_ _ _ ?_) | (with_reducible rfl) | rfl))
  clear hb0 hb_1
  have f_x := g_x
  clear g_x
  have f_n := g_n
  clear g_n
  have f_p := g_p
  clear g_p
  have r_x := rowAt_blk f_x
  have x_l := f_x.lt
  have x_14 : w_1.cell? ⟨w.heap.size, 14, none⟩ = some (.int .u16 xfl) := (f_x).cell 14
  have x_f14 := (f_x).frozen 14
  replace f_x := Lib.hid f_x
  have n_0 : w_1.cell? ⟨w.heap.size + 1, 0, none⟩ = some (.int .u64 n1) := (f_n).cell 0
  have n_1 : w_1.cell? ⟨w.heap.size + 1, 1, none⟩ = some (.int .u64 n2) := (f_n).cell 1
  have n_f0 := (f_n).frozen 0
  have n_f1 := (f_n).frozen 1
  have n_l := (f_n).lt
  replace f_n := Lib.hid f_n
  have r_p := rowAt_blk f_p
  have p_l := f_p.lt
  have p_13 : w_1.cell? ⟨w.heap.size + 2, 13, none⟩ = some (.int .u16 afl) := (f_p).cell 13
  have p_f13 := (f_p).frozen 13
  have p_28 : w_1.cell? ⟨w.heap.size + 2, 28, none⟩ = some (.int .u16 efl) := (f_p).cell 28
  have p_f28 := (f_p).frozen 28
  replace f_p := Lib.hid f_p
  replace hB_1 := Lib.hid hB_1
  go_upto_region 5 with fail
  refine abs_wp (fun Y_ => Below w.heap.size w Y_ ∧ Blk Y_ (w.heap.size) 28 #[.int .u64 xi1, .int .u64 xi2, .int .u64 xd1, .int .u64 xd2, .int .u64 xc1, .int .u64 xc2, .int .u64 xm1, .int .u64 xm2, .int .u64 xw1, .int .u64 xw2, .int .u64 xtg, .int .u32 xto, .int .u32 xlg, .int .u16 xcd, .int .u16 xfl, .int .u64 xst] ∧ Blk Y_ (w.heap.size + 1) 24 #[.int .u64 n1, .int .u64 n2] ∧ Blk Y_ (w.heap.size + 2) 32 #[.int .u64 ai1, .int .u64 ai2, .int .u64 ap1, .int .u64 ap2, .int .u64 aq1, .int .u64 aq2, .int .u64 ar1, .int .u64 ar2, .int .u64 as1, .int .u64 as2, .int .u64 atg, .int .u32 alg, .int .u16 acd, .int .u16 afl, .int .u64 ast, .int .u64 ei1, .int .u64 ei2, .int .u64 ep1, .int .u64 ep2, .int .u64 eq1, .int .u64 eq2, .int .u64 er1, .int .u64 er2, .int .u64 es1, .int .u64 es2, .int .u64 etg, .int .u32 elg, .int .u16 ecd, .int .u16 efl, .int .u64 est, .bool hd, .bool hc] ∧ Blk Y_ (w_1.heap.size) 32 #[.int .u64 ai1, .int .u64 ai2, .int .u64 ap1, .int .u64 ap2, .int .u64 h1, .int .u64 l1, .int .u64 ar1, .int .u64 ar2, .int .u64 as1, .int .u64 as2, .int .u64 atg, .int .u32 alg, .int .u16 acd, .int .u16 fd, .int .u64 ast, .int .u64 ei1, .int .u64 ei2, .int .u64 ep1, .int .u64 ep2, .int .u64 eq1, .int .u64 eq2, .int .u64 er1, .int .u64 er2, .int .u64 h2, .int .u64 l2, .int .u64 etg, .int .u32 elg, .int .u16 ecd, .int .u16 fc, .int .u64 est, .bool hd, .bool hc] ∧ Blk Y_ (w_1.heap.size + 1) 32 #[.int .u64 ai1, .int .u64 ai2, .int .u64 ap1, .int .u64 ap2, .int .u64 h1, .int .u64 l1, .int .u64 ar1, .int .u64 ar2, .int .u64 as1, .int .u64 as2, .int .u64 atg, .int .u32 alg, .int .u16 acd, .int .u16 fd, .int .u64 ast, .int .u64 ei1, .int .u64 ei2, .int .u64 ep1, .int .u64 ep2, .int .u64 eq1, .int .u64 eq2, .int .u64 er1, .int .u64 er2, .int .u64 h2, .int .u64 l2, .int .u64 etg, .int .u32 elg, .int .u16 ecd, .int .u16 fc, .int .u64 est, .bool hd, .bool hc]) ?_ ?_
  · have t_B := hB_1.out
    have t_x := f_x.out
    have t_n := f_n.out
    have t_p := f_p.out
    refine ⟨by (repeat (first | with_reducible exact Below.refl _ _ | with_reducible assumption | (with_reducible refine bel_set ?_ (by first | exact Nat.le_refl _ | (simp; done) | (simp; omega) | omega) _) | with_reducible refine bel_grow ?_ _ | with_reducible refine Below.drew ?_ | with_reducible refine bel_alloc ?_ _ | with_reducible refine bel_eld ?_ (by assumption))), ?_, ?_, ?_, ?_, ?_⟩
    · (repeat (first | with_reducible assumption | (with_reducible refine Blk.new' ?_; first | with_reducible rfl | (simp; done)) | with_reducible refine Blk.alloc ?_ _ | with_reducible refine Blk.grow ?_ _ | with_reducible refine Blk.drew ?_ | with_reducible refine Blk.drewN ?_ _ | (with_reducible refine Blk.far ?_ (by first | (dsimp only; omega) | (simp; omega)) _) | (with_reducible apply Blk.two) | (with_reducible refine Blk.kept ?_ (by assumption)) | (with_reducible refine Blk.setRow ?_ (by first | rfl | (simp; done))) | (with_reducible refine Blk.setRow_far ?_ (by first | omega | (simp; omega)) _) | (with_reducible refine Blk.set' ?_ _ _ (by first | rfl | (simp; done)))))
    · (repeat (first | with_reducible assumption | (with_reducible refine Blk.new' ?_; first | with_reducible rfl | (simp; done)) | with_reducible refine Blk.alloc ?_ _ | with_reducible refine Blk.grow ?_ _ | with_reducible refine Blk.drew ?_ | with_reducible refine Blk.drewN ?_ _ | (with_reducible refine Blk.far ?_ (by first | (dsimp only; omega) | (simp; omega)) _) | (with_reducible apply Blk.two) | (with_reducible refine Blk.kept ?_ (by assumption)) | (with_reducible refine Blk.setRow ?_ (by first | rfl | (simp; done))) | (with_reducible refine Blk.setRow_far ?_ (by first | omega | (simp; omega)) _) | (with_reducible refine Blk.set' ?_ _ _ (by first | rfl | (simp; done)))))
    · (repeat (first | with_reducible assumption | (with_reducible refine Blk.new' ?_; first | with_reducible rfl | (simp; done)) | with_reducible refine Blk.alloc ?_ _ | with_reducible refine Blk.grow ?_ _ | with_reducible refine Blk.drew ?_ | with_reducible refine Blk.drewN ?_ _ | (with_reducible refine Blk.far ?_ (by first | (dsimp only; omega) | (simp; omega)) _) | (with_reducible apply Blk.two) | (with_reducible refine Blk.kept ?_ (by assumption)) | (with_reducible refine Blk.setRow ?_ (by first | rfl | (simp; done))) | (with_reducible refine Blk.setRow_far ?_ (by first | omega | (simp; omega)) _) | (with_reducible refine Blk.set' ?_ _ _ (by first | rfl | (simp; done)))))
    · (repeat (first | with_reducible assumption | (with_reducible refine Blk.new' ?_; first | with_reducible rfl | (simp; done)) | with_reducible refine Blk.alloc ?_ _ | with_reducible refine Blk.grow ?_ _ | with_reducible refine Blk.drew ?_ | with_reducible refine Blk.drewN ?_ _ | (with_reducible refine Blk.far ?_ (by first | (dsimp only; omega) | (simp; omega)) _) | (with_reducible apply Blk.two) | (with_reducible refine Blk.kept ?_ (by assumption)) | (with_reducible refine Blk.setRow ?_ (by first | rfl | (simp; done))) | (with_reducible refine Blk.setRow_far ?_ (by first | omega | (simp; omega)) _) | (with_reducible refine Blk.set' ?_ _ _ (by first | rfl | (simp; done)))))
    · first | exact Blk.eqv ((tq7.set_ 21 _).set_ 22 _) (by first | rfl | simp) | (repeat (first | with_reducible assumption | (with_reducible refine Blk.new' ?_; first | with_reducible rfl | (simp; done)) | with_reducible refine Blk.alloc ?_ _ | with_reducible refine Blk.grow ?_ _ | with_reducible refine Blk.drew ?_ | with_reducible refine Blk.drewN ?_ _ | (with_reducible refine Blk.far ?_ (by first | (dsimp only; omega) | (simp; omega)) _) | (with_reducible apply Blk.two) | (with_reducible refine Blk.kept ?_ (by assumption)) | (with_reducible refine Blk.setRow ?_ (by first | rfl | (simp; done))) | (with_reducible refine Blk.setRow_far ?_ (by first | omega | (simp; omega)) _) | (with_reducible refine Blk.set' ?_ _ _ (by first | rfl | (simp; done)))))
  clear f_x x_l r_x x_14 x_f14 f_n n_l n_0 n_1 n_f0 n_f1 f_p p_l r_p p_13 p_f13 p_28 p_f28 hB_1
  rintro X2 ⟨hB_2, f_x, f_n, f_p, f_a, f_q⟩
  have r_x := rowAt_blk f_x
  have x_l := f_x.lt
  have x_14 : X2.cell? ⟨w.heap.size, 14, none⟩ = some (.int .u16 xfl) := (f_x).cell 14
  have x_f14 := (f_x).frozen 14
  replace f_x := Lib.hid f_x
  have n_0 : X2.cell? ⟨w.heap.size + 1, 0, none⟩ = some (.int .u64 n1) := (f_n).cell 0
  have n_1 : X2.cell? ⟨w.heap.size + 1, 1, none⟩ = some (.int .u64 n2) := (f_n).cell 1
  have n_f0 := (f_n).frozen 0
  have n_f1 := (f_n).frozen 1
  have n_l := (f_n).lt
  replace f_n := Lib.hid f_n
  have r_p := rowAt_blk f_p
  have p_l := f_p.lt
  have p_13 : X2.cell? ⟨w.heap.size + 2, 13, none⟩ = some (.int .u16 afl) := (f_p).cell 13
  have p_f13 := (f_p).frozen 13
  have p_28 : X2.cell? ⟨w.heap.size + 2, 28, none⟩ = some (.int .u16 efl) := (f_p).cell 28
  have p_f28 := (f_p).frozen 28
  replace f_p := Lib.hid f_p
  have r_a := rowAt_blk f_a
  have a_l := f_a.lt
  have a_13 : X2.cell? ⟨w_1.heap.size, 13, none⟩ = some (.int .u16 fd) := (f_a).cell 13
  have a_f13 := (f_a).frozen 13
  have a_28 : X2.cell? ⟨w_1.heap.size, 28, none⟩ = some (.int .u16 fc) := (f_a).cell 28
  have a_f28 := (f_a).frozen 28
  replace f_a := Lib.hid f_a
  have r_q := rowAt_blk f_q
  have q_l := f_q.lt
  have q_4 : X2.cell? ⟨w_1.heap.size + 1, 4, none⟩ = some (.int .u64 h1) := (f_q).cell 4
  have q_f4 := (f_q).frozen 4
  have q_5 : X2.cell? ⟨w_1.heap.size + 1, 5, none⟩ = some (.int .u64 l1) := (f_q).cell 5
  have q_f5 := (f_q).frozen 5
  have q_23 : X2.cell? ⟨w_1.heap.size + 1, 23, none⟩ = some (.int .u64 h2) := (f_q).cell 23
  have q_f23 := (f_q).frozen 23
  have q_24 : X2.cell? ⟨w_1.heap.size + 1, 24, none⟩ = some (.int .u64 l2) := (f_q).cell 24
  have q_f24 := (f_q).frozen 24
  have q_13 : X2.cell? ⟨w_1.heap.size + 1, 13, none⟩ = some (.int .u16 fd) := (f_q).cell 13
  have q_f13 := (f_q).frozen 13
  have q_28 : X2.cell? ⟨w_1.heap.size + 1, 28, none⟩ = some (.int .u16 fc) := (f_q).cell 28
  have q_f28 := (f_q).frozen 28
  replace f_q := Lib.hid f_q
  replace hB_2 := Lib.hid hB_2
  go_cut [] (fun  wx => Below w.heap.size w wx ∧ Blk wx (w.heap.size) 28 #[.int .u64 xi1, .int .u64 xi2, .int .u64 xd1, .int .u64 xd2, .int .u64 xc1, .int .u64 xc2, .int .u64 xm1, .int .u64 xm2, .int .u64 xw1, .int .u64 xw2, .int .u64 xtg, .int .u32 xto, .int .u32 xlg, .int .u16 xcd, .int .u16 xfl, .int .u64 xst] ∧ Blk wx (w.heap.size + 1) 24 #[.int .u64 n1, .int .u64 n2] ∧ Blk wx (w.heap.size + 2) 32 #[.int .u64 ai1, .int .u64 ai2, .int .u64 ap1, .int .u64 ap2, .int .u64 aq1, .int .u64 aq2, .int .u64 ar1, .int .u64 ar2, .int .u64 as1, .int .u64 as2, .int .u64 atg, .int .u32 alg, .int .u16 acd, .int .u16 afl, .int .u64 ast, .int .u64 ei1, .int .u64 ei2, .int .u64 ep1, .int .u64 ep2, .int .u64 eq1, .int .u64 eq2, .int .u64 er1, .int .u64 er2, .int .u64 es1, .int .u64 es2, .int .u64 etg, .int .u32 elg, .int .u16 ecd, .int .u16 efl, .int .u64 est, .bool hd, .bool hc] ∧ Blk wx (w_1.heap.size) 32 #[.int .u64 ai1, .int .u64 ai2, .int .u64 ap1, .int .u64 ap2, .int .u64 h1, .int .u64 l1, .int .u64 ar1, .int .u64 ar2, .int .u64 as1, .int .u64 as2, .int .u64 atg, .int .u32 alg, .int .u16 acd, .int .u16 fd, .int .u64 ast, .int .u64 ei1, .int .u64 ei2, .int .u64 ep1, .int .u64 ep2, .int .u64 eq1, .int .u64 eq2, .int .u64 er1, .int .u64 er2, .int .u64 h2, .int .u64 l2, .int .u64 etg, .int .u32 elg, .int .u16 ecd, .int .u16 fc, .int .u64 est, .bool hd, .bool hc] ∧ Blk wx (w_1.heap.size + 1) 32 #[.int .u64 ai1, .int .u64 ai2, .int .u64 ap1, .int .u64 ap2, .int .u64 h1, .int .u64 l1, .int .u64 ar1, .int .u64 ar2, .int .u64 as1, .int .u64 as2, .int .u64 atg, .int .u32 alg, .int .u16 acd, .int .u16 afl, .int .u64 ast, .int .u64 ei1, .int .u64 ei2, .int .u64 ep1, .int .u64 ep2, .int .u64 eq1, .int .u64 eq2, .int .u64 er1, .int .u64 er2, .int .u64 h2, .int .u64 l2, .int .u64 etg, .int .u32 elg, .int .u16 ecd, .int .u16 efl, .int .u64 est, .bool hd, .bool hc])
  case first =>
    (first | (go_region_held (fun w' => w'.cell? ⟨w.heap.size + 2, 13, none⟩ = some (.int .u16 afl) ∧ w'.cell? ⟨w.heap.size + 2, 28, none⟩ = some (.int .u16 efl))
      (first | ((try go_split_ands); (repeat' apply And.intro) <;> (first | with_reducible assumption | ((repeat (first | with_reducible refine keepd ?_ | with_reducible refine keepdr ?_ | with_reducible refine keepal ?_ | with_reducible refine keepral ?_ | with_reducible refine keeps (by dsimp only; omega) ?_ | with_reducible refine keepr (by dsimp only; omega) ?_ | with_reducible refine keepc (by assumption) ?_ | with_reducible refine keeprc (by assumption) ?_)); with_reducible assumption))))
      (fail)) | fail)
    all_goals (
      go_wp2_with fail
      go_meet
      have t_B := hB_2.out
      have t_x := f_x.out
      have t_n := f_n.out
      have t_p := f_p.out
      have t_a := f_a.out
      have t_q := f_q.out
      exact ⟨by (repeat (first | with_reducible exact Below.refl _ _ | with_reducible assumption | (with_reducible refine bel_set ?_ (by first | exact Nat.le_refl _ | (simp; done) | (simp; omega) | omega) _) | with_reducible refine bel_grow ?_ _ | with_reducible refine Below.drew ?_ | with_reducible refine bel_alloc ?_ _ | (with_reducible refine below_setRow ?_ (by first | omega | (simp; omega)) _) | with_reducible refine bel_eld ?_ (by assumption))), by (repeat (first | with_reducible assumption | (with_reducible refine Blk.new' ?_; first | with_reducible rfl | (simp; done)) | with_reducible refine Blk.alloc ?_ _ | with_reducible refine Blk.grow ?_ _ | with_reducible refine Blk.drew ?_ | with_reducible refine Blk.drewN ?_ _ | (with_reducible refine Blk.far ?_ (by first | (dsimp only; omega) | (simp; omega)) _) | (with_reducible apply Blk.two) | (with_reducible refine Blk.kept ?_ (by assumption)) | (with_reducible refine Blk.setRow ?_ (by first | rfl | (simp; done))) | (with_reducible refine Blk.setRow_far ?_ (by first | omega | (simp; omega)) _) | (with_reducible refine Blk.set' ?_ _ _ (by first | rfl | (simp; done))))), by (repeat (first | with_reducible assumption | (with_reducible refine Blk.new' ?_; first | with_reducible rfl | (simp; done)) | with_reducible refine Blk.alloc ?_ _ | with_reducible refine Blk.grow ?_ _ | with_reducible refine Blk.drew ?_ | with_reducible refine Blk.drewN ?_ _ | (with_reducible refine Blk.far ?_ (by first | (dsimp only; omega) | (simp; omega)) _) | (with_reducible apply Blk.two) | (with_reducible refine Blk.kept ?_ (by assumption)) | (with_reducible refine Blk.setRow ?_ (by first | rfl | (simp; done))) | (with_reducible refine Blk.setRow_far ?_ (by first | omega | (simp; omega)) _) | (with_reducible refine Blk.set' ?_ _ _ (by first | rfl | (simp; done))))), by (repeat (first | with_reducible assumption | (with_reducible refine Blk.new' ?_; first | with_reducible rfl | (simp; done)) | with_reducible refine Blk.alloc ?_ _ | with_reducible refine Blk.grow ?_ _ | with_reducible refine Blk.drew ?_ | with_reducible refine Blk.drewN ?_ _ | (with_reducible refine Blk.far ?_ (by first | (dsimp only; omega) | (simp; omega)) _) | (with_reducible apply Blk.two) | (with_reducible refine Blk.kept ?_ (by assumption)) | (with_reducible refine Blk.setRow ?_ (by first | rfl | (simp; done))) | (with_reducible refine Blk.setRow_far ?_ (by first | omega | (simp; omega)) _) | (with_reducible refine Blk.set' ?_ _ _ (by first | rfl | (simp; done))))), by (repeat (first | with_reducible assumption | (with_reducible refine Blk.new' ?_; first | with_reducible rfl | (simp; done)) | with_reducible refine Blk.alloc ?_ _ | with_reducible refine Blk.grow ?_ _ | with_reducible refine Blk.drew ?_ | with_reducible refine Blk.drewN ?_ _ | (with_reducible refine Blk.far ?_ (by first | (dsimp only; omega) | (simp; omega)) _) | (with_reducible apply Blk.two) | (with_reducible refine Blk.kept ?_ (by assumption)) | (with_reducible refine Blk.setRow ?_ (by first | rfl | (simp; done))) | (with_reducible refine Blk.setRow_far ?_ (by first | omega | (simp; omega)) _) | (with_reducible refine Blk.set' ?_ _ _ (by first | rfl | (simp; done))))), by first | exact (by first | exact Blk.eqv ((t_q.drew.set_ 13 _).set_ 28 _) (by first | rfl | simp) | exact Blk.eqv ((t_q.drew.set_ 28 _).set_ 13 _) (by first | rfl | simp)) | (repeat (first | with_reducible assumption | (with_reducible refine Blk.new' ?_; first | with_reducible rfl | (simp; done)) | with_reducible refine Blk.alloc ?_ _ | with_reducible refine Blk.grow ?_ _ | with_reducible refine Blk.drew ?_ | with_reducible refine Blk.drewN ?_ _ | (with_reducible refine Blk.far ?_ (by first | (dsimp only; omega) | (simp; omega)) _) | (with_reducible apply Blk.two) | (with_reducible refine Blk.kept ?_ (by assumption)) | (with_reducible refine Blk.setRow ?_ (by first | rfl | (simp; done))) | (with_reducible refine Blk.setRow_far ?_ (by first | omega | (simp; omega)) _) | (with_reducible refine Blk.set' ?_ _ _ (by first | rfl | (simp; done)))))⟩
      )
  case rest =>
  clear f_x x_l r_x x_14 x_f14 f_n n_l n_0 n_1 n_f0 n_f1 f_p p_l r_p p_13 p_f13 p_28 p_f28 f_a a_l r_a a_13 a_f13 a_28 a_f28 f_q q_l r_q q_4 q_f4 q_5 q_f5 q_23 q_f23 q_24 q_f24 q_13 q_f13 q_28 q_f28 hB_2
  obtain ⟨hB_3, f_x, f_n, f_p, f_a, f_q⟩ := hcut
  have r_x := rowAt_blk f_x
  have x_l := f_x.lt
  have x_14 : wc.cell? ⟨w.heap.size, 14, none⟩ = some (.int .u16 xfl) := (f_x).cell 14
  have x_f14 := (f_x).frozen 14
  replace f_x := Lib.hid f_x
  have n_0 : wc.cell? ⟨w.heap.size + 1, 0, none⟩ = some (.int .u64 n1) := (f_n).cell 0
  have n_1 : wc.cell? ⟨w.heap.size + 1, 1, none⟩ = some (.int .u64 n2) := (f_n).cell 1
  have n_f0 := (f_n).frozen 0
  have n_f1 := (f_n).frozen 1
  have n_l := (f_n).lt
  replace f_n := Lib.hid f_n
  have r_p := rowAt_blk f_p
  have p_l := f_p.lt
  have p_13 : wc.cell? ⟨w.heap.size + 2, 13, none⟩ = some (.int .u16 afl) := (f_p).cell 13
  have p_f13 := (f_p).frozen 13
  have p_28 : wc.cell? ⟨w.heap.size + 2, 28, none⟩ = some (.int .u16 efl) := (f_p).cell 28
  have p_f28 := (f_p).frozen 28
  replace f_p := Lib.hid f_p
  have r_a := rowAt_blk f_a
  have a_l := f_a.lt
  have a_13 : wc.cell? ⟨w_1.heap.size, 13, none⟩ = some (.int .u16 fd) := (f_a).cell 13
  have a_f13 := (f_a).frozen 13
  have a_28 : wc.cell? ⟨w_1.heap.size, 28, none⟩ = some (.int .u16 fc) := (f_a).cell 28
  have a_f28 := (f_a).frozen 28
  replace f_a := Lib.hid f_a
  have r_q := rowAt_blk f_q
  have q_l := f_q.lt
  have q_4 : wc.cell? ⟨w_1.heap.size + 1, 4, none⟩ = some (.int .u64 h1) := (f_q).cell 4
  have q_f4 := (f_q).frozen 4
  have q_5 : wc.cell? ⟨w_1.heap.size + 1, 5, none⟩ = some (.int .u64 l1) := (f_q).cell 5
  have q_f5 := (f_q).frozen 5
  have q_23 : wc.cell? ⟨w_1.heap.size + 1, 23, none⟩ = some (.int .u64 h2) := (f_q).cell 23
  have q_f23 := (f_q).frozen 23
  have q_24 : wc.cell? ⟨w_1.heap.size + 1, 24, none⟩ = some (.int .u64 l2) := (f_q).cell 24
  have q_f24 := (f_q).frozen 24
  have q_13 : wc.cell? ⟨w_1.heap.size + 1, 13, none⟩ = some (.int .u16 afl) := (f_q).cell 13
  have q_f13 := (f_q).frozen 13
  have q_28 : wc.cell? ⟨w_1.heap.size + 1, 28, none⟩ = some (.int .u16 efl) := (f_q).cell 28
  have q_f28 := (f_q).frozen 28
  replace f_q := Lib.hid f_q
  replace hB_3 := Lib.hid hB_3
  go_upto_region 10 with fail
  go_cut [12] (fun s wx => s = .bool true ∧ Below w.heap.size w wx ∧ Blk wx (w.heap.size) 28 #[.int .u64 xi1, .int .u64 xi2, .int .u64 xd1, .int .u64 xd2, .int .u64 xc1, .int .u64 xc2, .int .u64 xm1, .int .u64 xm2, .int .u64 xw1, .int .u64 xw2, .int .u64 xtg, .int .u32 xto, .int .u32 xlg, .int .u16 xcd, .int .u16 xfl, .int .u64 xst] ∧ Blk wx (w.heap.size + 1) 24 #[.int .u64 n1, .int .u64 n2] ∧ Blk wx (w.heap.size + 2) 32 #[.int .u64 ai1, .int .u64 ai2, .int .u64 ap1, .int .u64 ap2, .int .u64 aq1, .int .u64 aq2, .int .u64 ar1, .int .u64 ar2, .int .u64 as1, .int .u64 as2, .int .u64 atg, .int .u32 alg, .int .u16 acd, .int .u16 afl, .int .u64 ast, .int .u64 ei1, .int .u64 ei2, .int .u64 ep1, .int .u64 ep2, .int .u64 eq1, .int .u64 eq2, .int .u64 er1, .int .u64 er2, .int .u64 es1, .int .u64 es2, .int .u64 etg, .int .u32 elg, .int .u16 ecd, .int .u16 efl, .int .u64 est, .bool hd, .bool hc] ∧ Blk wx (w_1.heap.size) 32 #[.int .u64 ai1, .int .u64 ai2, .int .u64 ap1, .int .u64 ap2, .int .u64 h1, .int .u64 l1, .int .u64 ar1, .int .u64 ar2, .int .u64 as1, .int .u64 as2, .int .u64 atg, .int .u32 alg, .int .u16 acd, .int .u16 fd, .int .u64 ast, .int .u64 ei1, .int .u64 ei2, .int .u64 ep1, .int .u64 ep2, .int .u64 eq1, .int .u64 eq2, .int .u64 er1, .int .u64 er2, .int .u64 h2, .int .u64 l2, .int .u64 etg, .int .u32 elg, .int .u16 ecd, .int .u16 fc, .int .u64 est, .bool hd, .bool hc] ∧ Blk wx (w_1.heap.size + 1) 32 #[.int .u64 ai1, .int .u64 ai2, .int .u64 ap1, .int .u64 ap2, .int .u64 aq1, .int .u64 aq2, .int .u64 ar1, .int .u64 ar2, .int .u64 as1, .int .u64 as2, .int .u64 atg, .int .u32 alg, .int .u16 acd, .int .u16 afl, .int .u64 ast, .int .u64 ei1, .int .u64 ei2, .int .u64 ep1, .int .u64 ep2, .int .u64 eq1, .int .u64 eq2, .int .u64 er1, .int .u64 er2, .int .u64 h2, .int .u64 l2, .int .u64 etg, .int .u32 elg, .int .u16 ecd, .int .u16 efl, .int .u64 est, .bool hd, .bool hc])
  case first =>
    go_region_with (go_at_call 16; (with_reducible refine (HS1.out _).mono ?_); rintro e w7 ⟨rfl, hb7⟩; (have tq7 : Blk w7 (w_1.heap.size + 1) 32 #[.int .u64 ai1, .int .u64 ai2, .int .u64 ap1, .int .u64 ap2, .int .u64 h1, .int .u64 l1, .int .u64 ar1, .int .u64 ar2, .int .u64 as1, .int .u64 as2, .int .u64 atg, .int .u32 alg, .int .u16 acd, .int .u16 afl, .int .u64 ast, .int .u64 ei1, .int .u64 ei2, .int .u64 ep1, .int .u64 ep2, .int .u64 eq1, .int .u64 eq2, .int .u64 er1, .int .u64 er2, .int .u64 h2, .int .u64 l2, .int .u64 etg, .int .u32 elg, .int .u16 ecd, .int .u16 efl, .int .u64 est, .bool hd, .bool hc] := (by (refine Blk.kept ?_ hb7; (first | (have t := f_q.out; (repeat (first | with_reducible assumption | (with_reducible refine Blk.new' ?_; first | with_reducible rfl | (simp; done)) | with_reducible refine Blk.alloc ?_ _ | with_reducible refine Blk.grow ?_ _ | with_reducible refine Blk.drew ?_ | with_reducible refine Blk.drewN ?_ _ | (with_reducible refine Blk.far ?_ (by first | (dsimp only; omega) | (simp; omega)) _) | (with_reducible apply Blk.two) | (with_reducible refine Blk.set' ?_ _ _ ?_) | (with_reducible rfl) | rfl)); done) | fail)))); have qq0 := tq7.cell 4; have qq1 := tq7.cell 5; have qf0 := tq7.frozen 4; have qf1 := tq7.frozen 5; have ql := tq7.lt)
    all_goals (
      go_wp2_with fail
      go_meet
      have t_B := hB_3.out
      have t_x := f_x.out
      have t_n := f_n.out
      have t_p := f_p.out
      have t_a := f_a.out
      have t_q := f_q.out
      exact ⟨rfl, by (repeat (first | with_reducible exact Below.refl _ _ | with_reducible assumption | (with_reducible refine bel_set ?_ (by first | exact Nat.le_refl _ | (simp; done) | (simp; omega) | omega) _) | with_reducible refine bel_grow ?_ _ | with_reducible refine Below.drew ?_ | with_reducible refine bel_alloc ?_ _ | (with_reducible refine below_setRow ?_ (by first | omega | (simp; omega)) _) | with_reducible refine bel_eld ?_ (by assumption))), by (repeat (first | with_reducible assumption | (with_reducible refine Blk.new' ?_; first | with_reducible rfl | (simp; done)) | with_reducible refine Blk.alloc ?_ _ | with_reducible refine Blk.grow ?_ _ | with_reducible refine Blk.drew ?_ | with_reducible refine Blk.drewN ?_ _ | (with_reducible refine Blk.far ?_ (by first | (dsimp only; omega) | (simp; omega)) _) | (with_reducible apply Blk.two) | (with_reducible refine Blk.kept ?_ (by assumption)) | (with_reducible refine Blk.setRow ?_ (by first | rfl | (simp; done))) | (with_reducible refine Blk.setRow_far ?_ (by first | omega | (simp; omega)) _) | (with_reducible refine Blk.set' ?_ _ _ (by first | rfl | (simp; done))))), by (repeat (first | with_reducible assumption | (with_reducible refine Blk.new' ?_; first | with_reducible rfl | (simp; done)) | with_reducible refine Blk.alloc ?_ _ | with_reducible refine Blk.grow ?_ _ | with_reducible refine Blk.drew ?_ | with_reducible refine Blk.drewN ?_ _ | (with_reducible refine Blk.far ?_ (by first | (dsimp only; omega) | (simp; omega)) _) | (with_reducible apply Blk.two) | (with_reducible refine Blk.kept ?_ (by assumption)) | (with_reducible refine Blk.setRow ?_ (by first | rfl | (simp; done))) | (with_reducible refine Blk.setRow_far ?_ (by first | omega | (simp; omega)) _) | (with_reducible refine Blk.set' ?_ _ _ (by first | rfl | (simp; done))))), by (repeat (first | with_reducible assumption | (with_reducible refine Blk.new' ?_; first | with_reducible rfl | (simp; done)) | with_reducible refine Blk.alloc ?_ _ | with_reducible refine Blk.grow ?_ _ | with_reducible refine Blk.drew ?_ | with_reducible refine Blk.drewN ?_ _ | (with_reducible refine Blk.far ?_ (by first | (dsimp only; omega) | (simp; omega)) _) | (with_reducible apply Blk.two) | (with_reducible refine Blk.kept ?_ (by assumption)) | (with_reducible refine Blk.setRow ?_ (by first | rfl | (simp; done))) | (with_reducible refine Blk.setRow_far ?_ (by first | omega | (simp; omega)) _) | (with_reducible refine Blk.set' ?_ _ _ (by first | rfl | (simp; done))))), by (repeat (first | with_reducible assumption | (with_reducible refine Blk.new' ?_; first | with_reducible rfl | (simp; done)) | with_reducible refine Blk.alloc ?_ _ | with_reducible refine Blk.grow ?_ _ | with_reducible refine Blk.drew ?_ | with_reducible refine Blk.drewN ?_ _ | (with_reducible refine Blk.far ?_ (by first | (dsimp only; omega) | (simp; omega)) _) | (with_reducible apply Blk.two) | (with_reducible refine Blk.kept ?_ (by assumption)) | (with_reducible refine Blk.setRow ?_ (by first | rfl | (simp; done))) | (with_reducible refine Blk.setRow_far ?_ (by first | omega | (simp; omega)) _) | (with_reducible refine Blk.set' ?_ _ _ (by first | rfl | (simp; done))))), by first | exact Blk.eqv ((tq7.set_ 4 _).set_ 5 _) (by first | rfl | simp) | (repeat (first | with_reducible assumption | (with_reducible refine Blk.new' ?_; first | with_reducible rfl | (simp; done)) | with_reducible refine Blk.alloc ?_ _ | with_reducible refine Blk.grow ?_ _ | with_reducible refine Blk.drew ?_ | with_reducible refine Blk.drewN ?_ _ | (with_reducible refine Blk.far ?_ (by first | (dsimp only; omega) | (simp; omega)) _) | (with_reducible apply Blk.two) | (with_reducible refine Blk.kept ?_ (by assumption)) | (with_reducible refine Blk.setRow ?_ (by first | rfl | (simp; done))) | (with_reducible refine Blk.setRow_far ?_ (by first | omega | (simp; omega)) _) | (with_reducible refine Blk.set' ?_ _ _ (by first | rfl | (simp; done)))))⟩
      )
  case rest =>
  clear f_x x_l r_x x_14 x_f14 f_n n_l n_0 n_1 n_f0 n_f1 f_p p_l r_p p_13 p_f13 p_28 p_f28 f_a a_l r_a a_13 a_f13 a_28 a_f28 f_q q_l r_q q_4 q_f4 q_5 q_f5 q_23 q_f23 q_24 q_f24 q_13 q_f13 q_28 q_f28 hB_3
  obtain ⟨rfl, hB_4, f_x, f_n, f_p, f_a, f_q⟩ := hcut
  have r_x := rowAt_blk f_x
  have x_l := f_x.lt
  have x_14 : wc.cell? ⟨w.heap.size, 14, none⟩ = some (.int .u16 xfl) := (f_x).cell 14
  have x_f14 := (f_x).frozen 14
  replace f_x := Lib.hid f_x
  have n_0 : wc.cell? ⟨w.heap.size + 1, 0, none⟩ = some (.int .u64 n1) := (f_n).cell 0
  have n_1 : wc.cell? ⟨w.heap.size + 1, 1, none⟩ = some (.int .u64 n2) := (f_n).cell 1
  have n_f0 := (f_n).frozen 0
  have n_f1 := (f_n).frozen 1
  have n_l := (f_n).lt
  replace f_n := Lib.hid f_n
  have r_p := rowAt_blk f_p
  have p_l := f_p.lt
  have p_13 : wc.cell? ⟨w.heap.size + 2, 13, none⟩ = some (.int .u16 afl) := (f_p).cell 13
  have p_f13 := (f_p).frozen 13
  have p_28 : wc.cell? ⟨w.heap.size + 2, 28, none⟩ = some (.int .u16 efl) := (f_p).cell 28
  have p_f28 := (f_p).frozen 28
  replace f_p := Lib.hid f_p
  have r_a := rowAt_blk f_a
  have a_l := f_a.lt
  have a_13 : wc.cell? ⟨w_1.heap.size, 13, none⟩ = some (.int .u16 fd) := (f_a).cell 13
  have a_f13 := (f_a).frozen 13
  have a_28 : wc.cell? ⟨w_1.heap.size, 28, none⟩ = some (.int .u16 fc) := (f_a).cell 28
  have a_f28 := (f_a).frozen 28
  replace f_a := Lib.hid f_a
  have r_q := rowAt_blk f_q
  have q_l := f_q.lt
  have q_4 : wc.cell? ⟨w_1.heap.size + 1, 4, none⟩ = some (.int .u64 aq1) := (f_q).cell 4
  have q_f4 := (f_q).frozen 4
  have q_5 : wc.cell? ⟨w_1.heap.size + 1, 5, none⟩ = some (.int .u64 aq2) := (f_q).cell 5
  have q_f5 := (f_q).frozen 5
  have q_23 : wc.cell? ⟨w_1.heap.size + 1, 23, none⟩ = some (.int .u64 h2) := (f_q).cell 23
  have q_f23 := (f_q).frozen 23
  have q_24 : wc.cell? ⟨w_1.heap.size + 1, 24, none⟩ = some (.int .u64 l2) := (f_q).cell 24
  have q_f24 := (f_q).frozen 24
  have q_13 : wc.cell? ⟨w_1.heap.size + 1, 13, none⟩ = some (.int .u16 afl) := (f_q).cell 13
  have q_f13 := (f_q).frozen 13
  have q_28 : wc.cell? ⟨w_1.heap.size + 1, 28, none⟩ = some (.int .u16 efl) := (f_q).cell 28
  have q_f28 := (f_q).frozen 28
  replace f_q := Lib.hid f_q
  replace hB_4 := Lib.hid hB_4
  go_upto_region 11 with fail
  go_cut [13] (fun s wx => s = .bool true ∧ Below w.heap.size w wx ∧ Blk wx (w.heap.size) 28 #[.int .u64 xi1, .int .u64 xi2, .int .u64 xd1, .int .u64 xd2, .int .u64 xc1, .int .u64 xc2, .int .u64 xm1, .int .u64 xm2, .int .u64 xw1, .int .u64 xw2, .int .u64 xtg, .int .u32 xto, .int .u32 xlg, .int .u16 xcd, .int .u16 xfl, .int .u64 xst] ∧ Blk wx (w.heap.size + 1) 24 #[.int .u64 n1, .int .u64 n2] ∧ Blk wx (w.heap.size + 2) 32 #[.int .u64 ai1, .int .u64 ai2, .int .u64 ap1, .int .u64 ap2, .int .u64 aq1, .int .u64 aq2, .int .u64 ar1, .int .u64 ar2, .int .u64 as1, .int .u64 as2, .int .u64 atg, .int .u32 alg, .int .u16 acd, .int .u16 afl, .int .u64 ast, .int .u64 ei1, .int .u64 ei2, .int .u64 ep1, .int .u64 ep2, .int .u64 eq1, .int .u64 eq2, .int .u64 er1, .int .u64 er2, .int .u64 es1, .int .u64 es2, .int .u64 etg, .int .u32 elg, .int .u16 ecd, .int .u16 efl, .int .u64 est, .bool hd, .bool hc] ∧ Blk wx (w_1.heap.size) 32 #[.int .u64 ai1, .int .u64 ai2, .int .u64 ap1, .int .u64 ap2, .int .u64 h1, .int .u64 l1, .int .u64 ar1, .int .u64 ar2, .int .u64 as1, .int .u64 as2, .int .u64 atg, .int .u32 alg, .int .u16 acd, .int .u16 fd, .int .u64 ast, .int .u64 ei1, .int .u64 ei2, .int .u64 ep1, .int .u64 ep2, .int .u64 eq1, .int .u64 eq2, .int .u64 er1, .int .u64 er2, .int .u64 h2, .int .u64 l2, .int .u64 etg, .int .u32 elg, .int .u16 ecd, .int .u16 fc, .int .u64 est, .bool hd, .bool hc] ∧ Blk wx (w_1.heap.size + 1) 32 #[.int .u64 ai1, .int .u64 ai2, .int .u64 ap1, .int .u64 ap2, .int .u64 aq1, .int .u64 aq2, .int .u64 ar1, .int .u64 ar2, .int .u64 as1, .int .u64 as2, .int .u64 atg, .int .u32 alg, .int .u16 acd, .int .u16 afl, .int .u64 ast, .int .u64 ei1, .int .u64 ei2, .int .u64 ep1, .int .u64 ep2, .int .u64 eq1, .int .u64 eq2, .int .u64 er1, .int .u64 er2, .int .u64 es1, .int .u64 es2, .int .u64 etg, .int .u32 elg, .int .u16 ecd, .int .u16 efl, .int .u64 est, .bool hd, .bool hc])
  case first =>
    go_region_with (go_at_call 16; (with_reducible refine (HS2.out _).mono ?_); rintro e w7 ⟨rfl, hb7⟩; (have tq7 : Blk w7 (w_1.heap.size + 1) 32 #[.int .u64 ai1, .int .u64 ai2, .int .u64 ap1, .int .u64 ap2, .int .u64 aq1, .int .u64 aq2, .int .u64 ar1, .int .u64 ar2, .int .u64 as1, .int .u64 as2, .int .u64 atg, .int .u32 alg, .int .u16 acd, .int .u16 afl, .int .u64 ast, .int .u64 ei1, .int .u64 ei2, .int .u64 ep1, .int .u64 ep2, .int .u64 eq1, .int .u64 eq2, .int .u64 er1, .int .u64 er2, .int .u64 h2, .int .u64 l2, .int .u64 etg, .int .u32 elg, .int .u16 ecd, .int .u16 efl, .int .u64 est, .bool hd, .bool hc] := (by (refine Blk.kept ?_ hb7; (first | (have t := f_q.out; (repeat (first | with_reducible assumption | (with_reducible refine Blk.new' ?_; first | with_reducible rfl | (simp; done)) | with_reducible refine Blk.alloc ?_ _ | with_reducible refine Blk.grow ?_ _ | with_reducible refine Blk.drew ?_ | with_reducible refine Blk.drewN ?_ _ | (with_reducible refine Blk.far ?_ (by first | (dsimp only; omega) | (simp; omega)) _) | (with_reducible apply Blk.two) | (with_reducible refine Blk.set' ?_ _ _ ?_) | (with_reducible rfl) | rfl)); done) | fail)))); have qq0 := tq7.cell 23; have qq1 := tq7.cell 24; have qf0 := tq7.frozen 23; have qf1 := tq7.frozen 24; have ql := tq7.lt)
    all_goals (
      go_wp2_with fail
      go_meet
      have t_B := hB_4.out
      have t_x := f_x.out
      have t_n := f_n.out
      have t_p := f_p.out
      have t_a := f_a.out
      have t_q := f_q.out
      exact ⟨rfl, by (repeat (first | with_reducible exact Below.refl _ _ | with_reducible assumption | (with_reducible refine bel_set ?_ (by first | exact Nat.le_refl _ | (simp; done) | (simp; omega) | omega) _) | with_reducible refine bel_grow ?_ _ | with_reducible refine Below.drew ?_ | with_reducible refine bel_alloc ?_ _ | (with_reducible refine below_setRow ?_ (by first | omega | (simp; omega)) _) | with_reducible refine bel_eld ?_ (by assumption))), by (repeat (first | with_reducible assumption | (with_reducible refine Blk.new' ?_; first | with_reducible rfl | (simp; done)) | with_reducible refine Blk.alloc ?_ _ | with_reducible refine Blk.grow ?_ _ | with_reducible refine Blk.drew ?_ | with_reducible refine Blk.drewN ?_ _ | (with_reducible refine Blk.far ?_ (by first | (dsimp only; omega) | (simp; omega)) _) | (with_reducible apply Blk.two) | (with_reducible refine Blk.kept ?_ (by assumption)) | (with_reducible refine Blk.setRow ?_ (by first | rfl | (simp; done))) | (with_reducible refine Blk.setRow_far ?_ (by first | omega | (simp; omega)) _) | (with_reducible refine Blk.set' ?_ _ _ (by first | rfl | (simp; done))))), by (repeat (first | with_reducible assumption | (with_reducible refine Blk.new' ?_; first | with_reducible rfl | (simp; done)) | with_reducible refine Blk.alloc ?_ _ | with_reducible refine Blk.grow ?_ _ | with_reducible refine Blk.drew ?_ | with_reducible refine Blk.drewN ?_ _ | (with_reducible refine Blk.far ?_ (by first | (dsimp only; omega) | (simp; omega)) _) | (with_reducible apply Blk.two) | (with_reducible refine Blk.kept ?_ (by assumption)) | (with_reducible refine Blk.setRow ?_ (by first | rfl | (simp; done))) | (with_reducible refine Blk.setRow_far ?_ (by first | omega | (simp; omega)) _) | (with_reducible refine Blk.set' ?_ _ _ (by first | rfl | (simp; done))))), by (repeat (first | with_reducible assumption | (with_reducible refine Blk.new' ?_; first | with_reducible rfl | (simp; done)) | with_reducible refine Blk.alloc ?_ _ | with_reducible refine Blk.grow ?_ _ | with_reducible refine Blk.drew ?_ | with_reducible refine Blk.drewN ?_ _ | (with_reducible refine Blk.far ?_ (by first | (dsimp only; omega) | (simp; omega)) _) | (with_reducible apply Blk.two) | (with_reducible refine Blk.kept ?_ (by assumption)) | (with_reducible refine Blk.setRow ?_ (by first | rfl | (simp; done))) | (with_reducible refine Blk.setRow_far ?_ (by first | omega | (simp; omega)) _) | (with_reducible refine Blk.set' ?_ _ _ (by first | rfl | (simp; done))))), by (repeat (first | with_reducible assumption | (with_reducible refine Blk.new' ?_; first | with_reducible rfl | (simp; done)) | with_reducible refine Blk.alloc ?_ _ | with_reducible refine Blk.grow ?_ _ | with_reducible refine Blk.drew ?_ | with_reducible refine Blk.drewN ?_ _ | (with_reducible refine Blk.far ?_ (by first | (dsimp only; omega) | (simp; omega)) _) | (with_reducible apply Blk.two) | (with_reducible refine Blk.kept ?_ (by assumption)) | (with_reducible refine Blk.setRow ?_ (by first | rfl | (simp; done))) | (with_reducible refine Blk.setRow_far ?_ (by first | omega | (simp; omega)) _) | (with_reducible refine Blk.set' ?_ _ _ (by first | rfl | (simp; done))))), by first | exact Blk.eqv ((tq7.set_ 23 _).set_ 24 _) (by first | rfl | simp) | (repeat (first | with_reducible assumption | (with_reducible refine Blk.new' ?_; first | with_reducible rfl | (simp; done)) | with_reducible refine Blk.alloc ?_ _ | with_reducible refine Blk.grow ?_ _ | with_reducible refine Blk.drew ?_ | with_reducible refine Blk.drewN ?_ _ | (with_reducible refine Blk.far ?_ (by first | (dsimp only; omega) | (simp; omega)) _) | (with_reducible apply Blk.two) | (with_reducible refine Blk.kept ?_ (by assumption)) | (with_reducible refine Blk.setRow ?_ (by first | rfl | (simp; done))) | (with_reducible refine Blk.setRow_far ?_ (by first | omega | (simp; omega)) _) | (with_reducible refine Blk.set' ?_ _ _ (by first | rfl | (simp; done)))))⟩
      )
  case rest =>
  clear f_x x_l r_x x_14 x_f14 f_n n_l n_0 n_1 n_f0 n_f1 f_p p_l r_p p_13 p_f13 p_28 p_f28 f_a a_l r_a a_13 a_f13 a_28 a_f28 f_q q_l r_q q_4 q_f4 q_5 q_f5 q_23 q_f23 q_24 q_f24 q_13 q_f13 q_28 q_f28 hB_4
  obtain ⟨rfl, hB_5, f_x, f_n, f_p, f_a, f_q⟩ := hcut
  have r_x := rowAt_blk f_x
  have x_l := f_x.lt
  have x_14 : wc.cell? ⟨w.heap.size, 14, none⟩ = some (.int .u16 xfl) := (f_x).cell 14
  have x_f14 := (f_x).frozen 14
  replace f_x := Lib.hid f_x
  have n_0 : wc.cell? ⟨w.heap.size + 1, 0, none⟩ = some (.int .u64 n1) := (f_n).cell 0
  have n_1 : wc.cell? ⟨w.heap.size + 1, 1, none⟩ = some (.int .u64 n2) := (f_n).cell 1
  have n_f0 := (f_n).frozen 0
  have n_f1 := (f_n).frozen 1
  have n_l := (f_n).lt
  replace f_n := Lib.hid f_n
  have r_p := rowAt_blk f_p
  have p_l := f_p.lt
  have p_13 : wc.cell? ⟨w.heap.size + 2, 13, none⟩ = some (.int .u16 afl) := (f_p).cell 13
  have p_f13 := (f_p).frozen 13
  have p_28 : wc.cell? ⟨w.heap.size + 2, 28, none⟩ = some (.int .u16 efl) := (f_p).cell 28
  have p_f28 := (f_p).frozen 28
  replace f_p := Lib.hid f_p
  have r_a := rowAt_blk f_a
  have a_l := f_a.lt
  have a_13 : wc.cell? ⟨w_1.heap.size, 13, none⟩ = some (.int .u16 fd) := (f_a).cell 13
  have a_f13 := (f_a).frozen 13
  have a_28 : wc.cell? ⟨w_1.heap.size, 28, none⟩ = some (.int .u16 fc) := (f_a).cell 28
  have a_f28 := (f_a).frozen 28
  replace f_a := Lib.hid f_a
  have r_q := rowAt_blk f_q
  have q_l := f_q.lt
  have q_4 : wc.cell? ⟨w_1.heap.size + 1, 4, none⟩ = some (.int .u64 aq1) := (f_q).cell 4
  have q_f4 := (f_q).frozen 4
  have q_5 : wc.cell? ⟨w_1.heap.size + 1, 5, none⟩ = some (.int .u64 aq2) := (f_q).cell 5
  have q_f5 := (f_q).frozen 5
  have q_23 : wc.cell? ⟨w_1.heap.size + 1, 23, none⟩ = some (.int .u64 es1) := (f_q).cell 23
  have q_f23 := (f_q).frozen 23
  have q_24 : wc.cell? ⟨w_1.heap.size + 1, 24, none⟩ = some (.int .u64 es2) := (f_q).cell 24
  have q_f24 := (f_q).frozen 24
  have q_13 : wc.cell? ⟨w_1.heap.size + 1, 13, none⟩ = some (.int .u16 afl) := (f_q).cell 13
  have q_f13 := (f_q).frozen 13
  have q_28 : wc.cell? ⟨w_1.heap.size + 1, 28, none⟩ = some (.int .u16 efl) := (f_q).cell 28
  have q_f28 := (f_q).frozen 28
  replace f_q := Lib.hid f_q
  replace hB_5 := Lib.hid hB_5
  go_wp2_with fail
  refine (HX.out _).mono ?_
  rintro e w_6 ⟨rfl, hb_6⟩
  have z_6 := hb_6.size
  try simp at z_6
  have t_ := hB_5.out
  have hB_6 := bel_eld (w := w) (X := _) (by first | ((repeat (first | with_reducible exact Below.refl _ _ | with_reducible assumption | (with_reducible refine bel_set ?_ (by first | exact Nat.le_refl _ | (simp; done) | (simp; omega) | omega) _) | with_reducible refine bel_grow ?_ _ | with_reducible refine Below.drew ?_ | with_reducible refine below_drewN ?_ _ | with_reducible refine bel_alloc ?_ _ | with_reducible refine bel_trans ?_ (by assumption))); done) | (repeat (first | exact Below.refl _ _ | assumption | refine below_drewN ?_ _ | refine bel_grow ?_ _ | refine Below.drew ?_ | refine bel_alloc ?_ _ | refine bel_set ?_ (by first | exact Nat.le_refl _ | (simp; done) | (simp; omega) | omega) _ | refine bel_trans ?_ (by assumption)))) hb_6
  clear t_
  have t_x := f_x.out
  have t_n := f_n.out
  have t_p := f_p.out
  have t_a := f_a.out
  have t_q := f_q.out
  have g_x : Blk w_6 (w.heap.size) 28 #[.int .u64 xi1, .int .u64 xi2, .int .u64 xd1, .int .u64 xd2, .int .u64 xc1, .int .u64 xc2, .int .u64 xm1, .int .u64 xm2, .int .u64 xw1, .int .u64 xw2, .int .u64 xtg, .int .u32 xto, .int .u32 xlg, .int .u16 xcd, .int .u16 xfl, .int .u64 xst] := by
    refine Blk.kept ?_ hb_6
    (repeat (first | with_reducible assumption | (with_reducible refine Blk.new' ?_; first | with_reducible rfl | (simp; done)) | with_reducible refine Blk.alloc ?_ _ | with_reducible refine Blk.grow ?_ _ | with_reducible refine Blk.drew ?_ | with_reducible refine Blk.drewN ?_ _ | (with_reducible refine Blk.far ?_ (by first | (dsimp only; omega) | (simp; omega)) _) | (with_reducible apply Blk.two) | (with_reducible refine Blk.set' ?_ _ _ ?_) | (with_reducible rfl) | rfl))
  have g_n : Blk w_6 (w.heap.size + 1) 24 #[.int .u64 n1, .int .u64 n2] := by
    refine Blk.kept ?_ hb_6
    (repeat (first | with_reducible assumption | (with_reducible refine Blk.new' ?_; first | with_reducible rfl | (simp; done)) | with_reducible refine Blk.alloc ?_ _ | with_reducible refine Blk.grow ?_ _ | with_reducible refine Blk.drew ?_ | with_reducible refine Blk.drewN ?_ _ | (with_reducible refine Blk.far ?_ (by first | (dsimp only; omega) | (simp; omega)) _) | (with_reducible apply Blk.two) | (with_reducible refine Blk.set' ?_ _ _ ?_) | (with_reducible rfl) | rfl))
  have g_p : Blk w_6 (w.heap.size + 2) 32 #[.int .u64 ai1, .int .u64 ai2, .int .u64 ap1, .int .u64 ap2, .int .u64 aq1, .int .u64 aq2, .int .u64 ar1, .int .u64 ar2, .int .u64 as1, .int .u64 as2, .int .u64 atg, .int .u32 alg, .int .u16 acd, .int .u16 afl, .int .u64 ast, .int .u64 ei1, .int .u64 ei2, .int .u64 ep1, .int .u64 ep2, .int .u64 eq1, .int .u64 eq2, .int .u64 er1, .int .u64 er2, .int .u64 es1, .int .u64 es2, .int .u64 etg, .int .u32 elg, .int .u16 ecd, .int .u16 efl, .int .u64 est, .bool hd, .bool hc] := by
    refine Blk.kept ?_ hb_6
    (repeat (first | with_reducible assumption | (with_reducible refine Blk.new' ?_; first | with_reducible rfl | (simp; done)) | with_reducible refine Blk.alloc ?_ _ | with_reducible refine Blk.grow ?_ _ | with_reducible refine Blk.drew ?_ | with_reducible refine Blk.drewN ?_ _ | (with_reducible refine Blk.far ?_ (by first | (dsimp only; omega) | (simp; omega)) _) | (with_reducible apply Blk.two) | (with_reducible refine Blk.set' ?_ _ _ ?_) | (with_reducible rfl) | rfl))
  have g_a : Blk w_6 (w_1.heap.size) 32 #[.int .u64 ai1, .int .u64 ai2, .int .u64 ap1, .int .u64 ap2, .int .u64 h1, .int .u64 l1, .int .u64 ar1, .int .u64 ar2, .int .u64 as1, .int .u64 as2, .int .u64 atg, .int .u32 alg, .int .u16 acd, .int .u16 fd, .int .u64 ast, .int .u64 ei1, .int .u64 ei2, .int .u64 ep1, .int .u64 ep2, .int .u64 eq1, .int .u64 eq2, .int .u64 er1, .int .u64 er2, .int .u64 h2, .int .u64 l2, .int .u64 etg, .int .u32 elg, .int .u16 ecd, .int .u16 fc, .int .u64 est, .bool hd, .bool hc] := by
    refine Blk.kept ?_ hb_6
    (repeat (first | with_reducible assumption | (with_reducible refine Blk.new' ?_; first | with_reducible rfl | (simp; done)) | with_reducible refine Blk.alloc ?_ _ | with_reducible refine Blk.grow ?_ _ | with_reducible refine Blk.drew ?_ | with_reducible refine Blk.drewN ?_ _ | (with_reducible refine Blk.far ?_ (by first | (dsimp only; omega) | (simp; omega)) _) | (with_reducible apply Blk.two) | (with_reducible refine Blk.set' ?_ _ _ ?_) | (with_reducible rfl) | rfl))
  have g_q : Blk w_6 (w_1.heap.size + 1) 32 #[.int .u64 ai1, .int .u64 ai2, .int .u64 ap1, .int .u64 ap2, .int .u64 aq1, .int .u64 aq2, .int .u64 ar1, .int .u64 ar2, .int .u64 as1, .int .u64 as2, .int .u64 atg, .int .u32 alg, .int .u16 acd, .int .u16 afl, .int .u64 ast, .int .u64 ei1, .int .u64 ei2, .int .u64 ep1, .int .u64 ep2, .int .u64 eq1, .int .u64 eq2, .int .u64 er1, .int .u64 er2, .int .u64 es1, .int .u64 es2, .int .u64 etg, .int .u32 elg, .int .u16 ecd, .int .u16 efl, .int .u64 est, .bool hd, .bool hc] := by
    refine Blk.kept ?_ hb_6
    (repeat (first | with_reducible assumption | (with_reducible refine Blk.new' ?_; first | with_reducible rfl | (simp; done)) | with_reducible refine Blk.alloc ?_ _ | with_reducible refine Blk.grow ?_ _ | with_reducible refine Blk.drew ?_ | with_reducible refine Blk.drewN ?_ _ | (with_reducible refine Blk.far ?_ (by first | (dsimp only; omega) | (simp; omega)) _) | (with_reducible apply Blk.two) | (with_reducible refine Blk.set' ?_ _ _ ?_) | (with_reducible rfl) | rfl))
  clear f_x x_l r_x x_14 x_f14 f_n n_l n_0 n_1 n_f0 n_f1 f_p p_l r_p p_13 p_f13 p_28 p_f28 f_a a_l r_a a_13 a_f13 a_28 a_f28 f_q q_l r_q q_4 q_f4 q_5 q_f5 q_23 q_f23 q_24 q_f24 q_13 q_f13 q_28 q_f28 t_x t_n t_p t_a t_q hB_5 hb_6
  have f_x := g_x
  clear g_x
  have f_n := g_n
  clear g_n
  have f_p := g_p
  clear g_p
  have f_a := g_a
  clear g_a
  have f_q := g_q
  clear g_q
  have r_x := rowAt_blk f_x
  have x_l := f_x.lt
  have x_14 : w_6.cell? ⟨w.heap.size, 14, none⟩ = some (.int .u16 xfl) := (f_x).cell 14
  have x_f14 := (f_x).frozen 14
  replace f_x := Lib.hid f_x
  have n_0 : w_6.cell? ⟨w.heap.size + 1, 0, none⟩ = some (.int .u64 n1) := (f_n).cell 0
  have n_1 : w_6.cell? ⟨w.heap.size + 1, 1, none⟩ = some (.int .u64 n2) := (f_n).cell 1
  have n_f0 := (f_n).frozen 0
  have n_f1 := (f_n).frozen 1
  have n_l := (f_n).lt
  replace f_n := Lib.hid f_n
  have r_p := rowAt_blk f_p
  have p_l := f_p.lt
  have p_13 : w_6.cell? ⟨w.heap.size + 2, 13, none⟩ = some (.int .u16 afl) := (f_p).cell 13
  have p_f13 := (f_p).frozen 13
  have p_28 : w_6.cell? ⟨w.heap.size + 2, 28, none⟩ = some (.int .u16 efl) := (f_p).cell 28
  have p_f28 := (f_p).frozen 28
  replace f_p := Lib.hid f_p
  have r_a := rowAt_blk f_a
  have a_l := f_a.lt
  have a_13 : w_6.cell? ⟨w_1.heap.size, 13, none⟩ = some (.int .u16 fd) := (f_a).cell 13
  have a_f13 := (f_a).frozen 13
  have a_28 : w_6.cell? ⟨w_1.heap.size, 28, none⟩ = some (.int .u16 fc) := (f_a).cell 28
  have a_f28 := (f_a).frozen 28
  replace f_a := Lib.hid f_a
  have r_q := rowAt_blk f_q
  have q_l := f_q.lt
  have q_4 : w_6.cell? ⟨w_1.heap.size + 1, 4, none⟩ = some (.int .u64 aq1) := (f_q).cell 4
  have q_f4 := (f_q).frozen 4
  have q_5 : w_6.cell? ⟨w_1.heap.size + 1, 5, none⟩ = some (.int .u64 aq2) := (f_q).cell 5
  have q_f5 := (f_q).frozen 5
  have q_23 : w_6.cell? ⟨w_1.heap.size + 1, 23, none⟩ = some (.int .u64 es1) := (f_q).cell 23
  have q_f23 := (f_q).frozen 23
  have q_24 : w_6.cell? ⟨w_1.heap.size + 1, 24, none⟩ = some (.int .u64 es2) := (f_q).cell 24
  have q_f24 := (f_q).frozen 24
  have q_13 : w_6.cell? ⟨w_1.heap.size + 1, 13, none⟩ = some (.int .u16 afl) := (f_q).cell 13
  have q_f13 := (f_q).frozen 13
  have q_28 : w_6.cell? ⟨w_1.heap.size + 1, 28, none⟩ = some (.int .u16 efl) := (f_q).cell 28
  have q_f28 := (f_q).frozen 28
  replace f_q := Lib.hid f_q
  replace hB_6 := Lib.hid hB_6
  go_wp2_with fail
  go_ret
  exact ⟨by first | rfl | simp, by have t_B := hB_6.out; (repeat (first | with_reducible exact Below.refl _ _ | with_reducible assumption | (with_reducible refine bel_set ?_ (by first | exact Nat.le_refl _ | (simp; done) | (simp; omega) | omega) _) | with_reducible refine bel_grow ?_ _ | with_reducible refine Below.drew ?_ | with_reducible refine bel_alloc ?_ _ | with_reducible refine bel_eld ?_ (by assumption)))⟩
end Go.Proofs.Ytpbnakoimlmhnaa
