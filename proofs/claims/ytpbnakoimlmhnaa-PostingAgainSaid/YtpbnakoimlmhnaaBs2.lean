/-
  The document's answer to how much is moved, walked.
-/
import Derived.Test.YtpbnakoimlmhnaaBs1
import Derived.Deep.DeepCutAuto
namespace Go.Proofs.Ytpbnakoimlmhnaa
set_option linter.unusedVariables false
set_option linter.unusedSimpArgs false
open Go.RowKit

attribute [local go_sem] loadV_ptr storeV_ptr one_func drew_hs ext_deb ext_cre ext_cols ext_acc
attribute [local go_sem ↓] load_Cols store_Cols load_Transfer store_Transfer load_Parties store_Parties load_Acct store_Acct
set_option maxRecDepth 8000 in
set_option maxHeartbeats 8000000 in
theorem refasked_false_false (xi1 xi2 xd1 xd2 xc1 xc2 xm1 xm2 xw1 xw2 xtg xto xlg xcd xfl xst ai1 ai2 ap1 ap2 aq1 aq2 ar1 ar2 as1 as2 atg alg acd afl ast ei1 ei2 ep1 ep2 eq1 eq2 er1 er2 es1 es2 etg elg ecd efl est d1 d2 c1 c2 o1 o2 z1 z2 : Int) (hd hc : Bool)
    (HB1 : ∀ w, Calls Try.prog 45 #[.int .u16 xfl, .int .u16 16] w fun r w' => r = .returned (.bool false) ∧ Below w.heap.size w w')
    (HB2 : ∀ w, Calls Try.prog 45 #[.int .u16 xfl, .int .u16 32] w fun r w' => r = .returned (.bool false) ∧ Below w.heap.size w w')
    (w : World) : Calls Try.prog 21 #[.agg #[.int .u64 xi1, .int .u64 xi2, .int .u64 xd1, .int .u64 xd2, .int .u64 xc1, .int .u64 xc2, .int .u64 xm1, .int .u64 xm2, .int .u64 xw1, .int .u64 xw2, .int .u64 xtg, .int .u32 xto, .int .u32 xlg, .int .u16 xcd, .int .u16 xfl, .int .u64 xst], .agg #[.int .u64 ai1, .int .u64 ai2, .int .u64 ap1, .int .u64 ap2, .int .u64 aq1, .int .u64 aq2, .int .u64 ar1, .int .u64 ar2, .int .u64 as1, .int .u64 as2, .int .u64 atg, .int .u32 alg, .int .u16 acd, .int .u16 afl, .int .u64 ast, .int .u64 ei1, .int .u64 ei2, .int .u64 ep1, .int .u64 ep2, .int .u64 eq1, .int .u64 eq2, .int .u64 er1, .int .u64 er2, .int .u64 es1, .int .u64 es2, .int .u64 etg, .int .u32 elg, .int .u16 ecd, .int .u16 efl, .int .u64 est, .bool hd, .bool hc]] w fun r w' => r = .returned (.agg #[.int .u64 xm1, .int .u64 xm2]) ∧ Below w.heap.size w w' := by
  replace HB1 := Lib.hid HB1
  replace HB2 := Lib.hid HB2
  have hb0 := Below.refl w.heap.size w
  go_enter Try.func21, Try.ntmps21
  replace hb0 := Lib.hid hb0
  go_wp2_with fail
  refine (HB1.out _).mono ?_
  rintro e w_1 ⟨rfl, hb_1⟩
  have z_1 := hb_1.size
  try simp at z_1
  have t_ := hb0.out
  have hB_1 := bel_eld (w := w) (X := _) (by first | ((repeat (first | with_reducible exact Below.refl _ _ | with_reducible assumption | (with_reducible refine bel_set ?_ (by first | exact Nat.le_refl _ | (simp; done) | (simp; omega) | omega) _) | with_reducible refine bel_grow ?_ _ | with_reducible refine Below.drew ?_ | with_reducible refine below_drewN ?_ _ | with_reducible refine bel_alloc ?_ _ | with_reducible refine bel_trans ?_ (by assumption))); done) | (repeat (first | exact Below.refl _ _ | assumption | refine below_drewN ?_ _ | refine bel_grow ?_ _ | refine Below.drew ?_ | refine bel_alloc ?_ _ | refine bel_set ?_ (by first | exact Nat.le_refl _ | (simp; done) | (simp; omega) | omega) _ | refine bel_trans ?_ (by assumption)))) hb_1
  clear t_
  have g_x : Blk w_1 (w.heap.size) 28 #[.int .u64 xi1, .int .u64 xi2, .int .u64 xd1, .int .u64 xd2, .int .u64 xc1, .int .u64 xc2, .int .u64 xm1, .int .u64 xm2, .int .u64 xw1, .int .u64 xw2, .int .u64 xtg, .int .u32 xto, .int .u32 xlg, .int .u16 xcd, .int .u16 xfl, .int .u64 xst] := by
    refine Blk.kept ?_ hb_1
    (repeat (first | with_reducible assumption | (with_reducible refine Blk.new' ?_; first | with_reducible rfl | (simp; done)) | with_reducible refine Blk.alloc ?_ _ | with_reducible refine Blk.grow ?_ _ | with_reducible refine Blk.drew ?_ | with_reducible refine Blk.drewN ?_ _ | (with_reducible refine Blk.far ?_ (by first | (dsimp only; omega) | (simp; omega)) _) | (with_reducible apply Blk.two) | (with_reducible refine Blk.set' ?_ _ _ ?_) | (with_reducible rfl) | rfl))
  have g_p : Blk w_1 (w.heap.size + 1) 32 #[.int .u64 ai1, .int .u64 ai2, .int .u64 ap1, .int .u64 ap2, .int .u64 aq1, .int .u64 aq2, .int .u64 ar1, .int .u64 ar2, .int .u64 as1, .int .u64 as2, .int .u64 atg, .int .u32 alg, .int .u16 acd, .int .u16 afl, .int .u64 ast, .int .u64 ei1, .int .u64 ei2, .int .u64 ep1, .int .u64 ep2, .int .u64 eq1, .int .u64 eq2, .int .u64 er1, .int .u64 er2, .int .u64 es1, .int .u64 es2, .int .u64 etg, .int .u32 elg, .int .u16 ecd, .int .u16 efl, .int .u64 est, .bool hd, .bool hc] := by
    refine Blk.kept ?_ hb_1
    (repeat (first | with_reducible assumption | (with_reducible refine Blk.new' ?_; first | with_reducible rfl | (simp; done)) | with_reducible refine Blk.alloc ?_ _ | with_reducible refine Blk.grow ?_ _ | with_reducible refine Blk.drew ?_ | with_reducible refine Blk.drewN ?_ _ | (with_reducible refine Blk.far ?_ (by first | (dsimp only; omega) | (simp; omega)) _) | (with_reducible apply Blk.two) | (with_reducible refine Blk.set' ?_ _ _ ?_) | (with_reducible rfl) | rfl))
  have g_r : Blk w_1 (w.heap.size + 2) 24 #[.int .u64 0, .int .u64 0] := by
    refine Blk.kept ?_ hb_1
    (repeat (first | with_reducible assumption | (with_reducible refine Blk.new' ?_; first | with_reducible rfl | (simp; done)) | with_reducible refine Blk.alloc ?_ _ | with_reducible refine Blk.grow ?_ _ | with_reducible refine Blk.drew ?_ | with_reducible refine Blk.drewN ?_ _ | (with_reducible refine Blk.far ?_ (by first | (dsimp only; omega) | (simp; omega)) _) | (with_reducible apply Blk.two) | (with_reducible refine Blk.set' ?_ _ _ ?_) | (with_reducible rfl) | rfl))
  have g_o : Blk w_1 (w.heap.size + 3) 24 #[.int .u64 xm1, .int .u64 xm2] := by
    refine Blk.kept ?_ hb_1
    (repeat (first | with_reducible assumption | (with_reducible refine Blk.new' ?_; first | with_reducible rfl | (simp; done)) | with_reducible refine Blk.alloc ?_ _ | with_reducible refine Blk.grow ?_ _ | with_reducible refine Blk.drew ?_ | with_reducible refine Blk.drewN ?_ _ | (with_reducible refine Blk.far ?_ (by first | (dsimp only; omega) | (simp; omega)) _) | (with_reducible apply Blk.two) | (with_reducible refine Blk.set' ?_ _ _ ?_) | (with_reducible rfl) | rfl))
  clear hb0 hb_1
  have f_x := g_x
  clear g_x
  have f_p := g_p
  clear g_p
  have f_r := g_r
  clear g_r
  have f_o := g_o
  clear g_o
  have r_x := rowAt_blk f_x
  have x_l := f_x.lt
  have x_14 : w_1.cell? ⟨w.heap.size, 14, none⟩ = some (.int .u16 xfl) := (f_x).cell 14
  have x_f14 := (f_x).frozen 14
  replace f_x := Lib.hid f_x
  have r_p := rowAt_blk f_p
  have p_l := f_p.lt
  have p_2 : w_1.cell? ⟨w.heap.size + 1, 2, none⟩ = some (.int .u64 ap1) := (f_p).cell 2
  have p_f2 := (f_p).frozen 2
  have p_3 : w_1.cell? ⟨w.heap.size + 1, 3, none⟩ = some (.int .u64 ap2) := (f_p).cell 3
  have p_f3 := (f_p).frozen 3
  have p_4 : w_1.cell? ⟨w.heap.size + 1, 4, none⟩ = some (.int .u64 aq1) := (f_p).cell 4
  have p_f4 := (f_p).frozen 4
  have p_5 : w_1.cell? ⟨w.heap.size + 1, 5, none⟩ = some (.int .u64 aq2) := (f_p).cell 5
  have p_f5 := (f_p).frozen 5
  have p_8 : w_1.cell? ⟨w.heap.size + 1, 8, none⟩ = some (.int .u64 as1) := (f_p).cell 8
  have p_f8 := (f_p).frozen 8
  have p_9 : w_1.cell? ⟨w.heap.size + 1, 9, none⟩ = some (.int .u64 as2) := (f_p).cell 9
  have p_f9 := (f_p).frozen 9
  have p_13 : w_1.cell? ⟨w.heap.size + 1, 13, none⟩ = some (.int .u16 afl) := (f_p).cell 13
  have p_f13 := (f_p).frozen 13
  have p_19 : w_1.cell? ⟨w.heap.size + 1, 19, none⟩ = some (.int .u64 eq1) := (f_p).cell 19
  have p_f19 := (f_p).frozen 19
  have p_20 : w_1.cell? ⟨w.heap.size + 1, 20, none⟩ = some (.int .u64 eq2) := (f_p).cell 20
  have p_f20 := (f_p).frozen 20
  have p_21 : w_1.cell? ⟨w.heap.size + 1, 21, none⟩ = some (.int .u64 er1) := (f_p).cell 21
  have p_f21 := (f_p).frozen 21
  have p_22 : w_1.cell? ⟨w.heap.size + 1, 22, none⟩ = some (.int .u64 er2) := (f_p).cell 22
  have p_f22 := (f_p).frozen 22
  have p_23 : w_1.cell? ⟨w.heap.size + 1, 23, none⟩ = some (.int .u64 es1) := (f_p).cell 23
  have p_f23 := (f_p).frozen 23
  have p_24 : w_1.cell? ⟨w.heap.size + 1, 24, none⟩ = some (.int .u64 es2) := (f_p).cell 24
  have p_f24 := (f_p).frozen 24
  have p_28 : w_1.cell? ⟨w.heap.size + 1, 28, none⟩ = some (.int .u16 efl) := (f_p).cell 28
  have p_f28 := (f_p).frozen 28
  replace f_p := Lib.hid f_p
  have r_0 : w_1.cell? ⟨w.heap.size + 2, 0, none⟩ = some (.int .u64 0) := (f_r).cell 0
  have r_1 : w_1.cell? ⟨w.heap.size + 2, 1, none⟩ = some (.int .u64 0) := (f_r).cell 1
  have r_f0 := (f_r).frozen 0
  have r_f1 := (f_r).frozen 1
  have r_l := (f_r).lt
  replace f_r := Lib.hid f_r
  have o_0 : w_1.cell? ⟨w.heap.size + 3, 0, none⟩ = some (.int .u64 xm1) := (f_o).cell 0
  have o_1 : w_1.cell? ⟨w.heap.size + 3, 1, none⟩ = some (.int .u64 xm2) := (f_o).cell 1
  have o_f0 := (f_o).frozen 0
  have o_f1 := (f_o).frozen 1
  have o_l := (f_o).lt
  replace f_o := Lib.hid f_o
  replace hB_1 := Lib.hid hB_1
  go_wp2_with fail
  refine (HB2.out _).mono ?_
  rintro e w_2 ⟨rfl, hb_2⟩
  have z_2 := hb_2.size
  try simp at z_2
  have t_ := hB_1.out
  have hB_2 := bel_eld (w := w) (X := _) (by first | ((repeat (first | with_reducible exact Below.refl _ _ | with_reducible assumption | (with_reducible refine bel_set ?_ (by first | exact Nat.le_refl _ | (simp; done) | (simp; omega) | omega) _) | with_reducible refine bel_grow ?_ _ | with_reducible refine Below.drew ?_ | with_reducible refine below_drewN ?_ _ | with_reducible refine bel_alloc ?_ _ | with_reducible refine bel_trans ?_ (by assumption))); done) | (repeat (first | exact Below.refl _ _ | assumption | refine below_drewN ?_ _ | refine bel_grow ?_ _ | refine Below.drew ?_ | refine bel_alloc ?_ _ | refine bel_set ?_ (by first | exact Nat.le_refl _ | (simp; done) | (simp; omega) | omega) _ | refine bel_trans ?_ (by assumption)))) hb_2
  clear t_
  have t_x := f_x.out
  have t_p := f_p.out
  have t_r := f_r.out
  have t_o := f_o.out
  have g_x : Blk w_2 (w.heap.size) 28 #[.int .u64 xi1, .int .u64 xi2, .int .u64 xd1, .int .u64 xd2, .int .u64 xc1, .int .u64 xc2, .int .u64 xm1, .int .u64 xm2, .int .u64 xw1, .int .u64 xw2, .int .u64 xtg, .int .u32 xto, .int .u32 xlg, .int .u16 xcd, .int .u16 xfl, .int .u64 xst] := by
    refine Blk.kept ?_ hb_2
    (repeat (first | with_reducible assumption | (with_reducible refine Blk.new' ?_; first | with_reducible rfl | (simp; done)) | with_reducible refine Blk.alloc ?_ _ | with_reducible refine Blk.grow ?_ _ | with_reducible refine Blk.drew ?_ | with_reducible refine Blk.drewN ?_ _ | (with_reducible refine Blk.far ?_ (by first | (dsimp only; omega) | (simp; omega)) _) | (with_reducible apply Blk.two) | (with_reducible refine Blk.set' ?_ _ _ ?_) | (with_reducible rfl) | rfl))
  have g_p : Blk w_2 (w.heap.size + 1) 32 #[.int .u64 ai1, .int .u64 ai2, .int .u64 ap1, .int .u64 ap2, .int .u64 aq1, .int .u64 aq2, .int .u64 ar1, .int .u64 ar2, .int .u64 as1, .int .u64 as2, .int .u64 atg, .int .u32 alg, .int .u16 acd, .int .u16 afl, .int .u64 ast, .int .u64 ei1, .int .u64 ei2, .int .u64 ep1, .int .u64 ep2, .int .u64 eq1, .int .u64 eq2, .int .u64 er1, .int .u64 er2, .int .u64 es1, .int .u64 es2, .int .u64 etg, .int .u32 elg, .int .u16 ecd, .int .u16 efl, .int .u64 est, .bool hd, .bool hc] := by
    refine Blk.kept ?_ hb_2
    (repeat (first | with_reducible assumption | (with_reducible refine Blk.new' ?_; first | with_reducible rfl | (simp; done)) | with_reducible refine Blk.alloc ?_ _ | with_reducible refine Blk.grow ?_ _ | with_reducible refine Blk.drew ?_ | with_reducible refine Blk.drewN ?_ _ | (with_reducible refine Blk.far ?_ (by first | (dsimp only; omega) | (simp; omega)) _) | (with_reducible apply Blk.two) | (with_reducible refine Blk.set' ?_ _ _ ?_) | (with_reducible rfl) | rfl))
  have g_r : Blk w_2 (w.heap.size + 2) 24 #[.int .u64 0, .int .u64 0] := by
    refine Blk.kept ?_ hb_2
    (repeat (first | with_reducible assumption | (with_reducible refine Blk.new' ?_; first | with_reducible rfl | (simp; done)) | with_reducible refine Blk.alloc ?_ _ | with_reducible refine Blk.grow ?_ _ | with_reducible refine Blk.drew ?_ | with_reducible refine Blk.drewN ?_ _ | (with_reducible refine Blk.far ?_ (by first | (dsimp only; omega) | (simp; omega)) _) | (with_reducible apply Blk.two) | (with_reducible refine Blk.set' ?_ _ _ ?_) | (with_reducible rfl) | rfl))
  have g_o : Blk w_2 (w.heap.size + 3) 24 #[.int .u64 xm1, .int .u64 xm2] := by
    refine Blk.kept ?_ hb_2
    (repeat (first | with_reducible assumption | (with_reducible refine Blk.new' ?_; first | with_reducible rfl | (simp; done)) | with_reducible refine Blk.alloc ?_ _ | with_reducible refine Blk.grow ?_ _ | with_reducible refine Blk.drew ?_ | with_reducible refine Blk.drewN ?_ _ | (with_reducible refine Blk.far ?_ (by first | (dsimp only; omega) | (simp; omega)) _) | (with_reducible apply Blk.two) | (with_reducible refine Blk.set' ?_ _ _ ?_) | (with_reducible rfl) | rfl))
  clear f_x x_l r_x x_14 x_f14 f_p p_l r_p p_2 p_f2 p_3 p_f3 p_4 p_f4 p_5 p_f5 p_8 p_f8 p_9 p_f9 p_13 p_f13 p_19 p_f19 p_20 p_f20 p_21 p_f21 p_22 p_f22 p_23 p_f23 p_24 p_f24 p_28 p_f28 f_r r_l r_0 r_1 r_f0 r_f1 f_o o_l o_0 o_1 o_f0 o_f1 t_x t_p t_r t_o hB_1 hb_2
  have f_x := g_x
  clear g_x
  have f_p := g_p
  clear g_p
  have f_r := g_r
  clear g_r
  have f_o := g_o
  clear g_o
  have r_x := rowAt_blk f_x
  have x_l := f_x.lt
  have x_14 : w_2.cell? ⟨w.heap.size, 14, none⟩ = some (.int .u16 xfl) := (f_x).cell 14
  have x_f14 := (f_x).frozen 14
  replace f_x := Lib.hid f_x
  have r_p := rowAt_blk f_p
  have p_l := f_p.lt
  have p_2 : w_2.cell? ⟨w.heap.size + 1, 2, none⟩ = some (.int .u64 ap1) := (f_p).cell 2
  have p_f2 := (f_p).frozen 2
  have p_3 : w_2.cell? ⟨w.heap.size + 1, 3, none⟩ = some (.int .u64 ap2) := (f_p).cell 3
  have p_f3 := (f_p).frozen 3
  have p_4 : w_2.cell? ⟨w.heap.size + 1, 4, none⟩ = some (.int .u64 aq1) := (f_p).cell 4
  have p_f4 := (f_p).frozen 4
  have p_5 : w_2.cell? ⟨w.heap.size + 1, 5, none⟩ = some (.int .u64 aq2) := (f_p).cell 5
  have p_f5 := (f_p).frozen 5
  have p_8 : w_2.cell? ⟨w.heap.size + 1, 8, none⟩ = some (.int .u64 as1) := (f_p).cell 8
  have p_f8 := (f_p).frozen 8
  have p_9 : w_2.cell? ⟨w.heap.size + 1, 9, none⟩ = some (.int .u64 as2) := (f_p).cell 9
  have p_f9 := (f_p).frozen 9
  have p_13 : w_2.cell? ⟨w.heap.size + 1, 13, none⟩ = some (.int .u16 afl) := (f_p).cell 13
  have p_f13 := (f_p).frozen 13
  have p_19 : w_2.cell? ⟨w.heap.size + 1, 19, none⟩ = some (.int .u64 eq1) := (f_p).cell 19
  have p_f19 := (f_p).frozen 19
  have p_20 : w_2.cell? ⟨w.heap.size + 1, 20, none⟩ = some (.int .u64 eq2) := (f_p).cell 20
  have p_f20 := (f_p).frozen 20
  have p_21 : w_2.cell? ⟨w.heap.size + 1, 21, none⟩ = some (.int .u64 er1) := (f_p).cell 21
  have p_f21 := (f_p).frozen 21
  have p_22 : w_2.cell? ⟨w.heap.size + 1, 22, none⟩ = some (.int .u64 er2) := (f_p).cell 22
  have p_f22 := (f_p).frozen 22
  have p_23 : w_2.cell? ⟨w.heap.size + 1, 23, none⟩ = some (.int .u64 es1) := (f_p).cell 23
  have p_f23 := (f_p).frozen 23
  have p_24 : w_2.cell? ⟨w.heap.size + 1, 24, none⟩ = some (.int .u64 es2) := (f_p).cell 24
  have p_f24 := (f_p).frozen 24
  have p_28 : w_2.cell? ⟨w.heap.size + 1, 28, none⟩ = some (.int .u16 efl) := (f_p).cell 28
  have p_f28 := (f_p).frozen 28
  replace f_p := Lib.hid f_p
  have r_0 : w_2.cell? ⟨w.heap.size + 2, 0, none⟩ = some (.int .u64 0) := (f_r).cell 0
  have r_1 : w_2.cell? ⟨w.heap.size + 2, 1, none⟩ = some (.int .u64 0) := (f_r).cell 1
  have r_f0 := (f_r).frozen 0
  have r_f1 := (f_r).frozen 1
  have r_l := (f_r).lt
  replace f_r := Lib.hid f_r
  have o_0 : w_2.cell? ⟨w.heap.size + 3, 0, none⟩ = some (.int .u64 xm1) := (f_o).cell 0
  have o_1 : w_2.cell? ⟨w.heap.size + 3, 1, none⟩ = some (.int .u64 xm2) := (f_o).cell 1
  have o_f0 := (f_o).frozen 0
  have o_f1 := (f_o).frozen 1
  have o_l := (f_o).lt
  replace f_o := Lib.hid f_o
  replace hB_2 := Lib.hid hB_2
  go_wp2_with fail
  refine abs_post (fun Y_ => Below w.heap.size w Y_ ∧ Blk Y_ (w.heap.size + 2) 24 #[.int .u64 xm1, .int .u64 xm2]) ?_ ?_
  · have t_B := hB_2.out
    have t_x := f_x.out
    have t_p := f_p.out
    have t_r := f_r.out
    have t_o := f_o.out
    exact ⟨by (repeat (first | with_reducible exact Below.refl _ _ | with_reducible assumption | (with_reducible refine bel_set ?_ (by first | exact Nat.le_refl _ | (simp; done) | (simp; omega) | omega) _) | with_reducible refine bel_grow ?_ _ | with_reducible refine Below.drew ?_ | with_reducible refine bel_alloc ?_ _ | (with_reducible refine below_setRow ?_ (by first | omega | (simp; omega)) _) | with_reducible refine bel_eld ?_ (by assumption))), by (repeat (first | with_reducible assumption | (with_reducible refine Blk.new' ?_; first | with_reducible rfl | (simp; done)) | with_reducible refine Blk.alloc ?_ _ | with_reducible refine Blk.grow ?_ _ | with_reducible refine Blk.drew ?_ | with_reducible refine Blk.drewN ?_ _ | (with_reducible refine Blk.far ?_ (by first | (dsimp only; omega) | (simp; omega)) _) | (with_reducible apply Blk.two) | (with_reducible refine Blk.kept ?_ (by assumption)) | (with_reducible refine Blk.setRow (by assumption) (by first | rfl | (simp; done))) | (with_reducible refine Blk.setRow_far ?_ (by first | omega | (simp; omega)) _) | (with_reducible refine Blk.set' ?_ _ _ (by first | rfl | (simp; done)))))⟩
  rintro Y_ ⟨bZ_, gP_⟩
  have p_0 := gP_.cell 0
  have p_1 := gP_.cell 1
  have p_l := gP_.lt
  refine bodyPost_ret (v := .agg #[.int .u64 xm1, .int .u64 xm2]) (by simp [results, Try.results21, go_sem, p_0, p_1, p_l]) rfl ⟨by first | rfl | (rw [hk.out]; rfl), bZ_⟩
set_option maxRecDepth 8000 in
set_option maxHeartbeats 8000000 in
theorem refasked_true_false (xi1 xi2 xd1 xd2 xc1 xc2 xm1 xm2 xw1 xw2 xtg xto xlg xcd xfl xst ai1 ai2 ap1 ap2 aq1 aq2 ar1 ar2 as1 as2 atg alg acd afl ast ei1 ei2 ep1 ep2 eq1 eq2 er1 er2 es1 es2 etg elg ecd efl est d1 d2 c1 c2 o1 o2 z1 z2 : Int) (hd hc : Bool)
    (HB1 : ∀ w, Calls Try.prog 45 #[.int .u16 xfl, .int .u16 16] w fun r w' => r = .returned (.bool true) ∧ Below w.heap.size w w')
    (HB2 : ∀ w, Calls Try.prog 45 #[.int .u16 xfl, .int .u16 32] w fun r w' => r = .returned (.bool false) ∧ Below w.heap.size w w')
    (HL1 : ∀ w, Calls Try.prog 51 #[.agg #[.int .u64 as1, .int .u64 as2], .agg #[.int .u64 ap1, .int .u64 ap2], .agg #[.int .u64 aq1, .int .u64 aq2]] w fun r w' => r = .returned (.agg #[.int .u64 d1, .int .u64 d2]) ∧ Below w.heap.size w w')
    (HM1 : ∀ w, Calls Try.prog 50 #[.agg #[.int .u64 xm1, .int .u64 xm2], .agg #[.int .u64 d1, .int .u64 d2]] w fun r w' => r = .returned (.agg #[.int .u64 o1, .int .u64 o2]) ∧ Below w.heap.size w w')
    (w : World) : Calls Try.prog 21 #[.agg #[.int .u64 xi1, .int .u64 xi2, .int .u64 xd1, .int .u64 xd2, .int .u64 xc1, .int .u64 xc2, .int .u64 xm1, .int .u64 xm2, .int .u64 xw1, .int .u64 xw2, .int .u64 xtg, .int .u32 xto, .int .u32 xlg, .int .u16 xcd, .int .u16 xfl, .int .u64 xst], .agg #[.int .u64 ai1, .int .u64 ai2, .int .u64 ap1, .int .u64 ap2, .int .u64 aq1, .int .u64 aq2, .int .u64 ar1, .int .u64 ar2, .int .u64 as1, .int .u64 as2, .int .u64 atg, .int .u32 alg, .int .u16 acd, .int .u16 afl, .int .u64 ast, .int .u64 ei1, .int .u64 ei2, .int .u64 ep1, .int .u64 ep2, .int .u64 eq1, .int .u64 eq2, .int .u64 er1, .int .u64 er2, .int .u64 es1, .int .u64 es2, .int .u64 etg, .int .u32 elg, .int .u16 ecd, .int .u16 efl, .int .u64 est, .bool hd, .bool hc]] w fun r w' => r = .returned (.agg #[.int .u64 o1, .int .u64 o2]) ∧ Below w.heap.size w w' := by
  replace HB1 := Lib.hid HB1
  replace HB2 := Lib.hid HB2
  replace HL1 := Lib.hid HL1
  replace HM1 := Lib.hid HM1
  have hb0 := Below.refl w.heap.size w
  go_enter Try.func21, Try.ntmps21
  replace hb0 := Lib.hid hb0
  go_wp2_with fail
  refine (HB1.out _).mono ?_
  rintro e w_1 ⟨rfl, hb_1⟩
  have z_1 := hb_1.size
  try simp at z_1
  have t_ := hb0.out
  have hB_1 := bel_eld (w := w) (X := _) (by first | ((repeat (first | with_reducible exact Below.refl _ _ | with_reducible assumption | (with_reducible refine bel_set ?_ (by first | exact Nat.le_refl _ | (simp; done) | (simp; omega) | omega) _) | with_reducible refine bel_grow ?_ _ | with_reducible refine Below.drew ?_ | with_reducible refine below_drewN ?_ _ | with_reducible refine bel_alloc ?_ _ | with_reducible refine bel_trans ?_ (by assumption))); done) | (repeat (first | exact Below.refl _ _ | assumption | refine below_drewN ?_ _ | refine bel_grow ?_ _ | refine Below.drew ?_ | refine bel_alloc ?_ _ | refine bel_set ?_ (by first | exact Nat.le_refl _ | (simp; done) | (simp; omega) | omega) _ | refine bel_trans ?_ (by assumption)))) hb_1
  clear t_
  have g_x : Blk w_1 (w.heap.size) 28 #[.int .u64 xi1, .int .u64 xi2, .int .u64 xd1, .int .u64 xd2, .int .u64 xc1, .int .u64 xc2, .int .u64 xm1, .int .u64 xm2, .int .u64 xw1, .int .u64 xw2, .int .u64 xtg, .int .u32 xto, .int .u32 xlg, .int .u16 xcd, .int .u16 xfl, .int .u64 xst] := by
    refine Blk.kept ?_ hb_1
    (repeat (first | with_reducible assumption | (with_reducible refine Blk.new' ?_; first | with_reducible rfl | (simp; done)) | with_reducible refine Blk.alloc ?_ _ | with_reducible refine Blk.grow ?_ _ | with_reducible refine Blk.drew ?_ | with_reducible refine Blk.drewN ?_ _ | (with_reducible refine Blk.far ?_ (by first | (dsimp only; omega) | (simp; omega)) _) | (with_reducible apply Blk.two) | (with_reducible refine Blk.set' ?_ _ _ ?_) | (with_reducible rfl) | rfl))
  have g_p : Blk w_1 (w.heap.size + 1) 32 #[.int .u64 ai1, .int .u64 ai2, .int .u64 ap1, .int .u64 ap2, .int .u64 aq1, .int .u64 aq2, .int .u64 ar1, .int .u64 ar2, .int .u64 as1, .int .u64 as2, .int .u64 atg, .int .u32 alg, .int .u16 acd, .int .u16 afl, .int .u64 ast, .int .u64 ei1, .int .u64 ei2, .int .u64 ep1, .int .u64 ep2, .int .u64 eq1, .int .u64 eq2, .int .u64 er1, .int .u64 er2, .int .u64 es1, .int .u64 es2, .int .u64 etg, .int .u32 elg, .int .u16 ecd, .int .u16 efl, .int .u64 est, .bool hd, .bool hc] := by
    refine Blk.kept ?_ hb_1
    (repeat (first | with_reducible assumption | (with_reducible refine Blk.new' ?_; first | with_reducible rfl | (simp; done)) | with_reducible refine Blk.alloc ?_ _ | with_reducible refine Blk.grow ?_ _ | with_reducible refine Blk.drew ?_ | with_reducible refine Blk.drewN ?_ _ | (with_reducible refine Blk.far ?_ (by first | (dsimp only; omega) | (simp; omega)) _) | (with_reducible apply Blk.two) | (with_reducible refine Blk.set' ?_ _ _ ?_) | (with_reducible rfl) | rfl))
  have g_r : Blk w_1 (w.heap.size + 2) 24 #[.int .u64 0, .int .u64 0] := by
    refine Blk.kept ?_ hb_1
    (repeat (first | with_reducible assumption | (with_reducible refine Blk.new' ?_; first | with_reducible rfl | (simp; done)) | with_reducible refine Blk.alloc ?_ _ | with_reducible refine Blk.grow ?_ _ | with_reducible refine Blk.drew ?_ | with_reducible refine Blk.drewN ?_ _ | (with_reducible refine Blk.far ?_ (by first | (dsimp only; omega) | (simp; omega)) _) | (with_reducible apply Blk.two) | (with_reducible refine Blk.set' ?_ _ _ ?_) | (with_reducible rfl) | rfl))
  have g_o : Blk w_1 (w.heap.size + 3) 24 #[.int .u64 xm1, .int .u64 xm2] := by
    refine Blk.kept ?_ hb_1
    (repeat (first | with_reducible assumption | (with_reducible refine Blk.new' ?_; first | with_reducible rfl | (simp; done)) | with_reducible refine Blk.alloc ?_ _ | with_reducible refine Blk.grow ?_ _ | with_reducible refine Blk.drew ?_ | with_reducible refine Blk.drewN ?_ _ | (with_reducible refine Blk.far ?_ (by first | (dsimp only; omega) | (simp; omega)) _) | (with_reducible apply Blk.two) | (with_reducible refine Blk.set' ?_ _ _ ?_) | (with_reducible rfl) | rfl))
  clear hb0 hb_1
  have f_x := g_x
  clear g_x
  have f_p := g_p
  clear g_p
  have f_r := g_r
  clear g_r
  have f_o := g_o
  clear g_o
  have r_x := rowAt_blk f_x
  have x_l := f_x.lt
  have x_14 : w_1.cell? ⟨w.heap.size, 14, none⟩ = some (.int .u16 xfl) := (f_x).cell 14
  have x_f14 := (f_x).frozen 14
  replace f_x := Lib.hid f_x
  have r_p := rowAt_blk f_p
  have p_l := f_p.lt
  have p_2 : w_1.cell? ⟨w.heap.size + 1, 2, none⟩ = some (.int .u64 ap1) := (f_p).cell 2
  have p_f2 := (f_p).frozen 2
  have p_3 : w_1.cell? ⟨w.heap.size + 1, 3, none⟩ = some (.int .u64 ap2) := (f_p).cell 3
  have p_f3 := (f_p).frozen 3
  have p_4 : w_1.cell? ⟨w.heap.size + 1, 4, none⟩ = some (.int .u64 aq1) := (f_p).cell 4
  have p_f4 := (f_p).frozen 4
  have p_5 : w_1.cell? ⟨w.heap.size + 1, 5, none⟩ = some (.int .u64 aq2) := (f_p).cell 5
  have p_f5 := (f_p).frozen 5
  have p_8 : w_1.cell? ⟨w.heap.size + 1, 8, none⟩ = some (.int .u64 as1) := (f_p).cell 8
  have p_f8 := (f_p).frozen 8
  have p_9 : w_1.cell? ⟨w.heap.size + 1, 9, none⟩ = some (.int .u64 as2) := (f_p).cell 9
  have p_f9 := (f_p).frozen 9
  have p_13 : w_1.cell? ⟨w.heap.size + 1, 13, none⟩ = some (.int .u16 afl) := (f_p).cell 13
  have p_f13 := (f_p).frozen 13
  have p_19 : w_1.cell? ⟨w.heap.size + 1, 19, none⟩ = some (.int .u64 eq1) := (f_p).cell 19
  have p_f19 := (f_p).frozen 19
  have p_20 : w_1.cell? ⟨w.heap.size + 1, 20, none⟩ = some (.int .u64 eq2) := (f_p).cell 20
  have p_f20 := (f_p).frozen 20
  have p_21 : w_1.cell? ⟨w.heap.size + 1, 21, none⟩ = some (.int .u64 er1) := (f_p).cell 21
  have p_f21 := (f_p).frozen 21
  have p_22 : w_1.cell? ⟨w.heap.size + 1, 22, none⟩ = some (.int .u64 er2) := (f_p).cell 22
  have p_f22 := (f_p).frozen 22
  have p_23 : w_1.cell? ⟨w.heap.size + 1, 23, none⟩ = some (.int .u64 es1) := (f_p).cell 23
  have p_f23 := (f_p).frozen 23
  have p_24 : w_1.cell? ⟨w.heap.size + 1, 24, none⟩ = some (.int .u64 es2) := (f_p).cell 24
  have p_f24 := (f_p).frozen 24
  have p_28 : w_1.cell? ⟨w.heap.size + 1, 28, none⟩ = some (.int .u16 efl) := (f_p).cell 28
  have p_f28 := (f_p).frozen 28
  replace f_p := Lib.hid f_p
  have r_0 : w_1.cell? ⟨w.heap.size + 2, 0, none⟩ = some (.int .u64 0) := (f_r).cell 0
  have r_1 : w_1.cell? ⟨w.heap.size + 2, 1, none⟩ = some (.int .u64 0) := (f_r).cell 1
  have r_f0 := (f_r).frozen 0
  have r_f1 := (f_r).frozen 1
  have r_l := (f_r).lt
  replace f_r := Lib.hid f_r
  have o_0 : w_1.cell? ⟨w.heap.size + 3, 0, none⟩ = some (.int .u64 xm1) := (f_o).cell 0
  have o_1 : w_1.cell? ⟨w.heap.size + 3, 1, none⟩ = some (.int .u64 xm2) := (f_o).cell 1
  have o_f0 := (f_o).frozen 0
  have o_f1 := (f_o).frozen 1
  have o_l := (f_o).lt
  replace f_o := Lib.hid f_o
  replace hB_1 := Lib.hid hB_1
  go_upto_region 3 with fail
  first | (with_reducible refine rtail2 12 (by kernel_rfl) (by kernel_rfl) ?_) | (refine rtail 12 (by kernel_rfl) (by kernel_rfl) ?_)
  simp only [List.take_succ_cons, List.take_zero, List.drop_succ_cons, List.drop_zero]
  repeat (go_big_quiet_step (((first | (go_at_call 51; exact grow_call (HL1.out _)) | (go_at_call 50; exact grow_call (HM1.out _))))))
  refine wpQuiet_nil ?_
  intro dr
  go_upto_region 4 with fail
  refine abs_wp (fun Y_ => Below w.heap.size w Y_ ∧ Blk Y_ (w.heap.size) 28 #[.int .u64 xi1, .int .u64 xi2, .int .u64 xd1, .int .u64 xd2, .int .u64 xc1, .int .u64 xc2, .int .u64 xm1, .int .u64 xm2, .int .u64 xw1, .int .u64 xw2, .int .u64 xtg, .int .u32 xto, .int .u32 xlg, .int .u16 xcd, .int .u16 xfl, .int .u64 xst] ∧ Blk Y_ (w.heap.size + 1) 32 #[.int .u64 ai1, .int .u64 ai2, .int .u64 ap1, .int .u64 ap2, .int .u64 aq1, .int .u64 aq2, .int .u64 ar1, .int .u64 ar2, .int .u64 as1, .int .u64 as2, .int .u64 atg, .int .u32 alg, .int .u16 acd, .int .u16 afl, .int .u64 ast, .int .u64 ei1, .int .u64 ei2, .int .u64 ep1, .int .u64 ep2, .int .u64 eq1, .int .u64 eq2, .int .u64 er1, .int .u64 er2, .int .u64 es1, .int .u64 es2, .int .u64 etg, .int .u32 elg, .int .u16 ecd, .int .u16 efl, .int .u64 est, .bool hd, .bool hc] ∧ Blk Y_ (w.heap.size + 2) 24 #[.int .u64 0, .int .u64 0] ∧ Blk Y_ (w.heap.size + 3) 24 #[.int .u64 o1, .int .u64 o2]) ?_ ?_
  · have t_B := hB_1.out
    have t_x := f_x.out
    have t_p := f_p.out
    have t_r := f_r.out
    have t_o := f_o.out
    refine ⟨by (repeat (first | with_reducible exact Below.refl _ _ | with_reducible assumption | (with_reducible refine bel_set ?_ (by first | exact Nat.le_refl _ | (simp; done) | (simp; omega) | omega) _) | with_reducible refine bel_grow ?_ _ | with_reducible refine Below.drew ?_ | with_reducible refine bel_alloc ?_ _ | with_reducible refine bel_eld ?_ (by assumption))), ?_, ?_, ?_, ?_⟩
    · (repeat (first | with_reducible assumption | (with_reducible refine Blk.new' ?_; first | with_reducible rfl | (simp; done)) | with_reducible refine Blk.alloc ?_ _ | with_reducible refine Blk.grow ?_ _ | with_reducible refine Blk.drew ?_ | with_reducible refine Blk.drewN ?_ _ | (with_reducible refine Blk.far ?_ (by first | (dsimp only; omega) | (simp; omega)) _) | (with_reducible apply Blk.two) | (with_reducible refine Blk.kept ?_ (by assumption)) | (with_reducible refine Blk.setRow ?_ (by first | rfl | (simp; done))) | (with_reducible refine Blk.setRow_far ?_ (by first | omega | (simp; omega)) _) | (with_reducible refine Blk.set' ?_ _ _ (by first | rfl | (simp; done)))))
    · (repeat (first | with_reducible assumption | (with_reducible refine Blk.new' ?_; first | with_reducible rfl | (simp; done)) | with_reducible refine Blk.alloc ?_ _ | with_reducible refine Blk.grow ?_ _ | with_reducible refine Blk.drew ?_ | with_reducible refine Blk.drewN ?_ _ | (with_reducible refine Blk.far ?_ (by first | (dsimp only; omega) | (simp; omega)) _) | (with_reducible apply Blk.two) | (with_reducible refine Blk.kept ?_ (by assumption)) | (with_reducible refine Blk.setRow ?_ (by first | rfl | (simp; done))) | (with_reducible refine Blk.setRow_far ?_ (by first | omega | (simp; omega)) _) | (with_reducible refine Blk.set' ?_ _ _ (by first | rfl | (simp; done)))))
    · (repeat (first | with_reducible assumption | (with_reducible refine Blk.new' ?_; first | with_reducible rfl | (simp; done)) | with_reducible refine Blk.alloc ?_ _ | with_reducible refine Blk.grow ?_ _ | with_reducible refine Blk.drew ?_ | with_reducible refine Blk.drewN ?_ _ | (with_reducible refine Blk.far ?_ (by first | (dsimp only; omega) | (simp; omega)) _) | (with_reducible apply Blk.two) | (with_reducible refine Blk.kept ?_ (by assumption)) | (with_reducible refine Blk.setRow ?_ (by first | rfl | (simp; done))) | (with_reducible refine Blk.setRow_far ?_ (by first | omega | (simp; omega)) _) | (with_reducible refine Blk.set' ?_ _ _ (by first | rfl | (simp; done)))))
    · (repeat (first | with_reducible assumption | (with_reducible refine Blk.new' ?_; first | with_reducible rfl | (simp; done)) | with_reducible refine Blk.alloc ?_ _ | with_reducible refine Blk.grow ?_ _ | with_reducible refine Blk.drew ?_ | with_reducible refine Blk.drewN ?_ _ | (with_reducible refine Blk.far ?_ (by first | (dsimp only; omega) | (simp; omega)) _) | (with_reducible apply Blk.two) | (with_reducible refine Blk.kept ?_ (by assumption)) | (with_reducible refine Blk.setRow ?_ (by first | rfl | (simp; done))) | (with_reducible refine Blk.setRow_far ?_ (by first | omega | (simp; omega)) _) | (with_reducible refine Blk.set' ?_ _ _ (by first | rfl | (simp; done)))))
  clear f_x x_l r_x x_14 x_f14 f_p p_l r_p p_2 p_f2 p_3 p_f3 p_4 p_f4 p_5 p_f5 p_8 p_f8 p_9 p_f9 p_13 p_f13 p_19 p_f19 p_20 p_f20 p_21 p_f21 p_22 p_f22 p_23 p_f23 p_24 p_f24 p_28 p_f28 f_r r_l r_0 r_1 r_f0 r_f1 f_o o_l o_0 o_1 o_f0 o_f1 hB_1
  rintro X2 ⟨hB_2, f_x, f_p, f_r, f_o⟩
  have r_x := rowAt_blk f_x
  have x_l := f_x.lt
  have x_14 : X2.cell? ⟨w.heap.size, 14, none⟩ = some (.int .u16 xfl) := (f_x).cell 14
  have x_f14 := (f_x).frozen 14
  replace f_x := Lib.hid f_x
  have r_p := rowAt_blk f_p
  have p_l := f_p.lt
  have p_2 : X2.cell? ⟨w.heap.size + 1, 2, none⟩ = some (.int .u64 ap1) := (f_p).cell 2
  have p_f2 := (f_p).frozen 2
  have p_3 : X2.cell? ⟨w.heap.size + 1, 3, none⟩ = some (.int .u64 ap2) := (f_p).cell 3
  have p_f3 := (f_p).frozen 3
  have p_4 : X2.cell? ⟨w.heap.size + 1, 4, none⟩ = some (.int .u64 aq1) := (f_p).cell 4
  have p_f4 := (f_p).frozen 4
  have p_5 : X2.cell? ⟨w.heap.size + 1, 5, none⟩ = some (.int .u64 aq2) := (f_p).cell 5
  have p_f5 := (f_p).frozen 5
  have p_8 : X2.cell? ⟨w.heap.size + 1, 8, none⟩ = some (.int .u64 as1) := (f_p).cell 8
  have p_f8 := (f_p).frozen 8
  have p_9 : X2.cell? ⟨w.heap.size + 1, 9, none⟩ = some (.int .u64 as2) := (f_p).cell 9
  have p_f9 := (f_p).frozen 9
  have p_13 : X2.cell? ⟨w.heap.size + 1, 13, none⟩ = some (.int .u16 afl) := (f_p).cell 13
  have p_f13 := (f_p).frozen 13
  have p_19 : X2.cell? ⟨w.heap.size + 1, 19, none⟩ = some (.int .u64 eq1) := (f_p).cell 19
  have p_f19 := (f_p).frozen 19
  have p_20 : X2.cell? ⟨w.heap.size + 1, 20, none⟩ = some (.int .u64 eq2) := (f_p).cell 20
  have p_f20 := (f_p).frozen 20
  have p_21 : X2.cell? ⟨w.heap.size + 1, 21, none⟩ = some (.int .u64 er1) := (f_p).cell 21
  have p_f21 := (f_p).frozen 21
  have p_22 : X2.cell? ⟨w.heap.size + 1, 22, none⟩ = some (.int .u64 er2) := (f_p).cell 22
  have p_f22 := (f_p).frozen 22
  have p_23 : X2.cell? ⟨w.heap.size + 1, 23, none⟩ = some (.int .u64 es1) := (f_p).cell 23
  have p_f23 := (f_p).frozen 23
  have p_24 : X2.cell? ⟨w.heap.size + 1, 24, none⟩ = some (.int .u64 es2) := (f_p).cell 24
  have p_f24 := (f_p).frozen 24
  have p_28 : X2.cell? ⟨w.heap.size + 1, 28, none⟩ = some (.int .u16 efl) := (f_p).cell 28
  have p_f28 := (f_p).frozen 28
  replace f_p := Lib.hid f_p
  have r_0 : X2.cell? ⟨w.heap.size + 2, 0, none⟩ = some (.int .u64 0) := (f_r).cell 0
  have r_1 : X2.cell? ⟨w.heap.size + 2, 1, none⟩ = some (.int .u64 0) := (f_r).cell 1
  have r_f0 := (f_r).frozen 0
  have r_f1 := (f_r).frozen 1
  have r_l := (f_r).lt
  replace f_r := Lib.hid f_r
  have o_0 : X2.cell? ⟨w.heap.size + 3, 0, none⟩ = some (.int .u64 o1) := (f_o).cell 0
  have o_1 : X2.cell? ⟨w.heap.size + 3, 1, none⟩ = some (.int .u64 o2) := (f_o).cell 1
  have o_f0 := (f_o).frozen 0
  have o_f1 := (f_o).frozen 1
  have o_l := (f_o).lt
  replace f_o := Lib.hid f_o
  replace hB_2 := Lib.hid hB_2
  go_wp2_with fail
  refine (HB2.out _).mono ?_
  rintro e w_3 ⟨rfl, hb_3⟩
  have z_3 := hb_3.size
  try simp at z_3
  have t_ := hB_2.out
  have hB_3 := bel_eld (w := w) (X := _) (by first | ((repeat (first | with_reducible exact Below.refl _ _ | with_reducible assumption | (with_reducible refine bel_set ?_ (by first | exact Nat.le_refl _ | (simp; done) | (simp; omega) | omega) _) | with_reducible refine bel_grow ?_ _ | with_reducible refine Below.drew ?_ | with_reducible refine below_drewN ?_ _ | with_reducible refine bel_alloc ?_ _ | with_reducible refine bel_trans ?_ (by assumption))); done) | (repeat (first | exact Below.refl _ _ | assumption | refine below_drewN ?_ _ | refine bel_grow ?_ _ | refine Below.drew ?_ | refine bel_alloc ?_ _ | refine bel_set ?_ (by first | exact Nat.le_refl _ | (simp; done) | (simp; omega) | omega) _ | refine bel_trans ?_ (by assumption)))) hb_3
  clear t_
  have t_x := f_x.out
  have t_p := f_p.out
  have t_r := f_r.out
  have t_o := f_o.out
  have g_x : Blk w_3 (w.heap.size) 28 #[.int .u64 xi1, .int .u64 xi2, .int .u64 xd1, .int .u64 xd2, .int .u64 xc1, .int .u64 xc2, .int .u64 xm1, .int .u64 xm2, .int .u64 xw1, .int .u64 xw2, .int .u64 xtg, .int .u32 xto, .int .u32 xlg, .int .u16 xcd, .int .u16 xfl, .int .u64 xst] := by
    refine Blk.kept ?_ hb_3
    (repeat (first | with_reducible assumption | (with_reducible refine Blk.new' ?_; first | with_reducible rfl | (simp; done)) | with_reducible refine Blk.alloc ?_ _ | with_reducible refine Blk.grow ?_ _ | with_reducible refine Blk.drew ?_ | with_reducible refine Blk.drewN ?_ _ | (with_reducible refine Blk.far ?_ (by first | (dsimp only; omega) | (simp; omega)) _) | (with_reducible apply Blk.two) | (with_reducible refine Blk.set' ?_ _ _ ?_) | (with_reducible rfl) | rfl))
  have g_p : Blk w_3 (w.heap.size + 1) 32 #[.int .u64 ai1, .int .u64 ai2, .int .u64 ap1, .int .u64 ap2, .int .u64 aq1, .int .u64 aq2, .int .u64 ar1, .int .u64 ar2, .int .u64 as1, .int .u64 as2, .int .u64 atg, .int .u32 alg, .int .u16 acd, .int .u16 afl, .int .u64 ast, .int .u64 ei1, .int .u64 ei2, .int .u64 ep1, .int .u64 ep2, .int .u64 eq1, .int .u64 eq2, .int .u64 er1, .int .u64 er2, .int .u64 es1, .int .u64 es2, .int .u64 etg, .int .u32 elg, .int .u16 ecd, .int .u16 efl, .int .u64 est, .bool hd, .bool hc] := by
    refine Blk.kept ?_ hb_3
    (repeat (first | with_reducible assumption | (with_reducible refine Blk.new' ?_; first | with_reducible rfl | (simp; done)) | with_reducible refine Blk.alloc ?_ _ | with_reducible refine Blk.grow ?_ _ | with_reducible refine Blk.drew ?_ | with_reducible refine Blk.drewN ?_ _ | (with_reducible refine Blk.far ?_ (by first | (dsimp only; omega) | (simp; omega)) _) | (with_reducible apply Blk.two) | (with_reducible refine Blk.set' ?_ _ _ ?_) | (with_reducible rfl) | rfl))
  have g_r : Blk w_3 (w.heap.size + 2) 24 #[.int .u64 0, .int .u64 0] := by
    refine Blk.kept ?_ hb_3
    (repeat (first | with_reducible assumption | (with_reducible refine Blk.new' ?_; first | with_reducible rfl | (simp; done)) | with_reducible refine Blk.alloc ?_ _ | with_reducible refine Blk.grow ?_ _ | with_reducible refine Blk.drew ?_ | with_reducible refine Blk.drewN ?_ _ | (with_reducible refine Blk.far ?_ (by first | (dsimp only; omega) | (simp; omega)) _) | (with_reducible apply Blk.two) | (with_reducible refine Blk.set' ?_ _ _ ?_) | (with_reducible rfl) | rfl))
  have g_o : Blk w_3 (w.heap.size + 3) 24 #[.int .u64 o1, .int .u64 o2] := by
    refine Blk.kept ?_ hb_3
    (repeat (first | with_reducible assumption | (with_reducible refine Blk.new' ?_; first | with_reducible rfl | (simp; done)) | with_reducible refine Blk.alloc ?_ _ | with_reducible refine Blk.grow ?_ _ | with_reducible refine Blk.drew ?_ | with_reducible refine Blk.drewN ?_ _ | (with_reducible refine Blk.far ?_ (by first | (dsimp only; omega) | (simp; omega)) _) | (with_reducible apply Blk.two) | (with_reducible refine Blk.set' ?_ _ _ ?_) | (with_reducible rfl) | rfl))
  clear f_x x_l r_x x_14 x_f14 f_p p_l r_p p_2 p_f2 p_3 p_f3 p_4 p_f4 p_5 p_f5 p_8 p_f8 p_9 p_f9 p_13 p_f13 p_19 p_f19 p_20 p_f20 p_21 p_f21 p_22 p_f22 p_23 p_f23 p_24 p_f24 p_28 p_f28 f_r r_l r_0 r_1 r_f0 r_f1 f_o o_l o_0 o_1 o_f0 o_f1 t_x t_p t_r t_o hB_2 hb_3
  have f_x := g_x
  clear g_x
  have f_p := g_p
  clear g_p
  have f_r := g_r
  clear g_r
  have f_o := g_o
  clear g_o
  have r_x := rowAt_blk f_x
  have x_l := f_x.lt
  have x_14 : w_3.cell? ⟨w.heap.size, 14, none⟩ = some (.int .u16 xfl) := (f_x).cell 14
  have x_f14 := (f_x).frozen 14
  replace f_x := Lib.hid f_x
  have r_p := rowAt_blk f_p
  have p_l := f_p.lt
  have p_2 : w_3.cell? ⟨w.heap.size + 1, 2, none⟩ = some (.int .u64 ap1) := (f_p).cell 2
  have p_f2 := (f_p).frozen 2
  have p_3 : w_3.cell? ⟨w.heap.size + 1, 3, none⟩ = some (.int .u64 ap2) := (f_p).cell 3
  have p_f3 := (f_p).frozen 3
  have p_4 : w_3.cell? ⟨w.heap.size + 1, 4, none⟩ = some (.int .u64 aq1) := (f_p).cell 4
  have p_f4 := (f_p).frozen 4
  have p_5 : w_3.cell? ⟨w.heap.size + 1, 5, none⟩ = some (.int .u64 aq2) := (f_p).cell 5
  have p_f5 := (f_p).frozen 5
  have p_8 : w_3.cell? ⟨w.heap.size + 1, 8, none⟩ = some (.int .u64 as1) := (f_p).cell 8
  have p_f8 := (f_p).frozen 8
  have p_9 : w_3.cell? ⟨w.heap.size + 1, 9, none⟩ = some (.int .u64 as2) := (f_p).cell 9
  have p_f9 := (f_p).frozen 9
  have p_13 : w_3.cell? ⟨w.heap.size + 1, 13, none⟩ = some (.int .u16 afl) := (f_p).cell 13
  have p_f13 := (f_p).frozen 13
  have p_19 : w_3.cell? ⟨w.heap.size + 1, 19, none⟩ = some (.int .u64 eq1) := (f_p).cell 19
  have p_f19 := (f_p).frozen 19
  have p_20 : w_3.cell? ⟨w.heap.size + 1, 20, none⟩ = some (.int .u64 eq2) := (f_p).cell 20
  have p_f20 := (f_p).frozen 20
  have p_21 : w_3.cell? ⟨w.heap.size + 1, 21, none⟩ = some (.int .u64 er1) := (f_p).cell 21
  have p_f21 := (f_p).frozen 21
  have p_22 : w_3.cell? ⟨w.heap.size + 1, 22, none⟩ = some (.int .u64 er2) := (f_p).cell 22
  have p_f22 := (f_p).frozen 22
  have p_23 : w_3.cell? ⟨w.heap.size + 1, 23, none⟩ = some (.int .u64 es1) := (f_p).cell 23
  have p_f23 := (f_p).frozen 23
  have p_24 : w_3.cell? ⟨w.heap.size + 1, 24, none⟩ = some (.int .u64 es2) := (f_p).cell 24
  have p_f24 := (f_p).frozen 24
  have p_28 : w_3.cell? ⟨w.heap.size + 1, 28, none⟩ = some (.int .u16 efl) := (f_p).cell 28
  have p_f28 := (f_p).frozen 28
  replace f_p := Lib.hid f_p
  have r_0 : w_3.cell? ⟨w.heap.size + 2, 0, none⟩ = some (.int .u64 0) := (f_r).cell 0
  have r_1 : w_3.cell? ⟨w.heap.size + 2, 1, none⟩ = some (.int .u64 0) := (f_r).cell 1
  have r_f0 := (f_r).frozen 0
  have r_f1 := (f_r).frozen 1
  have r_l := (f_r).lt
  replace f_r := Lib.hid f_r
  have o_0 : w_3.cell? ⟨w.heap.size + 3, 0, none⟩ = some (.int .u64 o1) := (f_o).cell 0
  have o_1 : w_3.cell? ⟨w.heap.size + 3, 1, none⟩ = some (.int .u64 o2) := (f_o).cell 1
  have o_f0 := (f_o).frozen 0
  have o_f1 := (f_o).frozen 1
  have o_l := (f_o).lt
  replace f_o := Lib.hid f_o
  replace hB_3 := Lib.hid hB_3
  go_wp2_with fail
  refine abs_post (fun Y_ => Below w.heap.size w Y_ ∧ Blk Y_ (w.heap.size + 2) 24 #[.int .u64 o1, .int .u64 o2]) ?_ ?_
  · have t_B := hB_3.out
    have t_x := f_x.out
    have t_p := f_p.out
    have t_r := f_r.out
    have t_o := f_o.out
    exact ⟨by (repeat (first | with_reducible exact Below.refl _ _ | with_reducible assumption | (with_reducible refine bel_set ?_ (by first | exact Nat.le_refl _ | (simp; done) | (simp; omega) | omega) _) | with_reducible refine bel_grow ?_ _ | with_reducible refine Below.drew ?_ | with_reducible refine bel_alloc ?_ _ | (with_reducible refine below_setRow ?_ (by first | omega | (simp; omega)) _) | with_reducible refine bel_eld ?_ (by assumption))), by (repeat (first | with_reducible assumption | (with_reducible refine Blk.new' ?_; first | with_reducible rfl | (simp; done)) | with_reducible refine Blk.alloc ?_ _ | with_reducible refine Blk.grow ?_ _ | with_reducible refine Blk.drew ?_ | with_reducible refine Blk.drewN ?_ _ | (with_reducible refine Blk.far ?_ (by first | (dsimp only; omega) | (simp; omega)) _) | (with_reducible apply Blk.two) | (with_reducible refine Blk.kept ?_ (by assumption)) | (with_reducible refine Blk.setRow (by assumption) (by first | rfl | (simp; done))) | (with_reducible refine Blk.setRow_far ?_ (by first | omega | (simp; omega)) _) | (with_reducible refine Blk.set' ?_ _ _ (by first | rfl | (simp; done)))))⟩
  rintro Y_ ⟨bZ_, gP_⟩
  have p_0 := gP_.cell 0
  have p_1 := gP_.cell 1
  have p_l := gP_.lt
  refine bodyPost_ret (v := .agg #[.int .u64 o1, .int .u64 o2]) (by simp [results, Try.results21, go_sem, p_0, p_1, p_l]) rfl ⟨by first | rfl | (rw [hk.out]; rfl), bZ_⟩
set_option maxRecDepth 8000 in
set_option maxHeartbeats 8000000 in
theorem refasked_false_true (xi1 xi2 xd1 xd2 xc1 xc2 xm1 xm2 xw1 xw2 xtg xto xlg xcd xfl xst ai1 ai2 ap1 ap2 aq1 aq2 ar1 ar2 as1 as2 atg alg acd afl ast ei1 ei2 ep1 ep2 eq1 eq2 er1 er2 es1 es2 etg elg ecd efl est d1 d2 c1 c2 o1 o2 z1 z2 : Int) (hd hc : Bool)
    (HB1 : ∀ w, Calls Try.prog 45 #[.int .u16 xfl, .int .u16 16] w fun r w' => r = .returned (.bool false) ∧ Below w.heap.size w w')
    (HB2 : ∀ w, Calls Try.prog 45 #[.int .u16 xfl, .int .u16 32] w fun r w' => r = .returned (.bool true) ∧ Below w.heap.size w w')
    (HL2 : ∀ w, Calls Try.prog 51 #[.agg #[.int .u64 eq1, .int .u64 eq2], .agg #[.int .u64 er1, .int .u64 er2], .agg #[.int .u64 es1, .int .u64 es2]] w fun r w' => r = .returned (.agg #[.int .u64 c1, .int .u64 c2]) ∧ Below w.heap.size w w')
    (HM2 : ∀ w, Calls Try.prog 50 #[.agg #[.int .u64 xm1, .int .u64 xm2], .agg #[.int .u64 c1, .int .u64 c2]] w fun r w' => r = .returned (.agg #[.int .u64 z1, .int .u64 z2]) ∧ Below w.heap.size w w')
    (w : World) : Calls Try.prog 21 #[.agg #[.int .u64 xi1, .int .u64 xi2, .int .u64 xd1, .int .u64 xd2, .int .u64 xc1, .int .u64 xc2, .int .u64 xm1, .int .u64 xm2, .int .u64 xw1, .int .u64 xw2, .int .u64 xtg, .int .u32 xto, .int .u32 xlg, .int .u16 xcd, .int .u16 xfl, .int .u64 xst], .agg #[.int .u64 ai1, .int .u64 ai2, .int .u64 ap1, .int .u64 ap2, .int .u64 aq1, .int .u64 aq2, .int .u64 ar1, .int .u64 ar2, .int .u64 as1, .int .u64 as2, .int .u64 atg, .int .u32 alg, .int .u16 acd, .int .u16 afl, .int .u64 ast, .int .u64 ei1, .int .u64 ei2, .int .u64 ep1, .int .u64 ep2, .int .u64 eq1, .int .u64 eq2, .int .u64 er1, .int .u64 er2, .int .u64 es1, .int .u64 es2, .int .u64 etg, .int .u32 elg, .int .u16 ecd, .int .u16 efl, .int .u64 est, .bool hd, .bool hc]] w fun r w' => r = .returned (.agg #[.int .u64 z1, .int .u64 z2]) ∧ Below w.heap.size w w' := by
  replace HB1 := Lib.hid HB1
  replace HB2 := Lib.hid HB2
  replace HL2 := Lib.hid HL2
  replace HM2 := Lib.hid HM2
  have hb0 := Below.refl w.heap.size w
  go_enter Try.func21, Try.ntmps21
  replace hb0 := Lib.hid hb0
  go_wp2_with fail
  refine (HB1.out _).mono ?_
  rintro e w_1 ⟨rfl, hb_1⟩
  have z_1 := hb_1.size
  try simp at z_1
  have t_ := hb0.out
  have hB_1 := bel_eld (w := w) (X := _) (by first | ((repeat (first | with_reducible exact Below.refl _ _ | with_reducible assumption | (with_reducible refine bel_set ?_ (by first | exact Nat.le_refl _ | (simp; done) | (simp; omega) | omega) _) | with_reducible refine bel_grow ?_ _ | with_reducible refine Below.drew ?_ | with_reducible refine below_drewN ?_ _ | with_reducible refine bel_alloc ?_ _ | with_reducible refine bel_trans ?_ (by assumption))); done) | (repeat (first | exact Below.refl _ _ | assumption | refine below_drewN ?_ _ | refine bel_grow ?_ _ | refine Below.drew ?_ | refine bel_alloc ?_ _ | refine bel_set ?_ (by first | exact Nat.le_refl _ | (simp; done) | (simp; omega) | omega) _ | refine bel_trans ?_ (by assumption)))) hb_1
  clear t_
  have g_x : Blk w_1 (w.heap.size) 28 #[.int .u64 xi1, .int .u64 xi2, .int .u64 xd1, .int .u64 xd2, .int .u64 xc1, .int .u64 xc2, .int .u64 xm1, .int .u64 xm2, .int .u64 xw1, .int .u64 xw2, .int .u64 xtg, .int .u32 xto, .int .u32 xlg, .int .u16 xcd, .int .u16 xfl, .int .u64 xst] := by
    refine Blk.kept ?_ hb_1
    (repeat (first | with_reducible assumption | (with_reducible refine Blk.new' ?_; first | with_reducible rfl | (simp; done)) | with_reducible refine Blk.alloc ?_ _ | with_reducible refine Blk.grow ?_ _ | with_reducible refine Blk.drew ?_ | with_reducible refine Blk.drewN ?_ _ | (with_reducible refine Blk.far ?_ (by first | (dsimp only; omega) | (simp; omega)) _) | (with_reducible apply Blk.two) | (with_reducible refine Blk.set' ?_ _ _ ?_) | (with_reducible rfl) | rfl))
  have g_p : Blk w_1 (w.heap.size + 1) 32 #[.int .u64 ai1, .int .u64 ai2, .int .u64 ap1, .int .u64 ap2, .int .u64 aq1, .int .u64 aq2, .int .u64 ar1, .int .u64 ar2, .int .u64 as1, .int .u64 as2, .int .u64 atg, .int .u32 alg, .int .u16 acd, .int .u16 afl, .int .u64 ast, .int .u64 ei1, .int .u64 ei2, .int .u64 ep1, .int .u64 ep2, .int .u64 eq1, .int .u64 eq2, .int .u64 er1, .int .u64 er2, .int .u64 es1, .int .u64 es2, .int .u64 etg, .int .u32 elg, .int .u16 ecd, .int .u16 efl, .int .u64 est, .bool hd, .bool hc] := by
    refine Blk.kept ?_ hb_1
    (repeat (first | with_reducible assumption | (with_reducible refine Blk.new' ?_; first | with_reducible rfl | (simp; done)) | with_reducible refine Blk.alloc ?_ _ | with_reducible refine Blk.grow ?_ _ | with_reducible refine Blk.drew ?_ | with_reducible refine Blk.drewN ?_ _ | (with_reducible refine Blk.far ?_ (by first | (dsimp only; omega) | (simp; omega)) _) | (with_reducible apply Blk.two) | (with_reducible refine Blk.set' ?_ _ _ ?_) | (with_reducible rfl) | rfl))
  have g_r : Blk w_1 (w.heap.size + 2) 24 #[.int .u64 0, .int .u64 0] := by
    refine Blk.kept ?_ hb_1
    (repeat (first | with_reducible assumption | (with_reducible refine Blk.new' ?_; first | with_reducible rfl | (simp; done)) | with_reducible refine Blk.alloc ?_ _ | with_reducible refine Blk.grow ?_ _ | with_reducible refine Blk.drew ?_ | with_reducible refine Blk.drewN ?_ _ | (with_reducible refine Blk.far ?_ (by first | (dsimp only; omega) | (simp; omega)) _) | (with_reducible apply Blk.two) | (with_reducible refine Blk.set' ?_ _ _ ?_) | (with_reducible rfl) | rfl))
  have g_o : Blk w_1 (w.heap.size + 3) 24 #[.int .u64 xm1, .int .u64 xm2] := by
    refine Blk.kept ?_ hb_1
    (repeat (first | with_reducible assumption | (with_reducible refine Blk.new' ?_; first | with_reducible rfl | (simp; done)) | with_reducible refine Blk.alloc ?_ _ | with_reducible refine Blk.grow ?_ _ | with_reducible refine Blk.drew ?_ | with_reducible refine Blk.drewN ?_ _ | (with_reducible refine Blk.far ?_ (by first | (dsimp only; omega) | (simp; omega)) _) | (with_reducible apply Blk.two) | (with_reducible refine Blk.set' ?_ _ _ ?_) | (with_reducible rfl) | rfl))
  clear hb0 hb_1
  have f_x := g_x
  clear g_x
  have f_p := g_p
  clear g_p
  have f_r := g_r
  clear g_r
  have f_o := g_o
  clear g_o
  have r_x := rowAt_blk f_x
  have x_l := f_x.lt
  have x_14 : w_1.cell? ⟨w.heap.size, 14, none⟩ = some (.int .u16 xfl) := (f_x).cell 14
  have x_f14 := (f_x).frozen 14
  replace f_x := Lib.hid f_x
  have r_p := rowAt_blk f_p
  have p_l := f_p.lt
  have p_2 : w_1.cell? ⟨w.heap.size + 1, 2, none⟩ = some (.int .u64 ap1) := (f_p).cell 2
  have p_f2 := (f_p).frozen 2
  have p_3 : w_1.cell? ⟨w.heap.size + 1, 3, none⟩ = some (.int .u64 ap2) := (f_p).cell 3
  have p_f3 := (f_p).frozen 3
  have p_4 : w_1.cell? ⟨w.heap.size + 1, 4, none⟩ = some (.int .u64 aq1) := (f_p).cell 4
  have p_f4 := (f_p).frozen 4
  have p_5 : w_1.cell? ⟨w.heap.size + 1, 5, none⟩ = some (.int .u64 aq2) := (f_p).cell 5
  have p_f5 := (f_p).frozen 5
  have p_8 : w_1.cell? ⟨w.heap.size + 1, 8, none⟩ = some (.int .u64 as1) := (f_p).cell 8
  have p_f8 := (f_p).frozen 8
  have p_9 : w_1.cell? ⟨w.heap.size + 1, 9, none⟩ = some (.int .u64 as2) := (f_p).cell 9
  have p_f9 := (f_p).frozen 9
  have p_13 : w_1.cell? ⟨w.heap.size + 1, 13, none⟩ = some (.int .u16 afl) := (f_p).cell 13
  have p_f13 := (f_p).frozen 13
  have p_19 : w_1.cell? ⟨w.heap.size + 1, 19, none⟩ = some (.int .u64 eq1) := (f_p).cell 19
  have p_f19 := (f_p).frozen 19
  have p_20 : w_1.cell? ⟨w.heap.size + 1, 20, none⟩ = some (.int .u64 eq2) := (f_p).cell 20
  have p_f20 := (f_p).frozen 20
  have p_21 : w_1.cell? ⟨w.heap.size + 1, 21, none⟩ = some (.int .u64 er1) := (f_p).cell 21
  have p_f21 := (f_p).frozen 21
  have p_22 : w_1.cell? ⟨w.heap.size + 1, 22, none⟩ = some (.int .u64 er2) := (f_p).cell 22
  have p_f22 := (f_p).frozen 22
  have p_23 : w_1.cell? ⟨w.heap.size + 1, 23, none⟩ = some (.int .u64 es1) := (f_p).cell 23
  have p_f23 := (f_p).frozen 23
  have p_24 : w_1.cell? ⟨w.heap.size + 1, 24, none⟩ = some (.int .u64 es2) := (f_p).cell 24
  have p_f24 := (f_p).frozen 24
  have p_28 : w_1.cell? ⟨w.heap.size + 1, 28, none⟩ = some (.int .u16 efl) := (f_p).cell 28
  have p_f28 := (f_p).frozen 28
  replace f_p := Lib.hid f_p
  have r_0 : w_1.cell? ⟨w.heap.size + 2, 0, none⟩ = some (.int .u64 0) := (f_r).cell 0
  have r_1 : w_1.cell? ⟨w.heap.size + 2, 1, none⟩ = some (.int .u64 0) := (f_r).cell 1
  have r_f0 := (f_r).frozen 0
  have r_f1 := (f_r).frozen 1
  have r_l := (f_r).lt
  replace f_r := Lib.hid f_r
  have o_0 : w_1.cell? ⟨w.heap.size + 3, 0, none⟩ = some (.int .u64 xm1) := (f_o).cell 0
  have o_1 : w_1.cell? ⟨w.heap.size + 3, 1, none⟩ = some (.int .u64 xm2) := (f_o).cell 1
  have o_f0 := (f_o).frozen 0
  have o_f1 := (f_o).frozen 1
  have o_l := (f_o).lt
  replace f_o := Lib.hid f_o
  replace hB_1 := Lib.hid hB_1
  go_wp2_with fail
  refine (HB2.out _).mono ?_
  rintro e w_2 ⟨rfl, hb_2⟩
  have z_2 := hb_2.size
  try simp at z_2
  have t_ := hB_1.out
  have hB_2 := bel_eld (w := w) (X := _) (by first | ((repeat (first | with_reducible exact Below.refl _ _ | with_reducible assumption | (with_reducible refine bel_set ?_ (by first | exact Nat.le_refl _ | (simp; done) | (simp; omega) | omega) _) | with_reducible refine bel_grow ?_ _ | with_reducible refine Below.drew ?_ | with_reducible refine below_drewN ?_ _ | with_reducible refine bel_alloc ?_ _ | with_reducible refine bel_trans ?_ (by assumption))); done) | (repeat (first | exact Below.refl _ _ | assumption | refine below_drewN ?_ _ | refine bel_grow ?_ _ | refine Below.drew ?_ | refine bel_alloc ?_ _ | refine bel_set ?_ (by first | exact Nat.le_refl _ | (simp; done) | (simp; omega) | omega) _ | refine bel_trans ?_ (by assumption)))) hb_2
  clear t_
  have t_x := f_x.out
  have t_p := f_p.out
  have t_r := f_r.out
  have t_o := f_o.out
  have g_x : Blk w_2 (w.heap.size) 28 #[.int .u64 xi1, .int .u64 xi2, .int .u64 xd1, .int .u64 xd2, .int .u64 xc1, .int .u64 xc2, .int .u64 xm1, .int .u64 xm2, .int .u64 xw1, .int .u64 xw2, .int .u64 xtg, .int .u32 xto, .int .u32 xlg, .int .u16 xcd, .int .u16 xfl, .int .u64 xst] := by
    refine Blk.kept ?_ hb_2
    (repeat (first | with_reducible assumption | (with_reducible refine Blk.new' ?_; first | with_reducible rfl | (simp; done)) | with_reducible refine Blk.alloc ?_ _ | with_reducible refine Blk.grow ?_ _ | with_reducible refine Blk.drew ?_ | with_reducible refine Blk.drewN ?_ _ | (with_reducible refine Blk.far ?_ (by first | (dsimp only; omega) | (simp; omega)) _) | (with_reducible apply Blk.two) | (with_reducible refine Blk.set' ?_ _ _ ?_) | (with_reducible rfl) | rfl))
  have g_p : Blk w_2 (w.heap.size + 1) 32 #[.int .u64 ai1, .int .u64 ai2, .int .u64 ap1, .int .u64 ap2, .int .u64 aq1, .int .u64 aq2, .int .u64 ar1, .int .u64 ar2, .int .u64 as1, .int .u64 as2, .int .u64 atg, .int .u32 alg, .int .u16 acd, .int .u16 afl, .int .u64 ast, .int .u64 ei1, .int .u64 ei2, .int .u64 ep1, .int .u64 ep2, .int .u64 eq1, .int .u64 eq2, .int .u64 er1, .int .u64 er2, .int .u64 es1, .int .u64 es2, .int .u64 etg, .int .u32 elg, .int .u16 ecd, .int .u16 efl, .int .u64 est, .bool hd, .bool hc] := by
    refine Blk.kept ?_ hb_2
    (repeat (first | with_reducible assumption | (with_reducible refine Blk.new' ?_; first | with_reducible rfl | (simp; done)) | with_reducible refine Blk.alloc ?_ _ | with_reducible refine Blk.grow ?_ _ | with_reducible refine Blk.drew ?_ | with_reducible refine Blk.drewN ?_ _ | (with_reducible refine Blk.far ?_ (by first | (dsimp only; omega) | (simp; omega)) _) | (with_reducible apply Blk.two) | (with_reducible refine Blk.set' ?_ _ _ ?_) | (with_reducible rfl) | rfl))
  have g_r : Blk w_2 (w.heap.size + 2) 24 #[.int .u64 0, .int .u64 0] := by
    refine Blk.kept ?_ hb_2
    (repeat (first | with_reducible assumption | (with_reducible refine Blk.new' ?_; first | with_reducible rfl | (simp; done)) | with_reducible refine Blk.alloc ?_ _ | with_reducible refine Blk.grow ?_ _ | with_reducible refine Blk.drew ?_ | with_reducible refine Blk.drewN ?_ _ | (with_reducible refine Blk.far ?_ (by first | (dsimp only; omega) | (simp; omega)) _) | (with_reducible apply Blk.two) | (with_reducible refine Blk.set' ?_ _ _ ?_) | (with_reducible rfl) | rfl))
  have g_o : Blk w_2 (w.heap.size + 3) 24 #[.int .u64 xm1, .int .u64 xm2] := by
    refine Blk.kept ?_ hb_2
    (repeat (first | with_reducible assumption | (with_reducible refine Blk.new' ?_; first | with_reducible rfl | (simp; done)) | with_reducible refine Blk.alloc ?_ _ | with_reducible refine Blk.grow ?_ _ | with_reducible refine Blk.drew ?_ | with_reducible refine Blk.drewN ?_ _ | (with_reducible refine Blk.far ?_ (by first | (dsimp only; omega) | (simp; omega)) _) | (with_reducible apply Blk.two) | (with_reducible refine Blk.set' ?_ _ _ ?_) | (with_reducible rfl) | rfl))
  clear f_x x_l r_x x_14 x_f14 f_p p_l r_p p_2 p_f2 p_3 p_f3 p_4 p_f4 p_5 p_f5 p_8 p_f8 p_9 p_f9 p_13 p_f13 p_19 p_f19 p_20 p_f20 p_21 p_f21 p_22 p_f22 p_23 p_f23 p_24 p_f24 p_28 p_f28 f_r r_l r_0 r_1 r_f0 r_f1 f_o o_l o_0 o_1 o_f0 o_f1 t_x t_p t_r t_o hB_1 hb_2
  have f_x := g_x
  clear g_x
  have f_p := g_p
  clear g_p
  have f_r := g_r
  clear g_r
  have f_o := g_o
  clear g_o
  have r_x := rowAt_blk f_x
  have x_l := f_x.lt
  have x_14 : w_2.cell? ⟨w.heap.size, 14, none⟩ = some (.int .u16 xfl) := (f_x).cell 14
  have x_f14 := (f_x).frozen 14
  replace f_x := Lib.hid f_x
  have r_p := rowAt_blk f_p
  have p_l := f_p.lt
  have p_2 : w_2.cell? ⟨w.heap.size + 1, 2, none⟩ = some (.int .u64 ap1) := (f_p).cell 2
  have p_f2 := (f_p).frozen 2
  have p_3 : w_2.cell? ⟨w.heap.size + 1, 3, none⟩ = some (.int .u64 ap2) := (f_p).cell 3
  have p_f3 := (f_p).frozen 3
  have p_4 : w_2.cell? ⟨w.heap.size + 1, 4, none⟩ = some (.int .u64 aq1) := (f_p).cell 4
  have p_f4 := (f_p).frozen 4
  have p_5 : w_2.cell? ⟨w.heap.size + 1, 5, none⟩ = some (.int .u64 aq2) := (f_p).cell 5
  have p_f5 := (f_p).frozen 5
  have p_8 : w_2.cell? ⟨w.heap.size + 1, 8, none⟩ = some (.int .u64 as1) := (f_p).cell 8
  have p_f8 := (f_p).frozen 8
  have p_9 : w_2.cell? ⟨w.heap.size + 1, 9, none⟩ = some (.int .u64 as2) := (f_p).cell 9
  have p_f9 := (f_p).frozen 9
  have p_13 : w_2.cell? ⟨w.heap.size + 1, 13, none⟩ = some (.int .u16 afl) := (f_p).cell 13
  have p_f13 := (f_p).frozen 13
  have p_19 : w_2.cell? ⟨w.heap.size + 1, 19, none⟩ = some (.int .u64 eq1) := (f_p).cell 19
  have p_f19 := (f_p).frozen 19
  have p_20 : w_2.cell? ⟨w.heap.size + 1, 20, none⟩ = some (.int .u64 eq2) := (f_p).cell 20
  have p_f20 := (f_p).frozen 20
  have p_21 : w_2.cell? ⟨w.heap.size + 1, 21, none⟩ = some (.int .u64 er1) := (f_p).cell 21
  have p_f21 := (f_p).frozen 21
  have p_22 : w_2.cell? ⟨w.heap.size + 1, 22, none⟩ = some (.int .u64 er2) := (f_p).cell 22
  have p_f22 := (f_p).frozen 22
  have p_23 : w_2.cell? ⟨w.heap.size + 1, 23, none⟩ = some (.int .u64 es1) := (f_p).cell 23
  have p_f23 := (f_p).frozen 23
  have p_24 : w_2.cell? ⟨w.heap.size + 1, 24, none⟩ = some (.int .u64 es2) := (f_p).cell 24
  have p_f24 := (f_p).frozen 24
  have p_28 : w_2.cell? ⟨w.heap.size + 1, 28, none⟩ = some (.int .u16 efl) := (f_p).cell 28
  have p_f28 := (f_p).frozen 28
  replace f_p := Lib.hid f_p
  have r_0 : w_2.cell? ⟨w.heap.size + 2, 0, none⟩ = some (.int .u64 0) := (f_r).cell 0
  have r_1 : w_2.cell? ⟨w.heap.size + 2, 1, none⟩ = some (.int .u64 0) := (f_r).cell 1
  have r_f0 := (f_r).frozen 0
  have r_f1 := (f_r).frozen 1
  have r_l := (f_r).lt
  replace f_r := Lib.hid f_r
  have o_0 : w_2.cell? ⟨w.heap.size + 3, 0, none⟩ = some (.int .u64 xm1) := (f_o).cell 0
  have o_1 : w_2.cell? ⟨w.heap.size + 3, 1, none⟩ = some (.int .u64 xm2) := (f_o).cell 1
  have o_f0 := (f_o).frozen 0
  have o_f1 := (f_o).frozen 1
  have o_l := (f_o).lt
  replace f_o := Lib.hid f_o
  replace hB_2 := Lib.hid hB_2
  go_upto_region 5 with fail
  first | (with_reducible refine rtail2 12 (by kernel_rfl) (by kernel_rfl) ?_) | (refine rtail 12 (by kernel_rfl) (by kernel_rfl) ?_)
  simp only [List.take_succ_cons, List.take_zero, List.drop_succ_cons, List.drop_zero]
  repeat (go_big_quiet_step (((first | (go_at_call 51; exact grow_call (HL2.out _)) | (go_at_call 50; exact grow_call (HM2.out _))))))
  refine wpQuiet_nil ?_
  intro dr
  go_upto_region 6 with fail
  refine abs_wp (fun Y_ => Below w.heap.size w Y_ ∧ Blk Y_ (w.heap.size) 28 #[.int .u64 xi1, .int .u64 xi2, .int .u64 xd1, .int .u64 xd2, .int .u64 xc1, .int .u64 xc2, .int .u64 xm1, .int .u64 xm2, .int .u64 xw1, .int .u64 xw2, .int .u64 xtg, .int .u32 xto, .int .u32 xlg, .int .u16 xcd, .int .u16 xfl, .int .u64 xst] ∧ Blk Y_ (w.heap.size + 1) 32 #[.int .u64 ai1, .int .u64 ai2, .int .u64 ap1, .int .u64 ap2, .int .u64 aq1, .int .u64 aq2, .int .u64 ar1, .int .u64 ar2, .int .u64 as1, .int .u64 as2, .int .u64 atg, .int .u32 alg, .int .u16 acd, .int .u16 afl, .int .u64 ast, .int .u64 ei1, .int .u64 ei2, .int .u64 ep1, .int .u64 ep2, .int .u64 eq1, .int .u64 eq2, .int .u64 er1, .int .u64 er2, .int .u64 es1, .int .u64 es2, .int .u64 etg, .int .u32 elg, .int .u16 ecd, .int .u16 efl, .int .u64 est, .bool hd, .bool hc] ∧ Blk Y_ (w.heap.size + 2) 24 #[.int .u64 0, .int .u64 0] ∧ Blk Y_ (w.heap.size + 3) 24 #[.int .u64 z1, .int .u64 z2]) ?_ ?_
  · have t_B := hB_2.out
    have t_x := f_x.out
    have t_p := f_p.out
    have t_r := f_r.out
    have t_o := f_o.out
    refine ⟨by (repeat (first | with_reducible exact Below.refl _ _ | with_reducible assumption | (with_reducible refine bel_set ?_ (by first | exact Nat.le_refl _ | (simp; done) | (simp; omega) | omega) _) | with_reducible refine bel_grow ?_ _ | with_reducible refine Below.drew ?_ | with_reducible refine bel_alloc ?_ _ | with_reducible refine bel_eld ?_ (by assumption))), ?_, ?_, ?_, ?_⟩
    · (repeat (first | with_reducible assumption | (with_reducible refine Blk.new' ?_; first | with_reducible rfl | (simp; done)) | with_reducible refine Blk.alloc ?_ _ | with_reducible refine Blk.grow ?_ _ | with_reducible refine Blk.drew ?_ | with_reducible refine Blk.drewN ?_ _ | (with_reducible refine Blk.far ?_ (by first | (dsimp only; omega) | (simp; omega)) _) | (with_reducible apply Blk.two) | (with_reducible refine Blk.kept ?_ (by assumption)) | (with_reducible refine Blk.setRow ?_ (by first | rfl | (simp; done))) | (with_reducible refine Blk.setRow_far ?_ (by first | omega | (simp; omega)) _) | (with_reducible refine Blk.set' ?_ _ _ (by first | rfl | (simp; done)))))
    · (repeat (first | with_reducible assumption | (with_reducible refine Blk.new' ?_; first | with_reducible rfl | (simp; done)) | with_reducible refine Blk.alloc ?_ _ | with_reducible refine Blk.grow ?_ _ | with_reducible refine Blk.drew ?_ | with_reducible refine Blk.drewN ?_ _ | (with_reducible refine Blk.far ?_ (by first | (dsimp only; omega) | (simp; omega)) _) | (with_reducible apply Blk.two) | (with_reducible refine Blk.kept ?_ (by assumption)) | (with_reducible refine Blk.setRow ?_ (by first | rfl | (simp; done))) | (with_reducible refine Blk.setRow_far ?_ (by first | omega | (simp; omega)) _) | (with_reducible refine Blk.set' ?_ _ _ (by first | rfl | (simp; done)))))
    · (repeat (first | with_reducible assumption | (with_reducible refine Blk.new' ?_; first | with_reducible rfl | (simp; done)) | with_reducible refine Blk.alloc ?_ _ | with_reducible refine Blk.grow ?_ _ | with_reducible refine Blk.drew ?_ | with_reducible refine Blk.drewN ?_ _ | (with_reducible refine Blk.far ?_ (by first | (dsimp only; omega) | (simp; omega)) _) | (with_reducible apply Blk.two) | (with_reducible refine Blk.kept ?_ (by assumption)) | (with_reducible refine Blk.setRow ?_ (by first | rfl | (simp; done))) | (with_reducible refine Blk.setRow_far ?_ (by first | omega | (simp; omega)) _) | (with_reducible refine Blk.set' ?_ _ _ (by first | rfl | (simp; done)))))
    · (repeat (first | with_reducible assumption | (with_reducible refine Blk.new' ?_; first | with_reducible rfl | (simp; done)) | with_reducible refine Blk.alloc ?_ _ | with_reducible refine Blk.grow ?_ _ | with_reducible refine Blk.drew ?_ | with_reducible refine Blk.drewN ?_ _ | (with_reducible refine Blk.far ?_ (by first | (dsimp only; omega) | (simp; omega)) _) | (with_reducible apply Blk.two) | (with_reducible refine Blk.kept ?_ (by assumption)) | (with_reducible refine Blk.setRow ?_ (by first | rfl | (simp; done))) | (with_reducible refine Blk.setRow_far ?_ (by first | omega | (simp; omega)) _) | (with_reducible refine Blk.set' ?_ _ _ (by first | rfl | (simp; done)))))
  clear f_x x_l r_x x_14 x_f14 f_p p_l r_p p_2 p_f2 p_3 p_f3 p_4 p_f4 p_5 p_f5 p_8 p_f8 p_9 p_f9 p_13 p_f13 p_19 p_f19 p_20 p_f20 p_21 p_f21 p_22 p_f22 p_23 p_f23 p_24 p_f24 p_28 p_f28 f_r r_l r_0 r_1 r_f0 r_f1 f_o o_l o_0 o_1 o_f0 o_f1 hB_2
  rintro X4 ⟨hB_3, f_x, f_p, f_r, f_o⟩
  have r_x := rowAt_blk f_x
  have x_l := f_x.lt
  have x_14 : X4.cell? ⟨w.heap.size, 14, none⟩ = some (.int .u16 xfl) := (f_x).cell 14
  have x_f14 := (f_x).frozen 14
  replace f_x := Lib.hid f_x
  have r_p := rowAt_blk f_p
  have p_l := f_p.lt
  have p_2 : X4.cell? ⟨w.heap.size + 1, 2, none⟩ = some (.int .u64 ap1) := (f_p).cell 2
  have p_f2 := (f_p).frozen 2
  have p_3 : X4.cell? ⟨w.heap.size + 1, 3, none⟩ = some (.int .u64 ap2) := (f_p).cell 3
  have p_f3 := (f_p).frozen 3
  have p_4 : X4.cell? ⟨w.heap.size + 1, 4, none⟩ = some (.int .u64 aq1) := (f_p).cell 4
  have p_f4 := (f_p).frozen 4
  have p_5 : X4.cell? ⟨w.heap.size + 1, 5, none⟩ = some (.int .u64 aq2) := (f_p).cell 5
  have p_f5 := (f_p).frozen 5
  have p_8 : X4.cell? ⟨w.heap.size + 1, 8, none⟩ = some (.int .u64 as1) := (f_p).cell 8
  have p_f8 := (f_p).frozen 8
  have p_9 : X4.cell? ⟨w.heap.size + 1, 9, none⟩ = some (.int .u64 as2) := (f_p).cell 9
  have p_f9 := (f_p).frozen 9
  have p_13 : X4.cell? ⟨w.heap.size + 1, 13, none⟩ = some (.int .u16 afl) := (f_p).cell 13
  have p_f13 := (f_p).frozen 13
  have p_19 : X4.cell? ⟨w.heap.size + 1, 19, none⟩ = some (.int .u64 eq1) := (f_p).cell 19
  have p_f19 := (f_p).frozen 19
  have p_20 : X4.cell? ⟨w.heap.size + 1, 20, none⟩ = some (.int .u64 eq2) := (f_p).cell 20
  have p_f20 := (f_p).frozen 20
  have p_21 : X4.cell? ⟨w.heap.size + 1, 21, none⟩ = some (.int .u64 er1) := (f_p).cell 21
  have p_f21 := (f_p).frozen 21
  have p_22 : X4.cell? ⟨w.heap.size + 1, 22, none⟩ = some (.int .u64 er2) := (f_p).cell 22
  have p_f22 := (f_p).frozen 22
  have p_23 : X4.cell? ⟨w.heap.size + 1, 23, none⟩ = some (.int .u64 es1) := (f_p).cell 23
  have p_f23 := (f_p).frozen 23
  have p_24 : X4.cell? ⟨w.heap.size + 1, 24, none⟩ = some (.int .u64 es2) := (f_p).cell 24
  have p_f24 := (f_p).frozen 24
  have p_28 : X4.cell? ⟨w.heap.size + 1, 28, none⟩ = some (.int .u16 efl) := (f_p).cell 28
  have p_f28 := (f_p).frozen 28
  replace f_p := Lib.hid f_p
  have r_0 : X4.cell? ⟨w.heap.size + 2, 0, none⟩ = some (.int .u64 0) := (f_r).cell 0
  have r_1 : X4.cell? ⟨w.heap.size + 2, 1, none⟩ = some (.int .u64 0) := (f_r).cell 1
  have r_f0 := (f_r).frozen 0
  have r_f1 := (f_r).frozen 1
  have r_l := (f_r).lt
  replace f_r := Lib.hid f_r
  have o_0 : X4.cell? ⟨w.heap.size + 3, 0, none⟩ = some (.int .u64 z1) := (f_o).cell 0
  have o_1 : X4.cell? ⟨w.heap.size + 3, 1, none⟩ = some (.int .u64 z2) := (f_o).cell 1
  have o_f0 := (f_o).frozen 0
  have o_f1 := (f_o).frozen 1
  have o_l := (f_o).lt
  replace f_o := Lib.hid f_o
  replace hB_3 := Lib.hid hB_3
  go_wp2_with fail
  refine abs_post (fun Y_ => Below w.heap.size w Y_ ∧ Blk Y_ (w.heap.size + 2) 24 #[.int .u64 z1, .int .u64 z2]) ?_ ?_
  · have t_B := hB_3.out
    have t_x := f_x.out
    have t_p := f_p.out
    have t_r := f_r.out
    have t_o := f_o.out
    exact ⟨by (repeat (first | with_reducible exact Below.refl _ _ | with_reducible assumption | (with_reducible refine bel_set ?_ (by first | exact Nat.le_refl _ | (simp; done) | (simp; omega) | omega) _) | with_reducible refine bel_grow ?_ _ | with_reducible refine Below.drew ?_ | with_reducible refine bel_alloc ?_ _ | (with_reducible refine below_setRow ?_ (by first | omega | (simp; omega)) _) | with_reducible refine bel_eld ?_ (by assumption))), by (repeat (first | with_reducible assumption | (with_reducible refine Blk.new' ?_; first | with_reducible rfl | (simp; done)) | with_reducible refine Blk.alloc ?_ _ | with_reducible refine Blk.grow ?_ _ | with_reducible refine Blk.drew ?_ | with_reducible refine Blk.drewN ?_ _ | (with_reducible refine Blk.far ?_ (by first | (dsimp only; omega) | (simp; omega)) _) | (with_reducible apply Blk.two) | (with_reducible refine Blk.kept ?_ (by assumption)) | (with_reducible refine Blk.setRow (by assumption) (by first | rfl | (simp; done))) | (with_reducible refine Blk.setRow_far ?_ (by first | omega | (simp; omega)) _) | (with_reducible refine Blk.set' ?_ _ _ (by first | rfl | (simp; done)))))⟩
  rintro Y_ ⟨bZ_, gP_⟩
  have p_0 := gP_.cell 0
  have p_1 := gP_.cell 1
  have p_l := gP_.lt
  refine bodyPost_ret (v := .agg #[.int .u64 z1, .int .u64 z2]) (by simp [results, Try.results21, go_sem, p_0, p_1, p_l]) rfl ⟨by first | rfl | (rw [hk.out]; rfl), bZ_⟩
set_option maxRecDepth 8000 in
set_option maxHeartbeats 8000000 in
theorem refasked_true_true (xi1 xi2 xd1 xd2 xc1 xc2 xm1 xm2 xw1 xw2 xtg xto xlg xcd xfl xst ai1 ai2 ap1 ap2 aq1 aq2 ar1 ar2 as1 as2 atg alg acd afl ast ei1 ei2 ep1 ep2 eq1 eq2 er1 er2 es1 es2 etg elg ecd efl est d1 d2 c1 c2 o1 o2 z1 z2 : Int) (hd hc : Bool)
    (HB1 : ∀ w, Calls Try.prog 45 #[.int .u16 xfl, .int .u16 16] w fun r w' => r = .returned (.bool true) ∧ Below w.heap.size w w')
    (HB2 : ∀ w, Calls Try.prog 45 #[.int .u16 xfl, .int .u16 32] w fun r w' => r = .returned (.bool true) ∧ Below w.heap.size w w')
    (HL1 : ∀ w, Calls Try.prog 51 #[.agg #[.int .u64 as1, .int .u64 as2], .agg #[.int .u64 ap1, .int .u64 ap2], .agg #[.int .u64 aq1, .int .u64 aq2]] w fun r w' => r = .returned (.agg #[.int .u64 d1, .int .u64 d2]) ∧ Below w.heap.size w w')
    (HM1 : ∀ w, Calls Try.prog 50 #[.agg #[.int .u64 xm1, .int .u64 xm2], .agg #[.int .u64 d1, .int .u64 d2]] w fun r w' => r = .returned (.agg #[.int .u64 o1, .int .u64 o2]) ∧ Below w.heap.size w w')
    (HL2 : ∀ w, Calls Try.prog 51 #[.agg #[.int .u64 eq1, .int .u64 eq2], .agg #[.int .u64 er1, .int .u64 er2], .agg #[.int .u64 es1, .int .u64 es2]] w fun r w' => r = .returned (.agg #[.int .u64 c1, .int .u64 c2]) ∧ Below w.heap.size w w')
    (HM2 : ∀ w, Calls Try.prog 50 #[.agg #[.int .u64 o1, .int .u64 o2], .agg #[.int .u64 c1, .int .u64 c2]] w fun r w' => r = .returned (.agg #[.int .u64 z1, .int .u64 z2]) ∧ Below w.heap.size w w')
    (w : World) : Calls Try.prog 21 #[.agg #[.int .u64 xi1, .int .u64 xi2, .int .u64 xd1, .int .u64 xd2, .int .u64 xc1, .int .u64 xc2, .int .u64 xm1, .int .u64 xm2, .int .u64 xw1, .int .u64 xw2, .int .u64 xtg, .int .u32 xto, .int .u32 xlg, .int .u16 xcd, .int .u16 xfl, .int .u64 xst], .agg #[.int .u64 ai1, .int .u64 ai2, .int .u64 ap1, .int .u64 ap2, .int .u64 aq1, .int .u64 aq2, .int .u64 ar1, .int .u64 ar2, .int .u64 as1, .int .u64 as2, .int .u64 atg, .int .u32 alg, .int .u16 acd, .int .u16 afl, .int .u64 ast, .int .u64 ei1, .int .u64 ei2, .int .u64 ep1, .int .u64 ep2, .int .u64 eq1, .int .u64 eq2, .int .u64 er1, .int .u64 er2, .int .u64 es1, .int .u64 es2, .int .u64 etg, .int .u32 elg, .int .u16 ecd, .int .u16 efl, .int .u64 est, .bool hd, .bool hc]] w fun r w' => r = .returned (.agg #[.int .u64 z1, .int .u64 z2]) ∧ Below w.heap.size w w' := by
  replace HB1 := Lib.hid HB1
  replace HB2 := Lib.hid HB2
  replace HL1 := Lib.hid HL1
  replace HM1 := Lib.hid HM1
  replace HL2 := Lib.hid HL2
  replace HM2 := Lib.hid HM2
  have hb0 := Below.refl w.heap.size w
  go_enter Try.func21, Try.ntmps21
  replace hb0 := Lib.hid hb0
  go_wp2_with fail
  refine (HB1.out _).mono ?_
  rintro e w_1 ⟨rfl, hb_1⟩
  have z_1 := hb_1.size
  try simp at z_1
  have t_ := hb0.out
  have hB_1 := bel_eld (w := w) (X := _) (by first | ((repeat (first | with_reducible exact Below.refl _ _ | with_reducible assumption | (with_reducible refine bel_set ?_ (by first | exact Nat.le_refl _ | (simp; done) | (simp; omega) | omega) _) | with_reducible refine bel_grow ?_ _ | with_reducible refine Below.drew ?_ | with_reducible refine below_drewN ?_ _ | with_reducible refine bel_alloc ?_ _ | with_reducible refine bel_trans ?_ (by assumption))); done) | (repeat (first | exact Below.refl _ _ | assumption | refine below_drewN ?_ _ | refine bel_grow ?_ _ | refine Below.drew ?_ | refine bel_alloc ?_ _ | refine bel_set ?_ (by first | exact Nat.le_refl _ | (simp; done) | (simp; omega) | omega) _ | refine bel_trans ?_ (by assumption)))) hb_1
  clear t_
  have g_x : Blk w_1 (w.heap.size) 28 #[.int .u64 xi1, .int .u64 xi2, .int .u64 xd1, .int .u64 xd2, .int .u64 xc1, .int .u64 xc2, .int .u64 xm1, .int .u64 xm2, .int .u64 xw1, .int .u64 xw2, .int .u64 xtg, .int .u32 xto, .int .u32 xlg, .int .u16 xcd, .int .u16 xfl, .int .u64 xst] := by
    refine Blk.kept ?_ hb_1
    (repeat (first | with_reducible assumption | (with_reducible refine Blk.new' ?_; first | with_reducible rfl | (simp; done)) | with_reducible refine Blk.alloc ?_ _ | with_reducible refine Blk.grow ?_ _ | with_reducible refine Blk.drew ?_ | with_reducible refine Blk.drewN ?_ _ | (with_reducible refine Blk.far ?_ (by first | (dsimp only; omega) | (simp; omega)) _) | (with_reducible apply Blk.two) | (with_reducible refine Blk.set' ?_ _ _ ?_) | (with_reducible rfl) | rfl))
  have g_p : Blk w_1 (w.heap.size + 1) 32 #[.int .u64 ai1, .int .u64 ai2, .int .u64 ap1, .int .u64 ap2, .int .u64 aq1, .int .u64 aq2, .int .u64 ar1, .int .u64 ar2, .int .u64 as1, .int .u64 as2, .int .u64 atg, .int .u32 alg, .int .u16 acd, .int .u16 afl, .int .u64 ast, .int .u64 ei1, .int .u64 ei2, .int .u64 ep1, .int .u64 ep2, .int .u64 eq1, .int .u64 eq2, .int .u64 er1, .int .u64 er2, .int .u64 es1, .int .u64 es2, .int .u64 etg, .int .u32 elg, .int .u16 ecd, .int .u16 efl, .int .u64 est, .bool hd, .bool hc] := by
    refine Blk.kept ?_ hb_1
    (repeat (first | with_reducible assumption | (with_reducible refine Blk.new' ?_; first | with_reducible rfl | (simp; done)) | with_reducible refine Blk.alloc ?_ _ | with_reducible refine Blk.grow ?_ _ | with_reducible refine Blk.drew ?_ | with_reducible refine Blk.drewN ?_ _ | (with_reducible refine Blk.far ?_ (by first | (dsimp only; omega) | (simp; omega)) _) | (with_reducible apply Blk.two) | (with_reducible refine Blk.set' ?_ _ _ ?_) | (with_reducible rfl) | rfl))
  have g_r : Blk w_1 (w.heap.size + 2) 24 #[.int .u64 0, .int .u64 0] := by
    refine Blk.kept ?_ hb_1
    (repeat (first | with_reducible assumption | (with_reducible refine Blk.new' ?_; first | with_reducible rfl | (simp; done)) | with_reducible refine Blk.alloc ?_ _ | with_reducible refine Blk.grow ?_ _ | with_reducible refine Blk.drew ?_ | with_reducible refine Blk.drewN ?_ _ | (with_reducible refine Blk.far ?_ (by first | (dsimp only; omega) | (simp; omega)) _) | (with_reducible apply Blk.two) | (with_reducible refine Blk.set' ?_ _ _ ?_) | (with_reducible rfl) | rfl))
  have g_o : Blk w_1 (w.heap.size + 3) 24 #[.int .u64 xm1, .int .u64 xm2] := by
    refine Blk.kept ?_ hb_1
    (repeat (first | with_reducible assumption | (with_reducible refine Blk.new' ?_; first | with_reducible rfl | (simp; done)) | with_reducible refine Blk.alloc ?_ _ | with_reducible refine Blk.grow ?_ _ | with_reducible refine Blk.drew ?_ | with_reducible refine Blk.drewN ?_ _ | (with_reducible refine Blk.far ?_ (by first | (dsimp only; omega) | (simp; omega)) _) | (with_reducible apply Blk.two) | (with_reducible refine Blk.set' ?_ _ _ ?_) | (with_reducible rfl) | rfl))
  clear hb0 hb_1
  have f_x := g_x
  clear g_x
  have f_p := g_p
  clear g_p
  have f_r := g_r
  clear g_r
  have f_o := g_o
  clear g_o
  have r_x := rowAt_blk f_x
  have x_l := f_x.lt
  have x_14 : w_1.cell? ⟨w.heap.size, 14, none⟩ = some (.int .u16 xfl) := (f_x).cell 14
  have x_f14 := (f_x).frozen 14
  replace f_x := Lib.hid f_x
  have r_p := rowAt_blk f_p
  have p_l := f_p.lt
  have p_2 : w_1.cell? ⟨w.heap.size + 1, 2, none⟩ = some (.int .u64 ap1) := (f_p).cell 2
  have p_f2 := (f_p).frozen 2
  have p_3 : w_1.cell? ⟨w.heap.size + 1, 3, none⟩ = some (.int .u64 ap2) := (f_p).cell 3
  have p_f3 := (f_p).frozen 3
  have p_4 : w_1.cell? ⟨w.heap.size + 1, 4, none⟩ = some (.int .u64 aq1) := (f_p).cell 4
  have p_f4 := (f_p).frozen 4
  have p_5 : w_1.cell? ⟨w.heap.size + 1, 5, none⟩ = some (.int .u64 aq2) := (f_p).cell 5
  have p_f5 := (f_p).frozen 5
  have p_8 : w_1.cell? ⟨w.heap.size + 1, 8, none⟩ = some (.int .u64 as1) := (f_p).cell 8
  have p_f8 := (f_p).frozen 8
  have p_9 : w_1.cell? ⟨w.heap.size + 1, 9, none⟩ = some (.int .u64 as2) := (f_p).cell 9
  have p_f9 := (f_p).frozen 9
  have p_13 : w_1.cell? ⟨w.heap.size + 1, 13, none⟩ = some (.int .u16 afl) := (f_p).cell 13
  have p_f13 := (f_p).frozen 13
  have p_19 : w_1.cell? ⟨w.heap.size + 1, 19, none⟩ = some (.int .u64 eq1) := (f_p).cell 19
  have p_f19 := (f_p).frozen 19
  have p_20 : w_1.cell? ⟨w.heap.size + 1, 20, none⟩ = some (.int .u64 eq2) := (f_p).cell 20
  have p_f20 := (f_p).frozen 20
  have p_21 : w_1.cell? ⟨w.heap.size + 1, 21, none⟩ = some (.int .u64 er1) := (f_p).cell 21
  have p_f21 := (f_p).frozen 21
  have p_22 : w_1.cell? ⟨w.heap.size + 1, 22, none⟩ = some (.int .u64 er2) := (f_p).cell 22
  have p_f22 := (f_p).frozen 22
  have p_23 : w_1.cell? ⟨w.heap.size + 1, 23, none⟩ = some (.int .u64 es1) := (f_p).cell 23
  have p_f23 := (f_p).frozen 23
  have p_24 : w_1.cell? ⟨w.heap.size + 1, 24, none⟩ = some (.int .u64 es2) := (f_p).cell 24
  have p_f24 := (f_p).frozen 24
  have p_28 : w_1.cell? ⟨w.heap.size + 1, 28, none⟩ = some (.int .u16 efl) := (f_p).cell 28
  have p_f28 := (f_p).frozen 28
  replace f_p := Lib.hid f_p
  have r_0 : w_1.cell? ⟨w.heap.size + 2, 0, none⟩ = some (.int .u64 0) := (f_r).cell 0
  have r_1 : w_1.cell? ⟨w.heap.size + 2, 1, none⟩ = some (.int .u64 0) := (f_r).cell 1
  have r_f0 := (f_r).frozen 0
  have r_f1 := (f_r).frozen 1
  have r_l := (f_r).lt
  replace f_r := Lib.hid f_r
  have o_0 : w_1.cell? ⟨w.heap.size + 3, 0, none⟩ = some (.int .u64 xm1) := (f_o).cell 0
  have o_1 : w_1.cell? ⟨w.heap.size + 3, 1, none⟩ = some (.int .u64 xm2) := (f_o).cell 1
  have o_f0 := (f_o).frozen 0
  have o_f1 := (f_o).frozen 1
  have o_l := (f_o).lt
  replace f_o := Lib.hid f_o
  replace hB_1 := Lib.hid hB_1
  go_upto_region 3 with fail
  first | (with_reducible refine rtail2 12 (by kernel_rfl) (by kernel_rfl) ?_) | (refine rtail 12 (by kernel_rfl) (by kernel_rfl) ?_)
  simp only [List.take_succ_cons, List.take_zero, List.drop_succ_cons, List.drop_zero]
  repeat (go_big_quiet_step (((first | (go_at_call 51; exact grow_call (HL1.out _)) | (go_at_call 50; exact grow_call (HM1.out _))))))
  refine wpQuiet_nil ?_
  intro dr
  go_upto_region 4 with fail
  refine abs_wp (fun Y_ => Below w.heap.size w Y_ ∧ Blk Y_ (w.heap.size) 28 #[.int .u64 xi1, .int .u64 xi2, .int .u64 xd1, .int .u64 xd2, .int .u64 xc1, .int .u64 xc2, .int .u64 xm1, .int .u64 xm2, .int .u64 xw1, .int .u64 xw2, .int .u64 xtg, .int .u32 xto, .int .u32 xlg, .int .u16 xcd, .int .u16 xfl, .int .u64 xst] ∧ Blk Y_ (w.heap.size + 1) 32 #[.int .u64 ai1, .int .u64 ai2, .int .u64 ap1, .int .u64 ap2, .int .u64 aq1, .int .u64 aq2, .int .u64 ar1, .int .u64 ar2, .int .u64 as1, .int .u64 as2, .int .u64 atg, .int .u32 alg, .int .u16 acd, .int .u16 afl, .int .u64 ast, .int .u64 ei1, .int .u64 ei2, .int .u64 ep1, .int .u64 ep2, .int .u64 eq1, .int .u64 eq2, .int .u64 er1, .int .u64 er2, .int .u64 es1, .int .u64 es2, .int .u64 etg, .int .u32 elg, .int .u16 ecd, .int .u16 efl, .int .u64 est, .bool hd, .bool hc] ∧ Blk Y_ (w.heap.size + 2) 24 #[.int .u64 0, .int .u64 0] ∧ Blk Y_ (w.heap.size + 3) 24 #[.int .u64 o1, .int .u64 o2]) ?_ ?_
  · have t_B := hB_1.out
    have t_x := f_x.out
    have t_p := f_p.out
    have t_r := f_r.out
    have t_o := f_o.out
    refine ⟨by (repeat (first | with_reducible exact Below.refl _ _ | with_reducible assumption | (with_reducible refine bel_set ?_ (by first | exact Nat.le_refl _ | (simp; done) | (simp; omega) | omega) _) | with_reducible refine bel_grow ?_ _ | with_reducible refine Below.drew ?_ | with_reducible refine bel_alloc ?_ _ | with_reducible refine bel_eld ?_ (by assumption))), ?_, ?_, ?_, ?_⟩
    · (repeat (first | with_reducible assumption | (with_reducible refine Blk.new' ?_; first | with_reducible rfl | (simp; done)) | with_reducible refine Blk.alloc ?_ _ | with_reducible refine Blk.grow ?_ _ | with_reducible refine Blk.drew ?_ | with_reducible refine Blk.drewN ?_ _ | (with_reducible refine Blk.far ?_ (by first | (dsimp only; omega) | (simp; omega)) _) | (with_reducible apply Blk.two) | (with_reducible refine Blk.kept ?_ (by assumption)) | (with_reducible refine Blk.setRow ?_ (by first | rfl | (simp; done))) | (with_reducible refine Blk.setRow_far ?_ (by first | omega | (simp; omega)) _) | (with_reducible refine Blk.set' ?_ _ _ (by first | rfl | (simp; done)))))
    · (repeat (first | with_reducible assumption | (with_reducible refine Blk.new' ?_; first | with_reducible rfl | (simp; done)) | with_reducible refine Blk.alloc ?_ _ | with_reducible refine Blk.grow ?_ _ | with_reducible refine Blk.drew ?_ | with_reducible refine Blk.drewN ?_ _ | (with_reducible refine Blk.far ?_ (by first | (dsimp only; omega) | (simp; omega)) _) | (with_reducible apply Blk.two) | (with_reducible refine Blk.kept ?_ (by assumption)) | (with_reducible refine Blk.setRow ?_ (by first | rfl | (simp; done))) | (with_reducible refine Blk.setRow_far ?_ (by first | omega | (simp; omega)) _) | (with_reducible refine Blk.set' ?_ _ _ (by first | rfl | (simp; done)))))
    · (repeat (first | with_reducible assumption | (with_reducible refine Blk.new' ?_; first | with_reducible rfl | (simp; done)) | with_reducible refine Blk.alloc ?_ _ | with_reducible refine Blk.grow ?_ _ | with_reducible refine Blk.drew ?_ | with_reducible refine Blk.drewN ?_ _ | (with_reducible refine Blk.far ?_ (by first | (dsimp only; omega) | (simp; omega)) _) | (with_reducible apply Blk.two) | (with_reducible refine Blk.kept ?_ (by assumption)) | (with_reducible refine Blk.setRow ?_ (by first | rfl | (simp; done))) | (with_reducible refine Blk.setRow_far ?_ (by first | omega | (simp; omega)) _) | (with_reducible refine Blk.set' ?_ _ _ (by first | rfl | (simp; done)))))
    · (repeat (first | with_reducible assumption | (with_reducible refine Blk.new' ?_; first | with_reducible rfl | (simp; done)) | with_reducible refine Blk.alloc ?_ _ | with_reducible refine Blk.grow ?_ _ | with_reducible refine Blk.drew ?_ | with_reducible refine Blk.drewN ?_ _ | (with_reducible refine Blk.far ?_ (by first | (dsimp only; omega) | (simp; omega)) _) | (with_reducible apply Blk.two) | (with_reducible refine Blk.kept ?_ (by assumption)) | (with_reducible refine Blk.setRow ?_ (by first | rfl | (simp; done))) | (with_reducible refine Blk.setRow_far ?_ (by first | omega | (simp; omega)) _) | (with_reducible refine Blk.set' ?_ _ _ (by first | rfl | (simp; done)))))
  clear f_x x_l r_x x_14 x_f14 f_p p_l r_p p_2 p_f2 p_3 p_f3 p_4 p_f4 p_5 p_f5 p_8 p_f8 p_9 p_f9 p_13 p_f13 p_19 p_f19 p_20 p_f20 p_21 p_f21 p_22 p_f22 p_23 p_f23 p_24 p_f24 p_28 p_f28 f_r r_l r_0 r_1 r_f0 r_f1 f_o o_l o_0 o_1 o_f0 o_f1 hB_1
  rintro X2 ⟨hB_2, f_x, f_p, f_r, f_o⟩
  have r_x := rowAt_blk f_x
  have x_l := f_x.lt
  have x_14 : X2.cell? ⟨w.heap.size, 14, none⟩ = some (.int .u16 xfl) := (f_x).cell 14
  have x_f14 := (f_x).frozen 14
  replace f_x := Lib.hid f_x
  have r_p := rowAt_blk f_p
  have p_l := f_p.lt
  have p_2 : X2.cell? ⟨w.heap.size + 1, 2, none⟩ = some (.int .u64 ap1) := (f_p).cell 2
  have p_f2 := (f_p).frozen 2
  have p_3 : X2.cell? ⟨w.heap.size + 1, 3, none⟩ = some (.int .u64 ap2) := (f_p).cell 3
  have p_f3 := (f_p).frozen 3
  have p_4 : X2.cell? ⟨w.heap.size + 1, 4, none⟩ = some (.int .u64 aq1) := (f_p).cell 4
  have p_f4 := (f_p).frozen 4
  have p_5 : X2.cell? ⟨w.heap.size + 1, 5, none⟩ = some (.int .u64 aq2) := (f_p).cell 5
  have p_f5 := (f_p).frozen 5
  have p_8 : X2.cell? ⟨w.heap.size + 1, 8, none⟩ = some (.int .u64 as1) := (f_p).cell 8
  have p_f8 := (f_p).frozen 8
  have p_9 : X2.cell? ⟨w.heap.size + 1, 9, none⟩ = some (.int .u64 as2) := (f_p).cell 9
  have p_f9 := (f_p).frozen 9
  have p_13 : X2.cell? ⟨w.heap.size + 1, 13, none⟩ = some (.int .u16 afl) := (f_p).cell 13
  have p_f13 := (f_p).frozen 13
  have p_19 : X2.cell? ⟨w.heap.size + 1, 19, none⟩ = some (.int .u64 eq1) := (f_p).cell 19
  have p_f19 := (f_p).frozen 19
  have p_20 : X2.cell? ⟨w.heap.size + 1, 20, none⟩ = some (.int .u64 eq2) := (f_p).cell 20
  have p_f20 := (f_p).frozen 20
  have p_21 : X2.cell? ⟨w.heap.size + 1, 21, none⟩ = some (.int .u64 er1) := (f_p).cell 21
  have p_f21 := (f_p).frozen 21
  have p_22 : X2.cell? ⟨w.heap.size + 1, 22, none⟩ = some (.int .u64 er2) := (f_p).cell 22
  have p_f22 := (f_p).frozen 22
  have p_23 : X2.cell? ⟨w.heap.size + 1, 23, none⟩ = some (.int .u64 es1) := (f_p).cell 23
  have p_f23 := (f_p).frozen 23
  have p_24 : X2.cell? ⟨w.heap.size + 1, 24, none⟩ = some (.int .u64 es2) := (f_p).cell 24
  have p_f24 := (f_p).frozen 24
  have p_28 : X2.cell? ⟨w.heap.size + 1, 28, none⟩ = some (.int .u16 efl) := (f_p).cell 28
  have p_f28 := (f_p).frozen 28
  replace f_p := Lib.hid f_p
  have r_0 : X2.cell? ⟨w.heap.size + 2, 0, none⟩ = some (.int .u64 0) := (f_r).cell 0
  have r_1 : X2.cell? ⟨w.heap.size + 2, 1, none⟩ = some (.int .u64 0) := (f_r).cell 1
  have r_f0 := (f_r).frozen 0
  have r_f1 := (f_r).frozen 1
  have r_l := (f_r).lt
  replace f_r := Lib.hid f_r
  have o_0 : X2.cell? ⟨w.heap.size + 3, 0, none⟩ = some (.int .u64 o1) := (f_o).cell 0
  have o_1 : X2.cell? ⟨w.heap.size + 3, 1, none⟩ = some (.int .u64 o2) := (f_o).cell 1
  have o_f0 := (f_o).frozen 0
  have o_f1 := (f_o).frozen 1
  have o_l := (f_o).lt
  replace f_o := Lib.hid f_o
  replace hB_2 := Lib.hid hB_2
  go_wp2_with fail
  refine (HB2.out _).mono ?_
  rintro e w_3 ⟨rfl, hb_3⟩
  have z_3 := hb_3.size
  try simp at z_3
  have t_ := hB_2.out
  have hB_3 := bel_eld (w := w) (X := _) (by first | ((repeat (first | with_reducible exact Below.refl _ _ | with_reducible assumption | (with_reducible refine bel_set ?_ (by first | exact Nat.le_refl _ | (simp; done) | (simp; omega) | omega) _) | with_reducible refine bel_grow ?_ _ | with_reducible refine Below.drew ?_ | with_reducible refine below_drewN ?_ _ | with_reducible refine bel_alloc ?_ _ | with_reducible refine bel_trans ?_ (by assumption))); done) | (repeat (first | exact Below.refl _ _ | assumption | refine below_drewN ?_ _ | refine bel_grow ?_ _ | refine Below.drew ?_ | refine bel_alloc ?_ _ | refine bel_set ?_ (by first | exact Nat.le_refl _ | (simp; done) | (simp; omega) | omega) _ | refine bel_trans ?_ (by assumption)))) hb_3
  clear t_
  have t_x := f_x.out
  have t_p := f_p.out
  have t_r := f_r.out
  have t_o := f_o.out
  have g_x : Blk w_3 (w.heap.size) 28 #[.int .u64 xi1, .int .u64 xi2, .int .u64 xd1, .int .u64 xd2, .int .u64 xc1, .int .u64 xc2, .int .u64 xm1, .int .u64 xm2, .int .u64 xw1, .int .u64 xw2, .int .u64 xtg, .int .u32 xto, .int .u32 xlg, .int .u16 xcd, .int .u16 xfl, .int .u64 xst] := by
    refine Blk.kept ?_ hb_3
    (repeat (first | with_reducible assumption | (with_reducible refine Blk.new' ?_; first | with_reducible rfl | (simp; done)) | with_reducible refine Blk.alloc ?_ _ | with_reducible refine Blk.grow ?_ _ | with_reducible refine Blk.drew ?_ | with_reducible refine Blk.drewN ?_ _ | (with_reducible refine Blk.far ?_ (by first | (dsimp only; omega) | (simp; omega)) _) | (with_reducible apply Blk.two) | (with_reducible refine Blk.set' ?_ _ _ ?_) | (with_reducible rfl) | rfl))
  have g_p : Blk w_3 (w.heap.size + 1) 32 #[.int .u64 ai1, .int .u64 ai2, .int .u64 ap1, .int .u64 ap2, .int .u64 aq1, .int .u64 aq2, .int .u64 ar1, .int .u64 ar2, .int .u64 as1, .int .u64 as2, .int .u64 atg, .int .u32 alg, .int .u16 acd, .int .u16 afl, .int .u64 ast, .int .u64 ei1, .int .u64 ei2, .int .u64 ep1, .int .u64 ep2, .int .u64 eq1, .int .u64 eq2, .int .u64 er1, .int .u64 er2, .int .u64 es1, .int .u64 es2, .int .u64 etg, .int .u32 elg, .int .u16 ecd, .int .u16 efl, .int .u64 est, .bool hd, .bool hc] := by
    refine Blk.kept ?_ hb_3
    (repeat (first | with_reducible assumption | (with_reducible refine Blk.new' ?_; first | with_reducible rfl | (simp; done)) | with_reducible refine Blk.alloc ?_ _ | with_reducible refine Blk.grow ?_ _ | with_reducible refine Blk.drew ?_ | with_reducible refine Blk.drewN ?_ _ | (with_reducible refine Blk.far ?_ (by first | (dsimp only; omega) | (simp; omega)) _) | (with_reducible apply Blk.two) | (with_reducible refine Blk.set' ?_ _ _ ?_) | (with_reducible rfl) | rfl))
  have g_r : Blk w_3 (w.heap.size + 2) 24 #[.int .u64 0, .int .u64 0] := by
    refine Blk.kept ?_ hb_3
    (repeat (first | with_reducible assumption | (with_reducible refine Blk.new' ?_; first | with_reducible rfl | (simp; done)) | with_reducible refine Blk.alloc ?_ _ | with_reducible refine Blk.grow ?_ _ | with_reducible refine Blk.drew ?_ | with_reducible refine Blk.drewN ?_ _ | (with_reducible refine Blk.far ?_ (by first | (dsimp only; omega) | (simp; omega)) _) | (with_reducible apply Blk.two) | (with_reducible refine Blk.set' ?_ _ _ ?_) | (with_reducible rfl) | rfl))
  have g_o : Blk w_3 (w.heap.size + 3) 24 #[.int .u64 o1, .int .u64 o2] := by
    refine Blk.kept ?_ hb_3
    (repeat (first | with_reducible assumption | (with_reducible refine Blk.new' ?_; first | with_reducible rfl | (simp; done)) | with_reducible refine Blk.alloc ?_ _ | with_reducible refine Blk.grow ?_ _ | with_reducible refine Blk.drew ?_ | with_reducible refine Blk.drewN ?_ _ | (with_reducible refine Blk.far ?_ (by first | (dsimp only; omega) | (simp; omega)) _) | (with_reducible apply Blk.two) | (with_reducible refine Blk.set' ?_ _ _ ?_) | (with_reducible rfl) | rfl))
  clear f_x x_l r_x x_14 x_f14 f_p p_l r_p p_2 p_f2 p_3 p_f3 p_4 p_f4 p_5 p_f5 p_8 p_f8 p_9 p_f9 p_13 p_f13 p_19 p_f19 p_20 p_f20 p_21 p_f21 p_22 p_f22 p_23 p_f23 p_24 p_f24 p_28 p_f28 f_r r_l r_0 r_1 r_f0 r_f1 f_o o_l o_0 o_1 o_f0 o_f1 t_x t_p t_r t_o hB_2 hb_3
  have f_x := g_x
  clear g_x
  have f_p := g_p
  clear g_p
  have f_r := g_r
  clear g_r
  have f_o := g_o
  clear g_o
  have r_x := rowAt_blk f_x
  have x_l := f_x.lt
  have x_14 : w_3.cell? ⟨w.heap.size, 14, none⟩ = some (.int .u16 xfl) := (f_x).cell 14
  have x_f14 := (f_x).frozen 14
  replace f_x := Lib.hid f_x
  have r_p := rowAt_blk f_p
  have p_l := f_p.lt
  have p_2 : w_3.cell? ⟨w.heap.size + 1, 2, none⟩ = some (.int .u64 ap1) := (f_p).cell 2
  have p_f2 := (f_p).frozen 2
  have p_3 : w_3.cell? ⟨w.heap.size + 1, 3, none⟩ = some (.int .u64 ap2) := (f_p).cell 3
  have p_f3 := (f_p).frozen 3
  have p_4 : w_3.cell? ⟨w.heap.size + 1, 4, none⟩ = some (.int .u64 aq1) := (f_p).cell 4
  have p_f4 := (f_p).frozen 4
  have p_5 : w_3.cell? ⟨w.heap.size + 1, 5, none⟩ = some (.int .u64 aq2) := (f_p).cell 5
  have p_f5 := (f_p).frozen 5
  have p_8 : w_3.cell? ⟨w.heap.size + 1, 8, none⟩ = some (.int .u64 as1) := (f_p).cell 8
  have p_f8 := (f_p).frozen 8
  have p_9 : w_3.cell? ⟨w.heap.size + 1, 9, none⟩ = some (.int .u64 as2) := (f_p).cell 9
  have p_f9 := (f_p).frozen 9
  have p_13 : w_3.cell? ⟨w.heap.size + 1, 13, none⟩ = some (.int .u16 afl) := (f_p).cell 13
  have p_f13 := (f_p).frozen 13
  have p_19 : w_3.cell? ⟨w.heap.size + 1, 19, none⟩ = some (.int .u64 eq1) := (f_p).cell 19
  have p_f19 := (f_p).frozen 19
  have p_20 : w_3.cell? ⟨w.heap.size + 1, 20, none⟩ = some (.int .u64 eq2) := (f_p).cell 20
  have p_f20 := (f_p).frozen 20
  have p_21 : w_3.cell? ⟨w.heap.size + 1, 21, none⟩ = some (.int .u64 er1) := (f_p).cell 21
  have p_f21 := (f_p).frozen 21
  have p_22 : w_3.cell? ⟨w.heap.size + 1, 22, none⟩ = some (.int .u64 er2) := (f_p).cell 22
  have p_f22 := (f_p).frozen 22
  have p_23 : w_3.cell? ⟨w.heap.size + 1, 23, none⟩ = some (.int .u64 es1) := (f_p).cell 23
  have p_f23 := (f_p).frozen 23
  have p_24 : w_3.cell? ⟨w.heap.size + 1, 24, none⟩ = some (.int .u64 es2) := (f_p).cell 24
  have p_f24 := (f_p).frozen 24
  have p_28 : w_3.cell? ⟨w.heap.size + 1, 28, none⟩ = some (.int .u16 efl) := (f_p).cell 28
  have p_f28 := (f_p).frozen 28
  replace f_p := Lib.hid f_p
  have r_0 : w_3.cell? ⟨w.heap.size + 2, 0, none⟩ = some (.int .u64 0) := (f_r).cell 0
  have r_1 : w_3.cell? ⟨w.heap.size + 2, 1, none⟩ = some (.int .u64 0) := (f_r).cell 1
  have r_f0 := (f_r).frozen 0
  have r_f1 := (f_r).frozen 1
  have r_l := (f_r).lt
  replace f_r := Lib.hid f_r
  have o_0 : w_3.cell? ⟨w.heap.size + 3, 0, none⟩ = some (.int .u64 o1) := (f_o).cell 0
  have o_1 : w_3.cell? ⟨w.heap.size + 3, 1, none⟩ = some (.int .u64 o2) := (f_o).cell 1
  have o_f0 := (f_o).frozen 0
  have o_f1 := (f_o).frozen 1
  have o_l := (f_o).lt
  replace f_o := Lib.hid f_o
  replace hB_3 := Lib.hid hB_3
  go_upto_region 5 with fail
  first | (with_reducible refine rtail2 12 (by kernel_rfl) (by kernel_rfl) ?_) | (refine rtail 12 (by kernel_rfl) (by kernel_rfl) ?_)
  simp only [List.take_succ_cons, List.take_zero, List.drop_succ_cons, List.drop_zero]
  repeat (go_big_quiet_step (((first | (go_at_call 51; exact grow_call (HL2.out _)) | (go_at_call 50; exact grow_call (HM2.out _))))))
  refine wpQuiet_nil ?_
  intro dr
  go_upto_region 6 with fail
  refine abs_wp (fun Y_ => Below w.heap.size w Y_ ∧ Blk Y_ (w.heap.size) 28 #[.int .u64 xi1, .int .u64 xi2, .int .u64 xd1, .int .u64 xd2, .int .u64 xc1, .int .u64 xc2, .int .u64 xm1, .int .u64 xm2, .int .u64 xw1, .int .u64 xw2, .int .u64 xtg, .int .u32 xto, .int .u32 xlg, .int .u16 xcd, .int .u16 xfl, .int .u64 xst] ∧ Blk Y_ (w.heap.size + 1) 32 #[.int .u64 ai1, .int .u64 ai2, .int .u64 ap1, .int .u64 ap2, .int .u64 aq1, .int .u64 aq2, .int .u64 ar1, .int .u64 ar2, .int .u64 as1, .int .u64 as2, .int .u64 atg, .int .u32 alg, .int .u16 acd, .int .u16 afl, .int .u64 ast, .int .u64 ei1, .int .u64 ei2, .int .u64 ep1, .int .u64 ep2, .int .u64 eq1, .int .u64 eq2, .int .u64 er1, .int .u64 er2, .int .u64 es1, .int .u64 es2, .int .u64 etg, .int .u32 elg, .int .u16 ecd, .int .u16 efl, .int .u64 est, .bool hd, .bool hc] ∧ Blk Y_ (w.heap.size + 2) 24 #[.int .u64 0, .int .u64 0] ∧ Blk Y_ (w.heap.size + 3) 24 #[.int .u64 z1, .int .u64 z2]) ?_ ?_
  · have t_B := hB_3.out
    have t_x := f_x.out
    have t_p := f_p.out
    have t_r := f_r.out
    have t_o := f_o.out
    refine ⟨by (repeat (first | with_reducible exact Below.refl _ _ | with_reducible assumption | (with_reducible refine bel_set ?_ (by first | exact Nat.le_refl _ | (simp; done) | (simp; omega) | omega) _) | with_reducible refine bel_grow ?_ _ | with_reducible refine Below.drew ?_ | with_reducible refine bel_alloc ?_ _ | with_reducible refine bel_eld ?_ (by assumption))), ?_, ?_, ?_, ?_⟩
    · (repeat (first | with_reducible assumption | (with_reducible refine Blk.new' ?_; first | with_reducible rfl | (simp; done)) | with_reducible refine Blk.alloc ?_ _ | with_reducible refine Blk.grow ?_ _ | with_reducible refine Blk.drew ?_ | with_reducible refine Blk.drewN ?_ _ | (with_reducible refine Blk.far ?_ (by first | (dsimp only; omega) | (simp; omega)) _) | (with_reducible apply Blk.two) | (with_reducible refine Blk.kept ?_ (by assumption)) | (with_reducible refine Blk.setRow ?_ (by first | rfl | (simp; done))) | (with_reducible refine Blk.setRow_far ?_ (by first | omega | (simp; omega)) _) | (with_reducible refine Blk.set' ?_ _ _ (by first | rfl | (simp; done)))))
    · (repeat (first | with_reducible assumption | (with_reducible refine Blk.new' ?_; first | with_reducible rfl | (simp; done)) | with_reducible refine Blk.alloc ?_ _ | with_reducible refine Blk.grow ?_ _ | with_reducible refine Blk.drew ?_ | with_reducible refine Blk.drewN ?_ _ | (with_reducible refine Blk.far ?_ (by first | (dsimp only; omega) | (simp; omega)) _) | (with_reducible apply Blk.two) | (with_reducible refine Blk.kept ?_ (by assumption)) | (with_reducible refine Blk.setRow ?_ (by first | rfl | (simp; done))) | (with_reducible refine Blk.setRow_far ?_ (by first | omega | (simp; omega)) _) | (with_reducible refine Blk.set' ?_ _ _ (by first | rfl | (simp; done)))))
    · (repeat (first | with_reducible assumption | (with_reducible refine Blk.new' ?_; first | with_reducible rfl | (simp; done)) | with_reducible refine Blk.alloc ?_ _ | with_reducible refine Blk.grow ?_ _ | with_reducible refine Blk.drew ?_ | with_reducible refine Blk.drewN ?_ _ | (with_reducible refine Blk.far ?_ (by first | (dsimp only; omega) | (simp; omega)) _) | (with_reducible apply Blk.two) | (with_reducible refine Blk.kept ?_ (by assumption)) | (with_reducible refine Blk.setRow ?_ (by first | rfl | (simp; done))) | (with_reducible refine Blk.setRow_far ?_ (by first | omega | (simp; omega)) _) | (with_reducible refine Blk.set' ?_ _ _ (by first | rfl | (simp; done)))))
    · (repeat (first | with_reducible assumption | (with_reducible refine Blk.new' ?_; first | with_reducible rfl | (simp; done)) | with_reducible refine Blk.alloc ?_ _ | with_reducible refine Blk.grow ?_ _ | with_reducible refine Blk.drew ?_ | with_reducible refine Blk.drewN ?_ _ | (with_reducible refine Blk.far ?_ (by first | (dsimp only; omega) | (simp; omega)) _) | (with_reducible apply Blk.two) | (with_reducible refine Blk.kept ?_ (by assumption)) | (with_reducible refine Blk.setRow ?_ (by first | rfl | (simp; done))) | (with_reducible refine Blk.setRow_far ?_ (by first | omega | (simp; omega)) _) | (with_reducible refine Blk.set' ?_ _ _ (by first | rfl | (simp; done)))))
  clear f_x x_l r_x x_14 x_f14 f_p p_l r_p p_2 p_f2 p_3 p_f3 p_4 p_f4 p_5 p_f5 p_8 p_f8 p_9 p_f9 p_13 p_f13 p_19 p_f19 p_20 p_f20 p_21 p_f21 p_22 p_f22 p_23 p_f23 p_24 p_f24 p_28 p_f28 f_r r_l r_0 r_1 r_f0 r_f1 f_o o_l o_0 o_1 o_f0 o_f1 hB_3
  rintro X4 ⟨hB_4, f_x, f_p, f_r, f_o⟩
  have r_x := rowAt_blk f_x
  have x_l := f_x.lt
  have x_14 : X4.cell? ⟨w.heap.size, 14, none⟩ = some (.int .u16 xfl) := (f_x).cell 14
  have x_f14 := (f_x).frozen 14
  replace f_x := Lib.hid f_x
  have r_p := rowAt_blk f_p
  have p_l := f_p.lt
  have p_2 : X4.cell? ⟨w.heap.size + 1, 2, none⟩ = some (.int .u64 ap1) := (f_p).cell 2
  have p_f2 := (f_p).frozen 2
  have p_3 : X4.cell? ⟨w.heap.size + 1, 3, none⟩ = some (.int .u64 ap2) := (f_p).cell 3
  have p_f3 := (f_p).frozen 3
  have p_4 : X4.cell? ⟨w.heap.size + 1, 4, none⟩ = some (.int .u64 aq1) := (f_p).cell 4
  have p_f4 := (f_p).frozen 4
  have p_5 : X4.cell? ⟨w.heap.size + 1, 5, none⟩ = some (.int .u64 aq2) := (f_p).cell 5
  have p_f5 := (f_p).frozen 5
  have p_8 : X4.cell? ⟨w.heap.size + 1, 8, none⟩ = some (.int .u64 as1) := (f_p).cell 8
  have p_f8 := (f_p).frozen 8
  have p_9 : X4.cell? ⟨w.heap.size + 1, 9, none⟩ = some (.int .u64 as2) := (f_p).cell 9
  have p_f9 := (f_p).frozen 9
  have p_13 : X4.cell? ⟨w.heap.size + 1, 13, none⟩ = some (.int .u16 afl) := (f_p).cell 13
  have p_f13 := (f_p).frozen 13
  have p_19 : X4.cell? ⟨w.heap.size + 1, 19, none⟩ = some (.int .u64 eq1) := (f_p).cell 19
  have p_f19 := (f_p).frozen 19
  have p_20 : X4.cell? ⟨w.heap.size + 1, 20, none⟩ = some (.int .u64 eq2) := (f_p).cell 20
  have p_f20 := (f_p).frozen 20
  have p_21 : X4.cell? ⟨w.heap.size + 1, 21, none⟩ = some (.int .u64 er1) := (f_p).cell 21
  have p_f21 := (f_p).frozen 21
  have p_22 : X4.cell? ⟨w.heap.size + 1, 22, none⟩ = some (.int .u64 er2) := (f_p).cell 22
  have p_f22 := (f_p).frozen 22
  have p_23 : X4.cell? ⟨w.heap.size + 1, 23, none⟩ = some (.int .u64 es1) := (f_p).cell 23
  have p_f23 := (f_p).frozen 23
  have p_24 : X4.cell? ⟨w.heap.size + 1, 24, none⟩ = some (.int .u64 es2) := (f_p).cell 24
  have p_f24 := (f_p).frozen 24
  have p_28 : X4.cell? ⟨w.heap.size + 1, 28, none⟩ = some (.int .u16 efl) := (f_p).cell 28
  have p_f28 := (f_p).frozen 28
  replace f_p := Lib.hid f_p
  have r_0 : X4.cell? ⟨w.heap.size + 2, 0, none⟩ = some (.int .u64 0) := (f_r).cell 0
  have r_1 : X4.cell? ⟨w.heap.size + 2, 1, none⟩ = some (.int .u64 0) := (f_r).cell 1
  have r_f0 := (f_r).frozen 0
  have r_f1 := (f_r).frozen 1
  have r_l := (f_r).lt
  replace f_r := Lib.hid f_r
  have o_0 : X4.cell? ⟨w.heap.size + 3, 0, none⟩ = some (.int .u64 z1) := (f_o).cell 0
  have o_1 : X4.cell? ⟨w.heap.size + 3, 1, none⟩ = some (.int .u64 z2) := (f_o).cell 1
  have o_f0 := (f_o).frozen 0
  have o_f1 := (f_o).frozen 1
  have o_l := (f_o).lt
  replace f_o := Lib.hid f_o
  replace hB_4 := Lib.hid hB_4
  go_wp2_with fail
  refine abs_post (fun Y_ => Below w.heap.size w Y_ ∧ Blk Y_ (w.heap.size + 2) 24 #[.int .u64 z1, .int .u64 z2]) ?_ ?_
  · have t_B := hB_4.out
    have t_x := f_x.out
    have t_p := f_p.out
    have t_r := f_r.out
    have t_o := f_o.out
    exact ⟨by (repeat (first | with_reducible exact Below.refl _ _ | with_reducible assumption | (with_reducible refine bel_set ?_ (by first | exact Nat.le_refl _ | (simp; done) | (simp; omega) | omega) _) | with_reducible refine bel_grow ?_ _ | with_reducible refine Below.drew ?_ | with_reducible refine bel_alloc ?_ _ | (with_reducible refine below_setRow ?_ (by first | omega | (simp; omega)) _) | with_reducible refine bel_eld ?_ (by assumption))), by (repeat (first | with_reducible assumption | (with_reducible refine Blk.new' ?_; first | with_reducible rfl | (simp; done)) | with_reducible refine Blk.alloc ?_ _ | with_reducible refine Blk.grow ?_ _ | with_reducible refine Blk.drew ?_ | with_reducible refine Blk.drewN ?_ _ | (with_reducible refine Blk.far ?_ (by first | (dsimp only; omega) | (simp; omega)) _) | (with_reducible apply Blk.two) | (with_reducible refine Blk.kept ?_ (by assumption)) | (with_reducible refine Blk.setRow (by assumption) (by first | rfl | (simp; done))) | (with_reducible refine Blk.setRow_far ?_ (by first | omega | (simp; omega)) _) | (with_reducible refine Blk.set' ?_ _ _ (by first | rfl | (simp; done)))))⟩
  rintro Y_ ⟨bZ_, gP_⟩
  have p_0 := gP_.cell 0
  have p_1 := gP_.cell 1
  have p_l := gP_.lt
  refine bodyPost_ret (v := .agg #[.int .u64 z1, .int .u64 z2]) (by simp [results, Try.results21, go_sem, p_0, p_1, p_l]) rfl ⟨by first | rfl | (rw [hk.out]; rfl), bZ_⟩
end Go.Proofs.Ytpbnakoimlmhnaa
