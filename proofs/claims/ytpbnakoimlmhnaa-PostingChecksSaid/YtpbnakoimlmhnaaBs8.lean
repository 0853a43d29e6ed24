/-
  The document's answer to whether there is room, walked.
-/
import Derived.Test.YtpbnakoimlmhnaaBs1
import Derived.Deep.DeepCutAuto
namespace Go.Proofs.Ytpbnakoimlmhnaa
set_option linter.unusedVariables false
set_option linter.unusedSimpArgs false
open Go.RowKit

attribute [local go_sem] loadV_ptr storeV_ptr one_func drew_hs ext_deb ext_cre ext_cols ext_acc
attribute [local go_sem ↓] load_Cols store_Cols load_Transfer store_Transfer load_Parties store_Parties load_Acct store_Acct
set_option maxRecDepth 8000 in
set_option maxHeartbeats 8000000 in
theorem refroom_false (xi1 xi2 xd1 xd2 xc1 xc2 xm1 xm2 xw1 xw2 xtg xto xlg xcd xfl xst ai1 ai2 ap1 ap2 aq1 aq2 ar1 ar2 as1 as2 atg alg acd afl ast ei1 ei2 ep1 ep2 eq1 eq2 er1 er2 es1 es2 etg elg ecd efl est n1 n2 dh dl ch cl k1 k2 : Int) (hd hc g1 g2 f1 f2 b2 b4 x1 x2 : Bool) (hx1 : decide (0 < k1) = x1) (hx2 : decide (0 < k2) = x2)
    (HB1 : ∀ w, Calls Try.prog 45 #[.int .u16 xfl, .int .u16 2] w fun r w' => r = .returned (.bool false) ∧ Below w.heap.size w w')
    (HF1 : ∀ w, Calls Try.prog 55 #[.agg #[.int .u64 aq1, .int .u64 aq2], .agg #[.int .u64 n1, .int .u64 n2]] w fun r w' => r = .returned (.bool g1) ∧ Below w.heap.size w w')
    (HF2 : ∀ w, Calls Try.prog 55 #[.agg #[.int .u64 es1, .int .u64 es2], .agg #[.int .u64 n1, .int .u64 n2]] w fun r w' => r = .returned (.bool g2) ∧ Below w.heap.size w w')
    (HS1 : ∀ w g, Blk w g 24 #[.int .u64 ap1, .int .u64 ap2, .int .u64 aq1, .int .u64 aq2, .int .u64 n1, .int .u64 n2] → Calls Try.prog 56 #[.slice (some ⟨g, 0, none⟩) 3 3] w fun r w' => r = .returned (.tuple #[.agg #[.int .u64 dh, .int .u64 dl], .bool f1]) ∧ Below w.heap.size w w')
    (HS2 : ∀ w g, Blk w g 24 #[.int .u64 er1, .int .u64 er2, .int .u64 es1, .int .u64 es2, .int .u64 n1, .int .u64 n2] → Calls Try.prog 56 #[.slice (some ⟨g, 0, none⟩) 3 3] w fun r w' => r = .returned (.tuple #[.agg #[.int .u64 ch, .int .u64 cl], .bool f2]) ∧ Below w.heap.size w w')
    (HB2 : ∀ w, Calls Try.prog 45 #[.int .u16 afl, .int .u16 2] w fun r w' => r = .returned (.bool b2) ∧ Below w.heap.size w w')
    (HB4 : ∀ w, Calls Try.prog 45 #[.int .u16 efl, .int .u16 4] w fun r w' => r = .returned (.bool b4) ∧ Below w.heap.size w w')
    (HC1 : ∀ w, Calls Try.prog 25 #[.agg #[.int .u64 dh, .int .u64 dl], .agg #[.int .u64 as1, .int .u64 as2]] w fun r w' => r = .returned (.int .i64 k1) ∧ Below w.heap.size w w')
    (HC2 : ∀ w, Calls Try.prog 25 #[.agg #[.int .u64 ch, .int .u64 cl], .agg #[.int .u64 eq1, .int .u64 eq2]] w fun r w' => r = .returned (.int .i64 k2) ∧ Below w.heap.size w w')
    (w : World) : Calls Try.prog 23 #[.agg #[.int .u64 xi1, .int .u64 xi2, .int .u64 xd1, .int .u64 xd2, .int .u64 xc1, .int .u64 xc2, .int .u64 xm1, .int .u64 xm2, .int .u64 xw1, .int .u64 xw2, .int .u64 xtg, .int .u32 xto, .int .u32 xlg, .int .u16 xcd, .int .u16 xfl, .int .u64 xst], .agg #[.int .u64 n1, .int .u64 n2], .agg #[.int .u64 ai1, .int .u64 ai2, .int .u64 ap1, .int .u64 ap2, .int .u64 aq1, .int .u64 aq2, .int .u64 ar1, .int .u64 ar2, .int .u64 as1, .int .u64 as2, .int .u64 atg, .int .u32 alg, .int .u16 acd, .int .u16 afl, .int .u64 ast, .int .u64 ei1, .int .u64 ei2, .int .u64 ep1, .int .u64 ep2, .int .u64 eq1, .int .u64 eq2, .int .u64 er1, .int .u64 er2, .int .u64 es1, .int .u64 es2, .int .u64 etg, .int .u32 elg, .int .u16 ecd, .int .u16 efl, .int .u64 est, .bool hd, .bool hc]] w fun r w' => r = .returned (.int .i64 (roomV false (!g1) (!g2) (!f1) (!f2) (b2 && x1) (b4 && x2))) ∧ Below w.heap.size w w' := by
  replace HB1 := Lib.hid HB1
  replace HF1 := Lib.hid HF1
  replace HF2 := Lib.hid HF2
  replace HS1 := Lib.hid HS1
  replace HS2 := Lib.hid HS2
  replace HB2 := Lib.hid HB2
  replace HB4 := Lib.hid HB4
  replace HC1 := Lib.hid HC1
  replace HC2 := Lib.hid HC2
  have hb0 := Below.refl w.heap.size w
  go_enter Try.func23, Try.ntmps23
  replace hb0 := Lib.hid hb0
  go_wp2_with fail
  refine (HB1.out _).mono ?_
  rintro e w_1 ⟨rfl, hb_1⟩
  have z_1 := hb_1.size
  try simp at z_1
  have t_ := hb0.out
  have hB_1 := bel_eld (w := w) (X := _) (by first | ((repeat (first | with_reducible exact Below.refl _ _ | with_reducible assumption | (with_reducible refine bel_set ?_ (by first | exact Nat.le_refl _ | (simp; done) | (simp; omega) | omega) _) | with_reducible refine bel_grow ?_ _ | with_reducible refine Below.drew ?_ | with_reducible refine below_drewN ?_ _ | with_reducible refine bel_alloc ?_ _ | with_reducible refine bel_trans ?_ (by assumption))); done) | (repeat (first | exact Below.refl _ _ | assumption | refine below_drewN ?_ _ | refine bel_grow ?_ _ | refine Below.drew ?_ | refine bel_alloc ?_ _ | refine bel_set ?_ (by first | exact Nat.le_refl _ | (simp; done) | (simp; omega) | omega) _ | refine bel_trans ?_ (by assumption)))) hb_1
  clear t_
  have g_x : Blk w_1 (w.heap.size) 28 #[.int .u64 xi1, .int .u64 xi2, .int .u64 xd1, .int .u64 xd2, .int .u64 xc1, .int .u64 xc2, .int .u64 xm1, .int .u64 xm2, .int .u64 xw1, .int .u64 xw2, .int .u64 xtg, .int .u32 xto, .int .u32 xlg, .int .u16 xcd, .int .u16 xfl, .int .u64 xst] := by
    refine Blk.kept ?_ hb_1
    (repeat (first | with_reducible assumption | (with_reducible refine Blk.new' ?_; first | with_reducible rfl | (simp; done)) | with_reducible refine Blk.alloc ?_ _ | with_reducible refine Blk.grow ?_ _ | with_reducible refine Blk.drew ?_ | with_reducible refine Blk.drewN ?_ _ | (with_reducible refine Blk.far ?_ (by first | (dsimp only; omega) | (simp; omega)) _) | (with_reducible apply Blk.two) | (with_reducible refine Blk.set' ?_ _ _ ?_) | (with_reducible rfl) | rfl))
  have g_n : Blk w_1 (w.heap.size + 1) 24 #[.int .u64 n1, .int .u64 n2] := by
    refine Blk.kept ?_ hb_1
    (repeat (first | with_reducible assumption | (with_reducible refine Blk.new' ?_; first | with_reducible rfl | (simp; done)) | with_reducible refine Blk.alloc ?_ _ | with_reducible refine Blk.grow ?_ _ | with_reducible refine Blk.drew ?_ | with_reducible refine Blk.drewN ?_ _ | (with_reducible refine Blk.far ?_ (by first | (dsimp only; omega) | (simp; omega)) _) | (with_reducible apply Blk.two) | (with_reducible refine Blk.set' ?_ _ _ ?_) | (with_reducible rfl) | rfl))
  have g_p : Blk w_1 (w.heap.size + 2) 32 #[.int .u64 ai1, .int .u64 ai2, .int .u64 ap1, .int .u64 ap2, .int .u64 aq1, .int .u64 aq2, .int .u64 ar1, .int .u64 ar2, .int .u64 as1, .int .u64 as2, .int .u64 atg, .int .u32 alg, .int .u16 acd, .int .u16 afl, .int .u64 ast, .int .u64 ei1, .int .u64 ei2, .int .u64 ep1, .int .u64 ep2, .int .u64 eq1, .int .u64 eq2, .int .u64 er1, .int .u64 er2, .int .u64 es1, .int .u64 es2, .int .u64 etg, .int .u32 elg, .int .u16 ecd, .int .u16 efl, .int .u64 est, .bool hd, .bool hc] := by
    refine Blk.kept ?_ hb_1
    (repeat (first | with_reducible assumption | (with_reducible refine Blk.new' ?_; first | with_reducible rfl | (simp; done)) | with_reducible refine Blk.alloc ?_ _ | with_reducible refine Blk.grow ?_ _ | with_reducible refine Blk.drew ?_ | with_reducible refine Blk.drewN ?_ _ | (with_reducible refine Blk.far ?_ (by first | (dsimp only; omega) | (simp; omega)) _) | (with_reducible apply Blk.two) | (with_reducible refine Blk.set' ?_ _ _ ?_) | (with_reducible rfl) | rfl))
  clear hb0 hb_1
  have f_x := g_x
  clear g_x
  have f_n := g_n
  clear g_n
  have f_p := g_p
  clear g_p
  have r_x := rowAt_blk f_x
  have x_l := f_x.lt
  have x_14 : w_1.cell? ⟨w.heap.size, 14, none⟩ = some (.int .u16 xfl) := (f_x).cell 14
  have x_f14 := (f_x).frozen 14
  replace f_x := Lib.hid f_x
  have n_0 : w_1.cell? ⟨w.heap.size + 1, 0, none⟩ = some (.int .u64 n1) := (f_n).cell 0
  have n_1 : w_1.cell? ⟨w.heap.size + 1, 1, none⟩ = some (.int .u64 n2) := (f_n).cell 1
  have n_f0 := (f_n).frozen 0
  have n_f1 := (f_n).frozen 1
  have n_l := (f_n).lt
  replace f_n := Lib.hid f_n
  have r_p := rowAt_blk f_p
  have p_l := f_p.lt
  have p_2 : w_1.cell? ⟨w.heap.size + 2, 2, none⟩ = some (.int .u64 ap1) := (f_p).cell 2
  have p_f2 := (f_p).frozen 2
  have p_3 : w_1.cell? ⟨w.heap.size + 2, 3, none⟩ = some (.int .u64 ap2) := (f_p).cell 3
  have p_f3 := (f_p).frozen 3
  have p_4 : w_1.cell? ⟨w.heap.size + 2, 4, none⟩ = some (.int .u64 aq1) := (f_p).cell 4
  have p_f4 := (f_p).frozen 4
  have p_5 : w_1.cell? ⟨w.heap.size + 2, 5, none⟩ = some (.int .u64 aq2) := (f_p).cell 5
  have p_f5 := (f_p).frozen 5
  have p_8 : w_1.cell? ⟨w.heap.size + 2, 8, none⟩ = some (.int .u64 as1) := (f_p).cell 8
  have p_f8 := (f_p).frozen 8
  have p_9 : w_1.cell? ⟨w.heap.size + 2, 9, none⟩ = some (.int .u64 as2) := (f_p).cell 9
  have p_f9 := (f_p).frozen 9
  have p_13 : w_1.cell? ⟨w.heap.size + 2, 13, none⟩ = some (.int .u16 afl) := (f_p).cell 13
  have p_f13 := (f_p).frozen 13
  have p_19 : w_1.cell? ⟨w.heap.size + 2, 19, none⟩ = some (.int .u64 eq1) := (f_p).cell 19
  have p_f19 := (f_p).frozen 19
  have p_20 : w_1.cell? ⟨w.heap.size + 2, 20, none⟩ = some (.int .u64 eq2) := (f_p).cell 20
  have p_f20 := (f_p).frozen 20
  have p_21 : w_1.cell? ⟨w.heap.size + 2, 21, none⟩ = some (.int .u64 er1) := (f_p).cell 21
  have p_f21 := (f_p).frozen 21
  have p_22 : w_1.cell? ⟨w.heap.size + 2, 22, none⟩ = some (.int .u64 er2) := (f_p).cell 22
  have p_f22 := (f_p).frozen 22
  have p_23 : w_1.cell? ⟨w.heap.size + 2, 23, none⟩ = some (.int .u64 es1) := (f_p).cell 23
  have p_f23 := (f_p).frozen 23
  have p_24 : w_1.cell? ⟨w.heap.size + 2, 24, none⟩ = some (.int .u64 es2) := (f_p).cell 24
  have p_f24 := (f_p).frozen 24
  have p_28 : w_1.cell? ⟨w.heap.size + 2, 28, none⟩ = some (.int .u16 efl) := (f_p).cell 28
  have p_f28 := (f_p).frozen 28
  replace f_p := Lib.hid f_p
  replace hB_1 := Lib.hid hB_1
  go_wp2_with fail
  refine (HF1.out _).mono ?_
  rintro e w_2 ⟨rfl, hb_2⟩
  have z_2 := hb_2.size
  try simp at z_2
  have t_ := hB_1.out
  have hB_2 := bel_eld (w := w) (X := _) (by first | ((repeat (first | with_reducible exact Below.refl _ _ | with_reducible assumption | (with_reducible refine bel_set ?_ (by first | exact Nat.le_refl _ | (simp; done) | (simp; omega) | omega) _) | with_reducible refine bel_grow ?_ _ | with_reducible refine Below.drew ?_ | with_reducible refine below_drewN ?_ _ | with_reducible refine bel_alloc ?_ _ | with_reducible refine bel_trans ?_ (by assumption))); done) | (repeat (first | exact Below.refl _ _ | assumption | refine below_drewN ?_ _ | refine bel_grow ?_ _ | refine Below.drew ?_ | refine bel_alloc ?_ _ | refine bel_set ?_ (by first | exact Nat.le_refl _ | (simp; done) | (simp; omega) | omega) _ | refine bel_trans ?_ (by assumption)))) hb_2
  clear t_
  have t_x := f_x.out
  have t_n := f_n.out
  have t_p := f_p.out
  have g_x : Blk w_2 (w.heap.size) 28 #[.int .u64 xi1, .int .u64 xi2, .int .u64 xd1, .int .u64 xd2, .int .u64 xc1, .int .u64 xc2, .int .u64 xm1, .int .u64 xm2, .int .u64 xw1, .int .u64 xw2, .int .u64 xtg, .int .u32 xto, .int .u32 xlg, .int .u16 xcd, .int .u16 xfl, .int .u64 xst] := by
    refine Blk.kept ?_ hb_2
    (repeat (first | with_reducible assumption | (with_reducible refine Blk.new' ?_; first | with_reducible rfl | (simp; done)) | with_reducible refine Blk.alloc ?_ _ | with_reducible refine Blk.grow ?_ _ | with_reducible refine Blk.drew ?_ | with_reducible refine Blk.drewN ?_ _ | (with_reducible refine Blk.far ?_ (by first | (dsimp only; omega) | (simp; omega)) _) | (with_reducible apply Blk.two) | (with_reducible refine Blk.set' ?_ _ _ ?_) | (with_reducible rfl) | rfl))
  have g_n : Blk w_2 (w.heap.size + 1) 24 #[.int .u64 n1, .int .u64 n2] := by
    refine Blk.kept ?_ hb_2
    (repeat (first | with_reducible assumption | (with_reducible refine Blk.new' ?_; first | with_reducible rfl | (simp; done)) | with_reducible refine Blk.alloc ?_ _ | with_reducible refine Blk.grow ?_ _ | with_reducible refine Blk.drew ?_ | with_reducible refine Blk.drewN ?_ _ | (with_reducible refine Blk.far ?_ (by first | (dsimp only; omega) | (simp; omega)) _) | (with_reducible apply Blk.two) | (with_reducible refine Blk.set' ?_ _ _ ?_) | (with_reducible rfl) | rfl))
  have g_p : Blk w_2 (w.heap.size + 2) 32 #[.int .u64 ai1, .int .u64 ai2, .int .u64 ap1, .int .u64 ap2, .int .u64 aq1, .int .u64 aq2, .int .u64 ar1, .int .u64 ar2, .int .u64 as1, .int .u64 as2, .int .u64 atg, .int .u32 alg, .int .u16 acd, .int .u16 afl, .int .u64 ast, .int .u64 ei1, .int .u64 ei2, .int .u64 ep1, .int .u64 ep2, .int .u64 eq1, .int .u64 eq2, .int .u64 er1, .int .u64 er2, .int .u64 es1, .int .u64 es2, .int .u64 etg, .int .u32 elg, .int .u16 ecd, .int .u16 efl, .int .u64 est, .bool hd, .bool hc] := by
    refine Blk.kept ?_ hb_2
    (repeat (first | with_reducible assumption | (with_reducible refine Blk.new' ?_; first | with_reducible rfl | (simp; done)) | with_reducible refine Blk.alloc ?_ _ | with_reducible refine Blk.grow ?_ _ | with_reducible refine Blk.drew ?_ | with_reducible refine Blk.drewN ?_ _ | (with_reducible refine Blk.far ?_ (by first | (dsimp only; omega) | (simp; omega)) _) | (with_reducible apply Blk.two) | (with_reducible refine Blk.set' ?_ _ _ ?_) | (with_reducible rfl) | rfl))
  clear f_x x_l r_x x_14 x_f14 f_n n_l n_0 n_1 n_f0 n_f1 f_p p_l r_p p_2 p_f2 p_3 p_f3 p_4 p_f4 p_5 p_f5 p_8 p_f8 p_9 p_f9 p_13 p_f13 p_19 p_f19 p_20 p_f20 p_21 p_f21 p_22 p_f22 p_23 p_f23 p_24 p_f24 p_28 p_f28 t_x t_n t_p hB_1 hb_2
  have f_x := g_x
  clear g_x
  have f_n := g_n
  clear g_n
  have f_p := g_p
  clear g_p
  have r_x := rowAt_blk f_x
  have x_l := f_x.lt
  have x_14 : w_2.cell? ⟨w.heap.size, 14, none⟩ = some (.int .u16 xfl) := (f_x).cell 14
  have x_f14 := (f_x).frozen 14
  replace f_x := Lib.hid f_x
  have n_0 : w_2.cell? ⟨w.heap.size + 1, 0, none⟩ = some (.int .u64 n1) := (f_n).cell 0
  have n_1 : w_2.cell? ⟨w.heap.size + 1, 1, none⟩ = some (.int .u64 n2) := (f_n).cell 1
  have n_f0 := (f_n).frozen 0
  have n_f1 := (f_n).frozen 1
  have n_l := (f_n).lt
  replace f_n := Lib.hid f_n
  have r_p := rowAt_blk f_p
  have p_l := f_p.lt
  have p_2 : w_2.cell? ⟨w.heap.size + 2, 2, none⟩ = some (.int .u64 ap1) := (f_p).cell 2
  have p_f2 := (f_p).frozen 2
  have p_3 : w_2.cell? ⟨w.heap.size + 2, 3, none⟩ = some (.int .u64 ap2) := (f_p).cell 3
  have p_f3 := (f_p).frozen 3
  have p_4 : w_2.cell? ⟨w.heap.size + 2, 4, none⟩ = some (.int .u64 aq1) := (f_p).cell 4
  have p_f4 := (f_p).frozen 4
  have p_5 : w_2.cell? ⟨w.heap.size + 2, 5, none⟩ = some (.int .u64 aq2) := (f_p).cell 5
  have p_f5 := (f_p).frozen 5
  have p_8 : w_2.cell? ⟨w.heap.size + 2, 8, none⟩ = some (.int .u64 as1) := (f_p).cell 8
  have p_f8 := (f_p).frozen 8
  have p_9 : w_2.cell? ⟨w.heap.size + 2, 9, none⟩ = some (.int .u64 as2) := (f_p).cell 9
  have p_f9 := (f_p).frozen 9
  have p_13 : w_2.cell? ⟨w.heap.size + 2, 13, none⟩ = some (.int .u16 afl) := (f_p).cell 13
  have p_f13 := (f_p).frozen 13
  have p_19 : w_2.cell? ⟨w.heap.size + 2, 19, none⟩ = some (.int .u64 eq1) := (f_p).cell 19
  have p_f19 := (f_p).frozen 19
  have p_20 : w_2.cell? ⟨w.heap.size + 2, 20, none⟩ = some (.int .u64 eq2) := (f_p).cell 20
  have p_f20 := (f_p).frozen 20
  have p_21 : w_2.cell? ⟨w.heap.size + 2, 21, none⟩ = some (.int .u64 er1) := (f_p).cell 21
  have p_f21 := (f_p).frozen 21
  have p_22 : w_2.cell? ⟨w.heap.size + 2, 22, none⟩ = some (.int .u64 er2) := (f_p).cell 22
  have p_f22 := (f_p).frozen 22
  have p_23 : w_2.cell? ⟨w.heap.size + 2, 23, none⟩ = some (.int .u64 es1) := (f_p).cell 23
  have p_f23 := (f_p).frozen 23
  have p_24 : w_2.cell? ⟨w.heap.size + 2, 24, none⟩ = some (.int .u64 es2) := (f_p).cell 24
  have p_f24 := (f_p).frozen 24
  have p_28 : w_2.cell? ⟨w.heap.size + 2, 28, none⟩ = some (.int .u16 efl) := (f_p).cell 28
  have p_f28 := (f_p).frozen 28
  replace f_p := Lib.hid f_p
  replace hB_2 := Lib.hid hB_2
  cases g1
  case false =>
    go_wp2_with fail
    go_ret
    exact ⟨rfl, by have t_B := hB_2.out; (repeat (first | with_reducible exact Below.refl _ _ | with_reducible assumption | (with_reducible refine bel_set ?_ (by first | exact Nat.le_refl _ | (simp; done) | (simp; omega) | omega) _) | with_reducible refine bel_grow ?_ _ | with_reducible refine Below.drew ?_ | with_reducible refine bel_alloc ?_ _ | with_reducible refine bel_eld ?_ (by assumption)))⟩
  case true =>
  go_wp2_with fail
  refine (HF2.out _).mono ?_
  rintro e w_3 ⟨rfl, hb_3⟩
  have z_3 := hb_3.size
  try simp at z_3
  have t_ := hB_2.out
  have hB_3 := bel_eld (w := w) (X := _) (by first | ((repeat (first | with_reducible exact Below.refl _ _ | with_reducible assumption | (with_reducible refine bel_set ?_ (by first | exact Nat.le_refl _ | (simp; done) | (simp; omega) | omega) _) | with_reducible refine bel_grow ?_ _ | with_reducible refine Below.drew ?_ | with_reducible refine below_drewN ?_ _ | with_reducible refine bel_alloc ?_ _ | with_reducible refine bel_trans ?_ (by assumption))); done) | (repeat (first | exact Below.refl _ _ | assumption | refine below_drewN ?_ _ | refine bel_grow ?_ _ | refine Below.drew ?_ | refine bel_alloc ?_ _ | refine bel_set ?_ (by first | exact Nat.le_refl _ | (simp; done) | (simp; omega) | omega) _ | refine bel_trans ?_ (by assumption)))) hb_3
  clear t_
  have t_x := f_x.out
  have t_n := f_n.out
  have t_p := f_p.out
  have g_x : Blk w_3 (w.heap.size) 28 #[.int .u64 xi1, .int .u64 xi2, .int .u64 xd1, .int .u64 xd2, .int .u64 xc1, .int .u64 xc2, .int .u64 xm1, .int .u64 xm2, .int .u64 xw1, .int .u64 xw2, .int .u64 xtg, .int .u32 xto, .int .u32 xlg, .int .u16 xcd, .int .u16 xfl, .int .u64 xst] := by
    refine Blk.kept ?_ hb_3
    (repeat (first | with_reducible assumption | (with_reducible refine Blk.new' ?_; first | with_reducible rfl | (simp; done)) | with_reducible refine Blk.alloc ?_ _ | with_reducible refine Blk.grow ?_ _ | with_reducible refine Blk.drew ?_ | with_reducible refine Blk.drewN ?_ _ | (with_reducible refine Blk.far ?_ (by first | (dsimp only; omega) | (simp; omega)) _) | (with_reducible apply Blk.two) | (with_reducible refine Blk.set' ?_ _ _ ?_) | (with_reducible rfl) | rfl))
  have g_n : Blk w_3 (w.heap.size + 1) 24 #[.int .u64 n1, .int .u64 n2] := by
    refine Blk.kept ?_ hb_3
    (repeat (first | with_reducible assumption | (with_reducible refine Blk.new' ?_; first | with_reducible rfl | (simp; done)) | with_reducible refine Blk.alloc ?_ _ | with_reducible refine Blk.grow ?_ _ | with_reducible refine Blk.drew ?_ | with_reducible refine Blk.drewN ?_ _ | (with_reducible refine Blk.far ?_ (by first | (dsimp only; omega) | (simp; omega)) _) | (with_reducible apply Blk.two) | (with_reducible refine Blk.set' ?_ _ _ ?_) | (with_reducible rfl) | rfl))
  have g_p : Blk w_3 (w.heap.size + 2) 32 #[.int .u64 ai1, .int .u64 ai2, .int .u64 ap1, .int .u64 ap2, .int .u64 aq1, .int .u64 aq2, .int .u64 ar1, .int .u64 ar2, .int .u64 as1, .int .u64 as2, .int .u64 atg, .int .u32 alg, .int .u16 acd, .int .u16 afl, .int .u64 ast, .int .u64 ei1, .int .u64 ei2, .int .u64 ep1, .int .u64 ep2, .int .u64 eq1, .int .u64 eq2, .int .u64 er1, .int .u64 er2, .int .u64 es1, .int .u64 es2, .int .u64 etg, .int .u32 elg, .int .u16 ecd, .int .u16 efl, .int .u64 est, .bool hd, .bool hc] := by
    refine Blk.kept ?_ hb_3
    (repeat (first | with_reducible assumption | (with_reducible refine Blk.new' ?_; first | with_reducible rfl | (simp; done)) | with_reducible refine Blk.alloc ?_ _ | with_reducible refine Blk.grow ?_ _ | with_reducible refine Blk.drew ?_ | with_reducible refine Blk.drewN ?_ _ | (with_reducible refine Blk.far ?_ (by first | (dsimp only; omega) | (simp; omega)) _) | (with_reducible apply Blk.two) | (with_reducible refine Blk.set' ?_ _ _ ?_) | (with_reducible rfl) | rfl))
  clear f_x x_l r_x x_14 x_f14 f_n n_l n_0 n_1 n_f0 n_f1 f_p p_l r_p p_2 p_f2 p_3 p_f3 p_4 p_f4 p_5 p_f5 p_8 p_f8 p_9 p_f9 p_13 p_f13 p_19 p_f19 p_20 p_f20 p_21 p_f21 p_22 p_f22 p_23 p_f23 p_24 p_f24 p_28 p_f28 t_x t_n t_p hB_2 hb_3
  have f_x := g_x
  clear g_x
  have f_n := g_n
  clear g_n
  have f_p := g_p
  clear g_p
  have r_x := rowAt_blk f_x
  have x_l := f_x.lt
  have x_14 : w_3.cell? ⟨w.heap.size, 14, none⟩ = some (.int .u16 xfl) := (f_x).cell 14
  have x_f14 := (f_x).frozen 14
  replace f_x := Lib.hid f_x
  have n_0 : w_3.cell? ⟨w.heap.size + 1, 0, none⟩ = some (.int .u64 n1) := (f_n).cell 0
  have n_1 : w_3.cell? ⟨w.heap.size + 1, 1, none⟩ = some (.int .u64 n2) := (f_n).cell 1
  have n_f0 := (f_n).frozen 0
  have n_f1 := (f_n).frozen 1
  have n_l := (f_n).lt
  replace f_n := Lib.hid f_n
  have r_p := rowAt_blk f_p
  have p_l := f_p.lt
  have p_2 : w_3.cell? ⟨w.heap.size + 2, 2, none⟩ = some (.int .u64 ap1) := (f_p).cell 2
  have p_f2 := (f_p).frozen 2
  have p_3 : w_3.cell? ⟨w.heap.size + 2, 3, none⟩ = some (.int .u64 ap2) := (f_p).cell 3
  have p_f3 := (f_p).frozen 3
  have p_4 : w_3.cell? ⟨w.heap.size + 2, 4, none⟩ = some (.int .u64 aq1) := (f_p).cell 4
  have p_f4 := (f_p).frozen 4
  have p_5 : w_3.cell? ⟨w.heap.size + 2, 5, none⟩ = some (.int .u64 aq2) := (f_p).cell 5
  have p_f5 := (f_p).frozen 5
  have p_8 : w_3.cell? ⟨w.heap.size + 2, 8, none⟩ = some (.int .u64 as1) := (f_p).cell 8
  have p_f8 := (f_p).frozen 8
  have p_9 : w_3.cell? ⟨w.heap.size + 2, 9, none⟩ = some (.int .u64 as2) := (f_p).cell 9
  have p_f9 := (f_p).frozen 9
  have p_13 : w_3.cell? ⟨w.heap.size + 2, 13, none⟩ = some (.int .u16 afl) := (f_p).cell 13
  have p_f13 := (f_p).frozen 13
  have p_19 : w_3.cell? ⟨w.heap.size + 2, 19, none⟩ = some (.int .u64 eq1) := (f_p).cell 19
  have p_f19 := (f_p).frozen 19
  have p_20 : w_3.cell? ⟨w.heap.size + 2, 20, none⟩ = some (.int .u64 eq2) := (f_p).cell 20
  have p_f20 := (f_p).frozen 20
  have p_21 : w_3.cell? ⟨w.heap.size + 2, 21, none⟩ = some (.int .u64 er1) := (f_p).cell 21
  have p_f21 := (f_p).frozen 21
  have p_22 : w_3.cell? ⟨w.heap.size + 2, 22, none⟩ = some (.int .u64 er2) := (f_p).cell 22
  have p_f22 := (f_p).frozen 22
  have p_23 : w_3.cell? ⟨w.heap.size + 2, 23, none⟩ = some (.int .u64 es1) := (f_p).cell 23
  have p_f23 := (f_p).frozen 23
  have p_24 : w_3.cell? ⟨w.heap.size + 2, 24, none⟩ = some (.int .u64 es2) := (f_p).cell 24
  have p_f24 := (f_p).frozen 24
  have p_28 : w_3.cell? ⟨w.heap.size + 2, 28, none⟩ = some (.int .u16 efl) := (f_p).cell 28
  have p_f28 := (f_p).frozen 28
  replace f_p := Lib.hid f_p
  replace hB_3 := Lib.hid hB_3
  cases g2
  case false =>
    go_wp2_with fail
    go_ret
    exact ⟨rfl, by have t_B := hB_3.out; (repeat (first | with_reducible exact Below.refl _ _ | with_reducible assumption | (with_reducible refine bel_set ?_ (by first | exact Nat.le_refl _ | (simp; done) | (simp; omega) | omega) _) | with_reducible refine bel_grow ?_ _ | with_reducible refine Below.drew ?_ | with_reducible refine bel_alloc ?_ _ | with_reducible refine bel_eld ?_ (by assumption)))⟩
  case true =>
  go_wp2_with fail
  refine (HS1.out _ w_3.heap.size (Blk.new' (by simp))).mono ?_
  rintro e w_4 ⟨rfl, hb_4⟩
  have z_4 := hb_4.size
  try simp at z_4
  have t_ := hB_3.out
  have hB_4 := bel_eld (w := w) (X := _) (by first | ((repeat (first | with_reducible exact Below.refl _ _ | with_reducible assumption | (with_reducible refine bel_set ?_ (by first | exact Nat.le_refl _ | (simp; done) | (simp; omega) | omega) _) | with_reducible refine bel_grow ?_ _ | with_reducible refine Below.drew ?_ | with_reducible refine below_drewN ?_ _ | with_reducible refine bel_alloc ?_ _ | with_reducible refine bel_trans ?_ (by assumption))); done) | (repeat (first | exact Below.refl _ _ | assumption | refine below_drewN ?_ _ | refine bel_grow ?_ _ | refine Below.drew ?_ | refine bel_alloc ?_ _ | refine bel_set ?_ (by first | exact Nat.le_refl _ | (simp; done) | (simp; omega) | omega) _ | refine bel_trans ?_ (by assumption)))) hb_4
  clear t_
  have t_x := f_x.out
  have t_n := f_n.out
  have t_p := f_p.out
  have g_x : Blk w_4 (w.heap.size) 28 #[.int .u64 xi1, .int .u64 xi2, .int .u64 xd1, .int .u64 xd2, .int .u64 xc1, .int .u64 xc2, .int .u64 xm1, .int .u64 xm2, .int .u64 xw1, .int .u64 xw2, .int .u64 xtg, .int .u32 xto, .int .u32 xlg, .int .u16 xcd, .int .u16 xfl, .int .u64 xst] := by
    refine Blk.kept ?_ hb_4
    (repeat (first | with_reducible assumption | (with_reducible refine Blk.new' ?_; first | with_reducible rfl | (simp; done)) | with_reducible refine Blk.alloc ?_ _ | with_reducible refine Blk.grow ?_ _ | with_reducible refine Blk.drew ?_ | with_reducible refine Blk.drewN ?_ _ | (with_reducible refine Blk.far ?_ (by first | (dsimp only; omega) | (simp; omega)) _) | (with_reducible apply Blk.two) | (with_reducible refine Blk.set' ?_ _ _ ?_) | (with_reducible rfl) | rfl))
  have g_n : Blk w_4 (w.heap.size + 1) 24 #[.int .u64 n1, .int .u64 n2] := by
    refine Blk.kept ?_ hb_4
    (repeat (first | with_reducible assumption | (with_reducible refine Blk.new' ?_; first | with_reducible rfl | (simp; done)) | with_reducible refine Blk.alloc ?_ _ | with_reducible refine Blk.grow ?_ _ | with_reducible refine Blk.drew ?_ | with_reducible refine Blk.drewN ?_ _ | (with_reducible refine Blk.far ?_ (by first | (dsimp only; omega) | (simp; omega)) _) | (with_reducible apply Blk.two) | (with_reducible refine Blk.set' ?_ _ _ ?_) | (with_reducible rfl) | rfl))
  have g_p : Blk w_4 (w.heap.size + 2) 32 #[.int .u64 ai1, .int .u64 ai2, .int .u64 ap1, .int .u64 ap2, .int .u64 aq1, .int .u64 aq2, .int .u64 ar1, .int .u64 ar2, .int .u64 as1, .int .u64 as2, .int .u64 atg, .int .u32 alg, .int .u16 acd, .int .u16 afl, .int .u64 ast, .int .u64 ei1, .int .u64 ei2, .int .u64 ep1, .int .u64 ep2, .int .u64 eq1, .int .u64 eq2, .int .u64 er1, .int .u64 er2, .int .u64 es1, .int .u64 es2, .int .u64 etg, .int .u32 elg, .int .u16 ecd, .int .u16 efl, .int .u64 est, .bool hd, .bool hc] := by
    refine Blk.kept ?_ hb_4
    (repeat (first | with_reducible assumption | (with_reducible refine Blk.new' ?_; first | with_reducible rfl | (simp; done)) | with_reducible refine Blk.alloc ?_ _ | with_reducible refine Blk.grow ?_ _ | with_reducible refine Blk.drew ?_ | with_reducible refine Blk.drewN ?_ _ | (with_reducible refine Blk.far ?_ (by first | (dsimp only; omega) | (simp; omega)) _) | (with_reducible apply Blk.two) | (with_reducible refine Blk.set' ?_ _ _ ?_) | (with_reducible rfl) | rfl))
  clear f_x x_l r_x x_14 x_f14 f_n n_l n_0 n_1 n_f0 n_f1 f_p p_l r_p p_2 p_f2 p_3 p_f3 p_4 p_f4 p_5 p_f5 p_8 p_f8 p_9 p_f9 p_13 p_f13 p_19 p_f19 p_20 p_f20 p_21 p_f21 p_22 p_f22 p_23 p_f23 p_24 p_f24 p_28 p_f28 t_x t_n t_p hB_3 hb_4
  have f_x := g_x
  clear g_x
  have f_n := g_n
  clear g_n
  have f_p := g_p
  clear g_p
  have r_x := rowAt_blk f_x
  have x_l := f_x.lt
  have x_14 : w_4.cell? ⟨w.heap.size, 14, none⟩ = some (.int .u16 xfl) := (f_x).cell 14
  have x_f14 := (f_x).frozen 14
  replace f_x := Lib.hid f_x
  have n_0 : w_4.cell? ⟨w.heap.size + 1, 0, none⟩ = some (.int .u64 n1) := (f_n).cell 0
  have n_1 : w_4.cell? ⟨w.heap.size + 1, 1, none⟩ = some (.int .u64 n2) := (f_n).cell 1
  have n_f0 := (f_n).frozen 0
  have n_f1 := (f_n).frozen 1
  have n_l := (f_n).lt
  replace f_n := Lib.hid f_n
  have r_p := rowAt_blk f_p
  have p_l := f_p.lt
  have p_2 : w_4.cell? ⟨w.heap.size + 2, 2, none⟩ = some (.int .u64 ap1) := (f_p).cell 2
  have p_f2 := (f_p).frozen 2
  have p_3 : w_4.cell? ⟨w.heap.size + 2, 3, none⟩ = some (.int .u64 ap2) := (f_p).cell 3
  have p_f3 := (f_p).frozen 3
  have p_4 : w_4.cell? ⟨w.heap.size + 2, 4, none⟩ = some (.int .u64 aq1) := (f_p).cell 4
  have p_f4 := (f_p).frozen 4
  have p_5 : w_4.cell? ⟨w.heap.size + 2, 5, none⟩ = some (.int .u64 aq2) := (f_p).cell 5
  have p_f5 := (f_p).frozen 5
  have p_8 : w_4.cell? ⟨w.heap.size + 2, 8, none⟩ = some (.int .u64 as1) := (f_p).cell 8
  have p_f8 := (f_p).frozen 8
  have p_9 : w_4.cell? ⟨w.heap.size + 2, 9, none⟩ = some (.int .u64 as2) := (f_p).cell 9
  have p_f9 := (f_p).frozen 9
  have p_13 : w_4.cell? ⟨w.heap.size + 2, 13, none⟩ = some (.int .u16 afl) := (f_p).cell 13
  have p_f13 := (f_p).frozen 13
  have p_19 : w_4.cell? ⟨w.heap.size + 2, 19, none⟩ = some (.int .u64 eq1) := (f_p).cell 19
  have p_f19 := (f_p).frozen 19
  have p_20 : w_4.cell? ⟨w.heap.size + 2, 20, none⟩ = some (.int .u64 eq2) := (f_p).cell 20
  have p_f20 := (f_p).frozen 20
  have p_21 : w_4.cell? ⟨w.heap.size + 2, 21, none⟩ = some (.int .u64 er1) := (f_p).cell 21
  have p_f21 := (f_p).frozen 21
  have p_22 : w_4.cell? ⟨w.heap.size + 2, 22, none⟩ = some (.int .u64 er2) := (f_p).cell 22
  have p_f22 := (f_p).frozen 22
  have p_23 : w_4.cell? ⟨w.heap.size + 2, 23, none⟩ = some (.int .u64 es1) := (f_p).cell 23
  have p_f23 := (f_p).frozen 23
  have p_24 : w_4.cell? ⟨w.heap.size + 2, 24, none⟩ = some (.int .u64 es2) := (f_p).cell 24
  have p_f24 := (f_p).frozen 24
  have p_28 : w_4.cell? ⟨w.heap.size + 2, 28, none⟩ = some (.int .u16 efl) := (f_p).cell 28
  have p_f28 := (f_p).frozen 28
  replace f_p := Lib.hid f_p
  replace hB_4 := Lib.hid hB_4
  cases f1
  case false =>
    go_wp2_with fail
    go_ret
    exact ⟨rfl, by have t_B := hB_4.out; (repeat (first | with_reducible exact Below.refl _ _ | with_reducible assumption | (with_reducible refine bel_set ?_ (by first | exact Nat.le_refl _ | (simp; done) | (simp; omega) | omega) _) | with_reducible refine bel_grow ?_ _ | with_reducible refine Below.drew ?_ | with_reducible refine bel_alloc ?_ _ | with_reducible refine bel_eld ?_ (by assumption)))⟩
  case true =>
  go_wp2_with fail
  refine (HS2.out _ (w_4.heap.size + 1) (Blk.new' (by simp))).mono ?_
  rintro e w_5 ⟨rfl, hb_5⟩
  have z_5 := hb_5.size
  try simp at z_5
  have t_ := hB_4.out
  have hB_5 := bel_eld (w := w) (X := _) (by first | ((repeat (first | with_reducible exact Below.refl _ _ | with_reducible assumption | (with_reducible refine bel_set ?_ (by first | exact Nat.le_refl _ | (simp; done) | (simp; omega) | omega) _) | with_reducible refine bel_grow ?_ _ | with_reducible refine Below.drew ?_ | with_reducible refine below_drewN ?_ _ | with_reducible refine bel_alloc ?_ _ | with_reducible refine bel_trans ?_ (by assumption))); done) | (repeat (first | exact Below.refl _ _ | assumption | refine below_drewN ?_ _ | refine bel_grow ?_ _ | refine Below.drew ?_ | refine bel_alloc ?_ _ | refine bel_set ?_ (by first | exact Nat.le_refl _ | (simp; done) | (simp; omega) | omega) _ | refine bel_trans ?_ (by assumption)))) hb_5
  clear t_
  have t_x := f_x.out
  have t_n := f_n.out
  have t_p := f_p.out
  have g_x : Blk w_5 (w.heap.size) 28 #[.int .u64 xi1, .int .u64 xi2, .int .u64 xd1, .int .u64 xd2, .int .u64 xc1, .int .u64 xc2, .int .u64 xm1, .int .u64 xm2, .int .u64 xw1, .int .u64 xw2, .int .u64 xtg, .int .u32 xto, .int .u32 xlg, .int .u16 xcd, .int .u16 xfl, .int .u64 xst] := by
    refine Blk.kept ?_ hb_5
    (repeat (first | with_reducible assumption | (with_reducible refine Blk.new' ?_; first | with_reducible rfl | (simp; done)) | with_reducible refine Blk.alloc ?_ _ | with_reducible refine Blk.grow ?_ _ | with_reducible refine Blk.drew ?_ | with_reducible refine Blk.drewN ?_ _ | (with_reducible refine Blk.far ?_ (by first | (dsimp only; omega) | (simp; omega)) _) | (with_reducible apply Blk.two) | (with_reducible refine Blk.set' ?_ _ _ ?_) | (with_reducible rfl) | rfl))
  have g_n : Blk w_5 (w.heap.size + 1) 24 #[.int .u64 n1, .int .u64 n2] := by
    refine Blk.kept ?_ hb_5
    (repeat (first | with_reducible assumption | (with_reducible refine Blk.new' ?_; first | with_reducible rfl | (simp; done)) | with_reducible refine Blk.alloc ?_ _ | with_reducible refine Blk.grow ?_ _ | with_reducible refine Blk.drew ?_ | with_reducible refine Blk.drewN ?_ _ | (with_reducible refine Blk.far ?_ (by first | (dsimp only; omega) | (simp; omega)) _) | (with_reducible apply Blk.two) | (with_reducible refine Blk.set' ?_ _ _ ?_) | (with_reducible rfl) | rfl))
  have g_p : Blk w_5 (w.heap.size + 2) 32 #[.int .u64 ai1, .int .u64 ai2, .int .u64 ap1, .int .u64 ap2, .int .u64 aq1, .int .u64 aq2, .int .u64 ar1, .int .u64 ar2, .int .u64 as1, .int .u64 as2, .int .u64 atg, .int .u32 alg, .int .u16 acd, .int .u16 afl, .int .u64 ast, .int .u64 ei1, .int .u64 ei2, .int .u64 ep1, .int .u64 ep2, .int .u64 eq1, .int .u64 eq2, .int .u64 er1, .int .u64 er2, .int .u64 es1, .int .u64 es2, .int .u64 etg, .int .u32 elg, .int .u16 ecd, .int .u16 efl, .int .u64 est, .bool hd, .bool hc] := by
    refine Blk.kept ?_ hb_5
    (repeat (first | with_reducible assumption | (with_reducible refine Blk.new' ?_; first | with_reducible rfl | (simp; done)) | with_reducible refine Blk.alloc ?_ _ | with_reducible refine Blk.grow ?_ _ | with_reducible refine Blk.drew ?_ | with_reducible refine Blk.drewN ?_ _ | (with_reducible refine Blk.far ?_ (by first | (dsimp only; omega) | (simp; omega)) _) | (with_reducible apply Blk.two) | (with_reducible refine Blk.set' ?_ _ _ ?_) | (with_reducible rfl) | rfl))
  have g_d : Blk w_5 (w_4.heap.size) 24 #[.int .u64 dh, .int .u64 dl] := by
    refine Blk.kept ?_ hb_5
    (repeat (first | with_reducible assumption | (with_reducible refine Blk.new' ?_; first | with_reducible rfl | (simp; done)) | with_reducible refine Blk.alloc ?_ _ | with_reducible refine Blk.grow ?_ _ | with_reducible refine Blk.drew ?_ | with_reducible refine Blk.drewN ?_ _ | (with_reducible refine Blk.far ?_ (by first | (dsimp only; omega) | (simp; omega)) _) | (with_reducible apply Blk.two) | (with_reducible refine Blk.set' ?_ _ _ ?_) | (with_reducible rfl) | rfl))
  clear f_x x_l r_x x_14 x_f14 f_n n_l n_0 n_1 n_f0 n_f1 f_p p_l r_p p_2 p_f2 p_3 p_f3 p_4 p_f4 p_5 p_f5 p_8 p_f8 p_9 p_f9 p_13 p_f13 p_19 p_f19 p_20 p_f20 p_21 p_f21 p_22 p_f22 p_23 p_f23 p_24 p_f24 p_28 p_f28 t_x t_n t_p hB_4 hb_5
  have f_x := g_x
  clear g_x
  have f_n := g_n
  clear g_n
  have f_p := g_p
  clear g_p
  have f_d := g_d
  clear g_d
  have r_x := rowAt_blk f_x
  have x_l := f_x.lt
  have x_14 : w_5.cell? ⟨w.heap.size, 14, none⟩ = some (.int .u16 xfl) := (f_x).cell 14
  have x_f14 := (f_x).frozen 14
  replace f_x := Lib.hid f_x
  have n_0 : w_5.cell? ⟨w.heap.size + 1, 0, none⟩ = some (.int .u64 n1) := (f_n).cell 0
  have n_1 : w_5.cell? ⟨w.heap.size + 1, 1, none⟩ = some (.int .u64 n2) := (f_n).cell 1
  have n_f0 := (f_n).frozen 0
  have n_f1 := (f_n).frozen 1
  have n_l := (f_n).lt
  replace f_n := Lib.hid f_n
  have r_p := rowAt_blk f_p
  have p_l := f_p.lt
  have p_2 : w_5.cell? ⟨w.heap.size + 2, 2, none⟩ = some (.int .u64 ap1) := (f_p).cell 2
  have p_f2 := (f_p).frozen 2
  have p_3 : w_5.cell? ⟨w.heap.size + 2, 3, none⟩ = some (.int .u64 ap2) := (f_p).cell 3
  have p_f3 := (f_p).frozen 3
  have p_4 : w_5.cell? ⟨w.heap.size + 2, 4, none⟩ = some (.int .u64 aq1) := (f_p).cell 4
  have p_f4 := (f_p).frozen 4
  have p_5 : w_5.cell? ⟨w.heap.size + 2, 5, none⟩ = some (.int .u64 aq2) := (f_p).cell 5
  have p_f5 := (f_p).frozen 5
  have p_8 : w_5.cell? ⟨w.heap.size + 2, 8, none⟩ = some (.int .u64 as1) := (f_p).cell 8
  have p_f8 := (f_p).frozen 8
  have p_9 : w_5.cell? ⟨w.heap.size + 2, 9, none⟩ = some (.int .u64 as2) := (f_p).cell 9
  have p_f9 := (f_p).frozen 9
  have p_13 : w_5.cell? ⟨w.heap.size + 2, 13, none⟩ = some (.int .u16 afl) := (f_p).cell 13
  have p_f13 := (f_p).frozen 13
  have p_19 : w_5.cell? ⟨w.heap.size + 2, 19, none⟩ = some (.int .u64 eq1) := (f_p).cell 19
  have p_f19 := (f_p).frozen 19
  have p_20 : w_5.cell? ⟨w.heap.size + 2, 20, none⟩ = some (.int .u64 eq2) := (f_p).cell 20
  have p_f20 := (f_p).frozen 20
  have p_21 : w_5.cell? ⟨w.heap.size + 2, 21, none⟩ = some (.int .u64 er1) := (f_p).cell 21
  have p_f21 := (f_p).frozen 21
  have p_22 : w_5.cell? ⟨w.heap.size + 2, 22, none⟩ = some (.int .u64 er2) := (f_p).cell 22
  have p_f22 := (f_p).frozen 22
  have p_23 : w_5.cell? ⟨w.heap.size + 2, 23, none⟩ = some (.int .u64 es1) := (f_p).cell 23
  have p_f23 := (f_p).frozen 23
  have p_24 : w_5.cell? ⟨w.heap.size + 2, 24, none⟩ = some (.int .u64 es2) := (f_p).cell 24
  have p_f24 := (f_p).frozen 24
  have p_28 : w_5.cell? ⟨w.heap.size + 2, 28, none⟩ = some (.int .u16 efl) := (f_p).cell 28
  have p_f28 := (f_p).frozen 28
  replace f_p := Lib.hid f_p
  have d_0 : w_5.cell? ⟨w_4.heap.size, 0, none⟩ = some (.int .u64 dh) := (f_d).cell 0
  have d_1 : w_5.cell? ⟨w_4.heap.size, 1, none⟩ = some (.int .u64 dl) := (f_d).cell 1
  have d_f0 := (f_d).frozen 0
  have d_f1 := (f_d).frozen 1
  have d_l := (f_d).lt
  replace f_d := Lib.hid f_d
  replace hB_5 := Lib.hid hB_5
  cases f2
  case false =>
    go_wp2_with fail
    go_ret
    exact ⟨rfl, by have t_B := hB_5.out; (repeat (first | with_reducible exact Below.refl _ _ | with_reducible assumption | (with_reducible refine bel_set ?_ (by first | exact Nat.le_refl _ | (simp; done) | (simp; omega) | omega) _) | with_reducible refine bel_grow ?_ _ | with_reducible refine Below.drew ?_ | with_reducible refine bel_alloc ?_ _ | with_reducible refine bel_eld ?_ (by assumption)))⟩
  case true =>
  go_wp2_with fail
  refine (HB2.out _).mono ?_
  rintro e w_6 ⟨rfl, hb_6⟩
  have z_6 := hb_6.size
  try simp at z_6
  have t_ := hB_5.out
  have hB_6 := bel_eld (w := w) (X := _) (by first | ((repeat (first | with_reducible exact Below.refl _ _ | with_reducible assumption | (with_reducible refine bel_set ?_ (by first | exact Nat.le_refl _ | (simp; done) | (simp; omega) | omega) _) | with_reducible refine bel_grow ?_ _ | with_reducible refine Below.drew ?_ | with_reducible refine below_drewN ?_ _ | with_reducible refine bel_alloc ?_ _ | with_reducible refine bel_trans ?_ (by assumption))); done) | (repeat (first | exact Below.refl _ _ | assumption | refine below_drewN ?_ _ | refine bel_grow ?_ _ | refine Below.drew ?_ | refine bel_alloc ?_ _ | refine bel_set ?_ (by first | exact Nat.le_refl _ | (simp; done) | (simp; omega) | omega) _ | refine bel_trans ?_ (by assumption)))) hb_6
  clear t_
  have t_x := f_x.out
  have t_n := f_n.out
  have t_p := f_p.out
  have t_d := f_d.out
  have g_x : Blk w_6 (w.heap.size) 28 #[.int .u64 xi1, .int .u64 xi2, .int .u64 xd1, .int .u64 xd2, .int .u64 xc1, .int .u64 xc2, .int .u64 xm1, .int .u64 xm2, .int .u64 xw1, .int .u64 xw2, .int .u64 xtg, .int .u32 xto, .int .u32 xlg, .int .u16 xcd, .int .u16 xfl, .int .u64 xst] := by
    refine Blk.kept ?_ hb_6
    (repeat (first | with_reducible assumption | (with_reducible refine Blk.new' ?_; first | with_reducible rfl | (simp; done)) | with_reducible refine Blk.alloc ?_ _ | with_reducible refine Blk.grow ?_ _ | with_reducible refine Blk.drew ?_ | with_reducible refine Blk.drewN ?_ _ | (with_reducible refine Blk.far ?_ (by first | (dsimp only; omega) | (simp; omega)) _) | (with_reducible apply Blk.two) | (with_reducible refine Blk.set' ?_ _ _ ?_) | (with_reducible rfl) | rfl))
  have g_n : Blk w_6 (w.heap.size + 1) 24 #[.int .u64 n1, .int .u64 n2] := by
    refine Blk.kept ?_ hb_6
    (repeat (first | with_reducible assumption | (with_reducible refine Blk.new' ?_; first | with_reducible rfl | (simp; done)) | with_reducible refine Blk.alloc ?_ _ | with_reducible refine Blk.grow ?_ _ | with_reducible refine Blk.drew ?_ | with_reducible refine Blk.drewN ?_ _ | (with_reducible refine Blk.far ?_ (by first | (dsimp only; omega) | (simp; omega)) _) | (with_reducible apply Blk.two) | (with_reducible refine Blk.set' ?_ _ _ ?_) | (with_reducible rfl) | rfl))
  have g_p : Blk w_6 (w.heap.size + 2) 32 #[.int .u64 ai1, .int .u64 ai2, .int .u64 ap1, .int .u64 ap2, .int .u64 aq1, .int .u64 aq2, .int .u64 ar1, .int .u64 ar2, .int .u64 as1, .int .u64 as2, .int .u64 atg, .int .u32 alg, .int .u16 acd, .int .u16 afl, .int .u64 ast, .int .u64 ei1, .int .u64 ei2, .int .u64 ep1, .int .u64 ep2, .int .u64 eq1, .int .u64 eq2, .int .u64 er1, .int .u64 er2, .int .u64 es1, .int .u64 es2, .int .u64 etg, .int .u32 elg, .int .u16 ecd, .int .u16 efl, .int .u64 est, .bool hd, .bool hc] := by
    refine Blk.kept ?_ hb_6
    (repeat (first | with_reducible assumption | (with_reducible refine Blk.new' ?_; first | with_reducible rfl | (simp; done)) | with_reducible refine Blk.alloc ?_ _ | with_reducible refine Blk.grow ?_ _ | with_reducible refine Blk.drew ?_ | with_reducible refine Blk.drewN ?_ _ | (with_reducible refine Blk.far ?_ (by first | (dsimp only; omega) | (simp; omega)) _) | (with_reducible apply Blk.two) | (with_reducible refine Blk.set' ?_ _ _ ?_) | (with_reducible rfl) | rfl))
  have g_d : Blk w_6 (w_4.heap.size) 24 #[.int .u64 dh, .int .u64 dl] := by
    refine Blk.kept ?_ hb_6
    (repeat (first | with_reducible assumption | (with_reducible refine Blk.new' ?_; first | with_reducible rfl | (simp; done)) | with_reducible refine Blk.alloc ?_ _ | with_reducible refine Blk.grow ?_ _ | with_reducible refine Blk.drew ?_ | with_reducible refine Blk.drewN ?_ _ | (with_reducible refine Blk.far ?_ (by first | (dsimp only; omega) | (simp; omega)) _) | (with_reducible apply Blk.two) | (with_reducible refine Blk.set' ?_ _ _ ?_) | (with_reducible rfl) | rfl))
  have g_c : Blk w_6 (w_5.heap.size) 24 #[.int .u64 ch, .int .u64 cl] := by
    refine Blk.kept ?_ hb_6
    (repeat (first | with_reducible assumption | (with_reducible refine Blk.new' ?_; first | with_reducible rfl | (simp; done)) | with_reducible refine Blk.alloc ?_ _ | with_reducible refine Blk.grow ?_ _ | with_reducible refine Blk.drew ?_ | with_reducible refine Blk.drewN ?_ _ | (with_reducible refine Blk.far ?_ (by first | (dsimp only; omega) | (simp; omega)) _) | (with_reducible apply Blk.two) | (with_reducible refine Blk.set' ?_ _ _ ?_) | (with_reducible rfl) | rfl))
  clear f_x x_l r_x x_14 x_f14 f_n n_l n_0 n_1 n_f0 n_f1 f_p p_l r_p p_2 p_f2 p_3 p_f3 p_4 p_f4 p_5 p_f5 p_8 p_f8 p_9 p_f9 p_13 p_f13 p_19 p_f19 p_20 p_f20 p_21 p_f21 p_22 p_f22 p_23 p_f23 p_24 p_f24 p_28 p_f28 f_d d_l d_0 d_1 d_f0 d_f1 t_x t_n t_p t_d hB_5 hb_6
  have f_x := g_x
  clear g_x
  have f_n := g_n
  clear g_n
  have f_p := g_p
  clear g_p
  have f_d := g_d
  clear g_d
  have f_c := g_c
  clear g_c
  have r_x := rowAt_blk f_x
  have x_l := f_x.lt
  have x_14 : w_6.cell? ⟨w.heap.size, 14, none⟩ = some (.int .u16 xfl) := (f_x).cell 14
  have x_f14 := (f_x).frozen 14
  replace f_x := Lib.hid f_x
  have n_0 : w_6.cell? ⟨w.heap.size + 1, 0, none⟩ = some (.int .u64 n1) := (f_n).cell 0
  have n_1 : w_6.cell? ⟨w.heap.size + 1, 1, none⟩ = some (.int .u64 n2) := (f_n).cell 1
  have n_f0 := (f_n).frozen 0
  have n_f1 := (f_n).frozen 1
  have n_l := (f_n).lt
  replace f_n := Lib.hid f_n
  have r_p := rowAt_blk f_p
  have p_l := f_p.lt
  have p_2 : w_6.cell? ⟨w.heap.size + 2, 2, none⟩ = some (.int .u64 ap1) := (f_p).cell 2
  have p_f2 := (f_p).frozen 2
  have p_3 : w_6.cell? ⟨w.heap.size + 2, 3, none⟩ = some (.int .u64 ap2) := (f_p).cell 3
  have p_f3 := (f_p).frozen 3
  have p_4 : w_6.cell? ⟨w.heap.size + 2, 4, none⟩ = some (.int .u64 aq1) := (f_p).cell 4
  have p_f4 := (f_p).frozen 4
  have p_5 : w_6.cell? ⟨w.heap.size + 2, 5, none⟩ = some (.int .u64 aq2) := (f_p).cell 5
  have p_f5 := (f_p).frozen 5
  have p_8 : w_6.cell? ⟨w.heap.size + 2, 8, none⟩ = some (.int .u64 as1) := (f_p).cell 8
  have p_f8 := (f_p).frozen 8
  have p_9 : w_6.cell? ⟨w.heap.size + 2, 9, none⟩ = some (.int .u64 as2) := (f_p).cell 9
  have p_f9 := (f_p).frozen 9
  have p_13 : w_6.cell? ⟨w.heap.size + 2, 13, none⟩ = some (.int .u16 afl) := (f_p).cell 13
  have p_f13 := (f_p).frozen 13
  have p_19 : w_6.cell? ⟨w.heap.size + 2, 19, none⟩ = some (.int .u64 eq1) := (f_p).cell 19
  have p_f19 := (f_p).frozen 19
  have p_20 : w_6.cell? ⟨w.heap.size + 2, 20, none⟩ = some (.int .u64 eq2) := (f_p).cell 20
  have p_f20 := (f_p).frozen 20
  have p_21 : w_6.cell? ⟨w.heap.size + 2, 21, none⟩ = some (.int .u64 er1) := (f_p).cell 21
  have p_f21 := (f_p).frozen 21
  have p_22 : w_6.cell? ⟨w.heap.size + 2, 22, none⟩ = some (.int .u64 er2) := (f_p).cell 22
  have p_f22 := (f_p).frozen 22
  have p_23 : w_6.cell? ⟨w.heap.size + 2, 23, none⟩ = some (.int .u64 es1) := (f_p).cell 23
  have p_f23 := (f_p).frozen 23
  have p_24 : w_6.cell? ⟨w.heap.size + 2, 24, none⟩ = some (.int .u64 es2) := (f_p).cell 24
  have p_f24 := (f_p).frozen 24
  have p_28 : w_6.cell? ⟨w.heap.size + 2, 28, none⟩ = some (.int .u16 efl) := (f_p).cell 28
  have p_f28 := (f_p).frozen 28
  replace f_p := Lib.hid f_p
  have d_0 : w_6.cell? ⟨w_4.heap.size, 0, none⟩ = some (.int .u64 dh) := (f_d).cell 0
  have d_1 : w_6.cell? ⟨w_4.heap.size, 1, none⟩ = some (.int .u64 dl) := (f_d).cell 1
  have d_f0 := (f_d).frozen 0
  have d_f1 := (f_d).frozen 1
  have d_l := (f_d).lt
  replace f_d := Lib.hid f_d
  have c_0 : w_6.cell? ⟨w_5.heap.size, 0, none⟩ = some (.int .u64 ch) := (f_c).cell 0
  have c_1 : w_6.cell? ⟨w_5.heap.size, 1, none⟩ = some (.int .u64 cl) := (f_c).cell 1
  have c_f0 := (f_c).frozen 0
  have c_f1 := (f_c).frozen 1
  have c_l := (f_c).lt
  replace f_c := Lib.hid f_c
  replace hB_6 := Lib.hid hB_6

  cases b2
  case false =>
    go_wp2_with fail
    refine (HB4.out _).mono ?_
    rintro e w_7 ⟨rfl, hb_7⟩
    have z_7 := hb_7.size
    try simp at z_7
    have t_ := hB_6.out
    have hB_7 := bel_eld (w := w) (X := _) (by first | ((repeat (first | with_reducible exact Below.refl _ _ | with_reducible assumption | (with_reducible refine bel_set ?_ (by first | exact Nat.le_refl _ | (simp; done) | (simp; omega) | omega) _) | with_reducible refine bel_grow ?_ _ | with_reducible refine Below.drew ?_ | with_reducible refine below_drewN ?_ _ | with_reducible refine bel_alloc ?_ _ | with_reducible refine bel_trans ?_ (by assumption))); done) | (repeat (first | exact Below.refl _ _ | assumption | refine below_drewN ?_ _ | refine bel_grow ?_ _ | refine Below.drew ?_ | refine bel_alloc ?_ _ | refine bel_set ?_ (by first | exact Nat.le_refl _ | (simp; done) | (simp; omega) | omega) _ | refine bel_trans ?_ (by assumption)))) hb_7
    clear t_
    have t_x := f_x.out
    have t_n := f_n.out
    have t_p := f_p.out
    have t_d := f_d.out
    have t_c := f_c.out
    have g_x : Blk w_7 (w.heap.size) 28 #[.int .u64 xi1, .int .u64 xi2, .int .u64 xd1, .int .u64 xd2, .int .u64 xc1, .int .u64 xc2, .int .u64 xm1, .int .u64 xm2, .int .u64 xw1, .int .u64 xw2, .int .u64 xtg, .int .u32 xto, .int .u32 xlg, .int .u16 xcd, .int .u16 xfl, .int .u64 xst] := by
      refine Blk.kept ?_ hb_7
      (repeat (first | with_reducible assumption | (with_reducible refine Blk.new' ?_; first | with_reducible rfl | (simp; done)) | with_reducible refine Blk.alloc ?_ _ | with_reducible refine Blk.grow ?_ _ | with_reducible refine Blk.drew ?_ | with_reducible refine Blk.drewN ?_ _ | (with_reducible refine Blk.far ?_ (by first | (dsimp only; omega) | (simp; omega)) _) | (with_reducible apply Blk.two) | (with_reducible refine Blk.set' ?_ _ _ ?_) | (with_reducible rfl) | rfl))
    have g_n : Blk w_7 (w.heap.size + 1) 24 #[.int .u64 n1, .int .u64 n2] := by
      refine Blk.kept ?_ hb_7
      (repeat (first | with_reducible assumption | (with_reducible refine Blk.new' ?_; first | with_reducible rfl | (simp; done)) | with_reducible refine Blk.alloc ?_ _ | with_reducible refine Blk.grow ?_ _ | with_reducible refine Blk.drew ?_ | with_reducible refine Blk.drewN ?_ _ | (with_reducible refine Blk.far ?_ (by first | (dsimp only; omega) | (simp; omega)) _) | (with_reducible apply Blk.two) | (with_reducible refine Blk.set' ?_ _ _ ?_) | (with_reducible rfl) | rfl))
    have g_p : Blk w_7 (w.heap.size + 2) 32 #[.int .u64 ai1, .int .u64 ai2, .int .u64 ap1, .int .u64 ap2, .int .u64 aq1, .int .u64 aq2, .int .u64 ar1, .int .u64 ar2, .int .u64 as1, .int .u64 as2, .int .u64 atg, .int .u32 alg, .int .u16 acd, .int .u16 afl, .int .u64 ast, .int .u64 ei1, .int .u64 ei2, .int .u64 ep1, .int .u64 ep2, .int .u64 eq1, .int .u64 eq2, .int .u64 er1, .int .u64 er2, .int .u64 es1, .int .u64 es2, .int .u64 etg, .int .u32 elg, .int .u16 ecd, .int .u16 efl, .int .u64 est, .bool hd, .bool hc] := by
      refine Blk.kept ?_ hb_7
      (repeat (first | with_reducible assumption | (with_reducible refine Blk.new' ?_; first | with_reducible rfl | (simp; done)) | with_reducible refine Blk.alloc ?_ _ | with_reducible refine Blk.grow ?_ _ | with_reducible refine Blk.drew ?_ | with_reducible refine Blk.drewN ?_ _ | (with_reducible refine Blk.far ?_ (by first | (dsimp only; omega) | (simp; omega)) _) | (with_reducible apply Blk.two) | (with_reducible refine Blk.set' ?_ _ _ ?_) | (with_reducible rfl) | rfl))
    have g_d : Blk w_7 (w_4.heap.size) 24 #[.int .u64 dh, .int .u64 dl] := by
      refine Blk.kept ?_ hb_7
      (repeat (first | with_reducible assumption | (with_reducible refine Blk.new' ?_; first | with_reducible rfl | (simp; done)) | with_reducible refine Blk.alloc ?_ _ | with_reducible refine Blk.grow ?_ _ | with_reducible refine Blk.drew ?_ | with_reducible refine Blk.drewN ?_ _ | (with_reducible refine Blk.far ?_ (by first | (dsimp only; omega) | (simp; omega)) _) | (with_reducible apply Blk.two) | (with_reducible refine Blk.set' ?_ _ _ ?_) | (with_reducible rfl) | rfl))
    have g_c : Blk w_7 (w_5.heap.size) 24 #[.int .u64 ch, .int .u64 cl] := by
      refine Blk.kept ?_ hb_7
      (repeat (first | with_reducible assumption | (with_reducible refine Blk.new' ?_; first | with_reducible rfl | (simp; done)) | with_reducible refine Blk.alloc ?_ _ | with_reducible refine Blk.grow ?_ _ | with_reducible refine Blk.drew ?_ | with_reducible refine Blk.drewN ?_ _ | (with_reducible refine Blk.far ?_ (by first | (dsimp only; omega) | (simp; omega)) _) | (with_reducible apply Blk.two) | (with_reducible refine Blk.set' ?_ _ _ ?_) | (with_reducible rfl) | rfl))
    clear f_x x_l r_x x_14 x_f14 f_n n_l n_0 n_1 n_f0 n_f1 f_p p_l r_p p_2 p_f2 p_3 p_f3 p_4 p_f4 p_5 p_f5 p_8 p_f8 p_9 p_f9 p_13 p_f13 p_19 p_f19 p_20 p_f20 p_21 p_f21 p_22 p_f22 p_23 p_f23 p_24 p_f24 p_28 p_f28 f_d d_l d_0 d_1 d_f0 d_f1 f_c c_l c_0 c_1 c_f0 c_f1 t_x t_n t_p t_d t_c hB_6 hb_7
    have f_x := g_x
    clear g_x
    have f_n := g_n
    clear g_n
    have f_p := g_p
    clear g_p
    have f_d := g_d
    clear g_d
    have f_c := g_c
    clear g_c
    have r_x := rowAt_blk f_x
    have x_l := f_x.lt
    have x_14 : w_7.cell? ⟨w.heap.size, 14, none⟩ = some (.int .u16 xfl) := (f_x).cell 14
    have x_f14 := (f_x).frozen 14
    replace f_x := Lib.hid f_x
    have n_0 : w_7.cell? ⟨w.heap.size + 1, 0, none⟩ = some (.int .u64 n1) := (f_n).cell 0
    have n_1 : w_7.cell? ⟨w.heap.size + 1, 1, none⟩ = some (.int .u64 n2) := (f_n).cell 1
    have n_f0 := (f_n).frozen 0
    have n_f1 := (f_n).frozen 1
    have n_l := (f_n).lt
    replace f_n := Lib.hid f_n
    have r_p := rowAt_blk f_p
    have p_l := f_p.lt
    have p_2 : w_7.cell? ⟨w.heap.size + 2, 2, none⟩ = some (.int .u64 ap1) := (f_p).cell 2
    have p_f2 := (f_p).frozen 2
    have p_3 : w_7.cell? ⟨w.heap.size + 2, 3, none⟩ = some (.int .u64 ap2) := (f_p).cell 3
    have p_f3 := (f_p).frozen 3
    have p_4 : w_7.cell? ⟨w.heap.size + 2, 4, none⟩ = some (.int .u64 aq1) := (f_p).cell 4
    have p_f4 := (f_p).frozen 4
    have p_5 : w_7.cell? ⟨w.heap.size + 2, 5, none⟩ = some (.int .u64 aq2) := (f_p).cell 5
    have p_f5 := (f_p).frozen 5
    have p_8 : w_7.cell? ⟨w.heap.size + 2, 8, none⟩ = some (.int .u64 as1) := (f_p).cell 8
    have p_f8 := (f_p).frozen 8
    have p_9 : w_7.cell? ⟨w.heap.size + 2, 9, none⟩ = some (.int .u64 as2) := (f_p).cell 9
    have p_f9 := (f_p).frozen 9
    have p_13 : w_7.cell? ⟨w.heap.size + 2, 13, none⟩ = some (.int .u16 afl) := (f_p).cell 13
    have p_f13 := (f_p).frozen 13
    have p_19 : w_7.cell? ⟨w.heap.size + 2, 19, none⟩ = some (.int .u64 eq1) := (f_p).cell 19
    have p_f19 := (f_p).frozen 19
    have p_20 : w_7.cell? ⟨w.heap.size + 2, 20, none⟩ = some (.int .u64 eq2) := (f_p).cell 20
    have p_f20 := (f_p).frozen 20
    have p_21 : w_7.cell? ⟨w.heap.size + 2, 21, none⟩ = some (.int .u64 er1) := (f_p).cell 21
    have p_f21 := (f_p).frozen 21
    have p_22 : w_7.cell? ⟨w.heap.size + 2, 22, none⟩ = some (.int .u64 er2) := (f_p).cell 22
    have p_f22 := (f_p).frozen 22
    have p_23 : w_7.cell? ⟨w.heap.size + 2, 23, none⟩ = some (.int .u64 es1) := (f_p).cell 23
    have p_f23 := (f_p).frozen 23
    have p_24 : w_7.cell? ⟨w.heap.size + 2, 24, none⟩ = some (.int .u64 es2) := (f_p).cell 24
    have p_f24 := (f_p).frozen 24
    have p_28 : w_7.cell? ⟨w.heap.size + 2, 28, none⟩ = some (.int .u16 efl) := (f_p).cell 28
    have p_f28 := (f_p).frozen 28
    replace f_p := Lib.hid f_p
    have d_0 : w_7.cell? ⟨w_4.heap.size, 0, none⟩ = some (.int .u64 dh) := (f_d).cell 0
    have d_1 : w_7.cell? ⟨w_4.heap.size, 1, none⟩ = some (.int .u64 dl) := (f_d).cell 1
    have d_f0 := (f_d).frozen 0
    have d_f1 := (f_d).frozen 1
    have d_l := (f_d).lt
    replace f_d := Lib.hid f_d
    have c_0 : w_7.cell? ⟨w_5.heap.size, 0, none⟩ = some (.int .u64 ch) := (f_c).cell 0
    have c_1 : w_7.cell? ⟨w_5.heap.size, 1, none⟩ = some (.int .u64 cl) := (f_c).cell 1
    have c_f0 := (f_c).frozen 0
    have c_f1 := (f_c).frozen 1
    have c_l := (f_c).lt
    replace f_c := Lib.hid f_c
    replace hB_7 := Lib.hid hB_7

    cases b4
    case false =>
      go_wp2_with fail
      go_ret
      exact ⟨rfl, by have t_B := hB_7.out; (repeat (first | with_reducible exact Below.refl _ _ | with_reducible assumption | (with_reducible refine bel_set ?_ (by first | exact Nat.le_refl _ | (simp; done) | (simp; omega) | omega) _) | with_reducible refine bel_grow ?_ _ | with_reducible refine Below.drew ?_ | with_reducible refine bel_alloc ?_ _ | with_reducible refine bel_eld ?_ (by assumption)))⟩
    case true =>
    go_wp2_with fail
    refine (HC2.out _).mono ?_
    rintro e w_8 ⟨rfl, hb_8⟩
    have z_8 := hb_8.size
    try simp at z_8
    have t_ := hB_7.out
    have hB_8 := bel_eld (w := w) (X := _) (by first | ((repeat (first | with_reducible exact Below.refl _ _ | with_reducible assumption | (with_reducible refine bel_set ?_ (by first | exact Nat.le_refl _ | (simp; done) | (simp; omega) | omega) _) | with_reducible refine bel_grow ?_ _ | with_reducible refine Below.drew ?_ | with_reducible refine below_drewN ?_ _ | with_reducible refine bel_alloc ?_ _ | with_reducible refine bel_trans ?_ (by assumption))); done) | (repeat (first | exact Below.refl _ _ | assumption | refine below_drewN ?_ _ | refine bel_grow ?_ _ | refine Below.drew ?_ | refine bel_alloc ?_ _ | refine bel_set ?_ (by first | exact Nat.le_refl _ | (simp; done) | (simp; omega) | omega) _ | refine bel_trans ?_ (by assumption)))) hb_8
    clear t_
    have t_x := f_x.out
    have t_n := f_n.out
    have t_p := f_p.out
    have t_d := f_d.out
    have t_c := f_c.out
    have g_x : Blk w_8 (w.heap.size) 28 #[.int .u64 xi1, .int .u64 xi2, .int .u64 xd1, .int .u64 xd2, .int .u64 xc1, .int .u64 xc2, .int .u64 xm1, .int .u64 xm2, .int .u64 xw1, .int .u64 xw2, .int .u64 xtg, .int .u32 xto, .int .u32 xlg, .int .u16 xcd, .int .u16 xfl, .int .u64 xst] := by
      refine Blk.kept ?_ hb_8
      (repeat (first | with_reducible assumption | (with_reducible refine Blk.new' ?_; first | with_reducible rfl | (simp; done)) | with_reducible refine Blk.alloc ?_ _ | with_reducible refine Blk.grow ?_ _ | with_reducible refine Blk.drew ?_ | with_reducible refine Blk.drewN ?_ _ | (with_reducible refine Blk.far ?_ (by first | (dsimp only; omega) | (simp; omega)) _) | (with_reducible apply Blk.two) | (with_reducible refine Blk.set' ?_ _ _ ?_) | (with_reducible rfl) | rfl))
    have g_n : Blk w_8 (w.heap.size + 1) 24 #[.int .u64 n1, .int .u64 n2] := by
      refine Blk.kept ?_ hb_8
      (repeat (first | with_reducible assumption | (with_reducible refine Blk.new' ?_; first | with_reducible rfl | (simp; done)) | with_reducible refine Blk.alloc ?_ _ | with_reducible refine Blk.grow ?_ _ | with_reducible refine Blk.drew ?_ | with_reducible refine Blk.drewN ?_ _ | (with_reducible refine Blk.far ?_ (by first | (dsimp only; omega) | (simp; omega)) _) | (with_reducible apply Blk.two) | (with_reducible refine Blk.set' ?_ _ _ ?_) | (with_reducible rfl) | rfl))
    have g_p : Blk w_8 (w.heap.size + 2) 32 #[.int .u64 ai1, .int .u64 ai2, .int .u64 ap1, .int .u64 ap2, .int .u64 aq1, .int .u64 aq2, .int .u64 ar1, .int .u64 ar2, .int .u64 as1, .int .u64 as2, .int .u64 atg, .int .u32 alg, .int .u16 acd, .int .u16 afl, .int .u64 ast, .int .u64 ei1, .int .u64 ei2, .int .u64 ep1, .int .u64 ep2, .int .u64 eq1, .int .u64 eq2, .int .u64 er1, .int .u64 er2, .int .u64 es1, .int .u64 es2, .int .u64 etg, .int .u32 elg, .int .u16 ecd, .int .u16 efl, .int .u64 est, .bool hd, .bool hc] := by
      refine Blk.kept ?_ hb_8
      (repeat (first | with_reducible assumption | (with_reducible refine Blk.new' ?_; first | with_reducible rfl | (simp; done)) | with_reducible refine Blk.alloc ?_ _ | with_reducible refine Blk.grow ?_ _ | with_reducible refine Blk.drew ?_ | with_reducible refine Blk.drewN ?_ _ | (with_reducible refine Blk.far ?_ (by first | (dsimp only; omega) | (simp; omega)) _) | (with_reducible apply Blk.two) | (with_reducible refine Blk.set' ?_ _ _ ?_) | (with_reducible rfl) | rfl))
    have g_d : Blk w_8 (w_4.heap.size) 24 #[.int .u64 dh, .int .u64 dl] := by
      refine Blk.kept ?_ hb_8
      (repeat (first | with_reducible assumption | (with_reducible refine Blk.new' ?_; first | with_reducible rfl | (simp; done)) | with_reducible refine Blk.alloc ?_ _ | with_reducible refine Blk.grow ?_ _ | with_reducible refine Blk.drew ?_ | with_reducible refine Blk.drewN ?_ _ | (with_reducible refine Blk.far ?_ (by first | (dsimp only; omega) | (simp; omega)) _) | (with_reducible apply Blk.two) | (with_reducible refine Blk.set' ?_ _ _ ?_) | (with_reducible rfl) | rfl))
    have g_c : Blk w_8 (w_5.heap.size) 24 #[.int .u64 ch, .int .u64 cl] := by
      refine Blk.kept ?_ hb_8
      (repeat (first | with_reducible assumption | (with_reducible refine Blk.new' ?_; first | with_reducible rfl | (simp; done)) | with_reducible refine Blk.alloc ?_ _ | with_reducible refine Blk.grow ?_ _ | with_reducible refine Blk.drew ?_ | with_reducible refine Blk.drewN ?_ _ | (with_reducible refine Blk.far ?_ (by first | (dsimp only; omega) | (simp; omega)) _) | (with_reducible apply Blk.two) | (with_reducible refine Blk.set' ?_ _ _ ?_) | (with_reducible rfl) | rfl))
    clear f_x x_l r_x x_14 x_f14 f_n n_l n_0 n_1 n_f0 n_f1 f_p p_l r_p p_2 p_f2 p_3 p_f3 p_4 p_f4 p_5 p_f5 p_8 p_f8 p_9 p_f9 p_13 p_f13 p_19 p_f19 p_20 p_f20 p_21 p_f21 p_22 p_f22 p_23 p_f23 p_24 p_f24 p_28 p_f28 f_d d_l d_0 d_1 d_f0 d_f1 f_c c_l c_0 c_1 c_f0 c_f1 t_x t_n t_p t_d t_c hB_7 hb_8
    have f_x := g_x
    clear g_x
    have f_n := g_n
    clear g_n
    have f_p := g_p
    clear g_p
    have f_d := g_d
    clear g_d
    have f_c := g_c
    clear g_c
    have r_x := rowAt_blk f_x
    have x_l := f_x.lt
    have x_14 : w_8.cell? ⟨w.heap.size, 14, none⟩ = some (.int .u16 xfl) := (f_x).cell 14
    have x_f14 := (f_x).frozen 14
    replace f_x := Lib.hid f_x
    have n_0 : w_8.cell? ⟨w.heap.size + 1, 0, none⟩ = some (.int .u64 n1) := (f_n).cell 0
    have n_1 : w_8.cell? ⟨w.heap.size + 1, 1, none⟩ = some (.int .u64 n2) := (f_n).cell 1
    have n_f0 := (f_n).frozen 0
    have n_f1 := (f_n).frozen 1
    have n_l := (f_n).lt
    replace f_n := Lib.hid f_n
    have r_p := rowAt_blk f_p
    have p_l := f_p.lt
    have p_2 : w_8.cell? ⟨w.heap.size + 2, 2, none⟩ = some (.int .u64 ap1) := (f_p).cell 2
    have p_f2 := (f_p).frozen 2
    have p_3 : w_8.cell? ⟨w.heap.size + 2, 3, none⟩ = some (.int .u64 ap2) := (f_p).cell 3
    have p_f3 := (f_p).frozen 3
    have p_4 : w_8.cell? ⟨w.heap.size + 2, 4, none⟩ = some (.int .u64 aq1) := (f_p).cell 4
    have p_f4 := (f_p).frozen 4
    have p_5 : w_8.cell? ⟨w.heap.size + 2, 5, none⟩ = some (.int .u64 aq2) := (f_p).cell 5
    have p_f5 := (f_p).frozen 5
    have p_8 : w_8.cell? ⟨w.heap.size + 2, 8, none⟩ = some (.int .u64 as1) := (f_p).cell 8
    have p_f8 := (f_p).frozen 8
    have p_9 : w_8.cell? ⟨w.heap.size + 2, 9, none⟩ = some (.int .u64 as2) := (f_p).cell 9
    have p_f9 := (f_p).frozen 9
    have p_13 : w_8.cell? ⟨w.heap.size + 2, 13, none⟩ = some (.int .u16 afl) := (f_p).cell 13
    have p_f13 := (f_p).frozen 13
    have p_19 : w_8.cell? ⟨w.heap.size + 2, 19, none⟩ = some (.int .u64 eq1) := (f_p).cell 19
    have p_f19 := (f_p).frozen 19
    have p_20 : w_8.cell? ⟨w.heap.size + 2, 20, none⟩ = some (.int .u64 eq2) := (f_p).cell 20
    have p_f20 := (f_p).frozen 20
    have p_21 : w_8.cell? ⟨w.heap.size + 2, 21, none⟩ = some (.int .u64 er1) := (f_p).cell 21
    have p_f21 := (f_p).frozen 21
    have p_22 : w_8.cell? ⟨w.heap.size + 2, 22, none⟩ = some (.int .u64 er2) := (f_p).cell 22
    have p_f22 := (f_p).frozen 22
    have p_23 : w_8.cell? ⟨w.heap.size + 2, 23, none⟩ = some (.int .u64 es1) := (f_p).cell 23
    have p_f23 := (f_p).frozen 23
    have p_24 : w_8.cell? ⟨w.heap.size + 2, 24, none⟩ = some (.int .u64 es2) := (f_p).cell 24
    have p_f24 := (f_p).frozen 24
    have p_28 : w_8.cell? ⟨w.heap.size + 2, 28, none⟩ = some (.int .u16 efl) := (f_p).cell 28
    have p_f28 := (f_p).frozen 28
    replace f_p := Lib.hid f_p
    have d_0 : w_8.cell? ⟨w_4.heap.size, 0, none⟩ = some (.int .u64 dh) := (f_d).cell 0
    have d_1 : w_8.cell? ⟨w_4.heap.size, 1, none⟩ = some (.int .u64 dl) := (f_d).cell 1
    have d_f0 := (f_d).frozen 0
    have d_f1 := (f_d).frozen 1
    have d_l := (f_d).lt
    replace f_d := Lib.hid f_d
    have c_0 : w_8.cell? ⟨w_5.heap.size, 0, none⟩ = some (.int .u64 ch) := (f_c).cell 0
    have c_1 : w_8.cell? ⟨w_5.heap.size, 1, none⟩ = some (.int .u64 cl) := (f_c).cell 1
    have c_f0 := (f_c).frozen 0
    have c_f1 := (f_c).frozen 1
    have c_l := (f_c).lt
    replace f_c := Lib.hid f_c
    replace hB_8 := Lib.hid hB_8
    cases x2
    all_goals (
      go_wp2_with fail
      go_ret
      exact ⟨rfl, by have t_B := hB_8.out; (repeat (first | with_reducible exact Below.refl _ _ | with_reducible assumption | (with_reducible refine bel_set ?_ (by first | exact Nat.le_refl _ | (simp; done) | (simp; omega) | omega) _) | with_reducible refine bel_grow ?_ _ | with_reducible refine Below.drew ?_ | with_reducible refine bel_alloc ?_ _ | with_reducible refine bel_eld ?_ (by assumption)))⟩)
  case true =>

  go_wp2_with fail
  refine (HC1.out _).mono ?_
  rintro e w_7 ⟨rfl, hb_7⟩
  have z_7 := hb_7.size
  try simp at z_7
  have t_ := hB_6.out
  have hB_7 := bel_eld (w := w) (X := _) (by first | ((repeat (first | with_reducible exact Below.refl _ _ | with_reducible assumption | (with_reducible refine bel_set ?_ (by first | exact Nat.le_refl _ | (simp; done) | (simp; omega) | omega) _) | with_reducible refine bel_grow ?_ _ | with_reducible refine Below.drew ?_ | with_reducible refine below_drewN ?_ _ | with_reducible refine bel_alloc ?_ _ | with_reducible refine bel_trans ?_ (by assumption))); done) | (repeat (first | exact Below.refl _ _ | assumption | refine below_drewN ?_ _ | refine bel_grow ?_ _ | refine Below.drew ?_ | refine bel_alloc ?_ _ | refine bel_set ?_ (by first | exact Nat.le_refl _ | (simp; done) | (simp; omega) | omega) _ | refine bel_trans ?_ (by assumption)))) hb_7
  clear t_
  have t_x := f_x.out
  have t_n := f_n.out
  have t_p := f_p.out
  have t_d := f_d.out
  have t_c := f_c.out
  have g_x : Blk w_7 (w.heap.size) 28 #[.int .u64 xi1, .int .u64 xi2, .int .u64 xd1, .int .u64 xd2, .int .u64 xc1, .int .u64 xc2, .int .u64 xm1, .int .u64 xm2, .int .u64 xw1, .int .u64 xw2, .int .u64 xtg, .int .u32 xto, .int .u32 xlg, .int .u16 xcd, .int .u16 xfl, .int .u64 xst] := by
    refine Blk.kept ?_ hb_7
    (repeat (first | with_reducible assumption | (with_reducible refine Blk.new' ?_; first | with_reducible rfl | (simp; done)) | with_reducible refine Blk.alloc ?_ _ | with_reducible refine Blk.grow ?_ _ | with_reducible refine Blk.drew ?_ | with_reducible refine Blk.drewN ?_ _ | (with_reducible refine Blk.far ?_ (by first | (dsimp only; omega) | (simp; omega)) _) | (with_reducible apply Blk.two) | (with_reducible refine Blk.set' ?_ _ _ ?_) | (with_reducible rfl) | rfl))
  have g_n : Blk w_7 (w.heap.size + 1) 24 #[.int .u64 n1, .int .u64 n2] := by
    refine Blk.kept ?_ hb_7
    (repeat (first | with_reducible assumption | (with_reducible refine Blk.new' ?_; first | with_reducible rfl | (simp; done)) | with_reducible refine Blk.alloc ?_ _ | with_reducible refine Blk.grow ?_ _ | with_reducible refine Blk.drew ?_ | with_reducible refine Blk.drewN ?_ _ | (with_reducible refine Blk.far ?_ (by first | (dsimp only; omega) | (simp; omega)) _) | (with_reducible apply Blk.two) | (with_reducible refine Blk.set' ?_ _ _ ?_) | (with_reducible rfl) | rfl))
  have g_p : Blk w_7 (w.heap.size + 2) 32 #[.int .u64 ai1, .int .u64 ai2, .int .u64 ap1, .int .u64 ap2, .int .u64 aq1, .int .u64 aq2, .int .u64 ar1, .int .u64 ar2, .int .u64 as1, .int .u64 as2, .int .u64 atg, .int .u32 alg, .int .u16 acd, .int .u16 afl, .int .u64 ast, .int .u64 ei1, .int .u64 ei2, .int .u64 ep1, .int .u64 ep2, .int .u64 eq1, .int .u64 eq2, .int .u64 er1, .int .u64 er2, .int .u64 es1, .int .u64 es2, .int .u64 etg, .int .u32 elg, .int .u16 ecd, .int .u16 efl, .int .u64 est, .bool hd, .bool hc] := by
    refine Blk.kept ?_ hb_7
    (repeat (first | with_reducible assumption | (with_reducible refine Blk.new' ?_; first | with_reducible rfl | (simp; done)) | with_reducible refine Blk.alloc ?_ _ | with_reducible refine Blk.grow ?_ _ | with_reducible refine Blk.drew ?_ | with_reducible refine Blk.drewN ?_ _ | (with_reducible refine Blk.far ?_ (by first | (dsimp only; omega) | (simp; omega)) _) | (with_reducible apply Blk.two) | (with_reducible refine Blk.set' ?_ _ _ ?_) | (with_reducible rfl) | rfl))
  have g_d : Blk w_7 (w_4.heap.size) 24 #[.int .u64 dh, .int .u64 dl] := by
    refine Blk.kept ?_ hb_7
    (repeat (first | with_reducible assumption | (with_reducible refine Blk.new' ?_; first | with_reducible rfl | (simp; done)) | with_reducible refine Blk.alloc ?_ _ | with_reducible refine Blk.grow ?_ _ | with_reducible refine Blk.drew ?_ | with_reducible refine Blk.drewN ?_ _ | (with_reducible refine Blk.far ?_ (by first | (dsimp only; omega) | (simp; omega)) _) | (with_reducible apply Blk.two) | (with_reducible refine Blk.set' ?_ _ _ ?_) | (with_reducible rfl) | rfl))
  have g_c : Blk w_7 (w_5.heap.size) 24 #[.int .u64 ch, .int .u64 cl] := by
    refine Blk.kept ?_ hb_7
    (repeat (first | with_reducible assumption | (with_reducible refine Blk.new' ?_; first | with_reducible rfl | (simp; done)) | with_reducible refine Blk.alloc ?_ _ | with_reducible refine Blk.grow ?_ _ | with_reducible refine Blk.drew ?_ | with_reducible refine Blk.drewN ?_ _ | (with_reducible refine Blk.far ?_ (by first | (dsimp only; omega) | (simp; omega)) _) | (with_reducible apply Blk.two) | (with_reducible refine Blk.set' ?_ _ _ ?_) | (with_reducible rfl) | rfl))
  clear f_x x_l r_x x_14 x_f14 f_n n_l n_0 n_1 n_f0 n_f1 f_p p_l r_p p_2 p_f2 p_3 p_f3 p_4 p_f4 p_5 p_f5 p_8 p_f8 p_9 p_f9 p_13 p_f13 p_19 p_f19 p_20 p_f20 p_21 p_f21 p_22 p_f22 p_23 p_f23 p_24 p_f24 p_28 p_f28 f_d d_l d_0 d_1 d_f0 d_f1 f_c c_l c_0 c_1 c_f0 c_f1 t_x t_n t_p t_d t_c hB_6 hb_7
  have f_x := g_x
  clear g_x
  have f_n := g_n
  clear g_n
  have f_p := g_p
  clear g_p
  have f_d := g_d
  clear g_d
  have f_c := g_c
  clear g_c
  have r_x := rowAt_blk f_x
  have x_l := f_x.lt
  have x_14 : w_7.cell? ⟨w.heap.size, 14, none⟩ = some (.int .u16 xfl) := (f_x).cell 14
  have x_f14 := (f_x).frozen 14
  replace f_x := Lib.hid f_x
  have n_0 : w_7.cell? ⟨w.heap.size + 1, 0, none⟩ = some (.int .u64 n1) := (f_n).cell 0
  have n_1 : w_7.cell? ⟨w.heap.size + 1, 1, none⟩ = some (.int .u64 n2) := (f_n).cell 1
  have n_f0 := (f_n).frozen 0
  have n_f1 := (f_n).frozen 1
  have n_l := (f_n).lt
  replace f_n := Lib.hid f_n
  have r_p := rowAt_blk f_p
  have p_l := f_p.lt
  have p_2 : w_7.cell? ⟨w.heap.size + 2, 2, none⟩ = some (.int .u64 ap1) := (f_p).cell 2
  have p_f2 := (f_p).frozen 2
  have p_3 : w_7.cell? ⟨w.heap.size + 2, 3, none⟩ = some (.int .u64 ap2) := (f_p).cell 3
  have p_f3 := (f_p).frozen 3
  have p_4 : w_7.cell? ⟨w.heap.size + 2, 4, none⟩ = some (.int .u64 aq1) := (f_p).cell 4
  have p_f4 := (f_p).frozen 4
  have p_5 : w_7.cell? ⟨w.heap.size + 2, 5, none⟩ = some (.int .u64 aq2) := (f_p).cell 5
  have p_f5 := (f_p).frozen 5
  have p_8 : w_7.cell? ⟨w.heap.size + 2, 8, none⟩ = some (.int .u64 as1) := (f_p).cell 8
  have p_f8 := (f_p).frozen 8
  have p_9 : w_7.cell? ⟨w.heap.size + 2, 9, none⟩ = some (.int .u64 as2) := (f_p).cell 9
  have p_f9 := (f_p).frozen 9
  have p_13 : w_7.cell? ⟨w.heap.size + 2, 13, none⟩ = some (.int .u16 afl) := (f_p).cell 13
  have p_f13 := (f_p).frozen 13
  have p_19 : w_7.cell? ⟨w.heap.size + 2, 19, none⟩ = some (.int .u64 eq1) := (f_p).cell 19
  have p_f19 := (f_p).frozen 19
  have p_20 : w_7.cell? ⟨w.heap.size + 2, 20, none⟩ = some (.int .u64 eq2) := (f_p).cell 20
  have p_f20 := (f_p).frozen 20
  have p_21 : w_7.cell? ⟨w.heap.size + 2, 21, none⟩ = some (.int .u64 er1) := (f_p).cell 21
  have p_f21 := (f_p).frozen 21
  have p_22 : w_7.cell? ⟨w.heap.size + 2, 22, none⟩ = some (.int .u64 er2) := (f_p).cell 22
  have p_f22 := (f_p).frozen 22
  have p_23 : w_7.cell? ⟨w.heap.size + 2, 23, none⟩ = some (.int .u64 es1) := (f_p).cell 23
  have p_f23 := (f_p).frozen 23
  have p_24 : w_7.cell? ⟨w.heap.size + 2, 24, none⟩ = some (.int .u64 es2) := (f_p).cell 24
  have p_f24 := (f_p).frozen 24
  have p_28 : w_7.cell? ⟨w.heap.size + 2, 28, none⟩ = some (.int .u16 efl) := (f_p).cell 28
  have p_f28 := (f_p).frozen 28
  replace f_p := Lib.hid f_p
  have d_0 : w_7.cell? ⟨w_4.heap.size, 0, none⟩ = some (.int .u64 dh) := (f_d).cell 0
  have d_1 : w_7.cell? ⟨w_4.heap.size, 1, none⟩ = some (.int .u64 dl) := (f_d).cell 1
  have d_f0 := (f_d).frozen 0
  have d_f1 := (f_d).frozen 1
  have d_l := (f_d).lt
  replace f_d := Lib.hid f_d
  have c_0 : w_7.cell? ⟨w_5.heap.size, 0, none⟩ = some (.int .u64 ch) := (f_c).cell 0
  have c_1 : w_7.cell? ⟨w_5.heap.size, 1, none⟩ = some (.int .u64 cl) := (f_c).cell 1
  have c_f0 := (f_c).frozen 0
  have c_f1 := (f_c).frozen 1
  have c_l := (f_c).lt
  replace f_c := Lib.hid f_c
  replace hB_7 := Lib.hid hB_7
  cases x1
  case true =>
    go_wp2_with fail
    go_ret
    exact ⟨rfl, by have t_B := hB_7.out; (repeat (first | with_reducible exact Below.refl _ _ | with_reducible assumption | (with_reducible refine bel_set ?_ (by first | exact Nat.le_refl _ | (simp; done) | (simp; omega) | omega) _) | with_reducible refine bel_grow ?_ _ | with_reducible refine Below.drew ?_ | with_reducible refine bel_alloc ?_ _ | with_reducible refine bel_eld ?_ (by assumption)))⟩
  case false =>
    go_wp2_with fail
    refine (HB4.out _).mono ?_
    rintro e w_8 ⟨rfl, hb_8⟩
    have z_8 := hb_8.size
    try simp at z_8
    have t_ := hB_7.out
    have hB_8 := bel_eld (w := w) (X := _) (by first | ((repeat (first | with_reducible exact Below.refl _ _ | with_reducible assumption | (with_reducible refine bel_set ?_ (by first | exact Nat.le_refl _ | (simp; done) | (simp; omega) | omega) _) | with_reducible refine bel_grow ?_ _ | with_reducible refine Below.drew ?_ | with_reducible refine below_drewN ?_ _ | with_reducible refine bel_alloc ?_ _ | with_reducible refine bel_trans ?_ (by assumption))); done) | (repeat (first | exact Below.refl _ _ | assumption | refine below_drewN ?_ _ | refine bel_grow ?_ _ | refine Below.drew ?_ | refine bel_alloc ?_ _ | refine bel_set ?_ (by first | exact Nat.le_refl _ | (simp; done) | (simp; omega) | omega) _ | refine bel_trans ?_ (by assumption)))) hb_8
    clear t_
    have t_x := f_x.out
    have t_n := f_n.out
    have t_p := f_p.out
    have t_d := f_d.out
    have t_c := f_c.out
    have g_x : Blk w_8 (w.heap.size) 28 #[.int .u64 xi1, .int .u64 xi2, .int .u64 xd1, .int .u64 xd2, .int .u64 xc1, .int .u64 xc2, .int .u64 xm1, .int .u64 xm2, .int .u64 xw1, .int .u64 xw2, .int .u64 xtg, .int .u32 xto, .int .u32 xlg, .int .u16 xcd, .int .u16 xfl, .int .u64 xst] := by
      refine Blk.kept ?_ hb_8
      (repeat (first | with_reducible assumption | (with_reducible refine Blk.new' ?_; first | with_reducible rfl | (simp; done)) | with_reducible refine Blk.alloc ?_ _ | with_reducible refine Blk.grow ?_ _ | with_reducible refine Blk.drew ?_ | with_reducible refine Blk.drewN ?_ _ | (with_reducible refine Blk.far ?_ (by first | (dsimp only; omega) | (simp; omega)) _) | (with_reducible apply Blk.two) | (with_reducible refine Blk.set' ?_ _ _ ?_) | (with_reducible rfl) | rfl))
    have g_n : Blk w_8 (w.heap.size + 1) 24 #[.int .u64 n1, .int .u64 n2] := by
      refine Blk.kept ?_ hb_8
      (repeat (first | with_reducible assumption | (with_reducible refine Blk.new' ?_; first | with_reducible rfl | (simp; done)) | with_reducible refine Blk.alloc ?_ _ | with_reducible refine Blk.grow ?_ _ | with_reducible refine Blk.drew ?_ | with_reducible refine Blk.drewN ?_ _ | (with_reducible refine Blk.far ?_ (by first | (dsimp only; omega) | (simp; omega)) _) | (with_reducible apply Blk.two) | (with_reducible refine Blk.set' ?_ _ _ ?_) | (with_reducible rfl) | rfl))
    have g_p : Blk w_8 (w.heap.size + 2) 32 #[.int .u64 ai1, .int .u64 ai2, .int .u64 ap1, .int .u64 ap2, .int .u64 aq1, .int .u64 aq2, .int .u64 ar1, .int .u64 ar2, .int .u64 as1, .int .u64 as2, .int .u64 atg, .int .u32 alg, .int .u16 acd, .int .u16 afl, .int .u64 ast, .int .u64 ei1, .int .u64 ei2, .int .u64 ep1, .int .u64 ep2, .int .u64 eq1, .int .u64 eq2, .int .u64 er1, .int .u64 er2, .int .u64 es1, .int .u64 es2, .int .u64 etg, .int .u32 elg, .int .u16 ecd, .int .u16 efl, .int .u64 est, .bool hd, .bool hc] := by
      refine Blk.kept ?_ hb_8
      (repeat (first | with_reducible assumption | (with_reducible refine Blk.new' ?_; first | with_reducible rfl | (simp; done)) | with_reducible refine Blk.alloc ?_ _ | with_reducible refine Blk.grow ?_ _ | with_reducible refine Blk.drew ?_ | with_reducible refine Blk.drewN ?_ _ | (with_reducible refine Blk.far ?_ (by first | (dsimp only; omega) | (simp; omega)) _) | (with_reducible apply Blk.two) | (with_reducible refine Blk.set' ?_ _ _ ?_) | (with_reducible rfl) | rfl))
    have g_d : Blk w_8 (w_4.heap.size) 24 #[.int .u64 dh, .int .u64 dl] := by
      refine Blk.kept ?_ hb_8
      (repeat (first | with_reducible assumption | (with_reducible refine Blk.new' ?_; first | with_reducible rfl | (simp; done)) | with_reducible refine Blk.alloc ?_ _ | with_reducible refine Blk.grow ?_ _ | with_reducible refine Blk.drew ?_ | with_reducible refine Blk.drewN ?_ _ | (with_reducible refine Blk.far ?_ (by first | (dsimp only; omega) | (simp; omega)) _) | (with_reducible apply Blk.two) | (with_reducible refine Blk.set' ?_ _ _ ?_) | (with_reducible rfl) | rfl))
    have g_c : Blk w_8 (w_5.heap.size) 24 #[.int .u64 ch, .int .u64 cl] := by
      refine Blk.kept ?_ hb_8
      (repeat (first | with_reducible assumption | (with_reducible refine Blk.new' ?_; first | with_reducible rfl | (simp; done)) | with_reducible refine Blk.alloc ?_ _ | with_reducible refine Blk.grow ?_ _ | with_reducible refine Blk.drew ?_ | with_reducible refine Blk.drewN ?_ _ | (with_reducible refine Blk.far ?_ (by first | (dsimp only; omega) | (simp; omega)) _) | (with_reducible apply Blk.two) | (with_reducible refine Blk.set' ?_ _ _ ?_) | (with_reducible rfl) | rfl))
    clear f_x x_l r_x x_14 x_f14 f_n n_l n_0 n_1 n_f0 n_f1 f_p p_l r_p p_2 p_f2 p_3 p_f3 p_4 p_f4 p_5 p_f5 p_8 p_f8 p_9 p_f9 p_13 p_f13 p_19 p_f19 p_20 p_f20 p_21 p_f21 p_22 p_f22 p_23 p_f23 p_24 p_f24 p_28 p_f28 f_d d_l d_0 d_1 d_f0 d_f1 f_c c_l c_0 c_1 c_f0 c_f1 t_x t_n t_p t_d t_c hB_7 hb_8
    have f_x := g_x
    clear g_x
    have f_n := g_n
    clear g_n
    have f_p := g_p
    clear g_p
    have f_d := g_d
    clear g_d
    have f_c := g_c
    clear g_c
    have r_x := rowAt_blk f_x
    have x_l := f_x.lt
    have x_14 : w_8.cell? ⟨w.heap.size, 14, none⟩ = some (.int .u16 xfl) := (f_x).cell 14
    have x_f14 := (f_x).frozen 14
    replace f_x := Lib.hid f_x
    have n_0 : w_8.cell? ⟨w.heap.size + 1, 0, none⟩ = some (.int .u64 n1) := (f_n).cell 0
    have n_1 : w_8.cell? ⟨w.heap.size + 1, 1, none⟩ = some (.int .u64 n2) := (f_n).cell 1
    have n_f0 := (f_n).frozen 0
    have n_f1 := (f_n).frozen 1
    have n_l := (f_n).lt
    replace f_n := Lib.hid f_n
    have r_p := rowAt_blk f_p
    have p_l := f_p.lt
    have p_2 : w_8.cell? ⟨w.heap.size + 2, 2, none⟩ = some (.int .u64 ap1) := (f_p).cell 2
    have p_f2 := (f_p).frozen 2
    have p_3 : w_8.cell? ⟨w.heap.size + 2, 3, none⟩ = some (.int .u64 ap2) := (f_p).cell 3
    have p_f3 := (f_p).frozen 3
    have p_4 : w_8.cell? ⟨w.heap.size + 2, 4, none⟩ = some (.int .u64 aq1) := (f_p).cell 4
    have p_f4 := (f_p).frozen 4
    have p_5 : w_8.cell? ⟨w.heap.size + 2, 5, none⟩ = some (.int .u64 aq2) := (f_p).cell 5
    have p_f5 := (f_p).frozen 5
    have p_8 : w_8.cell? ⟨w.heap.size + 2, 8, none⟩ = some (.int .u64 as1) := (f_p).cell 8
    have p_f8 := (f_p).frozen 8
    have p_9 : w_8.cell? ⟨w.heap.size + 2, 9, none⟩ = some (.int .u64 as2) := (f_p).cell 9
    have p_f9 := (f_p).frozen 9
    have p_13 : w_8.cell? ⟨w.heap.size + 2, 13, none⟩ = some (.int .u16 afl) := (f_p).cell 13
    have p_f13 := (f_p).frozen 13
    have p_19 : w_8.cell? ⟨w.heap.size + 2, 19, none⟩ = some (.int .u64 eq1) := (f_p).cell 19
    have p_f19 := (f_p).frozen 19
    have p_20 : w_8.cell? ⟨w.heap.size + 2, 20, none⟩ = some (.int .u64 eq2) := (f_p).cell 20
    have p_f20 := (f_p).frozen 20
    have p_21 : w_8.cell? ⟨w.heap.size + 2, 21, none⟩ = some (.int .u64 er1) := (f_p).cell 21
    have p_f21 := (f_p).frozen 21
    have p_22 : w_8.cell? ⟨w.heap.size + 2, 22, none⟩ = some (.int .u64 er2) := (f_p).cell 22
    have p_f22 := (f_p).frozen 22
    have p_23 : w_8.cell? ⟨w.heap.size + 2, 23, none⟩ = some (.int .u64 es1) := (f_p).cell 23
    have p_f23 := (f_p).frozen 23
    have p_24 : w_8.cell? ⟨w.heap.size + 2, 24, none⟩ = some (.int .u64 es2) := (f_p).cell 24
    have p_f24 := (f_p).frozen 24
    have p_28 : w_8.cell? ⟨w.heap.size + 2, 28, none⟩ = some (.int .u16 efl) := (f_p).cell 28
    have p_f28 := (f_p).frozen 28
    replace f_p := Lib.hid f_p
    have d_0 : w_8.cell? ⟨w_4.heap.size, 0, none⟩ = some (.int .u64 dh) := (f_d).cell 0
    have d_1 : w_8.cell? ⟨w_4.heap.size, 1, none⟩ = some (.int .u64 dl) := (f_d).cell 1
    have d_f0 := (f_d).frozen 0
    have d_f1 := (f_d).frozen 1
    have d_l := (f_d).lt
    replace f_d := Lib.hid f_d
    have c_0 : w_8.cell? ⟨w_5.heap.size, 0, none⟩ = some (.int .u64 ch) := (f_c).cell 0
    have c_1 : w_8.cell? ⟨w_5.heap.size, 1, none⟩ = some (.int .u64 cl) := (f_c).cell 1
    have c_f0 := (f_c).frozen 0
    have c_f1 := (f_c).frozen 1
    have c_l := (f_c).lt
    replace f_c := Lib.hid f_c
    replace hB_8 := Lib.hid hB_8

    cases b4
    case false =>
      go_wp2_with fail
      go_ret
      exact ⟨rfl, by have t_B := hB_8.out; (repeat (first | with_reducible exact Below.refl _ _ | with_reducible assumption | (with_reducible refine bel_set ?_ (by first | exact Nat.le_refl _ | (simp; done) | (simp; omega) | omega) _) | with_reducible refine bel_grow ?_ _ | with_reducible refine Below.drew ?_ | with_reducible refine bel_alloc ?_ _ | with_reducible refine bel_eld ?_ (by assumption)))⟩
    case true =>
    go_wp2_with fail
    refine (HC2.out _).mono ?_
    rintro e w_9 ⟨rfl, hb_9⟩
    have z_9 := hb_9.size
    try simp at z_9
    have t_ := hB_8.out
    have hB_9 := bel_eld (w := w) (X := _) (by first | ((repeat (first | with_reducible exact Below.refl _ _ | with_reducible assumption | (with_reducible refine bel_set ?_ (by first | exact Nat.le_refl _ | (simp; done) | (simp; omega) | omega) _) | with_reducible refine bel_grow ?_ _ | with_reducible refine Below.drew ?_ | with_reducible refine below_drewN ?_ _ | with_reducible refine bel_alloc ?_ _ | with_reducible refine bel_trans ?_ (by assumption))); done) | (repeat (first | exact Below.refl _ _ | assumption | refine below_drewN ?_ _ | refine bel_grow ?_ _ | refine Below.drew ?_ | refine bel_alloc ?_ _ | refine bel_set ?_ (by first | exact Nat.le_refl _ | (simp; done) | (simp; omega) | omega) _ | refine bel_trans ?_ (by assumption)))) hb_9
    clear t_
    have t_x := f_x.out
    have t_n := f_n.out
    have t_p := f_p.out
    have t_d := f_d.out
    have t_c := f_c.out
    have g_x : Blk w_9 (w.heap.size) 28 #[.int .u64 xi1, .int .u64 xi2, .int .u64 xd1, .int .u64 xd2, .int .u64 xc1, .int .u64 xc2, .int .u64 xm1, .int .u64 xm2, .int .u64 xw1, .int .u64 xw2, .int .u64 xtg, .int .u32 xto, .int .u32 xlg, .int .u16 xcd, .int .u16 xfl, .int .u64 xst] := by
      refine Blk.kept ?_ hb_9
      (repeat (first | with_reducible assumption | (with_reducible refine Blk.new' ?_; first | with_reducible rfl | (simp; done)) | with_reducible refine Blk.alloc ?_ _ | with_reducible refine Blk.grow ?_ _ | with_reducible refine Blk.drew ?_ | with_reducible refine Blk.drewN ?_ _ | (with_reducible refine Blk.far ?_ (by first | (dsimp only; omega) | (simp; omega)) _) | (with_reducible apply Blk.two) | (with_reducible refine Blk.set' ?_ _ _ ?_) | (with_reducible rfl) | rfl))
    have g_n : Blk w_9 (w.heap.size + 1) 24 #[.int .u64 n1, .int .u64 n2] := by
      refine Blk.kept ?_ hb_9
      (repeat (first | with_reducible assumption | (with_reducible refine Blk.new' ?_; first | with_reducible rfl | (simp; done)) | with_reducible refine Blk.alloc ?_ _ | with_reducible refine Blk.grow ?_ _ | with_reducible refine Blk.drew ?_ | with_reducible refine Blk.drewN ?_ _ | (with_reducible refine Blk.far ?_ (by first | (dsimp only; omega) | (simp; omega)) _) | (with_reducible apply Blk.two) | (with_reducible refine Blk.set' ?_ _ _ ?_) | (with_reducible rfl) | rfl))
    have g_p : Blk w_9 (w.heap.size + 2) 32 #[.int .u64 ai1, .int .u64 ai2, .int .u64 ap1, .int .u64 ap2, .int .u64 aq1, .int .u64 aq2, .int .u64 ar1, .int .u64 ar2, .int .u64 as1, .int .u64 as2, .int .u64 atg, .int .u32 alg, .int .u16 acd, .int .u16 afl, .int .u64 ast, .int .u64 ei1, .int .u64 ei2, .int .u64 ep1, .int .u64 ep2, .int .u64 eq1, .int .u64 eq2, .int .u64 er1, .int .u64 er2, .int .u64 es1, .int .u64 es2, .int .u64 etg, .int .u32 elg, .int .u16 ecd, .int .u16 efl, .int .u64 est, .bool hd, .bool hc] := by
      refine Blk.kept ?_ hb_9
      (repeat (first | with_reducible assumption | (with_reducible refine Blk.new' ?_; first | with_reducible rfl | (simp; done)) | with_reducible refine Blk.alloc ?_ _ | with_reducible refine Blk.grow ?_ _ | with_reducible refine Blk.drew ?_ | with_reducible refine Blk.drewN ?_ _ | (with_reducible refine Blk.far ?_ (by first | (dsimp only; omega) | (simp; omega)) _) | (with_reducible apply Blk.two) | (with_reducible refine Blk.set' ?_ _ _ ?_) | (with_reducible rfl) | rfl))
    have g_d : Blk w_9 (w_4.heap.size) 24 #[.int .u64 dh, .int .u64 dl] := by
      refine Blk.kept ?_ hb_9
      (repeat (first | with_reducible assumption | (with_reducible refine Blk.new' ?_; first | with_reducible rfl | (simp; done)) | with_reducible refine Blk.alloc ?_ _ | with_reducible refine Blk.grow ?_ _ | with_reducible refine Blk.drew ?_ | with_reducible refine Blk.drewN ?_ _ | (with_reducible refine Blk.far ?_ (by first | (dsimp only; omega) | (simp; omega)) _) | (with_reducible apply Blk.two) | (with_reducible refine Blk.set' ?_ _ _ ?_) | (with_reducible rfl) | rfl))
    have g_c : Blk w_9 (w_5.heap.size) 24 #[.int .u64 ch, .int .u64 cl] := by
      refine Blk.kept ?_ hb_9
      (repeat (first | with_reducible assumption | (with_reducible refine Blk.new' ?_; first | with_reducible rfl | (simp; done)) | with_reducible refine Blk.alloc ?_ _ | with_reducible refine Blk.grow ?_ _ | with_reducible refine Blk.drew ?_ | with_reducible refine Blk.drewN ?_ _ | (with_reducible refine Blk.far ?_ (by first | (dsimp only; omega) | (simp; omega)) _) | (with_reducible apply Blk.two) | (with_reducible refine Blk.set' ?_ _ _ ?_) | (with_reducible rfl) | rfl))
    clear f_x x_l r_x x_14 x_f14 f_n n_l n_0 n_1 n_f0 n_f1 f_p p_l r_p p_2 p_f2 p_3 p_f3 p_4 p_f4 p_5 p_f5 p_8 p_f8 p_9 p_f9 p_13 p_f13 p_19 p_f19 p_20 p_f20 p_21 p_f21 p_22 p_f22 p_23 p_f23 p_24 p_f24 p_28 p_f28 f_d d_l d_0 d_1 d_f0 d_f1 f_c c_l c_0 c_1 c_f0 c_f1 t_x t_n t_p t_d t_c hB_8 hb_9
    have f_x := g_x
    clear g_x
    have f_n := g_n
    clear g_n
    have f_p := g_p
    clear g_p
    have f_d := g_d
    clear g_d
    have f_c := g_c
    clear g_c
    have r_x := rowAt_blk f_x
    have x_l := f_x.lt
    have x_14 : w_9.cell? ⟨w.heap.size, 14, none⟩ = some (.int .u16 xfl) := (f_x).cell 14
    have x_f14 := (f_x).frozen 14
    replace f_x := Lib.hid f_x
    have n_0 : w_9.cell? ⟨w.heap.size + 1, 0, none⟩ = some (.int .u64 n1) := (f_n).cell 0
    have n_1 : w_9.cell? ⟨w.heap.size + 1, 1, none⟩ = some (.int .u64 n2) := (f_n).cell 1
    have n_f0 := (f_n).frozen 0
    have n_f1 := (f_n).frozen 1
    have n_l := (f_n).lt
    replace f_n := Lib.hid f_n
    have r_p := rowAt_blk f_p
    have p_l := f_p.lt
    have p_2 : w_9.cell? ⟨w.heap.size + 2, 2, none⟩ = some (.int .u64 ap1) := (f_p).cell 2
    have p_f2 := (f_p).frozen 2
    have p_3 : w_9.cell? ⟨w.heap.size + 2, 3, none⟩ = some (.int .u64 ap2) := (f_p).cell 3
    have p_f3 := (f_p).frozen 3
    have p_4 : w_9.cell? ⟨w.heap.size + 2, 4, none⟩ = some (.int .u64 aq1) := (f_p).cell 4
    have p_f4 := (f_p).frozen 4
    have p_5 : w_9.cell? ⟨w.heap.size + 2, 5, none⟩ = some (.int .u64 aq2) := (f_p).cell 5
    have p_f5 := (f_p).frozen 5
    have p_8 : w_9.cell? ⟨w.heap.size + 2, 8, none⟩ = some (.int .u64 as1) := (f_p).cell 8
    have p_f8 := (f_p).frozen 8
    have p_9 : w_9.cell? ⟨w.heap.size + 2, 9, none⟩ = some (.int .u64 as2) := (f_p).cell 9
    have p_f9 := (f_p).frozen 9
    have p_13 : w_9.cell? ⟨w.heap.size + 2, 13, none⟩ = some (.int .u16 afl) := (f_p).cell 13
    have p_f13 := (f_p).frozen 13
    have p_19 : w_9.cell? ⟨w.heap.size + 2, 19, none⟩ = some (.int .u64 eq1) := (f_p).cell 19
    have p_f19 := (f_p).frozen 19
    have p_20 : w_9.cell? ⟨w.heap.size + 2, 20, none⟩ = some (.int .u64 eq2) := (f_p).cell 20
    have p_f20 := (f_p).frozen 20
    have p_21 : w_9.cell? ⟨w.heap.size + 2, 21, none⟩ = some (.int .u64 er1) := (f_p).cell 21
    have p_f21 := (f_p).frozen 21
    have p_22 : w_9.cell? ⟨w.heap.size + 2, 22, none⟩ = some (.int .u64 er2) := (f_p).cell 22
    have p_f22 := (f_p).frozen 22
    have p_23 : w_9.cell? ⟨w.heap.size + 2, 23, none⟩ = some (.int .u64 es1) := (f_p).cell 23
    have p_f23 := (f_p).frozen 23
    have p_24 : w_9.cell? ⟨w.heap.size + 2, 24, none⟩ = some (.int .u64 es2) := (f_p).cell 24
    have p_f24 := (f_p).frozen 24
    have p_28 : w_9.cell? ⟨w.heap.size + 2, 28, none⟩ = some (.int .u16 efl) := (f_p).cell 28
    have p_f28 := (f_p).frozen 28
    replace f_p := Lib.hid f_p
    have d_0 : w_9.cell? ⟨w_4.heap.size, 0, none⟩ = some (.int .u64 dh) := (f_d).cell 0
    have d_1 : w_9.cell? ⟨w_4.heap.size, 1, none⟩ = some (.int .u64 dl) := (f_d).cell 1
    have d_f0 := (f_d).frozen 0
    have d_f1 := (f_d).frozen 1
    have d_l := (f_d).lt
    replace f_d := Lib.hid f_d
    have c_0 : w_9.cell? ⟨w_5.heap.size, 0, none⟩ = some (.int .u64 ch) := (f_c).cell 0
    have c_1 : w_9.cell? ⟨w_5.heap.size, 1, none⟩ = some (.int .u64 cl) := (f_c).cell 1
    have c_f0 := (f_c).frozen 0
    have c_f1 := (f_c).frozen 1
    have c_l := (f_c).lt
    replace f_c := Lib.hid f_c
    replace hB_9 := Lib.hid hB_9
    cases x2
    all_goals (
      go_wp2_with fail
      go_ret
      exact ⟨rfl, by have t_B := hB_9.out; (repeat (first | with_reducible exact Below.refl _ _ | with_reducible assumption | (with_reducible refine bel_set ?_ (by first | exact Nat.le_refl _ | (simp; done) | (simp; omega) | omega) _) | with_reducible refine bel_grow ?_ _ | with_reducible refine Below.drew ?_ | with_reducible refine bel_alloc ?_ _ | with_reducible refine bel_eld ?_ (by assumption)))⟩)
end Go.Proofs.Ytpbnakoimlmhnaa
