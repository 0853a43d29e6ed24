/-
  BalanceLimits, walked.
-/
import Derived.Test.YtpbnakoimlmhnaaBm
import Derived.Deep.DeepCutAuto
namespace Go.Proofs.Ytpbnakoimlmhnaa
set_option linter.unusedVariables false
set_option linter.unusedSimpArgs false
open Go.RowKit

attribute [local go_sem] loadV_ptr storeV_ptr one_func drew_hs ext_deb ext_cre ext_cols ext_acc
attribute [local go_sem ↓] load_Cols store_Cols load_Transfer store_Transfer load_Parties store_Parties load_Acct store_Acct
set_option maxRecDepth 8000 in
set_option maxHeartbeats 8000000 in
theorem limits_of (xi1 xi2 xd1 xd2 xc1 xc2 xm1 xm2 xw1 xw2 xtg xto xlg xcd xfl xst n1 n2 ai1 ai2 ap1 ap2 aq1 aq2 ar1 ar2 as1 as2 atg alg acd afl ast ei1 ei2 ep1 ep2 eq1 eq2 er1 er2 es1 es2 etg elg ecd efl est zai1 zai2 zap1 zap2 zaq1 zaq2 zar1 zar2 zas1 zas2 zatg zalg zacd zafl zast zei1 zei2 zep1 zep2 zeq1 zeq2 zer1 zer2 zes1 zes2 zetg zelg zecd zefl zest v u dh dl ch cl k1 k2 q1 q2 kq k0 : Int) (hd hc zd zc zb f1 f2 b2 b4 b16 b32 op : Bool) (hb2 : (bits .and .u16 afl 2 != 0) = b2) (hb4 : (bits .and .u16 efl 4 != 0) = b4) (hb16 : (bits .and .u16 xfl 16 == 0) = b16) (hb32 : (bits .and .u16 xfl 32 == 0) = b32) (hop : decide (0 < k0) = op)
    (F1 : v = 0 → zb = true ∧ f1 = true ∧ f2 = true ∧ (b2 = true → decide (0 < k1) = false) ∧ (b4 = true → decide (0 < k2) = false)) (F2 : decide (0 < kq) = false) (F3 : op = true → b16 = false → (u != 42) = true) (F4 : op = true → b32 = false → (u != 43) = true)
    (HX : ∀ w, Calls Try.prog 15 #[] w fun r w' => r = .returned (.bool true) ∧ Below w.heap.size w w')
    (HR : ∀ w, Calls Try.prog 22 #[.agg #[.int .u64 xi1, .int .u64 xi2, .int .u64 xd1, .int .u64 xd2, .int .u64 xc1, .int .u64 xc2, .int .u64 xm1, .int .u64 xm2, .int .u64 xw1, .int .u64 xw2, .int .u64 xtg, .int .u32 xto, .int .u32 xlg, .int .u16 xcd, .int .u16 xfl, .int .u64 xst], .agg #[.int .u64 n1, .int .u64 n2], .agg #[.int .u64 ai1, .int .u64 ai2, .int .u64 ap1, .int .u64 ap2, .int .u64 aq1, .int .u64 aq2, .int .u64 ar1, .int .u64 ar2, .int .u64 as1, .int .u64 as2, .int .u64 atg, .int .u32 alg, .int .u16 acd, .int .u16 afl, .int .u64 ast, .int .u64 ei1, .int .u64 ei2, .int .u64 ep1, .int .u64 ep2, .int .u64 eq1, .int .u64 eq2, .int .u64 er1, .int .u64 er2, .int .u64 es1, .int .u64 es2, .int .u64 etg, .int .u32 elg, .int .u16 ecd, .int .u16 efl, .int .u64 est, .bool hd, .bool hc]] w fun r w' => r = .returned (.int .u32 v) ∧ Below w.heap.size w w')
    (HM : ∀ w, Calls Try.prog 14 #[.agg #[.int .u64 xi1, .int .u64 xi2, .int .u64 xd1, .int .u64 xd2, .int .u64 xc1, .int .u64 xc2, .int .u64 xm1, .int .u64 xm2, .int .u64 xw1, .int .u64 xw2, .int .u64 xtg, .int .u32 xto, .int .u32 xlg, .int .u16 xcd, .int .u16 xfl, .int .u64 xst], .agg #[.int .u64 n1, .int .u64 n2], .agg #[.int .u64 ai1, .int .u64 ai2, .int .u64 ap1, .int .u64 ap2, .int .u64 aq1, .int .u64 aq2, .int .u64 ar1, .int .u64 ar2, .int .u64 as1, .int .u64 as2, .int .u64 atg, .int .u32 alg, .int .u16 acd, .int .u16 afl, .int .u64 ast, .int .u64 ei1, .int .u64 ei2, .int .u64 ep1, .int .u64 ep2, .int .u64 eq1, .int .u64 eq2, .int .u64 er1, .int .u64 er2, .int .u64 es1, .int .u64 es2, .int .u64 etg, .int .u32 elg, .int .u16 ecd, .int .u16 efl, .int .u64 est, .bool hd, .bool hc]] w fun r w' => r = .returned (.tuple #[.agg #[.int .u64 zai1, .int .u64 zai2, .int .u64 zap1, .int .u64 zap2, .int .u64 zaq1, .int .u64 zaq2, .int .u64 zar1, .int .u64 zar2, .int .u64 zas1, .int .u64 zas2, .int .u64 zatg, .int .u32 zalg, .int .u16 zacd, .int .u16 zafl, .int .u64 zast, .int .u64 zei1, .int .u64 zei2, .int .u64 zep1, .int .u64 zep2, .int .u64 zeq1, .int .u64 zeq2, .int .u64 zer1, .int .u64 zer2, .int .u64 zes1, .int .u64 zes2, .int .u64 zetg, .int .u32 zelg, .int .u16 zecd, .int .u16 zefl, .int .u64 zest, .bool zd, .bool zc], .bool zb]) ∧ Below w.heap.size w w')
    (HD : ∀ w, Calls Try.prog 24 #[.agg #[.int .u64 zap1, .int .u64 zap2], .agg #[.int .u64 zaq1, .int .u64 zaq2]] w fun r w' => r = .returned (.tuple #[.agg #[.int .u64 dh, .int .u64 dl], .bool f1]) ∧ Below w.heap.size w w')
    (HC : ∀ w, Calls Try.prog 24 #[.agg #[.int .u64 zer1, .int .u64 zer2], .agg #[.int .u64 zes1, .int .u64 zes2]] w fun r w' => r = .returned (.tuple #[.agg #[.int .u64 ch, .int .u64 cl], .bool f2]) ∧ Below w.heap.size w w')
    (HC1 : ∀ w, Calls Try.prog 25 #[.agg #[.int .u64 dh, .int .u64 dl], .agg #[.int .u64 zas1, .int .u64 zas2]] w fun r w' => r = .returned (.int .i64 k1) ∧ Below w.heap.size w w')
    (HC2 : ∀ w, Calls Try.prog 25 #[.agg #[.int .u64 ch, .int .u64 cl], .agg #[.int .u64 zeq1, .int .u64 zeq2]] w fun r w' => r = .returned (.int .i64 k2) ∧ Below w.heap.size w w')
    (HQ : ∀ w, Calls Try.prog 20 #[.agg #[.int .u64 xi1, .int .u64 xi2, .int .u64 xd1, .int .u64 xd2, .int .u64 xc1, .int .u64 xc2, .int .u64 xm1, .int .u64 xm2, .int .u64 xw1, .int .u64 xw2, .int .u64 xtg, .int .u32 xto, .int .u32 xlg, .int .u16 xcd, .int .u16 xfl, .int .u64 xst], .agg #[.int .u64 ai1, .int .u64 ai2, .int .u64 ap1, .int .u64 ap2, .int .u64 aq1, .int .u64 aq2, .int .u64 ar1, .int .u64 ar2, .int .u64 as1, .int .u64 as2, .int .u64 atg, .int .u32 alg, .int .u16 acd, .int .u16 afl, .int .u64 ast, .int .u64 ei1, .int .u64 ei2, .int .u64 ep1, .int .u64 ep2, .int .u64 eq1, .int .u64 eq2, .int .u64 er1, .int .u64 er2, .int .u64 es1, .int .u64 es2, .int .u64 etg, .int .u32 elg, .int .u16 ecd, .int .u16 efl, .int .u64 est, .bool hd, .bool hc]] w fun r w' => r = .returned (.agg #[.int .u64 q1, .int .u64 q2]) ∧ Below w.heap.size w w')
    (HCQ : ∀ w, Calls Try.prog 25 #[.agg #[.int .u64 q1, .int .u64 q2], .agg #[.int .u64 xm1, .int .u64 xm2]] w fun r w' => r = .returned (.int .i64 kq) ∧ Below w.heap.size w w')
    (HU : ∀ w, Calls Try.prog 22 #[.agg #[.int .u64 xi1, .int .u64 xi2, .int .u64 xd1, .int .u64 xd2, .int .u64 xc1, .int .u64 xc2, .int .u64 xm1, .int .u64 xm2, .int .u64 xw1, .int .u64 xw2, .int .u64 xtg, .int .u32 xto, .int .u32 xlg, .int .u16 xcd, .int .u16 xfl, .int .u64 xst], .agg #[.int .u64 q1, .int .u64 q2], .agg #[.int .u64 ai1, .int .u64 ai2, .int .u64 ap1, .int .u64 ap2, .int .u64 aq1, .int .u64 aq2, .int .u64 ar1, .int .u64 ar2, .int .u64 as1, .int .u64 as2, .int .u64 atg, .int .u32 alg, .int .u16 acd, .int .u16 afl, .int .u64 ast, .int .u64 ei1, .int .u64 ei2, .int .u64 ep1, .int .u64 ep2, .int .u64 eq1, .int .u64 eq2, .int .u64 er1, .int .u64 er2, .int .u64 es1, .int .u64 es2, .int .u64 etg, .int .u32 elg, .int .u16 ecd, .int .u16 efl, .int .u64 est, .bool hd, .bool hc]] w fun r w' => r = .returned (.int .u32 u) ∧ Below w.heap.size w w')
    (HC0 : ∀ w, Calls Try.prog 25 #[.agg #[.int .u64 q1, .int .u64 q2], .agg #[.int .u64 0, .int .u64 0]] w fun r w' => r = .returned (.int .i64 k0) ∧ Below w.heap.size w w')
    (w : World) : Calls Try.prog 7 #[.agg #[.int .u64 xi1, .int .u64 xi2, .int .u64 xd1, .int .u64 xd2, .int .u64 xc1, .int .u64 xc2, .int .u64 xm1, .int .u64 xm2, .int .u64 xw1, .int .u64 xw2, .int .u64 xtg, .int .u32 xto, .int .u32 xlg, .int .u16 xcd, .int .u16 xfl, .int .u64 xst], .agg #[.int .u64 n1, .int .u64 n2], .agg #[.int .u64 ai1, .int .u64 ai2, .int .u64 ap1, .int .u64 ap2, .int .u64 aq1, .int .u64 aq2, .int .u64 ar1, .int .u64 ar2, .int .u64 as1, .int .u64 as2, .int .u64 atg, .int .u32 alg, .int .u16 acd, .int .u16 afl, .int .u64 ast, .int .u64 ei1, .int .u64 ei2, .int .u64 ep1, .int .u64 ep2, .int .u64 eq1, .int .u64 eq2, .int .u64 er1, .int .u64 er2, .int .u64 es1, .int .u64 es2, .int .u64 etg, .int .u32 elg, .int .u16 ecd, .int .u16 efl, .int .u64 est, .bool hd, .bool hc]] w fun r w' => r = .returned (.bool true) ∧ Below w.heap.size w w' := by
  replace HX := Lib.hid HX
  replace HR := Lib.hid HR
  replace HM := Lib.hid HM
  replace HD := Lib.hid HD
  replace HC := Lib.hid HC
  replace HC1 := Lib.hid HC1
  replace HC2 := Lib.hid HC2
  replace HQ := Lib.hid HQ
  replace HCQ := Lib.hid HCQ
  replace HU := Lib.hid HU
  replace HC0 := Lib.hid HC0
  replace F1 := Lib.hid F1
  replace F3 := Lib.hid F3
  replace F4 := Lib.hid F4
  have hb0 := Below.refl w.heap.size w
  go_enter Try.func7, Try.ntmps7
  replace hb0 := Lib.hid hb0
  go_wp2_with fail
  refine (HR.out _).mono ?_
  rintro e w_1 ⟨rfl, hb_1⟩
  have z_1 := hb_1.size
  try simp at z_1
  have t_ := hb0.out
  have hB_1 := bel_eld (w := w) (X := _) (by first | ((repeat (first | with_reducible exact Below.refl _ _ | with_reducible assumption | (with_reducible refine bel_set ?_ (by first | exact Nat.le_refl _ | (simp; done) | (simp; omega) | omega) _) | with_reducible refine bel_grow ?_ _ | with_reducible refine Below.drew ?_ | with_reducible refine below_drewN ?_ _ | with_reducible refine bel_alloc ?_ _ | with_reducible refine bel_trans ?_ (by assumption))); done) | (repeat (first | exact Below.refl _ _ | assumption | refine below_drewN ?_ _ | refine bel_grow ?_ _ | refine Below.drew ?_ | refine bel_alloc ?_ _ | refine bel_set ?_ (by first | exact Nat.le_refl _ | (simp; done) | (simp; omega) | omega) _ | refine bel_trans ?_ (by assumption)))) hb_1
  clear t_
  have g_x : Blk w_1 (w.heap.size) 28 #[.int .u64 xi1, .int .u64 xi2, .int .u64 xd1, .int .u64 xd2, .int .u64 xc1, .int .u64 xc2, .int .u64 xm1, .int .u64 xm2, .int .u64 xw1, .int .u64 xw2, .int .u64 xtg, .int .u32 xto, .int .u32 xlg, .int .u16 xcd, .int .u16 xfl, .int .u64 xst] := by
    refine Blk.kept ?_ hb_1
    (repeat (first | with_reducible assumption | (with_reducible refine Blk.new' ?_; first | with_reducible rfl | (simp; done)) | with_reducible refine Blk.alloc ?_ _ | with_reducible refine Blk.grow ?_ _ | with_reducible refine Blk.drew ?_ | with_reducible refine Blk.drewN ?_ _ | (with_reducible refine Blk.far ?_ (by first | (dsimp only; omega) | (simp; omega)) _) | (with_reducible apply Blk.two) | (with_reducible refine Blk.set' ?_ _ _ ?_) | (with_reducible rfl) | rfl))
  have g_n : Blk w_1 (w.heap.size + 1) 24 #[.int .u64 n1, .int .u64 n2] := by
    refine Blk.kept ?_ hb_1
    (repeat (first | with_reducible assumption | (with_reducible refine Blk.new' ?_; first | with_reducible rfl | (simp; done)) | with_reducible refine Blk.alloc ?_ _ | with_reducible refine Blk.grow ?_ _ | with_reducible refine Blk.drew ?_ | with_reducible refine Blk.drewN ?_ _ | (with_reducible refine Blk.far ?_ (by first | (dsimp only; omega) | (simp; omega)) _) | (with_reducible apply Blk.two) | (with_reducible refine Blk.set' ?_ _ _ ?_) | (with_reducible rfl) | rfl))
  have g_p : Blk w_1 (w.heap.size + 2) 32 #[.int .u64 ai1, .int .u64 ai2, .int .u64 ap1, .int .u64 ap2, .int .u64 aq1, .int .u64 aq2, .int .u64 ar1, .int .u64 ar2, .int .u64 as1, .int .u64 as2, .int .u64 atg, .int .u32 alg, .int .u16 acd, .int .u16 afl, .int .u64 ast, .int .u64 ei1, .int .u64 ei2, .int .u64 ep1, .int .u64 ep2, .int .u64 eq1, .int .u64 eq2, .int .u64 er1, .int .u64 er2, .int .u64 es1, .int .u64 es2, .int .u64 etg, .int .u32 elg, .int .u16 ecd, .int .u16 efl, .int .u64 est, .bool hd, .bool hc] := by
    refine Blk.kept ?_ hb_1
    (repeat (first | with_reducible assumption | (with_reducible refine Blk.new' ?_; first | with_reducible rfl | (simp; done)) | with_reducible refine Blk.alloc ?_ _ | with_reducible refine Blk.grow ?_ _ | with_reducible refine Blk.drew ?_ | with_reducible refine Blk.drewN ?_ _ | (with_reducible refine Blk.far ?_ (by first | (dsimp only; omega) | (simp; omega)) _) | (with_reducible apply Blk.two) | (with_reducible refine Blk.set' ?_ _ _ ?_) | (with_reducible rfl) | rfl))
  clear hb0 hb_1
  have f_x := g_x
  clear g_x
  have f_n := g_n
  clear g_n
  have f_p := g_p
  clear g_p
  have r_x := rowAt_blk f_x
  have x_l := f_x.lt
  have x_6 : w_1.cell? ⟨w.heap.size, 6, none⟩ = some (.int .u64 xm1) := (f_x).cell 6
  have x_f6 := (f_x).frozen 6
  have x_7 : w_1.cell? ⟨w.heap.size, 7, none⟩ = some (.int .u64 xm2) := (f_x).cell 7
  have x_f7 := (f_x).frozen 7
  have x_14 : w_1.cell? ⟨w.heap.size, 14, none⟩ = some (.int .u16 xfl) := (f_x).cell 14
  have x_f14 := (f_x).frozen 14
  replace f_x := Lib.hid f_x
  have n_0 : w_1.cell? ⟨w.heap.size + 1, 0, none⟩ = some (.int .u64 n1) := (f_n).cell 0
  have n_1 : w_1.cell? ⟨w.heap.size + 1, 1, none⟩ = some (.int .u64 n2) := (f_n).cell 1
  have n_f0 := (f_n).frozen 0
  have n_f1 := (f_n).frozen 1
  have n_l := (f_n).lt
  replace f_n := Lib.hid f_n
  have r_p := rowAt_blk f_p
  have p_l := f_p.lt
  have p_13 : w_1.cell? ⟨w.heap.size + 2, 13, none⟩ = some (.int .u16 afl) := (f_p).cell 13
  have p_f13 := (f_p).frozen 13
  have p_28 : w_1.cell? ⟨w.heap.size + 2, 28, none⟩ = some (.int .u16 efl) := (f_p).cell 28
  have p_f28 := (f_p).frozen 28
  replace f_p := Lib.hid f_p
  replace hB_1 := Lib.hid hB_1
  go_wp2_with fail
  refine (HM.out _).mono ?_
  rintro e w_2 ⟨rfl, hb_2⟩
  have z_2 := hb_2.size
  try simp at z_2
  have t_ := hB_1.out
  have hB_2 := bel_eld (w := w) (X := _) (by first | ((repeat (first | with_reducible exact Below.refl _ _ | with_reducible assumption | (with_reducible refine bel_set ?_ (by first | exact Nat.le_refl _ | (simp; done) | (simp; omega) | omega) _) | with_reducible refine bel_grow ?_ _ | with_reducible refine Below.drew ?_ | with_reducible refine below_drewN ?_ _ | with_reducible refine bel_alloc ?_ _ | with_reducible refine bel_trans ?_ (by assumption))); done) | (repeat (first | exact Below.refl _ _ | assumption | refine below_drewN ?_ _ | refine bel_grow ?_ _ | refine Below.drew ?_ | refine bel_alloc ?_ _ | refine bel_set ?_ (by first | exact Nat.le_refl _ | (simp; done) | (simp; omega) | omega) _ | refine bel_trans ?_ (by assumption)))) hb_2
  clear t_
  have t_x := f_x.out
  have t_n := f_n.out
  have t_p := f_p.out
  have g_x : Blk w_2 (w.heap.size) 28 #[.int .u64 xi1, .int .u64 xi2, .int .u64 xd1, .int .u64 xd2, .int .u64 xc1, .int .u64 xc2, .int .u64 xm1, .int .u64 xm2, .int .u64 xw1, .int .u64 xw2, .int .u64 xtg, .int .u32 xto, .int .u32 xlg, .int .u16 xcd, .int .u16 xfl, .int .u64 xst] := by
    refine Blk.kept ?_ hb_2
    (repeat (first | with_reducible assumption | (with_reducible refine Blk.new' ?_; first | with_reducible rfl | (simp; done)) | with_reducible refine Blk.alloc ?_ _ | with_reducible refine Blk.grow ?_ _ | with_reducible refine Blk.drew ?_ | with_reducible refine Blk.drewN ?_ _ | (with_reducible refine Blk.far ?_ (by first | (dsimp only; omega) | (simp; omega)) _) | (with_reducible apply Blk.two) | (with_reducible refine Blk.set' ?_ _ _ ?_) | (with_reducible rfl) | rfl))
  have g_n : Blk w_2 (w.heap.size + 1) 24 #[.int .u64 n1, .int .u64 n2] := by
    refine Blk.kept ?_ hb_2
    (repeat (first | with_reducible assumption | (with_reducible refine Blk.new' ?_; first | with_reducible rfl | (simp; done)) | with_reducible refine Blk.alloc ?_ _ | with_reducible refine Blk.grow ?_ _ | with_reducible refine Blk.drew ?_ | with_reducible refine Blk.drewN ?_ _ | (with_reducible refine Blk.far ?_ (by first | (dsimp only; omega) | (simp; omega)) _) | (with_reducible apply Blk.two) | (with_reducible refine Blk.set' ?_ _ _ ?_) | (with_reducible rfl) | rfl))
  have g_p : Blk w_2 (w.heap.size + 2) 32 #[.int .u64 ai1, .int .u64 ai2, .int .u64 ap1, .int .u64 ap2, .int .u64 aq1, .int .u64 aq2, .int .u64 ar1, .int .u64 ar2, .int .u64 as1, .int .u64 as2, .int .u64 atg, .int .u32 alg, .int .u16 acd, .int .u16 afl, .int .u64 ast, .int .u64 ei1, .int .u64 ei2, .int .u64 ep1, .int .u64 ep2, .int .u64 eq1, .int .u64 eq2, .int .u64 er1, .int .u64 er2, .int .u64 es1, .int .u64 es2, .int .u64 etg, .int .u32 elg, .int .u16 ecd, .int .u16 efl, .int .u64 est, .bool hd, .bool hc] := by
    refine Blk.kept ?_ hb_2
    (repeat (first | with_reducible assumption | (with_reducible refine Blk.new' ?_; first | with_reducible rfl | (simp; done)) | with_reducible refine Blk.alloc ?_ _ | with_reducible refine Blk.grow ?_ _ | with_reducible refine Blk.drew ?_ | with_reducible refine Blk.drewN ?_ _ | (with_reducible refine Blk.far ?_ (by first | (dsimp only; omega) | (simp; omega)) _) | (with_reducible apply Blk.two) | (with_reducible refine Blk.set' ?_ _ _ ?_) | (with_reducible rfl) | rfl))
  clear f_x x_l r_x x_6 x_f6 x_7 x_f7 x_14 x_f14 f_n n_l n_0 n_1 n_f0 n_f1 f_p p_l r_p p_13 p_f13 p_28 p_f28 t_x t_n t_p hB_1 hb_2
  have f_x := g_x
  clear g_x
  have f_n := g_n
  clear g_n
  have f_p := g_p
  clear g_p
  have r_x := rowAt_blk f_x
  have x_l := f_x.lt
  have x_6 : w_2.cell? ⟨w.heap.size, 6, none⟩ = some (.int .u64 xm1) := (f_x).cell 6
  have x_f6 := (f_x).frozen 6
  have x_7 : w_2.cell? ⟨w.heap.size, 7, none⟩ = some (.int .u64 xm2) := (f_x).cell 7
  have x_f7 := (f_x).frozen 7
  have x_14 : w_2.cell? ⟨w.heap.size, 14, none⟩ = some (.int .u16 xfl) := (f_x).cell 14
  have x_f14 := (f_x).frozen 14
  replace f_x := Lib.hid f_x
  have n_0 : w_2.cell? ⟨w.heap.size + 1, 0, none⟩ = some (.int .u64 n1) := (f_n).cell 0
  have n_1 : w_2.cell? ⟨w.heap.size + 1, 1, none⟩ = some (.int .u64 n2) := (f_n).cell 1
  have n_f0 := (f_n).frozen 0
  have n_f1 := (f_n).frozen 1
  have n_l := (f_n).lt
  replace f_n := Lib.hid f_n
  have r_p := rowAt_blk f_p
  have p_l := f_p.lt
  have p_13 : w_2.cell? ⟨w.heap.size + 2, 13, none⟩ = some (.int .u16 afl) := (f_p).cell 13
  have p_f13 := (f_p).frozen 13
  have p_28 : w_2.cell? ⟨w.heap.size + 2, 28, none⟩ = some (.int .u16 efl) := (f_p).cell 28
  have p_f28 := (f_p).frozen 28
  replace f_p := Lib.hid f_p
  replace hB_2 := Lib.hid hB_2
  go_upto_if 29 with fail
  refine abs_wp (fun Y_ => Below w.heap.size w Y_ ∧ Blk Y_ (w.heap.size) 28 #[.int .u64 xi1, .int .u64 xi2, .int .u64 xd1, .int .u64 xd2, .int .u64 xc1, .int .u64 xc2, .int .u64 xm1, .int .u64 xm2, .int .u64 xw1, .int .u64 xw2, .int .u64 xtg, .int .u32 xto, .int .u32 xlg, .int .u16 xcd, .int .u16 xfl, .int .u64 xst] ∧ Blk Y_ (w.heap.size + 1) 24 #[.int .u64 n1, .int .u64 n2] ∧ Blk Y_ (w.heap.size + 2) 32 #[.int .u64 ai1, .int .u64 ai2, .int .u64 ap1, .int .u64 ap2, .int .u64 aq1, .int .u64 aq2, .int .u64 ar1, .int .u64 ar2, .int .u64 as1, .int .u64 as2, .int .u64 atg, .int .u32 alg, .int .u16 acd, .int .u16 afl, .int .u64 ast, .int .u64 ei1, .int .u64 ei2, .int .u64 ep1, .int .u64 ep2, .int .u64 eq1, .int .u64 eq2, .int .u64 er1, .int .u64 er2, .int .u64 es1, .int .u64 es2, .int .u64 etg, .int .u32 elg, .int .u16 ecd, .int .u16 efl, .int .u64 est, .bool hd, .bool hc] ∧ Blk Y_ (w_2.heap.size) 32 #[.int .u64 zai1, .int .u64 zai2, .int .u64 zap1, .int .u64 zap2, .int .u64 zaq1, .int .u64 zaq2, .int .u64 zar1, .int .u64 zar2, .int .u64 zas1, .int .u64 zas2, .int .u64 zatg, .int .u32 zalg, .int .u16 zacd, .int .u16 zafl, .int .u64 zast, .int .u64 zei1, .int .u64 zei2, .int .u64 zep1, .int .u64 zep2, .int .u64 zeq1, .int .u64 zeq2, .int .u64 zer1, .int .u64 zer2, .int .u64 zes1, .int .u64 zes2, .int .u64 zetg, .int .u32 zelg, .int .u16 zecd, .int .u16 zefl, .int .u64 zest, .bool zd, .bool zc]) ?_ ?_
  · have t_B := hB_2.out
    have t_x := f_x.out
    have t_n := f_n.out
    have t_p := f_p.out
    refine ⟨by (repeat (first | with_reducible exact Below.refl _ _ | with_reducible assumption | (with_reducible refine bel_set ?_ (by first | exact Nat.le_refl _ | (simp; done) | (simp; omega) | omega) _) | with_reducible refine bel_grow ?_ _ | with_reducible refine Below.drew ?_ | with_reducible refine bel_alloc ?_ _ | with_reducible refine bel_eld ?_ (by assumption))), ?_, ?_, ?_, ?_⟩
    · (repeat (first | with_reducible assumption | (with_reducible refine Blk.new' ?_; first | with_reducible rfl | (simp; done)) | with_reducible refine Blk.alloc ?_ _ | with_reducible refine Blk.grow ?_ _ | with_reducible refine Blk.drew ?_ | with_reducible refine Blk.drewN ?_ _ | (with_reducible refine Blk.far ?_ (by first | (dsimp only; omega) | (simp; omega)) _) | (with_reducible apply Blk.two) | (with_reducible refine Blk.kept ?_ (by assumption)) | (with_reducible refine Blk.setRow ?_ (by first | rfl | (simp; done))) | (with_reducible refine Blk.setRow_far ?_ (by first | omega | (simp; omega)) _) | (with_reducible refine Blk.set' ?_ _ _ (by first | rfl | (simp; done)))))
    · (repeat (first | with_reducible assumption | (with_reducible refine Blk.new' ?_; first | with_reducible rfl | (simp; done)) | with_reducible refine Blk.alloc ?_ _ | with_reducible refine Blk.grow ?_ _ | with_reducible refine Blk.drew ?_ | with_reducible refine Blk.drewN ?_ _ | (with_reducible refine Blk.far ?_ (by first | (dsimp only; omega) | (simp; omega)) _) | (with_reducible apply Blk.two) | (with_reducible refine Blk.kept ?_ (by assumption)) | (with_reducible refine Blk.setRow ?_ (by first | rfl | (simp; done))) | (with_reducible refine Blk.setRow_far ?_ (by first | omega | (simp; omega)) _) | (with_reducible refine Blk.set' ?_ _ _ (by first | rfl | (simp; done)))))
    · (repeat (first | with_reducible assumption | (with_reducible refine Blk.new' ?_; first | with_reducible rfl | (simp; done)) | with_reducible refine Blk.alloc ?_ _ | with_reducible refine Blk.grow ?_ _ | with_reducible refine Blk.drew ?_ | with_reducible refine Blk.drewN ?_ _ | (with_reducible refine Blk.far ?_ (by first | (dsimp only; omega) | (simp; omega)) _) | (with_reducible apply Blk.two) | (with_reducible refine Blk.kept ?_ (by assumption)) | (with_reducible refine Blk.setRow ?_ (by first | rfl | (simp; done))) | (with_reducible refine Blk.setRow_far ?_ (by first | omega | (simp; omega)) _) | (with_reducible refine Blk.set' ?_ _ _ (by first | rfl | (simp; done)))))
    · (repeat (first | with_reducible assumption | (with_reducible refine Blk.new' ?_; first | with_reducible rfl | (simp; done)) | with_reducible refine Blk.alloc ?_ _ | with_reducible refine Blk.grow ?_ _ | with_reducible refine Blk.drew ?_ | with_reducible refine Blk.drewN ?_ _ | (with_reducible refine Blk.far ?_ (by first | (dsimp only; omega) | (simp; omega)) _) | (with_reducible apply Blk.two) | (with_reducible refine Blk.kept ?_ (by assumption)) | (with_reducible refine Blk.setRow ?_ (by first | rfl | (simp; done))) | (with_reducible refine Blk.setRow_far ?_ (by first | omega | (simp; omega)) _) | (with_reducible refine Blk.set' ?_ _ _ (by first | rfl | (simp; done)))))
  clear f_x x_l r_x x_6 x_f6 x_7 x_f7 x_14 x_f14 f_n n_l n_0 n_1 n_f0 n_f1 f_p p_l r_p p_13 p_f13 p_28 p_f28 hB_2
  rintro X3 ⟨hB_3, f_x, f_n, f_p, f_z⟩
  have r_x := rowAt_blk f_x
  have x_l := f_x.lt
  have x_6 : X3.cell? ⟨w.heap.size, 6, none⟩ = some (.int .u64 xm1) := (f_x).cell 6
  have x_f6 := (f_x).frozen 6
  have x_7 : X3.cell? ⟨w.heap.size, 7, none⟩ = some (.int .u64 xm2) := (f_x).cell 7
  have x_f7 := (f_x).frozen 7
  have x_14 : X3.cell? ⟨w.heap.size, 14, none⟩ = some (.int .u16 xfl) := (f_x).cell 14
  have x_f14 := (f_x).frozen 14
  replace f_x := Lib.hid f_x
  have n_0 : X3.cell? ⟨w.heap.size + 1, 0, none⟩ = some (.int .u64 n1) := (f_n).cell 0
  have n_1 : X3.cell? ⟨w.heap.size + 1, 1, none⟩ = some (.int .u64 n2) := (f_n).cell 1
  have n_f0 := (f_n).frozen 0
  have n_f1 := (f_n).frozen 1
  have n_l := (f_n).lt
  replace f_n := Lib.hid f_n
  have r_p := rowAt_blk f_p
  have p_l := f_p.lt
  have p_13 : X3.cell? ⟨w.heap.size + 2, 13, none⟩ = some (.int .u16 afl) := (f_p).cell 13
  have p_f13 := (f_p).frozen 13
  have p_28 : X3.cell? ⟨w.heap.size + 2, 28, none⟩ = some (.int .u16 efl) := (f_p).cell 28
  have p_f28 := (f_p).frozen 28
  replace f_p := Lib.hid f_p
  have r_z := rowAt_blk f_z
  have z_l := f_z.lt
  have z_2 : X3.cell? ⟨w_2.heap.size, 2, none⟩ = some (.int .u64 zap1) := (f_z).cell 2
  have z_f2 := (f_z).frozen 2
  have z_3 : X3.cell? ⟨w_2.heap.size, 3, none⟩ = some (.int .u64 zap2) := (f_z).cell 3
  have z_f3 := (f_z).frozen 3
  have z_4 : X3.cell? ⟨w_2.heap.size, 4, none⟩ = some (.int .u64 zaq1) := (f_z).cell 4
  have z_f4 := (f_z).frozen 4
  have z_5 : X3.cell? ⟨w_2.heap.size, 5, none⟩ = some (.int .u64 zaq2) := (f_z).cell 5
  have z_f5 := (f_z).frozen 5
  have z_8 : X3.cell? ⟨w_2.heap.size, 8, none⟩ = some (.int .u64 zas1) := (f_z).cell 8
  have z_f8 := (f_z).frozen 8
  have z_9 : X3.cell? ⟨w_2.heap.size, 9, none⟩ = some (.int .u64 zas2) := (f_z).cell 9
  have z_f9 := (f_z).frozen 9
  have z_19 : X3.cell? ⟨w_2.heap.size, 19, none⟩ = some (.int .u64 zeq1) := (f_z).cell 19
  have z_f19 := (f_z).frozen 19
  have z_20 : X3.cell? ⟨w_2.heap.size, 20, none⟩ = some (.int .u64 zeq2) := (f_z).cell 20
  have z_f20 := (f_z).frozen 20
  have z_21 : X3.cell? ⟨w_2.heap.size, 21, none⟩ = some (.int .u64 zer1) := (f_z).cell 21
  have z_f21 := (f_z).frozen 21
  have z_22 : X3.cell? ⟨w_2.heap.size, 22, none⟩ = some (.int .u64 zer2) := (f_z).cell 22
  have z_f22 := (f_z).frozen 22
  have z_23 : X3.cell? ⟨w_2.heap.size, 23, none⟩ = some (.int .u64 zes1) := (f_z).cell 23
  have z_f23 := (f_z).frozen 23
  have z_24 : X3.cell? ⟨w_2.heap.size, 24, none⟩ = some (.int .u64 zes2) := (f_z).cell 24
  have z_f24 := (f_z).frozen 24
  replace f_z := Lib.hid f_z
  replace hB_3 := Lib.hid hB_3
  go_cut [] (fun  wx => Below w.heap.size w wx ∧ Blk wx (w.heap.size) 28 #[.int .u64 xi1, .int .u64 xi2, .int .u64 xd1, .int .u64 xd2, .int .u64 xc1, .int .u64 xc2, .int .u64 xm1, .int .u64 xm2, .int .u64 xw1, .int .u64 xw2, .int .u64 xtg, .int .u32 xto, .int .u32 xlg, .int .u16 xcd, .int .u16 xfl, .int .u64 xst] ∧ Blk wx (w.heap.size + 2) 32 #[.int .u64 ai1, .int .u64 ai2, .int .u64 ap1, .int .u64 ap2, .int .u64 aq1, .int .u64 aq2, .int .u64 ar1, .int .u64 ar2, .int .u64 as1, .int .u64 as2, .int .u64 atg, .int .u32 alg, .int .u16 acd, .int .u16 afl, .int .u64 ast, .int .u64 ei1, .int .u64 ei2, .int .u64 ep1, .int .u64 ep2, .int .u64 eq1, .int .u64 eq2, .int .u64 er1, .int .u64 er2, .int .u64 es1, .int .u64 es2, .int .u64 etg, .int .u32 elg, .int .u16 ecd, .int .u16 efl, .int .u64 est, .bool hd, .bool hc])
  case first =>
    by_cases hv : v = 0
    case neg =>
      have hv' : (v == 0) = false := by simpa using hv
      go_wp2_with fail
      go_meet
      have t_B := hB_3.out
      have t_x := f_x.out
      have t_n := f_n.out
      have t_p := f_p.out
      have t_z := f_z.out
      exact ⟨by (repeat (first | with_reducible exact Below.refl _ _ | with_reducible assumption | (with_reducible refine bel_set ?_ (by first | exact Nat.le_refl _ | (simp; done) | (simp; omega) | omega) _) | with_reducible refine bel_grow ?_ _ | with_reducible refine Below.drew ?_ | with_reducible refine bel_alloc ?_ _ | (with_reducible refine below_setRow ?_ (by first | omega | (simp; omega)) _) | with_reducible refine bel_eld ?_ (by assumption))), by (repeat (first | with_reducible assumption | (with_reducible refine Blk.new' ?_; first | with_reducible rfl | (simp; done)) | with_reducible refine Blk.alloc ?_ _ | with_reducible refine Blk.grow ?_ _ | with_reducible refine Blk.drew ?_ | with_reducible refine Blk.drewN ?_ _ | (with_reducible refine Blk.far ?_ (by first | (dsimp only; omega) | (simp; omega)) _) | (with_reducible apply Blk.two) | (with_reducible refine Blk.kept ?_ (by assumption)) | (with_reducible refine Blk.setRow ?_ (by first | rfl | (simp; done))) | (with_reducible refine Blk.setRow_far ?_ (by first | omega | (simp; omega)) _) | (with_reducible refine Blk.set' ?_ _ _ (by first | rfl | (simp; done))))), by (repeat (first | with_reducible assumption | (with_reducible refine Blk.new' ?_; first | with_reducible rfl | (simp; done)) | with_reducible refine Blk.alloc ?_ _ | with_reducible refine Blk.grow ?_ _ | with_reducible refine Blk.drew ?_ | with_reducible refine Blk.drewN ?_ _ | (with_reducible refine Blk.far ?_ (by first | (dsimp only; omega) | (simp; omega)) _) | (with_reducible apply Blk.two) | (with_reducible refine Blk.kept ?_ (by assumption)) | (with_reducible refine Blk.setRow ?_ (by first | rfl | (simp; done))) | (with_reducible refine Blk.setRow_far ?_ (by first | omega | (simp; omega)) _) | (with_reducible refine Blk.set' ?_ _ _ (by first | rfl | (simp; done)))))⟩
    case pos =>
      have hv' : (v == 0) = true := by simpa using hv
      obtain ⟨rfl, rfl, rfl, g1, g2⟩ := F1.out hv
      replace g1 := Lib.hid g1
      replace g2 := Lib.hid g2
      replace hv := Lib.hid hv
      go_wp2_with fail
      refine (HD.out _).mono ?_
      rintro e w_4 ⟨rfl, hb_4⟩
      have z_4 := hb_4.size
      try simp at z_4
      have t_ := hB_3.out
      have hB_4 := bel_eld (w := w) (X := _) (by first | ((repeat (first | with_reducible exact Below.refl _ _ | with_reducible assumption | (with_reducible refine bel_set ?_ (by first | exact Nat.le_refl _ | (simp; done) | (simp; omega) | omega) _) | with_reducible refine bel_grow ?_ _ | with_reducible refine Below.drew ?_ | with_reducible refine below_drewN ?_ _ | with_reducible refine bel_alloc ?_ _ | with_reducible refine bel_trans ?_ (by assumption))); done) | (repeat (first | exact Below.refl _ _ | assumption | refine below_drewN ?_ _ | refine bel_grow ?_ _ | refine Below.drew ?_ | refine bel_alloc ?_ _ | refine bel_set ?_ (by first | exact Nat.le_refl _ | (simp; done) | (simp; omega) | omega) _ | refine bel_trans ?_ (by assumption)))) hb_4
      clear t_
      have t_x := f_x.out
      have t_n := f_n.out
      have t_p := f_p.out
      have t_z := f_z.out
      have g_x : Blk w_4 (w.heap.size) 28 #[.int .u64 xi1, .int .u64 xi2, .int .u64 xd1, .int .u64 xd2, .int .u64 xc1, .int .u64 xc2, .int .u64 xm1, .int .u64 xm2, .int .u64 xw1, .int .u64 xw2, .int .u64 xtg, .int .u32 xto, .int .u32 xlg, .int .u16 xcd, .int .u16 xfl, .int .u64 xst] := by
        refine Blk.kept ?_ hb_4
        (repeat (first | with_reducible assumption | (with_reducible refine Blk.new' ?_; first | with_reducible rfl | (simp; done)) | with_reducible refine Blk.alloc ?_ _ | with_reducible refine Blk.grow ?_ _ | with_reducible refine Blk.drew ?_ | with_reducible refine Blk.drewN ?_ _ | (with_reducible refine Blk.far ?_ (by first | (dsimp only; omega) | (simp; omega)) _) | (with_reducible apply Blk.two) | (with_reducible refine Blk.set' ?_ _ _ ?_) | (with_reducible rfl) | rfl))
      have g_n : Blk w_4 (w.heap.size + 1) 24 #[.int .u64 n1, .int .u64 n2] := by
        refine Blk.kept ?_ hb_4
        (repeat (first | with_reducible assumption | (with_reducible refine Blk.new' ?_; first | with_reducible rfl | (simp; done)) | with_reducible refine Blk.alloc ?_ _ | with_reducible refine Blk.grow ?_ _ | with_reducible refine Blk.drew ?_ | with_reducible refine Blk.drewN ?_ _ | (with_reducible refine Blk.far ?_ (by first | (dsimp only; omega) | (simp; omega)) _) | (with_reducible apply Blk.two) | (with_reducible refine Blk.set' ?_ _ _ ?_) | (with_reducible rfl) | rfl))
      have g_p : Blk w_4 (w.heap.size + 2) 32 #[.int .u64 ai1, .int .u64 ai2, .int .u64 ap1, .int .u64 ap2, .int .u64 aq1, .int .u64 aq2, .int .u64 ar1, .int .u64 ar2, .int .u64 as1, .int .u64 as2, .int .u64 atg, .int .u32 alg, .int .u16 acd, .int .u16 afl, .int .u64 ast, .int .u64 ei1, .int .u64 ei2, .int .u64 ep1, .int .u64 ep2, .int .u64 eq1, .int .u64 eq2, .int .u64 er1, .int .u64 er2, .int .u64 es1, .int .u64 es2, .int .u64 etg, .int .u32 elg, .int .u16 ecd, .int .u16 efl, .int .u64 est, .bool hd, .bool hc] := by
        refine Blk.kept ?_ hb_4
        (repeat (first | with_reducible assumption | (with_reducible refine Blk.new' ?_; first | with_reducible rfl | (simp; done)) | with_reducible refine Blk.alloc ?_ _ | with_reducible refine Blk.grow ?_ _ | with_reducible refine Blk.drew ?_ | with_reducible refine Blk.drewN ?_ _ | (with_reducible refine Blk.far ?_ (by first | (dsimp only; omega) | (simp; omega)) _) | (with_reducible apply Blk.two) | (with_reducible refine Blk.set' ?_ _ _ ?_) | (with_reducible rfl) | rfl))
      have g_z : Blk w_4 (w_2.heap.size) 32 #[.int .u64 zai1, .int .u64 zai2, .int .u64 zap1, .int .u64 zap2, .int .u64 zaq1, .int .u64 zaq2, .int .u64 zar1, .int .u64 zar2, .int .u64 zas1, .int .u64 zas2, .int .u64 zatg, .int .u32 zalg, .int .u16 zacd, .int .u16 zafl, .int .u64 zast, .int .u64 zei1, .int .u64 zei2, .int .u64 zep1, .int .u64 zep2, .int .u64 zeq1, .int .u64 zeq2, .int .u64 zer1, .int .u64 zer2, .int .u64 zes1, .int .u64 zes2, .int .u64 zetg, .int .u32 zelg, .int .u16 zecd, .int .u16 zefl, .int .u64 zest, .bool zd, .bool zc] := by
        refine Blk.kept ?_ hb_4
        (repeat (first | with_reducible assumption | (with_reducible refine Blk.new' ?_; first | with_reducible rfl | (simp; done)) | with_reducible refine Blk.alloc ?_ _ | with_reducible refine Blk.grow ?_ _ | with_reducible refine Blk.drew ?_ | with_reducible refine Blk.drewN ?_ _ | (with_reducible refine Blk.far ?_ (by first | (dsimp only; omega) | (simp; omega)) _) | (with_reducible apply Blk.two) | (with_reducible refine Blk.set' ?_ _ _ ?_) | (with_reducible rfl) | rfl))
      clear f_x x_l r_x x_6 x_f6 x_7 x_f7 x_14 x_f14 f_n n_l n_0 n_1 n_f0 n_f1 f_p p_l r_p p_13 p_f13 p_28 p_f28 f_z z_l r_z z_2 z_f2 z_3 z_f3 z_4 z_f4 z_5 z_f5 z_8 z_f8 z_9 z_f9 z_19 z_f19 z_20 z_f20 z_21 z_f21 z_22 z_f22 z_23 z_f23 z_24 z_f24 t_x t_n t_p t_z hB_3 hb_4
      have f_x := g_x
      clear g_x
      have f_n := g_n
      clear g_n
      have f_p := g_p
      clear g_p
      have f_z := g_z
      clear g_z
      have r_x := rowAt_blk f_x
      have x_l := f_x.lt
      have x_6 : w_4.cell? ⟨w.heap.size, 6, none⟩ = some (.int .u64 xm1) := (f_x).cell 6
      have x_f6 := (f_x).frozen 6
      have x_7 : w_4.cell? ⟨w.heap.size, 7, none⟩ = some (.int .u64 xm2) := (f_x).cell 7
      have x_f7 := (f_x).frozen 7
      have x_14 : w_4.cell? ⟨w.heap.size, 14, none⟩ = some (.int .u16 xfl) := (f_x).cell 14
      have x_f14 := (f_x).frozen 14
      replace f_x := Lib.hid f_x
      have n_0 : w_4.cell? ⟨w.heap.size + 1, 0, none⟩ = some (.int .u64 n1) := (f_n).cell 0
      have n_1 : w_4.cell? ⟨w.heap.size + 1, 1, none⟩ = some (.int .u64 n2) := (f_n).cell 1
      have n_f0 := (f_n).frozen 0
      have n_f1 := (f_n).frozen 1
      have n_l := (f_n).lt
      replace f_n := Lib.hid f_n
      have r_p := rowAt_blk f_p
      have p_l := f_p.lt
      have p_13 : w_4.cell? ⟨w.heap.size + 2, 13, none⟩ = some (.int .u16 afl) := (f_p).cell 13
      have p_f13 := (f_p).frozen 13
      have p_28 : w_4.cell? ⟨w.heap.size + 2, 28, none⟩ = some (.int .u16 efl) := (f_p).cell 28
      have p_f28 := (f_p).frozen 28
      replace f_p := Lib.hid f_p
      have r_z := rowAt_blk f_z
      have z_l := f_z.lt
      have z_2 : w_4.cell? ⟨w_2.heap.size, 2, none⟩ = some (.int .u64 zap1) := (f_z).cell 2
      have z_f2 := (f_z).frozen 2
      have z_3 : w_4.cell? ⟨w_2.heap.size, 3, none⟩ = some (.int .u64 zap2) := (f_z).cell 3
      have z_f3 := (f_z).frozen 3
      have z_4 : w_4.cell? ⟨w_2.heap.size, 4, none⟩ = some (.int .u64 zaq1) := (f_z).cell 4
      have z_f4 := (f_z).frozen 4
      have z_5 : w_4.cell? ⟨w_2.heap.size, 5, none⟩ = some (.int .u64 zaq2) := (f_z).cell 5
      have z_f5 := (f_z).frozen 5
      have z_8 : w_4.cell? ⟨w_2.heap.size, 8, none⟩ = some (.int .u64 zas1) := (f_z).cell 8
      have z_f8 := (f_z).frozen 8
      have z_9 : w_4.cell? ⟨w_2.heap.size, 9, none⟩ = some (.int .u64 zas2) := (f_z).cell 9
      have z_f9 := (f_z).frozen 9
      have z_19 : w_4.cell? ⟨w_2.heap.size, 19, none⟩ = some (.int .u64 zeq1) := (f_z).cell 19
      have z_f19 := (f_z).frozen 19
      have z_20 : w_4.cell? ⟨w_2.heap.size, 20, none⟩ = some (.int .u64 zeq2) := (f_z).cell 20
      have z_f20 := (f_z).frozen 20
      have z_21 : w_4.cell? ⟨w_2.heap.size, 21, none⟩ = some (.int .u64 zer1) := (f_z).cell 21
      have z_f21 := (f_z).frozen 21
      have z_22 : w_4.cell? ⟨w_2.heap.size, 22, none⟩ = some (.int .u64 zer2) := (f_z).cell 22
      have z_f22 := (f_z).frozen 22
      have z_23 : w_4.cell? ⟨w_2.heap.size, 23, none⟩ = some (.int .u64 zes1) := (f_z).cell 23
      have z_f23 := (f_z).frozen 23
      have z_24 : w_4.cell? ⟨w_2.heap.size, 24, none⟩ = some (.int .u64 zes2) := (f_z).cell 24
      have z_f24 := (f_z).frozen 24
      replace f_z := Lib.hid f_z
      replace hB_4 := Lib.hid hB_4
      clear hv'
      go_wp2_with fail
      refine (HC.out _).mono ?_
      rintro e w_5 ⟨rfl, hb_5⟩
      have z_5 := hb_5.size
      try simp at z_5
      have t_ := hB_4.out
      have hB_5 := bel_eld (w := w) (X := _) (by first | ((repeat (first | with_reducible exact Below.refl _ _ | with_reducible assumption | (with_reducible refine bel_set ?_ (by first | exact Nat.le_refl _ | (simp; done) | (simp; omega) | omega) _) | with_reducible refine bel_grow ?_ _ | with_reducible refine Below.drew ?_ | with_reducible refine below_drewN ?_ _ | with_reducible refine bel_alloc ?_ _ | with_reducible refine bel_trans ?_ (by assumption))); done) | (repeat (first | exact Below.refl _ _ | assumption | refine below_drewN ?_ _ | refine bel_grow ?_ _ | refine Below.drew ?_ | refine bel_alloc ?_ _ | refine bel_set ?_ (by first | exact Nat.le_refl _ | (simp; done) | (simp; omega) | omega) _ | refine bel_trans ?_ (by assumption)))) hb_5
      clear t_
      have t_x := f_x.out
      have t_n := f_n.out
      have t_p := f_p.out
      have t_z := f_z.out
      have g_x : Blk w_5 (w.heap.size) 28 #[.int .u64 xi1, .int .u64 xi2, .int .u64 xd1, .int .u64 xd2, .int .u64 xc1, .int .u64 xc2, .int .u64 xm1, .int .u64 xm2, .int .u64 xw1, .int .u64 xw2, .int .u64 xtg, .int .u32 xto, .int .u32 xlg, .int .u16 xcd, .int .u16 xfl, .int .u64 xst] := by
        refine Blk.kept ?_ hb_5
        (repeat (first | with_reducible assumption | (with_reducible refine Blk.new' ?_; first | with_reducible rfl | (simp; done)) | with_reducible refine Blk.alloc ?_ _ | with_reducible refine Blk.grow ?_ _ | with_reducible refine Blk.drew ?_ | with_reducible refine Blk.drewN ?_ _ | (with_reducible refine Blk.far ?_ (by first | (dsimp only; omega) | (simp; omega)) _) | (with_reducible apply Blk.two) | (with_reducible refine Blk.set' ?_ _ _ ?_) | (with_reducible rfl) | rfl))
      have g_n : Blk w_5 (w.heap.size + 1) 24 #[.int .u64 n1, .int .u64 n2] := by
        refine Blk.kept ?_ hb_5
        (repeat (first | with_reducible assumption | (with_reducible refine Blk.new' ?_; first | with_reducible rfl | (simp; done)) | with_reducible refine Blk.alloc ?_ _ | with_reducible refine Blk.grow ?_ _ | with_reducible refine Blk.drew ?_ | with_reducible refine Blk.drewN ?_ _ | (with_reducible refine Blk.far ?_ (by first | (dsimp only; omega) | (simp; omega)) _) | (with_reducible apply Blk.two) | (with_reducible refine Blk.set' ?_ _ _ ?_) | (with_reducible rfl) | rfl))
      have g_p : Blk w_5 (w.heap.size + 2) 32 #[.int .u64 ai1, .int .u64 ai2, .int .u64 ap1, .int .u64 ap2, .int .u64 aq1, .int .u64 aq2, .int .u64 ar1, .int .u64 ar2, .int .u64 as1, .int .u64 as2, .int .u64 atg, .int .u32 alg, .int .u16 acd, .int .u16 afl, .int .u64 ast, .int .u64 ei1, .int .u64 ei2, .int .u64 ep1, .int .u64 ep2, .int .u64 eq1, .int .u64 eq2, .int .u64 er1, .int .u64 er2, .int .u64 es1, .int .u64 es2, .int .u64 etg, .int .u32 elg, .int .u16 ecd, .int .u16 efl, .int .u64 est, .bool hd, .bool hc] := by
        refine Blk.kept ?_ hb_5
        (repeat (first | with_reducible assumption | (with_reducible refine Blk.new' ?_; first | with_reducible rfl | (simp; done)) | with_reducible refine Blk.alloc ?_ _ | with_reducible refine Blk.grow ?_ _ | with_reducible refine Blk.drew ?_ | with_reducible refine Blk.drewN ?_ _ | (with_reducible refine Blk.far ?_ (by first | (dsimp only; omega) | (simp; omega)) _) | (with_reducible apply Blk.two) | (with_reducible refine Blk.set' ?_ _ _ ?_) | (with_reducible rfl) | rfl))
      have g_z : Blk w_5 (w_2.heap.size) 32 #[.int .u64 zai1, .int .u64 zai2, .int .u64 zap1, .int .u64 zap2, .int .u64 zaq1, .int .u64 zaq2, .int .u64 zar1, .int .u64 zar2, .int .u64 zas1, .int .u64 zas2, .int .u64 zatg, .int .u32 zalg, .int .u16 zacd, .int .u16 zafl, .int .u64 zast, .int .u64 zei1, .int .u64 zei2, .int .u64 zep1, .int .u64 zep2, .int .u64 zeq1, .int .u64 zeq2, .int .u64 zer1, .int .u64 zer2, .int .u64 zes1, .int .u64 zes2, .int .u64 zetg, .int .u32 zelg, .int .u16 zecd, .int .u16 zefl, .int .u64 zest, .bool zd, .bool zc] := by
        refine Blk.kept ?_ hb_5
        (repeat (first | with_reducible assumption | (with_reducible refine Blk.new' ?_; first | with_reducible rfl | (simp; done)) | with_reducible refine Blk.alloc ?_ _ | with_reducible refine Blk.grow ?_ _ | with_reducible refine Blk.drew ?_ | with_reducible refine Blk.drewN ?_ _ | (with_reducible refine Blk.far ?_ (by first | (dsimp only; omega) | (simp; omega)) _) | (with_reducible apply Blk.two) | (with_reducible refine Blk.set' ?_ _ _ ?_) | (with_reducible rfl) | rfl))
      have g_d : Blk w_5 (w_4.heap.size) 24 #[.int .u64 dh, .int .u64 dl] := by
        refine Blk.kept ?_ hb_5
        (repeat (first | with_reducible assumption | (with_reducible refine Blk.new' ?_; first | with_reducible rfl | (simp; done)) | with_reducible refine Blk.alloc ?_ _ | with_reducible refine Blk.grow ?_ _ | with_reducible refine Blk.drew ?_ | with_reducible refine Blk.drewN ?_ _ | (with_reducible refine Blk.far ?_ (by first | (dsimp only; omega) | (simp; omega)) _) | (with_reducible apply Blk.two) | (with_reducible refine Blk.set' ?_ _ _ ?_) | (with_reducible rfl) | rfl))
      clear f_x x_l r_x x_6 x_f6 x_7 x_f7 x_14 x_f14 f_n n_l n_0 n_1 n_f0 n_f1 f_p p_l r_p p_13 p_f13 p_28 p_f28 f_z z_l r_z z_2 z_f2 z_3 z_f3 z_4 z_f4 z_5 z_f5 z_8 z_f8 z_9 z_f9 z_19 z_f19 z_20 z_f20 z_21 z_f21 z_22 z_f22 z_23 z_f23 z_24 z_f24 t_x t_n t_p t_z hB_4 hb_5
      have f_x := g_x
      clear g_x
      have f_n := g_n
      clear g_n
      have f_p := g_p
      clear g_p
      have f_z := g_z
      clear g_z
      have f_d := g_d
      clear g_d
      have r_x := rowAt_blk f_x
      have x_l := f_x.lt
      have x_6 : w_5.cell? ⟨w.heap.size, 6, none⟩ = some (.int .u64 xm1) := (f_x).cell 6
      have x_f6 := (f_x).frozen 6
      have x_7 : w_5.cell? ⟨w.heap.size, 7, none⟩ = some (.int .u64 xm2) := (f_x).cell 7
      have x_f7 := (f_x).frozen 7
      have x_14 : w_5.cell? ⟨w.heap.size, 14, none⟩ = some (.int .u16 xfl) := (f_x).cell 14
      have x_f14 := (f_x).frozen 14
      replace f_x := Lib.hid f_x
      have n_0 : w_5.cell? ⟨w.heap.size + 1, 0, none⟩ = some (.int .u64 n1) := (f_n).cell 0
      have n_1 : w_5.cell? ⟨w.heap.size + 1, 1, none⟩ = some (.int .u64 n2) := (f_n).cell 1
      have n_f0 := (f_n).frozen 0
      have n_f1 := (f_n).frozen 1
      have n_l := (f_n).lt
      replace f_n := Lib.hid f_n
      have r_p := rowAt_blk f_p
      have p_l := f_p.lt
      have p_13 : w_5.cell? ⟨w.heap.size + 2, 13, none⟩ = some (.int .u16 afl) := (f_p).cell 13
      have p_f13 := (f_p).frozen 13
      have p_28 : w_5.cell? ⟨w.heap.size + 2, 28, none⟩ = some (.int .u16 efl) := (f_p).cell 28
      have p_f28 := (f_p).frozen 28
      replace f_p := Lib.hid f_p
      have r_z := rowAt_blk f_z
      have z_l := f_z.lt
      have z_2 : w_5.cell? ⟨w_2.heap.size, 2, none⟩ = some (.int .u64 zap1) := (f_z).cell 2
      have z_f2 := (f_z).frozen 2
      have z_3 : w_5.cell? ⟨w_2.heap.size, 3, none⟩ = some (.int .u64 zap2) := (f_z).cell 3
      have z_f3 := (f_z).frozen 3
      have z_4 : w_5.cell? ⟨w_2.heap.size, 4, none⟩ = some (.int .u64 zaq1) := (f_z).cell 4
      have z_f4 := (f_z).frozen 4
      have z_5 : w_5.cell? ⟨w_2.heap.size, 5, none⟩ = some (.int .u64 zaq2) := (f_z).cell 5
      have z_f5 := (f_z).frozen 5
      have z_8 : w_5.cell? ⟨w_2.heap.size, 8, none⟩ = some (.int .u64 zas1) := (f_z).cell 8
      have z_f8 := (f_z).frozen 8
      have z_9 : w_5.cell? ⟨w_2.heap.size, 9, none⟩ = some (.int .u64 zas2) := (f_z).cell 9
      have z_f9 := (f_z).frozen 9
      have z_19 : w_5.cell? ⟨w_2.heap.size, 19, none⟩ = some (.int .u64 zeq1) := (f_z).cell 19
      have z_f19 := (f_z).frozen 19
      have z_20 : w_5.cell? ⟨w_2.heap.size, 20, none⟩ = some (.int .u64 zeq2) := (f_z).cell 20
      have z_f20 := (f_z).frozen 20
      have z_21 : w_5.cell? ⟨w_2.heap.size, 21, none⟩ = some (.int .u64 zer1) := (f_z).cell 21
      have z_f21 := (f_z).frozen 21
      have z_22 : w_5.cell? ⟨w_2.heap.size, 22, none⟩ = some (.int .u64 zer2) := (f_z).cell 22
      have z_f22 := (f_z).frozen 22
      have z_23 : w_5.cell? ⟨w_2.heap.size, 23, none⟩ = some (.int .u64 zes1) := (f_z).cell 23
      have z_f23 := (f_z).frozen 23
      have z_24 : w_5.cell? ⟨w_2.heap.size, 24, none⟩ = some (.int .u64 zes2) := (f_z).cell 24
      have z_f24 := (f_z).frozen 24
      replace f_z := Lib.hid f_z
      have d_0 : w_5.cell? ⟨w_4.heap.size, 0, none⟩ = some (.int .u64 dh) := (f_d).cell 0
      have d_1 : w_5.cell? ⟨w_4.heap.size, 1, none⟩ = some (.int .u64 dl) := (f_d).cell 1
      have d_f0 := (f_d).frozen 0
      have d_f1 := (f_d).frozen 1
      have d_l := (f_d).lt
      replace f_d := Lib.hid f_d
      replace hB_5 := Lib.hid hB_5
      go_upto_region 6 with fail
      refine abs_wp (fun Y_ => Below w.heap.size w Y_ ∧ Blk Y_ (w.heap.size) 28 #[.int .u64 xi1, .int .u64 xi2, .int .u64 xd1, .int .u64 xd2, .int .u64 xc1, .int .u64 xc2, .int .u64 xm1, .int .u64 xm2, .int .u64 xw1, .int .u64 xw2, .int .u64 xtg, .int .u32 xto, .int .u32 xlg, .int .u16 xcd, .int .u16 xfl, .int .u64 xst] ∧ Blk Y_ (w.heap.size + 1) 24 #[.int .u64 n1, .int .u64 n2] ∧ Blk Y_ (w.heap.size + 2) 32 #[.int .u64 ai1, .int .u64 ai2, .int .u64 ap1, .int .u64 ap2, .int .u64 aq1, .int .u64 aq2, .int .u64 ar1, .int .u64 ar2, .int .u64 as1, .int .u64 as2, .int .u64 atg, .int .u32 alg, .int .u16 acd, .int .u16 afl, .int .u64 ast, .int .u64 ei1, .int .u64 ei2, .int .u64 ep1, .int .u64 ep2, .int .u64 eq1, .int .u64 eq2, .int .u64 er1, .int .u64 er2, .int .u64 es1, .int .u64 es2, .int .u64 etg, .int .u32 elg, .int .u16 ecd, .int .u16 efl, .int .u64 est, .bool hd, .bool hc] ∧ Blk Y_ (w_2.heap.size) 32 #[.int .u64 zai1, .int .u64 zai2, .int .u64 zap1, .int .u64 zap2, .int .u64 zaq1, .int .u64 zaq2, .int .u64 zar1, .int .u64 zar2, .int .u64 zas1, .int .u64 zas2, .int .u64 zatg, .int .u32 zalg, .int .u16 zacd, .int .u16 zafl, .int .u64 zast, .int .u64 zei1, .int .u64 zei2, .int .u64 zep1, .int .u64 zep2, .int .u64 zeq1, .int .u64 zeq2, .int .u64 zer1, .int .u64 zer2, .int .u64 zes1, .int .u64 zes2, .int .u64 zetg, .int .u32 zelg, .int .u16 zecd, .int .u16 zefl, .int .u64 zest, .bool zd, .bool zc] ∧ Blk Y_ (w_4.heap.size) 24 #[.int .u64 dh, .int .u64 dl] ∧ Blk Y_ (w_5.heap.size) 24 #[.int .u64 ch, .int .u64 cl]) ?_ ?_
      · have t_B := hB_5.out
        have t_x := f_x.out
        have t_n := f_n.out
        have t_p := f_p.out
        have t_z := f_z.out
        have t_d := f_d.out
        refine ⟨by (repeat (first | with_reducible exact Below.refl _ _ | with_reducible assumption | (with_reducible refine bel_set ?_ (by first | exact Nat.le_refl _ | (simp; done) | (simp; omega) | omega) _) | with_reducible refine bel_grow ?_ _ | with_reducible refine Below.drew ?_ | with_reducible refine bel_alloc ?_ _ | with_reducible refine bel_eld ?_ (by assumption))), ?_, ?_, ?_, ?_, ?_, ?_⟩
        · (repeat (first | with_reducible assumption | (with_reducible refine Blk.new' ?_; first | with_reducible rfl | (simp; done)) | with_reducible refine Blk.alloc ?_ _ | with_reducible refine Blk.grow ?_ _ | with_reducible refine Blk.drew ?_ | with_reducible refine Blk.drewN ?_ _ | (with_reducible refine Blk.far ?_ (by first | (dsimp only; omega) | (simp; omega)) _) | (with_reducible apply Blk.two) | (with_reducible refine Blk.kept ?_ (by assumption)) | (with_reducible refine Blk.setRow ?_ (by first | rfl | (simp; done))) | (with_reducible refine Blk.setRow_far ?_ (by first | omega | (simp; omega)) _) | (with_reducible refine Blk.set' ?_ _ _ (by first | rfl | (simp; done)))))
        · (repeat (first | with_reducible assumption | (with_reducible refine Blk.new' ?_; first | with_reducible rfl | (simp; done)) | with_reducible refine Blk.alloc ?_ _ | with_reducible refine Blk.grow ?_ _ | with_reducible refine Blk.drew ?_ | with_reducible refine Blk.drewN ?_ _ | (with_reducible refine Blk.far ?_ (by first | (dsimp only; omega) | (simp; omega)) _) | (with_reducible apply Blk.two) | (with_reducible refine Blk.kept ?_ (by assumption)) | (with_reducible refine Blk.setRow ?_ (by first | rfl | (simp; done))) | (with_reducible refine Blk.setRow_far ?_ (by first | omega | (simp; omega)) _) | (with_reducible refine Blk.set' ?_ _ _ (by first | rfl | (simp; done)))))
        · (repeat (first | with_reducible assumption | (with_reducible refine Blk.new' ?_; first | with_reducible rfl | (simp; done)) | with_reducible refine Blk.alloc ?_ _ | with_reducible refine Blk.grow ?_ _ | with_reducible refine Blk.drew ?_ | with_reducible refine Blk.drewN ?_ _ | (with_reducible refine Blk.far ?_ (by first | (dsimp only; omega) | (simp; omega)) _) | (with_reducible apply Blk.two) | (with_reducible refine Blk.kept ?_ (by assumption)) | (with_reducible refine Blk.setRow ?_ (by first | rfl | (simp; done))) | (with_reducible refine Blk.setRow_far ?_ (by first | omega | (simp; omega)) _) | (with_reducible refine Blk.set' ?_ _ _ (by first | rfl | (simp; done)))))
        · (repeat (first | with_reducible assumption | (with_reducible refine Blk.new' ?_; first | with_reducible rfl | (simp; done)) | with_reducible refine Blk.alloc ?_ _ | with_reducible refine Blk.grow ?_ _ | with_reducible refine Blk.drew ?_ | with_reducible refine Blk.drewN ?_ _ | (with_reducible refine Blk.far ?_ (by first | (dsimp only; omega) | (simp; omega)) _) | (with_reducible apply Blk.two) | (with_reducible refine Blk.kept ?_ (by assumption)) | (with_reducible refine Blk.setRow ?_ (by first | rfl | (simp; done))) | (with_reducible refine Blk.setRow_far ?_ (by first | omega | (simp; omega)) _) | (with_reducible refine Blk.set' ?_ _ _ (by first | rfl | (simp; done)))))
        · (repeat (first | with_reducible assumption | (with_reducible refine Blk.new' ?_; first | with_reducible rfl | (simp; done)) | with_reducible refine Blk.alloc ?_ _ | with_reducible refine Blk.grow ?_ _ | with_reducible refine Blk.drew ?_ | with_reducible refine Blk.drewN ?_ _ | (with_reducible refine Blk.far ?_ (by first | (dsimp only; omega) | (simp; omega)) _) | (with_reducible apply Blk.two) | (with_reducible refine Blk.kept ?_ (by assumption)) | (with_reducible refine Blk.setRow ?_ (by first | rfl | (simp; done))) | (with_reducible refine Blk.setRow_far ?_ (by first | omega | (simp; omega)) _) | (with_reducible refine Blk.set' ?_ _ _ (by first | rfl | (simp; done)))))
        · (repeat (first | with_reducible assumption | (with_reducible refine Blk.new' ?_; first | with_reducible rfl | (simp; done)) | with_reducible refine Blk.alloc ?_ _ | with_reducible refine Blk.grow ?_ _ | with_reducible refine Blk.drew ?_ | with_reducible refine Blk.drewN ?_ _ | (with_reducible refine Blk.far ?_ (by first | (dsimp only; omega) | (simp; omega)) _) | (with_reducible apply Blk.two) | (with_reducible refine Blk.kept ?_ (by assumption)) | (with_reducible refine Blk.setRow ?_ (by first | rfl | (simp; done))) | (with_reducible refine Blk.setRow_far ?_ (by first | omega | (simp; omega)) _) | (with_reducible refine Blk.set' ?_ _ _ (by first | rfl | (simp; done)))))
      clear f_x x_l r_x x_6 x_f6 x_7 x_f7 x_14 x_f14 f_n n_l n_0 n_1 n_f0 n_f1 f_p p_l r_p p_13 p_f13 p_28 p_f28 f_z z_l r_z z_2 z_f2 z_3 z_f3 z_4 z_f4 z_5 z_f5 z_8 z_f8 z_9 z_f9 z_19 z_f19 z_20 z_f20 z_21 z_f21 z_22 z_f22 z_23 z_f23 z_24 z_f24 f_d d_l d_0 d_1 d_f0 d_f1 hB_5
      rintro X6 ⟨hB_6, f_x, f_n, f_p, f_z, f_d, f_c⟩
      have r_x := rowAt_blk f_x
      have x_l := f_x.lt
      have x_6 : X6.cell? ⟨w.heap.size, 6, none⟩ = some (.int .u64 xm1) := (f_x).cell 6
      have x_f6 := (f_x).frozen 6
      have x_7 : X6.cell? ⟨w.heap.size, 7, none⟩ = some (.int .u64 xm2) := (f_x).cell 7
      have x_f7 := (f_x).frozen 7
      have x_14 : X6.cell? ⟨w.heap.size, 14, none⟩ = some (.int .u16 xfl) := (f_x).cell 14
      have x_f14 := (f_x).frozen 14
      replace f_x := Lib.hid f_x
      have n_0 : X6.cell? ⟨w.heap.size + 1, 0, none⟩ = some (.int .u64 n1) := (f_n).cell 0
      have n_1 : X6.cell? ⟨w.heap.size + 1, 1, none⟩ = some (.int .u64 n2) := (f_n).cell 1
      have n_f0 := (f_n).frozen 0
      have n_f1 := (f_n).frozen 1
      have n_l := (f_n).lt
      replace f_n := Lib.hid f_n
      have r_p := rowAt_blk f_p
      have p_l := f_p.lt
      have p_13 : X6.cell? ⟨w.heap.size + 2, 13, none⟩ = some (.int .u16 afl) := (f_p).cell 13
      have p_f13 := (f_p).frozen 13
      have p_28 : X6.cell? ⟨w.heap.size + 2, 28, none⟩ = some (.int .u16 efl) := (f_p).cell 28
      have p_f28 := (f_p).frozen 28
      replace f_p := Lib.hid f_p
      have r_z := rowAt_blk f_z
      have z_l := f_z.lt
      have z_2 : X6.cell? ⟨w_2.heap.size, 2, none⟩ = some (.int .u64 zap1) := (f_z).cell 2
      have z_f2 := (f_z).frozen 2
      have z_3 : X6.cell? ⟨w_2.heap.size, 3, none⟩ = some (.int .u64 zap2) := (f_z).cell 3
      have z_f3 := (f_z).frozen 3
      have z_4 : X6.cell? ⟨w_2.heap.size, 4, none⟩ = some (.int .u64 zaq1) := (f_z).cell 4
      have z_f4 := (f_z).frozen 4
      have z_5 : X6.cell? ⟨w_2.heap.size, 5, none⟩ = some (.int .u64 zaq2) := (f_z).cell 5
      have z_f5 := (f_z).frozen 5
      have z_8 : X6.cell? ⟨w_2.heap.size, 8, none⟩ = some (.int .u64 zas1) := (f_z).cell 8
      have z_f8 := (f_z).frozen 8
      have z_9 : X6.cell? ⟨w_2.heap.size, 9, none⟩ = some (.int .u64 zas2) := (f_z).cell 9
      have z_f9 := (f_z).frozen 9
      have z_19 : X6.cell? ⟨w_2.heap.size, 19, none⟩ = some (.int .u64 zeq1) := (f_z).cell 19
      have z_f19 := (f_z).frozen 19
      have z_20 : X6.cell? ⟨w_2.heap.size, 20, none⟩ = some (.int .u64 zeq2) := (f_z).cell 20
      have z_f20 := (f_z).frozen 20
      have z_21 : X6.cell? ⟨w_2.heap.size, 21, none⟩ = some (.int .u64 zer1) := (f_z).cell 21
      have z_f21 := (f_z).frozen 21
      have z_22 : X6.cell? ⟨w_2.heap.size, 22, none⟩ = some (.int .u64 zer2) := (f_z).cell 22
      have z_f22 := (f_z).frozen 22
      have z_23 : X6.cell? ⟨w_2.heap.size, 23, none⟩ = some (.int .u64 zes1) := (f_z).cell 23
      have z_f23 := (f_z).frozen 23
      have z_24 : X6.cell? ⟨w_2.heap.size, 24, none⟩ = some (.int .u64 zes2) := (f_z).cell 24
      have z_f24 := (f_z).frozen 24
      replace f_z := Lib.hid f_z
      have d_0 : X6.cell? ⟨w_4.heap.size, 0, none⟩ = some (.int .u64 dh) := (f_d).cell 0
      have d_1 : X6.cell? ⟨w_4.heap.size, 1, none⟩ = some (.int .u64 dl) := (f_d).cell 1
      have d_f0 := (f_d).frozen 0
      have d_f1 := (f_d).frozen 1
      have d_l := (f_d).lt
      replace f_d := Lib.hid f_d
      have c_0 : X6.cell? ⟨w_5.heap.size, 0, none⟩ = some (.int .u64 ch) := (f_c).cell 0
      have c_1 : X6.cell? ⟨w_5.heap.size, 1, none⟩ = some (.int .u64 cl) := (f_c).cell 1
      have c_f0 := (f_c).frozen 0
      have c_f1 := (f_c).frozen 1
      have c_l := (f_c).lt
      replace f_c := Lib.hid f_c
      replace hB_6 := Lib.hid hB_6
      cases b2
      case false =>
        cases b4
        case false =>
          go_wp2_with fail
          go_meet
          have t_B := hB_6.out
          have t_x := f_x.out
          have t_n := f_n.out
          have t_p := f_p.out
          have t_z := f_z.out
          have t_d := f_d.out
          have t_c := f_c.out
          exact ⟨by (repeat (first | with_reducible exact Below.refl _ _ | with_reducible assumption | (with_reducible refine bel_set ?_ (by first | exact Nat.le_refl _ | (simp; done) | (simp; omega) | omega) _) | with_reducible refine bel_grow ?_ _ | with_reducible refine Below.drew ?_ | with_reducible refine bel_alloc ?_ _ | (with_reducible refine below_setRow ?_ (by first | omega | (simp; omega)) _) | with_reducible refine bel_eld ?_ (by assumption))), by (repeat (first | with_reducible assumption | (with_reducible refine Blk.new' ?_; first | with_reducible rfl | (simp; done)) | with_reducible refine Blk.alloc ?_ _ | with_reducible refine Blk.grow ?_ _ | with_reducible refine Blk.drew ?_ | with_reducible refine Blk.drewN ?_ _ | (with_reducible refine Blk.far ?_ (by first | (dsimp only; omega) | (simp; omega)) _) | (with_reducible apply Blk.two) | (with_reducible refine Blk.kept ?_ (by assumption)) | (with_reducible refine Blk.setRow ?_ (by first | rfl | (simp; done))) | (with_reducible refine Blk.setRow_far ?_ (by first | omega | (simp; omega)) _) | (with_reducible refine Blk.set' ?_ _ _ (by first | rfl | (simp; done))))), by (repeat (first | with_reducible assumption | (with_reducible refine Blk.new' ?_; first | with_reducible rfl | (simp; done)) | with_reducible refine Blk.alloc ?_ _ | with_reducible refine Blk.grow ?_ _ | with_reducible refine Blk.drew ?_ | with_reducible refine Blk.drewN ?_ _ | (with_reducible refine Blk.far ?_ (by first | (dsimp only; omega) | (simp; omega)) _) | (with_reducible apply Blk.two) | (with_reducible refine Blk.kept ?_ (by assumption)) | (with_reducible refine Blk.setRow ?_ (by first | rfl | (simp; done))) | (with_reducible refine Blk.setRow_far ?_ (by first | omega | (simp; omega)) _) | (with_reducible refine Blk.set' ?_ _ _ (by first | rfl | (simp; done)))))⟩
        case true =>
          have g2' := g2.out rfl
          go_wp2_with (go_at_call 25; (with_reducible refine (gro (HC2.out _)).mono ?_); rintro e w8 ⟨rfl, d8, rfl⟩)
          go_meet
          have t_B := hB_6.out
          have t_x := f_x.out
          have t_n := f_n.out
          have t_p := f_p.out
          have t_z := f_z.out
          have t_d := f_d.out
          have t_c := f_c.out
          exact ⟨by (repeat (first | with_reducible exact Below.refl _ _ | with_reducible assumption | (with_reducible refine bel_set ?_ (by first | exact Nat.le_refl _ | (simp; done) | (simp; omega) | omega) _) | with_reducible refine bel_grow ?_ _ | with_reducible refine Below.drew ?_ | with_reducible refine bel_alloc ?_ _ | (with_reducible refine below_setRow ?_ (by first | omega | (simp; omega)) _) | with_reducible refine bel_eld ?_ (by assumption))), by (repeat (first | with_reducible assumption | (with_reducible refine Blk.new' ?_; first | with_reducible rfl | (simp; done)) | with_reducible refine Blk.alloc ?_ _ | with_reducible refine Blk.grow ?_ _ | with_reducible refine Blk.drew ?_ | with_reducible refine Blk.drewN ?_ _ | (with_reducible refine Blk.far ?_ (by first | (dsimp only; omega) | (simp; omega)) _) | (with_reducible apply Blk.two) | (with_reducible refine Blk.kept ?_ (by assumption)) | (with_reducible refine Blk.setRow ?_ (by first | rfl | (simp; done))) | (with_reducible refine Blk.setRow_far ?_ (by first | omega | (simp; omega)) _) | (with_reducible refine Blk.set' ?_ _ _ (by first | rfl | (simp; done))))), by (repeat (first | with_reducible assumption | (with_reducible refine Blk.new' ?_; first | with_reducible rfl | (simp; done)) | with_reducible refine Blk.alloc ?_ _ | with_reducible refine Blk.grow ?_ _ | with_reducible refine Blk.drew ?_ | with_reducible refine Blk.drewN ?_ _ | (with_reducible refine Blk.far ?_ (by first | (dsimp only; omega) | (simp; omega)) _) | (with_reducible apply Blk.two) | (with_reducible refine Blk.kept ?_ (by assumption)) | (with_reducible refine Blk.setRow ?_ (by first | rfl | (simp; done))) | (with_reducible refine Blk.setRow_far ?_ (by first | omega | (simp; omega)) _) | (with_reducible refine Blk.set' ?_ _ _ (by first | rfl | (simp; done)))))⟩
      case true =>
        have g1' := g1.out rfl
        cases b4
        case false =>
          go_wp2_with (go_at_call 25; (with_reducible refine (gro (HC1.out _)).mono ?_); rintro e w8 ⟨rfl, d8, rfl⟩)
          go_meet
          have t_B := hB_6.out
          have t_x := f_x.out
          have t_n := f_n.out
          have t_p := f_p.out
          have t_z := f_z.out
          have t_d := f_d.out
          have t_c := f_c.out
          exact ⟨by (repeat (first | with_reducible exact Below.refl _ _ | with_reducible assumption | (with_reducible refine bel_set ?_ (by first | exact Nat.le_refl _ | (simp; done) | (simp; omega) | omega) _) | with_reducible refine bel_grow ?_ _ | with_reducible refine Below.drew ?_ | with_reducible refine bel_alloc ?_ _ | (with_reducible refine below_setRow ?_ (by first | omega | (simp; omega)) _) | with_reducible refine bel_eld ?_ (by assumption))), by (repeat (first | with_reducible assumption | (with_reducible refine Blk.new' ?_; first | with_reducible rfl | (simp; done)) | with_reducible refine Blk.alloc ?_ _ | with_reducible refine Blk.grow ?_ _ | with_reducible refine Blk.drew ?_ | with_reducible refine Blk.drewN ?_ _ | (with_reducible refine Blk.far ?_ (by first | (dsimp only; omega) | (simp; omega)) _) | (with_reducible apply Blk.two) | (with_reducible refine Blk.kept ?_ (by assumption)) | (with_reducible refine Blk.setRow ?_ (by first | rfl | (simp; done))) | (with_reducible refine Blk.setRow_far ?_ (by first | omega | (simp; omega)) _) | (with_reducible refine Blk.set' ?_ _ _ (by first | rfl | (simp; done))))), by (repeat (first | with_reducible assumption | (with_reducible refine Blk.new' ?_; first | with_reducible rfl | (simp; done)) | with_reducible refine Blk.alloc ?_ _ | with_reducible refine Blk.grow ?_ _ | with_reducible refine Blk.drew ?_ | with_reducible refine Blk.drewN ?_ _ | (with_reducible refine Blk.far ?_ (by first | (dsimp only; omega) | (simp; omega)) _) | (with_reducible apply Blk.two) | (with_reducible refine Blk.kept ?_ (by assumption)) | (with_reducible refine Blk.setRow ?_ (by first | rfl | (simp; done))) | (with_reducible refine Blk.setRow_far ?_ (by first | omega | (simp; omega)) _) | (with_reducible refine Blk.set' ?_ _ _ (by first | rfl | (simp; done)))))⟩
        case true =>
          have g2' := g2.out rfl
          go_wp2_with (first | (go_at_call 25; (with_reducible refine (gro (HC1.out _)).mono ?_); rintro e w8 ⟨rfl, d8, rfl⟩) | (go_at_call 25; (with_reducible refine (grow_call (HC2.out _)).mono ?_); rintro e w9 ⟨rfl, d9, rfl⟩))
          go_meet
          have t_B := hB_6.out
          have t_x := f_x.out
          have t_n := f_n.out
          have t_p := f_p.out
          have t_z := f_z.out
          have t_d := f_d.out
          have t_c := f_c.out
          exact ⟨by (repeat (first | with_reducible exact Below.refl _ _ | with_reducible assumption | (with_reducible refine bel_set ?_ (by first | exact Nat.le_refl _ | (simp; done) | (simp; omega) | omega) _) | with_reducible refine bel_grow ?_ _ | with_reducible refine Below.drew ?_ | with_reducible refine bel_alloc ?_ _ | (with_reducible refine below_setRow ?_ (by first | omega | (simp; omega)) _) | with_reducible refine bel_eld ?_ (by assumption))), by (repeat (first | with_reducible assumption | (with_reducible refine Blk.new' ?_; first | with_reducible rfl | (simp; done)) | with_reducible refine Blk.alloc ?_ _ | with_reducible refine Blk.grow ?_ _ | with_reducible refine Blk.drew ?_ | with_reducible refine Blk.drewN ?_ _ | (with_reducible refine Blk.far ?_ (by first | (dsimp only; omega) | (simp; omega)) _) | (with_reducible apply Blk.two) | (with_reducible refine Blk.kept ?_ (by assumption)) | (with_reducible refine Blk.setRow ?_ (by first | rfl | (simp; done))) | (with_reducible refine Blk.setRow_far ?_ (by first | omega | (simp; omega)) _) | (with_reducible refine Blk.set' ?_ _ _ (by first | rfl | (simp; done))))), by (repeat (first | with_reducible assumption | (with_reducible refine Blk.new' ?_; first | with_reducible rfl | (simp; done)) | with_reducible refine Blk.alloc ?_ _ | with_reducible refine Blk.grow ?_ _ | with_reducible refine Blk.drew ?_ | with_reducible refine Blk.drewN ?_ _ | (with_reducible refine Blk.far ?_ (by first | (dsimp only; omega) | (simp; omega)) _) | (with_reducible apply Blk.two) | (with_reducible refine Blk.kept ?_ (by assumption)) | (with_reducible refine Blk.setRow ?_ (by first | rfl | (simp; done))) | (with_reducible refine Blk.setRow_far ?_ (by first | omega | (simp; omega)) _) | (with_reducible refine Blk.set' ?_ _ _ (by first | rfl | (simp; done)))))⟩
  case rest =>
  clear f_x x_l r_x x_6 x_f6 x_7 x_f7 x_14 x_f14 f_n n_l n_0 n_1 n_f0 n_f1 f_p p_l r_p p_13 p_f13 p_28 p_f28 f_z z_l r_z z_2 z_f2 z_3 z_f3 z_4 z_f4 z_5 z_f5 z_8 z_f8 z_9 z_f9 z_19 z_f19 z_20 z_f20 z_21 z_f21 z_22 z_f22 z_23 z_f23 z_24 z_f24 hB_3
  obtain ⟨hB_4, f_x, f_p⟩ := hcut
  have r_x := rowAt_blk f_x
  have x_l := f_x.lt
  have x_6 : wc.cell? ⟨w.heap.size, 6, none⟩ = some (.int .u64 xm1) := (f_x).cell 6
  have x_f6 := (f_x).frozen 6
  have x_7 : wc.cell? ⟨w.heap.size, 7, none⟩ = some (.int .u64 xm2) := (f_x).cell 7
  have x_f7 := (f_x).frozen 7
  have x_14 : wc.cell? ⟨w.heap.size, 14, none⟩ = some (.int .u16 xfl) := (f_x).cell 14
  have x_f14 := (f_x).frozen 14
  replace f_x := Lib.hid f_x
  have r_p := rowAt_blk f_p
  have p_l := f_p.lt
  have p_13 : wc.cell? ⟨w.heap.size + 2, 13, none⟩ = some (.int .u16 afl) := (f_p).cell 13
  have p_f13 := (f_p).frozen 13
  have p_28 : wc.cell? ⟨w.heap.size + 2, 28, none⟩ = some (.int .u16 efl) := (f_p).cell 28
  have p_f28 := (f_p).frozen 28
  replace f_p := Lib.hid f_p
  replace hB_4 := Lib.hid hB_4
  go_wp2_with fail
  refine (HQ.out _).mono ?_
  rintro e w_5 ⟨rfl, hb_5⟩
  have z_5 := hb_5.size
  try simp at z_5
  have t_ := hB_4.out
  have hB_5 := bel_eld (w := w) (X := _) (by first | ((repeat (first | with_reducible exact Below.refl _ _ | with_reducible assumption | (with_reducible refine bel_set ?_ (by first | exact Nat.le_refl _ | (simp; done) | (simp; omega) | omega) _) | with_reducible refine bel_grow ?_ _ | with_reducible refine Below.drew ?_ | with_reducible refine below_drewN ?_ _ | with_reducible refine bel_alloc ?_ _ | with_reducible refine bel_trans ?_ (by assumption))); done) | (repeat (first | exact Below.refl _ _ | assumption | refine below_drewN ?_ _ | refine bel_grow ?_ _ | refine Below.drew ?_ | refine bel_alloc ?_ _ | refine bel_set ?_ (by first | exact Nat.le_refl _ | (simp; done) | (simp; omega) | omega) _ | refine bel_trans ?_ (by assumption)))) hb_5
  clear t_
  have t_x := f_x.out
  have t_p := f_p.out
  have g_x : Blk w_5 (w.heap.size) 28 #[.int .u64 xi1, .int .u64 xi2, .int .u64 xd1, .int .u64 xd2, .int .u64 xc1, .int .u64 xc2, .int .u64 xm1, .int .u64 xm2, .int .u64 xw1, .int .u64 xw2, .int .u64 xtg, .int .u32 xto, .int .u32 xlg, .int .u16 xcd, .int .u16 xfl, .int .u64 xst] := by
    refine Blk.kept ?_ hb_5
    (repeat (first | with_reducible assumption | (with_reducible refine Blk.new' ?_; first | with_reducible rfl | (simp; done)) | with_reducible refine Blk.alloc ?_ _ | with_reducible refine Blk.grow ?_ _ | with_reducible refine Blk.drew ?_ | with_reducible refine Blk.drewN ?_ _ | (with_reducible refine Blk.far ?_ (by first | (dsimp only; omega) | (simp; omega)) _) | (with_reducible apply Blk.two) | (with_reducible refine Blk.set' ?_ _ _ ?_) | (with_reducible rfl) | rfl))
  have g_p : Blk w_5 (w.heap.size + 2) 32 #[.int .u64 ai1, .int .u64 ai2, .int .u64 ap1, .int .u64 ap2, .int .u64 aq1, .int .u64 aq2, .int .u64 ar1, .int .u64 ar2, .int .u64 as1, .int .u64 as2, .int .u64 atg, .int .u32 alg, .int .u16 acd, .int .u16 afl, .int .u64 ast, .int .u64 ei1, .int .u64 ei2, .int .u64 ep1, .int .u64 ep2, .int .u64 eq1, .int .u64 eq2, .int .u64 er1, .int .u64 er2, .int .u64 es1, .int .u64 es2, .int .u64 etg, .int .u32 elg, .int .u16 ecd, .int .u16 efl, .int .u64 est, .bool hd, .bool hc] := by
    refine Blk.kept ?_ hb_5
    (repeat (first | with_reducible assumption | (with_reducible refine Blk.new' ?_; first | with_reducible rfl | (simp; done)) | with_reducible refine Blk.alloc ?_ _ | with_reducible refine Blk.grow ?_ _ | with_reducible refine Blk.drew ?_ | with_reducible refine Blk.drewN ?_ _ | (with_reducible refine Blk.far ?_ (by first | (dsimp only; omega) | (simp; omega)) _) | (with_reducible apply Blk.two) | (with_reducible refine Blk.set' ?_ _ _ ?_) | (with_reducible rfl) | rfl))
  clear f_x x_l r_x x_6 x_f6 x_7 x_f7 x_14 x_f14 f_p p_l r_p p_13 p_f13 p_28 p_f28 t_x t_p hB_4 hb_5
  have f_x := g_x
  clear g_x
  have f_p := g_p
  clear g_p
  have r_x := rowAt_blk f_x
  have x_l := f_x.lt
  have x_6 : w_5.cell? ⟨w.heap.size, 6, none⟩ = some (.int .u64 xm1) := (f_x).cell 6
  have x_f6 := (f_x).frozen 6
  have x_7 : w_5.cell? ⟨w.heap.size, 7, none⟩ = some (.int .u64 xm2) := (f_x).cell 7
  have x_f7 := (f_x).frozen 7
  have x_14 : w_5.cell? ⟨w.heap.size, 14, none⟩ = some (.int .u16 xfl) := (f_x).cell 14
  have x_f14 := (f_x).frozen 14
  replace f_x := Lib.hid f_x
  have r_p := rowAt_blk f_p
  have p_l := f_p.lt
  have p_13 : w_5.cell? ⟨w.heap.size + 2, 13, none⟩ = some (.int .u16 afl) := (f_p).cell 13
  have p_f13 := (f_p).frozen 13
  have p_28 : w_5.cell? ⟨w.heap.size + 2, 28, none⟩ = some (.int .u16 efl) := (f_p).cell 28
  have p_f28 := (f_p).frozen 28
  replace f_p := Lib.hid f_p
  replace hB_5 := Lib.hid hB_5
  go_wp2_with fail
  refine (HCQ.out _).mono ?_
  rintro e w_6 ⟨rfl, hb_6⟩
  have z_6 := hb_6.size
  try simp at z_6
  have t_ := hB_5.out
  have hB_6 := bel_eld (w := w) (X := _) (by first | ((repeat (first | with_reducible exact Below.refl _ _ | with_reducible assumption | (with_reducible refine bel_set ?_ (by first | exact Nat.le_refl _ | (simp; done) | (simp; omega) | omega) _) | with_reducible refine bel_grow ?_ _ | with_reducible refine Below.drew ?_ | with_reducible refine below_drewN ?_ _ | with_reducible refine bel_alloc ?_ _ | with_reducible refine bel_trans ?_ (by assumption))); done) | (repeat (first | exact Below.refl _ _ | assumption | refine below_drewN ?_ _ | refine bel_grow ?_ _ | refine Below.drew ?_ | refine bel_alloc ?_ _ | refine bel_set ?_ (by first | exact Nat.le_refl _ | (simp; done) | (simp; omega) | omega) _ | refine bel_trans ?_ (by assumption)))) hb_6
  clear t_
  have t_x := f_x.out
  have t_p := f_p.out
  have g_x : Blk w_6 (w.heap.size) 28 #[.int .u64 xi1, .int .u64 xi2, .int .u64 xd1, .int .u64 xd2, .int .u64 xc1, .int .u64 xc2, .int .u64 xm1, .int .u64 xm2, .int .u64 xw1, .int .u64 xw2, .int .u64 xtg, .int .u32 xto, .int .u32 xlg, .int .u16 xcd, .int .u16 xfl, .int .u64 xst] := by
    refine Blk.kept ?_ hb_6
    (repeat (first | with_reducible assumption | (with_reducible refine Blk.new' ?_; first | with_reducible rfl | (simp; done)) | with_reducible refine Blk.alloc ?_ _ | with_reducible refine Blk.grow ?_ _ | with_reducible refine Blk.drew ?_ | with_reducible refine Blk.drewN ?_ _ | (with_reducible refine Blk.far ?_ (by first | (dsimp only; omega) | (simp; omega)) _) | (with_reducible apply Blk.two) | (with_reducible refine Blk.set' ?_ _ _ ?_) | (with_reducible rfl) | rfl))
  have g_p : Blk w_6 (w.heap.size + 2) 32 #[.int .u64 ai1, .int .u64 ai2, .int .u64 ap1, .int .u64 ap2, .int .u64 aq1, .int .u64 aq2, .int .u64 ar1, .int .u64 ar2, .int .u64 as1, .int .u64 as2, .int .u64 atg, .int .u32 alg, .int .u16 acd, .int .u16 afl, .int .u64 ast, .int .u64 ei1, .int .u64 ei2, .int .u64 ep1, .int .u64 ep2, .int .u64 eq1, .int .u64 eq2, .int .u64 er1, .int .u64 er2, .int .u64 es1, .int .u64 es2, .int .u64 etg, .int .u32 elg, .int .u16 ecd, .int .u16 efl, .int .u64 est, .bool hd, .bool hc] := by
    refine Blk.kept ?_ hb_6
    (repeat (first | with_reducible assumption | (with_reducible refine Blk.new' ?_; first | with_reducible rfl | (simp; done)) | with_reducible refine Blk.alloc ?_ _ | with_reducible refine Blk.grow ?_ _ | with_reducible refine Blk.drew ?_ | with_reducible refine Blk.drewN ?_ _ | (with_reducible refine Blk.far ?_ (by first | (dsimp only; omega) | (simp; omega)) _) | (with_reducible apply Blk.two) | (with_reducible refine Blk.set' ?_ _ _ ?_) | (with_reducible rfl) | rfl))
  have g_q : Blk w_6 (w_5.heap.size) 24 #[.int .u64 q1, .int .u64 q2] := by
    refine Blk.kept ?_ hb_6
    (repeat (first | with_reducible assumption | (with_reducible refine Blk.new' ?_; first | with_reducible rfl | (simp; done)) | with_reducible refine Blk.alloc ?_ _ | with_reducible refine Blk.grow ?_ _ | with_reducible refine Blk.drew ?_ | with_reducible refine Blk.drewN ?_ _ | (with_reducible refine Blk.far ?_ (by first | (dsimp only; omega) | (simp; omega)) _) | (with_reducible apply Blk.two) | (with_reducible refine Blk.set' ?_ _ _ ?_) | (with_reducible rfl) | rfl))
  clear f_x x_l r_x x_6 x_f6 x_7 x_f7 x_14 x_f14 f_p p_l r_p p_13 p_f13 p_28 p_f28 t_x t_p hB_5 hb_6
  have f_x := g_x
  clear g_x
  have f_p := g_p
  clear g_p
  have f_q := g_q
  clear g_q
  have r_x := rowAt_blk f_x
  have x_l := f_x.lt
  have x_6 : w_6.cell? ⟨w.heap.size, 6, none⟩ = some (.int .u64 xm1) := (f_x).cell 6
  have x_f6 := (f_x).frozen 6
  have x_7 : w_6.cell? ⟨w.heap.size, 7, none⟩ = some (.int .u64 xm2) := (f_x).cell 7
  have x_f7 := (f_x).frozen 7
  have x_14 : w_6.cell? ⟨w.heap.size, 14, none⟩ = some (.int .u16 xfl) := (f_x).cell 14
  have x_f14 := (f_x).frozen 14
  replace f_x := Lib.hid f_x
  have r_p := rowAt_blk f_p
  have p_l := f_p.lt
  have p_13 : w_6.cell? ⟨w.heap.size + 2, 13, none⟩ = some (.int .u16 afl) := (f_p).cell 13
  have p_f13 := (f_p).frozen 13
  have p_28 : w_6.cell? ⟨w.heap.size + 2, 28, none⟩ = some (.int .u16 efl) := (f_p).cell 28
  have p_f28 := (f_p).frozen 28
  replace f_p := Lib.hid f_p
  have q_0 : w_6.cell? ⟨w_5.heap.size, 0, none⟩ = some (.int .u64 q1) := (f_q).cell 0
  have q_1 : w_6.cell? ⟨w_5.heap.size, 1, none⟩ = some (.int .u64 q2) := (f_q).cell 1
  have q_f0 := (f_q).frozen 0
  have q_f1 := (f_q).frozen 1
  have q_l := (f_q).lt
  replace f_q := Lib.hid f_q
  replace hB_6 := Lib.hid hB_6
  go_wp2_with fail
  refine (HU.out _).mono ?_
  rintro e w_7 ⟨rfl, hb_7⟩
  have z_7 := hb_7.size
  try simp at z_7
  have t_ := hB_6.out
  have hB_7 := bel_eld (w := w) (X := _) (by first | ((repeat (first | with_reducible exact Below.refl _ _ | with_reducible assumption | (with_reducible refine bel_set ?_ (by first | exact Nat.le_refl _ | (simp; done) | (simp; omega) | omega) _) | with_reducible refine bel_grow ?_ _ | with_reducible refine Below.drew ?_ | with_reducible refine below_drewN ?_ _ | with_reducible refine bel_alloc ?_ _ | with_reducible refine bel_trans ?_ (by assumption))); done) | (repeat (first | exact Below.refl _ _ | assumption | refine below_drewN ?_ _ | refine bel_grow ?_ _ | refine Below.drew ?_ | refine bel_alloc ?_ _ | refine bel_set ?_ (by first | exact Nat.le_refl _ | (simp; done) | (simp; omega) | omega) _ | refine bel_trans ?_ (by assumption)))) hb_7
  clear t_
  have t_x := f_x.out
  have t_p := f_p.out
  have t_q := f_q.out
  have g_x : Blk w_7 (w.heap.size) 28 #[.int .u64 xi1, .int .u64 xi2, .int .u64 xd1, .int .u64 xd2, .int .u64 xc1, .int .u64 xc2, .int .u64 xm1, .int .u64 xm2, .int .u64 xw1, .int .u64 xw2, .int .u64 xtg, .int .u32 xto, .int .u32 xlg, .int .u16 xcd, .int .u16 xfl, .int .u64 xst] := by
    refine Blk.kept ?_ hb_7
    (repeat (first | with_reducible assumption | (with_reducible refine Blk.new' ?_; first | with_reducible rfl | (simp; done)) | with_reducible refine Blk.alloc ?_ _ | with_reducible refine Blk.grow ?_ _ | with_reducible refine Blk.drew ?_ | with_reducible refine Blk.drewN ?_ _ | (with_reducible refine Blk.far ?_ (by first | (dsimp only; omega) | (simp; omega)) _) | (with_reducible apply Blk.two) | (with_reducible refine Blk.set' ?_ _ _ ?_) | (with_reducible rfl) | rfl))
  have g_p : Blk w_7 (w.heap.size + 2) 32 #[.int .u64 ai1, .int .u64 ai2, .int .u64 ap1, .int .u64 ap2, .int .u64 aq1, .int .u64 aq2, .int .u64 ar1, .int .u64 ar2, .int .u64 as1, .int .u64 as2, .int .u64 atg, .int .u32 alg, .int .u16 acd, .int .u16 afl, .int .u64 ast, .int .u64 ei1, .int .u64 ei2, .int .u64 ep1, .int .u64 ep2, .int .u64 eq1, .int .u64 eq2, .int .u64 er1, .int .u64 er2, .int .u64 es1, .int .u64 es2, .int .u64 etg, .int .u32 elg, .int .u16 ecd, .int .u16 efl, .int .u64 est, .bool hd, .bool hc] := by
    refine Blk.kept ?_ hb_7
    (repeat (first | with_reducible assumption | (with_reducible refine Blk.new' ?_; first | with_reducible rfl | (simp; done)) | with_reducible refine Blk.alloc ?_ _ | with_reducible refine Blk.grow ?_ _ | with_reducible refine Blk.drew ?_ | with_reducible refine Blk.drewN ?_ _ | (with_reducible refine Blk.far ?_ (by first | (dsimp only; omega) | (simp; omega)) _) | (with_reducible apply Blk.two) | (with_reducible refine Blk.set' ?_ _ _ ?_) | (with_reducible rfl) | rfl))
  have g_q : Blk w_7 (w_5.heap.size) 24 #[.int .u64 q1, .int .u64 q2] := by
    refine Blk.kept ?_ hb_7
    (repeat (first | with_reducible assumption | (with_reducible refine Blk.new' ?_; first | with_reducible rfl | (simp; done)) | with_reducible refine Blk.alloc ?_ _ | with_reducible refine Blk.grow ?_ _ | with_reducible refine Blk.drew ?_ | with_reducible refine Blk.drewN ?_ _ | (with_reducible refine Blk.far ?_ (by first | (dsimp only; omega) | (simp; omega)) _) | (with_reducible apply Blk.two) | (with_reducible refine Blk.set' ?_ _ _ ?_) | (with_reducible rfl) | rfl))
  clear f_x x_l r_x x_6 x_f6 x_7 x_f7 x_14 x_f14 f_p p_l r_p p_13 p_f13 p_28 p_f28 f_q q_l q_0 q_1 q_f0 q_f1 t_x t_p t_q hB_6 hb_7
  have f_x := g_x
  clear g_x
  have f_p := g_p
  clear g_p
  have f_q := g_q
  clear g_q
  have r_x := rowAt_blk f_x
  have x_l := f_x.lt
  have x_6 : w_7.cell? ⟨w.heap.size, 6, none⟩ = some (.int .u64 xm1) := (f_x).cell 6
  have x_f6 := (f_x).frozen 6
  have x_7 : w_7.cell? ⟨w.heap.size, 7, none⟩ = some (.int .u64 xm2) := (f_x).cell 7
  have x_f7 := (f_x).frozen 7
  have x_14 : w_7.cell? ⟨w.heap.size, 14, none⟩ = some (.int .u16 xfl) := (f_x).cell 14
  have x_f14 := (f_x).frozen 14
  replace f_x := Lib.hid f_x
  have r_p := rowAt_blk f_p
  have p_l := f_p.lt
  have p_13 : w_7.cell? ⟨w.heap.size + 2, 13, none⟩ = some (.int .u16 afl) := (f_p).cell 13
  have p_f13 := (f_p).frozen 13
  have p_28 : w_7.cell? ⟨w.heap.size + 2, 28, none⟩ = some (.int .u16 efl) := (f_p).cell 28
  have p_f28 := (f_p).frozen 28
  replace f_p := Lib.hid f_p
  have q_0 : w_7.cell? ⟨w_5.heap.size, 0, none⟩ = some (.int .u64 q1) := (f_q).cell 0
  have q_1 : w_7.cell? ⟨w_5.heap.size, 1, none⟩ = some (.int .u64 q2) := (f_q).cell 1
  have q_f0 := (f_q).frozen 0
  have q_f1 := (f_q).frozen 1
  have q_l := (f_q).lt
  replace f_q := Lib.hid f_q
  replace hB_7 := Lib.hid hB_7
  go_wp2_with fail
  refine (HC0.out _).mono ?_
  rintro e w_8 ⟨rfl, hb_8⟩
  have z_8 := hb_8.size
  try simp at z_8
  have t_ := hB_7.out
  have hB_8 := bel_eld (w := w) (X := _) (by first | ((repeat (first | with_reducible exact Below.refl _ _ | with_reducible assumption | (with_reducible refine bel_set ?_ (by first | exact Nat.le_refl _ | (simp; done) | (simp; omega) | omega) _) | with_reducible refine bel_grow ?_ _ | with_reducible refine Below.drew ?_ | with_reducible refine below_drewN ?_ _ | with_reducible refine bel_alloc ?_ _ | with_reducible refine bel_trans ?_ (by assumption))); done) | (repeat (first | exact Below.refl _ _ | assumption | refine below_drewN ?_ _ | refine bel_grow ?_ _ | refine Below.drew ?_ | refine bel_alloc ?_ _ | refine bel_set ?_ (by first | exact Nat.le_refl _ | (simp; done) | (simp; omega) | omega) _ | refine bel_trans ?_ (by assumption)))) hb_8
  clear t_
  have t_x := f_x.out
  have t_p := f_p.out
  have t_q := f_q.out
  have g_x : Blk w_8 (w.heap.size) 28 #[.int .u64 xi1, .int .u64 xi2, .int .u64 xd1, .int .u64 xd2, .int .u64 xc1, .int .u64 xc2, .int .u64 xm1, .int .u64 xm2, .int .u64 xw1, .int .u64 xw2, .int .u64 xtg, .int .u32 xto, .int .u32 xlg, .int .u16 xcd, .int .u16 xfl, .int .u64 xst] := by
    refine Blk.kept ?_ hb_8
    (repeat (first | with_reducible assumption | (with_reducible refine Blk.new' ?_; first | with_reducible rfl | (simp; done)) | with_reducible refine Blk.alloc ?_ _ | with_reducible refine Blk.grow ?_ _ | with_reducible refine Blk.drew ?_ | with_reducible refine Blk.drewN ?_ _ | (with_reducible refine Blk.far ?_ (by first | (dsimp only; omega) | (simp; omega)) _) | (with_reducible apply Blk.two) | (with_reducible refine Blk.set' ?_ _ _ ?_) | (with_reducible rfl) | rfl))
  have g_p : Blk w_8 (w.heap.size + 2) 32 #[.int .u64 ai1, .int .u64 ai2, .int .u64 ap1, .int .u64 ap2, .int .u64 aq1, .int .u64 aq2, .int .u64 ar1, .int .u64 ar2, .int .u64 as1, .int .u64 as2, .int .u64 atg, .int .u32 alg, .int .u16 acd, .int .u16 afl, .int .u64 ast, .int .u64 ei1, .int .u64 ei2, .int .u64 ep1, .int .u64 ep2, .int .u64 eq1, .int .u64 eq2, .int .u64 er1, .int .u64 er2, .int .u64 es1, .int .u64 es2, .int .u64 etg, .int .u32 elg, .int .u16 ecd, .int .u16 efl, .int .u64 est, .bool hd, .bool hc] := by
    refine Blk.kept ?_ hb_8
    (repeat (first | with_reducible assumption | (with_reducible refine Blk.new' ?_; first | with_reducible rfl | (simp; done)) | with_reducible refine Blk.alloc ?_ _ | with_reducible refine Blk.grow ?_ _ | with_reducible refine Blk.drew ?_ | with_reducible refine Blk.drewN ?_ _ | (with_reducible refine Blk.far ?_ (by first | (dsimp only; omega) | (simp; omega)) _) | (with_reducible apply Blk.two) | (with_reducible refine Blk.set' ?_ _ _ ?_) | (with_reducible rfl) | rfl))
  have g_q : Blk w_8 (w_5.heap.size) 24 #[.int .u64 q1, .int .u64 q2] := by
    refine Blk.kept ?_ hb_8
    (repeat (first | with_reducible assumption | (with_reducible refine Blk.new' ?_; first | with_reducible rfl | (simp; done)) | with_reducible refine Blk.alloc ?_ _ | with_reducible refine Blk.grow ?_ _ | with_reducible refine Blk.drew ?_ | with_reducible refine Blk.drewN ?_ _ | (with_reducible refine Blk.far ?_ (by first | (dsimp only; omega) | (simp; omega)) _) | (with_reducible apply Blk.two) | (with_reducible refine Blk.set' ?_ _ _ ?_) | (with_reducible rfl) | rfl))
  clear f_x x_l r_x x_6 x_f6 x_7 x_f7 x_14 x_f14 f_p p_l r_p p_13 p_f13 p_28 p_f28 f_q q_l q_0 q_1 q_f0 q_f1 t_x t_p t_q hB_7 hb_8
  have f_x := g_x
  clear g_x
  have f_p := g_p
  clear g_p
  have f_q := g_q
  clear g_q
  have r_x := rowAt_blk f_x
  have x_l := f_x.lt
  have x_6 : w_8.cell? ⟨w.heap.size, 6, none⟩ = some (.int .u64 xm1) := (f_x).cell 6
  have x_f6 := (f_x).frozen 6
  have x_7 : w_8.cell? ⟨w.heap.size, 7, none⟩ = some (.int .u64 xm2) := (f_x).cell 7
  have x_f7 := (f_x).frozen 7
  have x_14 : w_8.cell? ⟨w.heap.size, 14, none⟩ = some (.int .u16 xfl) := (f_x).cell 14
  have x_f14 := (f_x).frozen 14
  replace f_x := Lib.hid f_x
  have r_p := rowAt_blk f_p
  have p_l := f_p.lt
  have p_13 : w_8.cell? ⟨w.heap.size + 2, 13, none⟩ = some (.int .u16 afl) := (f_p).cell 13
  have p_f13 := (f_p).frozen 13
  have p_28 : w_8.cell? ⟨w.heap.size + 2, 28, none⟩ = some (.int .u16 efl) := (f_p).cell 28
  have p_f28 := (f_p).frozen 28
  replace f_p := Lib.hid f_p
  have q_0 : w_8.cell? ⟨w_5.heap.size, 0, none⟩ = some (.int .u64 q1) := (f_q).cell 0
  have q_1 : w_8.cell? ⟨w_5.heap.size, 1, none⟩ = some (.int .u64 q2) := (f_q).cell 1
  have q_f0 := (f_q).frozen 0
  have q_f1 := (f_q).frozen 1
  have q_l := (f_q).lt
  replace f_q := Lib.hid f_q
  replace hB_8 := Lib.hid hB_8
  go_wp2_with fail
  refine (HX.out _).mono ?_
  rintro e w_9 ⟨rfl, hb_9⟩
  have z_9 := hb_9.size
  try simp at z_9
  have t_ := hB_8.out
  have hB_9 := bel_eld (w := w) (X := _) (by first | ((repeat (first | with_reducible exact Below.refl _ _ | with_reducible assumption | (with_reducible refine bel_set ?_ (by first | exact Nat.le_refl _ | (simp; done) | (simp; omega) | omega) _) | with_reducible refine bel_grow ?_ _ | with_reducible refine Below.drew ?_ | with_reducible refine below_drewN ?_ _ | with_reducible refine bel_alloc ?_ _ | with_reducible refine bel_trans ?_ (by assumption))); done) | (repeat (first | exact Below.refl _ _ | assumption | refine below_drewN ?_ _ | refine bel_grow ?_ _ | refine Below.drew ?_ | refine bel_alloc ?_ _ | refine bel_set ?_ (by first | exact Nat.le_refl _ | (simp; done) | (simp; omega) | omega) _ | refine bel_trans ?_ (by assumption)))) hb_9
  clear t_
  have t_x := f_x.out
  have t_p := f_p.out
  have t_q := f_q.out
  have g_x : Blk w_9 (w.heap.size) 28 #[.int .u64 xi1, .int .u64 xi2, .int .u64 xd1, .int .u64 xd2, .int .u64 xc1, .int .u64 xc2, .int .u64 xm1, .int .u64 xm2, .int .u64 xw1, .int .u64 xw2, .int .u64 xtg, .int .u32 xto, .int .u32 xlg, .int .u16 xcd, .int .u16 xfl, .int .u64 xst] := by
    refine Blk.kept ?_ hb_9
    (repeat (first | with_reducible assumption | (with_reducible refine Blk.new' ?_; first | with_reducible rfl | (simp; done)) | with_reducible refine Blk.alloc ?_ _ | with_reducible refine Blk.grow ?_ _ | with_reducible refine Blk.drew ?_ | with_reducible refine Blk.drewN ?_ _ | (with_reducible refine Blk.far ?_ (by first | (dsimp only; omega) | (simp; omega)) _) | (with_reducible apply Blk.two) | (with_reducible refine Blk.set' ?_ _ _ ?_) | (with_reducible rfl) | rfl))
  have g_p : Blk w_9 (w.heap.size + 2) 32 #[.int .u64 ai1, .int .u64 ai2, .int .u64 ap1, .int .u64 ap2, .int .u64 aq1, .int .u64 aq2, .int .u64 ar1, .int .u64 ar2, .int .u64 as1, .int .u64 as2, .int .u64 atg, .int .u32 alg, .int .u16 acd, .int .u16 afl, .int .u64 ast, .int .u64 ei1, .int .u64 ei2, .int .u64 ep1, .int .u64 ep2, .int .u64 eq1, .int .u64 eq2, .int .u64 er1, .int .u64 er2, .int .u64 es1, .int .u64 es2, .int .u64 etg, .int .u32 elg, .int .u16 ecd, .int .u16 efl, .int .u64 est, .bool hd, .bool hc] := by
    refine Blk.kept ?_ hb_9
    (repeat (first | with_reducible assumption | (with_reducible refine Blk.new' ?_; first | with_reducible rfl | (simp; done)) | with_reducible refine Blk.alloc ?_ _ | with_reducible refine Blk.grow ?_ _ | with_reducible refine Blk.drew ?_ | with_reducible refine Blk.drewN ?_ _ | (with_reducible refine Blk.far ?_ (by first | (dsimp only; omega) | (simp; omega)) _) | (with_reducible apply Blk.two) | (with_reducible refine Blk.set' ?_ _ _ ?_) | (with_reducible rfl) | rfl))
  have g_q : Blk w_9 (w_5.heap.size) 24 #[.int .u64 q1, .int .u64 q2] := by
    refine Blk.kept ?_ hb_9
    (repeat (first | with_reducible assumption | (with_reducible refine Blk.new' ?_; first | with_reducible rfl | (simp; done)) | with_reducible refine Blk.alloc ?_ _ | with_reducible refine Blk.grow ?_ _ | with_reducible refine Blk.drew ?_ | with_reducible refine Blk.drewN ?_ _ | (with_reducible refine Blk.far ?_ (by first | (dsimp only; omega) | (simp; omega)) _) | (with_reducible apply Blk.two) | (with_reducible refine Blk.set' ?_ _ _ ?_) | (with_reducible rfl) | rfl))
  clear f_x x_l r_x x_6 x_f6 x_7 x_f7 x_14 x_f14 f_p p_l r_p p_13 p_f13 p_28 p_f28 f_q q_l q_0 q_1 q_f0 q_f1 t_x t_p t_q hB_8 hb_9
  have f_x := g_x
  clear g_x
  have f_p := g_p
  clear g_p
  have f_q := g_q
  clear g_q
  have r_x := rowAt_blk f_x
  have x_l := f_x.lt
  have x_6 : w_9.cell? ⟨w.heap.size, 6, none⟩ = some (.int .u64 xm1) := (f_x).cell 6
  have x_f6 := (f_x).frozen 6
  have x_7 : w_9.cell? ⟨w.heap.size, 7, none⟩ = some (.int .u64 xm2) := (f_x).cell 7
  have x_f7 := (f_x).frozen 7
  have x_14 : w_9.cell? ⟨w.heap.size, 14, none⟩ = some (.int .u16 xfl) := (f_x).cell 14
  have x_f14 := (f_x).frozen 14
  replace f_x := Lib.hid f_x
  have r_p := rowAt_blk f_p
  have p_l := f_p.lt
  have p_13 : w_9.cell? ⟨w.heap.size + 2, 13, none⟩ = some (.int .u16 afl) := (f_p).cell 13
  have p_f13 := (f_p).frozen 13
  have p_28 : w_9.cell? ⟨w.heap.size + 2, 28, none⟩ = some (.int .u16 efl) := (f_p).cell 28
  have p_f28 := (f_p).frozen 28
  replace f_p := Lib.hid f_p
  have q_0 : w_9.cell? ⟨w_5.heap.size, 0, none⟩ = some (.int .u64 q1) := (f_q).cell 0
  have q_1 : w_9.cell? ⟨w_5.heap.size, 1, none⟩ = some (.int .u64 q2) := (f_q).cell 1
  have q_f0 := (f_q).frozen 0
  have q_f1 := (f_q).frozen 1
  have q_l := (f_q).lt
  replace f_q := Lib.hid f_q
  replace hB_9 := Lib.hid hB_9
  have G3 := F3.out
  have G4 := F4.out
  clear F3 F4
  cases op
  case false =>
    go_wp2_with fail
    go_ret
    exact ⟨rfl, by have t_B := hB_9.out; (repeat (first | with_reducible exact Below.refl _ _ | with_reducible assumption | (with_reducible refine bel_set ?_ (by first | exact Nat.le_refl _ | (simp; done) | (simp; omega) | omega) _) | with_reducible refine bel_grow ?_ _ | with_reducible refine Below.drew ?_ | with_reducible refine bel_alloc ?_ _ | with_reducible refine bel_eld ?_ (by assumption)))⟩
  case true =>
  cases b16
  case false =>
    have e3 := G3 rfl rfl
    cases b32
    case false =>
      have e4 := G4 rfl rfl
      clear G3 G4
      go_wp2_with fail
      go_ret
      exact ⟨by first | rfl | simp, by have t_B := hB_9.out; (repeat (first | with_reducible exact Below.refl _ _ | with_reducible assumption | (with_reducible refine bel_set ?_ (by first | exact Nat.le_refl _ | (simp; done) | (simp; omega) | omega) _) | with_reducible refine bel_grow ?_ _ | with_reducible refine Below.drew ?_ | with_reducible refine bel_alloc ?_ _ | with_reducible refine bel_eld ?_ (by assumption)))⟩
    case true =>
      clear G3 G4
      go_wp2_with fail
      go_ret
      exact ⟨by first | rfl | simp, by have t_B := hB_9.out; (repeat (first | with_reducible exact Below.refl _ _ | with_reducible assumption | (with_reducible refine bel_set ?_ (by first | exact Nat.le_refl _ | (simp; done) | (simp; omega) | omega) _) | with_reducible refine bel_grow ?_ _ | with_reducible refine Below.drew ?_ | with_reducible refine bel_alloc ?_ _ | with_reducible refine bel_eld ?_ (by assumption)))⟩
  case true =>
    cases b32
    case false =>
      have e4 := G4 rfl rfl
      clear G3 G4
      go_wp2_with fail
      go_ret
      exact ⟨by first | rfl | simp, by have t_B := hB_9.out; (repeat (first | with_reducible exact Below.refl _ _ | with_reducible assumption | (with_reducible refine bel_set ?_ (by first | exact Nat.le_refl _ | (simp; done) | (simp; omega) | omega) _) | with_reducible refine bel_grow ?_ _ | with_reducible refine Below.drew ?_ | with_reducible refine bel_alloc ?_ _ | with_reducible refine bel_eld ?_ (by assumption)))⟩
    case true =>
      clear G3 G4
      go_wp2_with fail
      go_ret
      exact ⟨by first | rfl | simp, by have t_B := hB_9.out; (repeat (first | with_reducible exact Below.refl _ _ | with_reducible assumption | (with_reducible refine bel_set ?_ (by first | exact Nat.le_refl _ | (simp; done) | (simp; omega) | omega) _) | with_reducible refine bel_grow ?_ _ | with_reducible refine Below.drew ?_ | with_reducible refine bel_alloc ?_ _ | with_reducible refine bel_eld ?_ (by assumption)))⟩
end Go.Proofs.Ytpbnakoimlmhnaa
