/-
  PostingGood, walked.
-/
import Derived.Test.YtpbnakoimlmhnaaBk
import Derived.Test.YtpbnakoimlmhnaaEq
import Derived.Deep.DeepCutAuto
namespace Go.Proofs.Ytpbnakoimlmhnaa
set_option linter.unusedVariables false
set_option linter.unusedSimpArgs false
open Go.RowKit

attribute [local go_sem] loadV_ptr storeV_ptr one_func drew_hs ext_deb ext_cre ext_cols ext_acc
attribute [local go_sem ↓] load_Cols store_Cols load_Transfer store_Transfer load_Parties store_Parties load_Acct store_Acct
set_option maxRecDepth 20000 in
set_option maxHeartbeats 8000000 in
theorem goodbad_of (xi1 xi2 xd1 xd2 xc1 xc2 xm1 xm2 xw1 xw2 xtg xto xlg xcd xfl xst ss ai1 ai2 ap1 ap2 aq1 aq2 ar1 ar2 as1 as2 atg alg acd afl ast ei1 ei2 ep1 ep2 eq1 eq2 er1 er2 es1 es2 etg elg ecd efl est v : Int) (hd hc : Bool) (hv : (v != 0) = true) (HX : ∀ w, Calls Try.prog 28 #[] w fun r w' => r = .returned (.bool true) ∧ Below w.heap.size w w') (HP : ∀ w, Calls Try.prog 26 #[.agg #[.int .u64 xi1, .int .u64 xi2, .int .u64 xd1, .int .u64 xd2, .int .u64 xc1, .int .u64 xc2, .int .u64 xm1, .int .u64 xm2, .int .u64 xw1, .int .u64 xw2, .int .u64 xtg, .int .u32 xto, .int .u32 xlg, .int .u16 xcd, .int .u16 xfl, .int .u64 xst], .int .u64 ss, .agg #[.int .u64 ai1, .int .u64 ai2, .int .u64 ap1, .int .u64 ap2, .int .u64 aq1, .int .u64 aq2, .int .u64 ar1, .int .u64 ar2, .int .u64 as1, .int .u64 as2, .int .u64 atg, .int .u32 alg, .int .u16 acd, .int .u16 afl, .int .u64 ast, .int .u64 ei1, .int .u64 ei2, .int .u64 ep1, .int .u64 ep2, .int .u64 eq1, .int .u64 eq2, .int .u64 er1, .int .u64 er2, .int .u64 es1, .int .u64 es2, .int .u64 etg, .int .u32 elg, .int .u16 ecd, .int .u16 efl, .int .u64 est, .bool hd, .bool hc]] w fun r w' => r = .returned (.tuple #[.int .u32 v, .agg #[.int .u64 0, .int .u64 0]]) ∧ Below w.heap.size w w')
    (w : World) : Calls Try.prog 10 #[.agg #[.int .u64 xi1, .int .u64 xi2, .int .u64 xd1, .int .u64 xd2, .int .u64 xc1, .int .u64 xc2, .int .u64 xm1, .int .u64 xm2, .int .u64 xw1, .int .u64 xw2, .int .u64 xtg, .int .u32 xto, .int .u32 xlg, .int .u16 xcd, .int .u16 xfl, .int .u64 xst], .int .u64 ss, .agg #[.int .u64 ai1, .int .u64 ai2, .int .u64 ap1, .int .u64 ap2, .int .u64 aq1, .int .u64 aq2, .int .u64 ar1, .int .u64 ar2, .int .u64 as1, .int .u64 as2, .int .u64 atg, .int .u32 alg, .int .u16 acd, .int .u16 afl, .int .u64 ast, .int .u64 ei1, .int .u64 ei2, .int .u64 ep1, .int .u64 ep2, .int .u64 eq1, .int .u64 eq2, .int .u64 er1, .int .u64 er2, .int .u64 es1, .int .u64 es2, .int .u64 etg, .int .u32 elg, .int .u16 ecd, .int .u16 efl, .int .u64 est, .bool hd, .bool hc]] w fun r w' => r = .returned (.bool true) ∧ Below w.heap.size w w' := by
  replace HX := Lib.hid HX
  replace HP := Lib.hid HP
  have hb0 := Below.refl w.heap.size w
  go_enter Try.func10, Try.ntmps10
  replace hb0 := Lib.hid hb0
  go_wp2_with fail
  refine (HP.out _).mono ?_
  rintro e w_1 ⟨rfl, hb_1⟩
  have z_1 := hb_1.size
  try simp at z_1
  have t_ := hb0.out
  have hB_1 := bel_eld (w := w) (X := _) (by first | ((repeat (first | with_reducible exact Below.refl _ _ | with_reducible assumption | (with_reducible refine bel_set ?_ (by first | exact Nat.le_refl _ | (simp; done) | (simp; omega) | omega) _) | with_reducible refine bel_grow ?_ _ | with_reducible refine Below.drew ?_ | with_reducible refine below_drewN ?_ _ | with_reducible refine bel_alloc ?_ _ | with_reducible refine bel_trans ?_ (by assumption))); done) | (repeat (first | exact Below.refl _ _ | assumption | refine below_drewN ?_ _ | refine bel_grow ?_ _ | refine Below.drew ?_ | refine bel_alloc ?_ _ | refine bel_set ?_ (by first | exact Nat.le_refl _ | (simp; done) | (simp; omega) | omega) _ | refine bel_trans ?_ (by assumption)))) hb_1
  clear t_
  have g_x : Blk w_1 (w.heap.size) 28 #[.int .u64 xi1, .int .u64 xi2, .int .u64 xd1, .int .u64 xd2, .int .u64 xc1, .int .u64 xc2, .int .u64 xm1, .int .u64 xm2, .int .u64 xw1, .int .u64 xw2, .int .u64 xtg, .int .u32 xto, .int .u32 xlg, .int .u16 xcd, .int .u16 xfl, .int .u64 xst] := by
    refine Blk.kept ?_ hb_1
    (repeat (first | with_reducible assumption | (with_reducible refine Blk.new' ?_; first | with_reducible rfl | (simp; done)) | with_reducible refine Blk.alloc ?_ _ | with_reducible refine Blk.grow ?_ _ | with_reducible refine Blk.drew ?_ | with_reducible refine Blk.drewN ?_ _ | (with_reducible refine Blk.far ?_ (by first | (dsimp only; omega) | (simp; omega)) _) | (with_reducible apply Blk.two) | (with_reducible refine Blk.set' ?_ _ _ ?_) | (with_reducible rfl) | rfl))
  have g_p : Blk w_1 (w.heap.size + 1) 32 #[.int .u64 ai1, .int .u64 ai2, .int .u64 ap1, .int .u64 ap2, .int .u64 aq1, .int .u64 aq2, .int .u64 ar1, .int .u64 ar2, .int .u64 as1, .int .u64 as2, .int .u64 atg, .int .u32 alg, .int .u16 acd, .int .u16 afl, .int .u64 ast, .int .u64 ei1, .int .u64 ei2, .int .u64 ep1, .int .u64 ep2, .int .u64 eq1, .int .u64 eq2, .int .u64 er1, .int .u64 er2, .int .u64 es1, .int .u64 es2, .int .u64 etg, .int .u32 elg, .int .u16 ecd, .int .u16 efl, .int .u64 est, .bool hd, .bool hc] := by
    refine Blk.kept ?_ hb_1
    (repeat (first | with_reducible assumption | (with_reducible refine Blk.new' ?_; first | with_reducible rfl | (simp; done)) | with_reducible refine Blk.alloc ?_ _ | with_reducible refine Blk.grow ?_ _ | with_reducible refine Blk.drew ?_ | with_reducible refine Blk.drewN ?_ _ | (with_reducible refine Blk.far ?_ (by first | (dsimp only; omega) | (simp; omega)) _) | (with_reducible apply Blk.two) | (with_reducible refine Blk.set' ?_ _ _ ?_) | (with_reducible rfl) | rfl))
  clear hb0 hb_1
  have f_x := g_x
  clear g_x
  have f_p := g_p
  clear g_p
  have r_x := rowAt_blk f_x
  have x_l := f_x.lt
  replace f_x := Lib.hid f_x
  have r_p := rowAt_blk f_p
  have p_l := f_p.lt
  replace f_p := Lib.hid f_p
  replace hB_1 := Lib.hid hB_1
  go_wp2_with fail
  refine (HX.out _).mono ?_
  rintro e w_2 ⟨rfl, hb_2⟩
  have z_2 := hb_2.size
  try simp at z_2
  have t_ := hB_1.out
  have hB_2 := bel_eld (w := w) (X := _) (by first | ((repeat (first | with_reducible exact Below.refl _ _ | with_reducible assumption | (with_reducible refine bel_set ?_ (by first | exact Nat.le_refl _ | (simp; done) | (simp; omega) | omega) _) | with_reducible refine bel_grow ?_ _ | with_reducible refine Below.drew ?_ | with_reducible refine below_drewN ?_ _ | with_reducible refine bel_alloc ?_ _ | with_reducible refine bel_trans ?_ (by assumption))); done) | (repeat (first | exact Below.refl _ _ | assumption | refine below_drewN ?_ _ | refine bel_grow ?_ _ | refine Below.drew ?_ | refine bel_alloc ?_ _ | refine bel_set ?_ (by first | exact Nat.le_refl _ | (simp; done) | (simp; omega) | omega) _ | refine bel_trans ?_ (by assumption)))) hb_2
  clear t_
  have t_x := f_x.out
  have t_p := f_p.out
  have g_x : Blk w_2 (w.heap.size) 28 #[.int .u64 xi1, .int .u64 xi2, .int .u64 xd1, .int .u64 xd2, .int .u64 xc1, .int .u64 xc2, .int .u64 xm1, .int .u64 xm2, .int .u64 xw1, .int .u64 xw2, .int .u64 xtg, .int .u32 xto, .int .u32 xlg, .int .u16 xcd, .int .u16 xfl, .int .u64 xst] := by
    refine Blk.kept ?_ hb_2
    (repeat (first | with_reducible assumption | (with_reducible refine Blk.new' ?_; first | with_reducible rfl | (simp; done)) | with_reducible refine Blk.alloc ?_ _ | with_reducible refine Blk.grow ?_ _ | with_reducible refine Blk.drew ?_ | with_reducible refine Blk.drewN ?_ _ | (with_reducible refine Blk.far ?_ (by first | (dsimp only; omega) | (simp; omega)) _) | (with_reducible apply Blk.two) | (with_reducible refine Blk.set' ?_ _ _ ?_) | (with_reducible rfl) | rfl))
  have g_p : Blk w_2 (w.heap.size + 1) 32 #[.int .u64 ai1, .int .u64 ai2, .int .u64 ap1, .int .u64 ap2, .int .u64 aq1, .int .u64 aq2, .int .u64 ar1, .int .u64 ar2, .int .u64 as1, .int .u64 as2, .int .u64 atg, .int .u32 alg, .int .u16 acd, .int .u16 afl, .int .u64 ast, .int .u64 ei1, .int .u64 ei2, .int .u64 ep1, .int .u64 ep2, .int .u64 eq1, .int .u64 eq2, .int .u64 er1, .int .u64 er2, .int .u64 es1, .int .u64 es2, .int .u64 etg, .int .u32 elg, .int .u16 ecd, .int .u16 efl, .int .u64 est, .bool hd, .bool hc] := by
    refine Blk.kept ?_ hb_2
    (repeat (first | with_reducible assumption | (with_reducible refine Blk.new' ?_; first | with_reducible rfl | (simp; done)) | with_reducible refine Blk.alloc ?_ _ | with_reducible refine Blk.grow ?_ _ | with_reducible refine Blk.drew ?_ | with_reducible refine Blk.drewN ?_ _ | (with_reducible refine Blk.far ?_ (by first | (dsimp only; omega) | (simp; omega)) _) | (with_reducible apply Blk.two) | (with_reducible refine Blk.set' ?_ _ _ ?_) | (with_reducible rfl) | rfl))
  have g_m : Blk w_2 (w_1.heap.size) 24 #[.int .u64 0, .int .u64 0] := by
    refine Blk.kept ?_ hb_2
    (repeat (first | with_reducible assumption | (with_reducible refine Blk.new' ?_; first | with_reducible rfl | (simp; done)) | with_reducible refine Blk.alloc ?_ _ | with_reducible refine Blk.grow ?_ _ | with_reducible refine Blk.drew ?_ | with_reducible refine Blk.drewN ?_ _ | (with_reducible refine Blk.far ?_ (by first | (dsimp only; omega) | (simp; omega)) _) | (with_reducible apply Blk.two) | (with_reducible refine Blk.set' ?_ _ _ ?_) | (with_reducible rfl) | rfl))
  clear f_x x_l r_x f_p p_l r_p t_x t_p hB_1 hb_2
  have f_x := g_x
  clear g_x
  have f_p := g_p
  clear g_p
  have f_m := g_m
  clear g_m
  have r_x := rowAt_blk f_x
  have x_l := f_x.lt
  replace f_x := Lib.hid f_x
  have r_p := rowAt_blk f_p
  have p_l := f_p.lt
  replace f_p := Lib.hid f_p
  have m_0 : w_2.cell? ⟨w_1.heap.size, 0, none⟩ = some (.int .u64 0) := (f_m).cell 0
  have m_1 : w_2.cell? ⟨w_1.heap.size, 1, none⟩ = some (.int .u64 0) := (f_m).cell 1
  have m_f0 := (f_m).frozen 0
  have m_f1 := (f_m).frozen 1
  have m_l := (f_m).lt
  replace f_m := Lib.hid f_m
  replace hB_2 := Lib.hid hB_2
  go_wp2_with fail
  go_ret
  exact ⟨by first | rfl | simp, by have t_B := hB_2.out; (repeat (first | with_reducible exact Below.refl _ _ | with_reducible assumption | (with_reducible refine bel_set ?_ (by first | exact Nat.le_refl _ | (simp; done) | (simp; omega) | omega) _) | with_reducible refine bel_grow ?_ _ | with_reducible refine Below.drew ?_ | with_reducible refine bel_alloc ?_ _ | with_reducible refine bel_eld ?_ (by assumption)))⟩
set_option maxRecDepth 20000 in
set_option maxHeartbeats 8000000 in
theorem good_of (xi1 xi2 xd1 xd2 xc1 xc2 xm1 xm2 xw1 xw2 xtg xto xlg xcd xfl xst ss ai1 ai2 ap1 ap2 aq1 aq2 ar1 ar2 as1 as2 atg alg acd afl ast ei1 ei2 ep1 ep2 eq1 eq2 er1 er2 es1 es2 etg elg ecd efl est zai1 zai2 zap1 zap2 zaq1 zaq2 zar1 zar2 zas1 zas2 zatg zalg zacd zafl zast zei1 zei2 zep1 zep2 zeq1 zeq2 zer1 zer2 zes1 zes2 zetg zelg zecd zefl zest m1 m2 dh dl ch cl k1 k2 ka : Int) (zd zc zb f1 f2 b2 b4 t0 : Bool) (hb2 : (bits .and .u16 afl 2 == 0) = b2) (hb4 : (bits .and .u16 efl 4 == 0) = b4) (ht0 : (xto == 0) = t0)
    (hto : 0 ≤ xto ∧ xto < 4294967296) (hsm : (xd1 == xc1 && xd2 == xc2) = false) (hda : (alg != xlg) = false) (hea : (elg != xlg) = false) (hl : (xlg == 0) = false) (hk : (xcd == 0) = false)
    (h16 : (bits .and .u16 (bits .or .u16 afl efl) 16 != 0) = false) (F5 : t0 = false → (bits .and .u16 xfl 2 != 0) = true ∧ decide (ss < IntKind.u64.wrap (ss + xto)) = true)
    (F1 : zb = true ∧ f1 = true ∧ f2 = true ∧ (b2 = false → decide (k1 ≤ 0) = true) ∧ (b4 = false → decide (k2 ≤ 0) = true) ∧ decide (0 < ka) = false)
    (HX : ∀ w, Calls Try.prog 28 #[] w fun r w' => r = .returned (.bool true) ∧ Below w.heap.size w w')
    (HP : ∀ w, Calls Try.prog 26 #[.agg #[.int .u64 xi1, .int .u64 xi2, .int .u64 xd1, .int .u64 xd2, .int .u64 xc1, .int .u64 xc2, .int .u64 xm1, .int .u64 xm2, .int .u64 xw1, .int .u64 xw2, .int .u64 xtg, .int .u32 xto, .int .u32 xlg, .int .u16 xcd, .int .u16 xfl, .int .u64 xst], .int .u64 ss, .agg #[.int .u64 ai1, .int .u64 ai2, .int .u64 ap1, .int .u64 ap2, .int .u64 aq1, .int .u64 aq2, .int .u64 ar1, .int .u64 ar2, .int .u64 as1, .int .u64 as2, .int .u64 atg, .int .u32 alg, .int .u16 acd, .int .u16 afl, .int .u64 ast, .int .u64 ei1, .int .u64 ei2, .int .u64 ep1, .int .u64 ep2, .int .u64 eq1, .int .u64 eq2, .int .u64 er1, .int .u64 er2, .int .u64 es1, .int .u64 es2, .int .u64 etg, .int .u32 elg, .int .u16 ecd, .int .u16 efl, .int .u64 est, .bool true, .bool true]] w fun r w' => r = .returned (.tuple #[.int .u32 0, .agg #[.int .u64 m1, .int .u64 m2]]) ∧ Below w.heap.size w w')
    (HM : ∀ w, Calls Try.prog 14 #[.agg #[.int .u64 xi1, .int .u64 xi2, .int .u64 xd1, .int .u64 xd2, .int .u64 xc1, .int .u64 xc2, .int .u64 xm1, .int .u64 xm2, .int .u64 xw1, .int .u64 xw2, .int .u64 xtg, .int .u32 xto, .int .u32 xlg, .int .u16 xcd, .int .u16 xfl, .int .u64 xst], .agg #[.int .u64 m1, .int .u64 m2], .agg #[.int .u64 ai1, .int .u64 ai2, .int .u64 ap1, .int .u64 ap2, .int .u64 aq1, .int .u64 aq2, .int .u64 ar1, .int .u64 ar2, .int .u64 as1, .int .u64 as2, .int .u64 atg, .int .u32 alg, .int .u16 acd, .int .u16 afl, .int .u64 ast, .int .u64 ei1, .int .u64 ei2, .int .u64 ep1, .int .u64 ep2, .int .u64 eq1, .int .u64 eq2, .int .u64 er1, .int .u64 er2, .int .u64 es1, .int .u64 es2, .int .u64 etg, .int .u32 elg, .int .u16 ecd, .int .u16 efl, .int .u64 est, .bool true, .bool true]] w fun r w' => r = .returned (.tuple #[.agg #[.int .u64 zai1, .int .u64 zai2, .int .u64 zap1, .int .u64 zap2, .int .u64 zaq1, .int .u64 zaq2, .int .u64 zar1, .int .u64 zar2, .int .u64 zas1, .int .u64 zas2, .int .u64 zatg, .int .u32 zalg, .int .u16 zacd, .int .u16 zafl, .int .u64 zast, .int .u64 zei1, .int .u64 zei2, .int .u64 zep1, .int .u64 zep2, .int .u64 zeq1, .int .u64 zeq2, .int .u64 zer1, .int .u64 zer2, .int .u64 zes1, .int .u64 zes2, .int .u64 zetg, .int .u32 zelg, .int .u16 zecd, .int .u16 zefl, .int .u64 zest, .bool zd, .bool zc], .bool zb]) ∧ Below w.heap.size w w')
    (HA : ∀ w, Calls Try.prog 25 #[.agg #[.int .u64 m1, .int .u64 m2], .agg #[.int .u64 xm1, .int .u64 xm2]] w fun r w' => r = .returned (.int .i64 ka) ∧ Below w.heap.size w w')
    (HD : ∀ w, Calls Try.prog 24 #[.agg #[.int .u64 zap1, .int .u64 zap2], .agg #[.int .u64 zaq1, .int .u64 zaq2]] w fun r w' => r = .returned (.tuple #[.agg #[.int .u64 dh, .int .u64 dl], .bool f1]) ∧ Below w.heap.size w w')
    (HC : ∀ w, Calls Try.prog 24 #[.agg #[.int .u64 zer1, .int .u64 zer2], .agg #[.int .u64 zes1, .int .u64 zes2]] w fun r w' => r = .returned (.tuple #[.agg #[.int .u64 ch, .int .u64 cl], .bool f2]) ∧ Below w.heap.size w w')
    (HC1 : ∀ w, Calls Try.prog 25 #[.agg #[.int .u64 dh, .int .u64 dl], .agg #[.int .u64 zas1, .int .u64 zas2]] w fun r w' => r = .returned (.int .i64 k1) ∧ Below w.heap.size w w')
    (HC2 : ∀ w, Calls Try.prog 25 #[.agg #[.int .u64 ch, .int .u64 cl], .agg #[.int .u64 zeq1, .int .u64 zeq2]] w fun r w' => r = .returned (.int .i64 k2) ∧ Below w.heap.size w w')
    (w : World) : Calls Try.prog 10 #[.agg #[.int .u64 xi1, .int .u64 xi2, .int .u64 xd1, .int .u64 xd2, .int .u64 xc1, .int .u64 xc2, .int .u64 xm1, .int .u64 xm2, .int .u64 xw1, .int .u64 xw2, .int .u64 xtg, .int .u32 xto, .int .u32 xlg, .int .u16 xcd, .int .u16 xfl, .int .u64 xst], .int .u64 ss, .agg #[.int .u64 ai1, .int .u64 ai2, .int .u64 ap1, .int .u64 ap2, .int .u64 aq1, .int .u64 aq2, .int .u64 ar1, .int .u64 ar2, .int .u64 as1, .int .u64 as2, .int .u64 atg, .int .u32 alg, .int .u16 acd, .int .u16 afl, .int .u64 ast, .int .u64 ei1, .int .u64 ei2, .int .u64 ep1, .int .u64 ep2, .int .u64 eq1, .int .u64 eq2, .int .u64 er1, .int .u64 er2, .int .u64 es1, .int .u64 es2, .int .u64 etg, .int .u32 elg, .int .u16 ecd, .int .u16 efl, .int .u64 est, .bool true, .bool true]] w fun r w' => r = .returned (.bool true) ∧ Below w.heap.size w w' := by
  replace HX := Lib.hid HX
  replace HP := Lib.hid HP
  replace HM := Lib.hid HM
  replace HA := Lib.hid HA
  replace HD := Lib.hid HD
  replace HC := Lib.hid HC
  replace HC1 := Lib.hid HC1
  replace HC2 := Lib.hid HC2
  obtain ⟨rfl, rfl, rfl, g1, g2, hka⟩ := F1
  replace g1 := Lib.hid g1
  replace g2 := Lib.hid g2
  replace F5 := Lib.hid F5
  have e1 : IntKind.u64.wrap xto = xto := by simp [IntKind.wrap, IntKind.bits, IntKind.signed]; omega
  clear hto
  have hb0 := Below.refl w.heap.size w
  go_enter Try.func10, Try.ntmps10
  replace hb0 := Lib.hid hb0
  go_wp2_with fail
  refine (HP.out _).mono ?_
  rintro e w_1 ⟨rfl, hb_1⟩
  have z_1 := hb_1.size
  try simp at z_1
  have t_ := hb0.out
  have hB_1 := bel_eld (w := w) (X := _) (by first | ((repeat (first | with_reducible exact Below.refl _ _ | with_reducible assumption | (with_reducible refine bel_set ?_ (by first | exact Nat.le_refl _ | (simp; done) | (simp; omega) | omega) _) | with_reducible refine bel_grow ?_ _ | with_reducible refine Below.drew ?_ | with_reducible refine below_drewN ?_ _ | with_reducible refine bel_alloc ?_ _ | with_reducible refine bel_trans ?_ (by assumption))); done) | (repeat (first | exact Below.refl _ _ | assumption | refine below_drewN ?_ _ | refine bel_grow ?_ _ | refine Below.drew ?_ | refine bel_alloc ?_ _ | refine bel_set ?_ (by first | exact Nat.le_refl _ | (simp; done) | (simp; omega) | omega) _ | refine bel_trans ?_ (by assumption)))) hb_1
  clear t_
  have g_x : Blk w_1 (w.heap.size) 28 #[.int .u64 xi1, .int .u64 xi2, .int .u64 xd1, .int .u64 xd2, .int .u64 xc1, .int .u64 xc2, .int .u64 xm1, .int .u64 xm2, .int .u64 xw1, .int .u64 xw2, .int .u64 xtg, .int .u32 xto, .int .u32 xlg, .int .u16 xcd, .int .u16 xfl, .int .u64 xst] := by
    refine Blk.kept ?_ hb_1
    (repeat (first | with_reducible assumption | (with_reducible refine Blk.new' ?_; first | with_reducible rfl | (simp; done)) | with_reducible refine Blk.alloc ?_ _ | with_reducible refine Blk.grow ?_ _ | with_reducible refine Blk.drew ?_ | with_reducible refine Blk.drewN ?_ _ | (with_reducible refine Blk.far ?_ (by first | (dsimp only; omega) | (simp; omega)) _) | (with_reducible apply Blk.two) | (with_reducible refine Blk.set' ?_ _ _ ?_) | (with_reducible rfl) | rfl))
  have g_p : Blk w_1 (w.heap.size + 1) 32 #[.int .u64 ai1, .int .u64 ai2, .int .u64 ap1, .int .u64 ap2, .int .u64 aq1, .int .u64 aq2, .int .u64 ar1, .int .u64 ar2, .int .u64 as1, .int .u64 as2, .int .u64 atg, .int .u32 alg, .int .u16 acd, .int .u16 afl, .int .u64 ast, .int .u64 ei1, .int .u64 ei2, .int .u64 ep1, .int .u64 ep2, .int .u64 eq1, .int .u64 eq2, .int .u64 er1, .int .u64 er2, .int .u64 es1, .int .u64 es2, .int .u64 etg, .int .u32 elg, .int .u16 ecd, .int .u16 efl, .int .u64 est, .bool true, .bool true] := by
    refine Blk.kept ?_ hb_1
    (repeat (first | with_reducible assumption | (with_reducible refine Blk.new' ?_; first | with_reducible rfl | (simp; done)) | with_reducible refine Blk.alloc ?_ _ | with_reducible refine Blk.grow ?_ _ | with_reducible refine Blk.drew ?_ | with_reducible refine Blk.drewN ?_ _ | (with_reducible refine Blk.far ?_ (by first | (dsimp only; omega) | (simp; omega)) _) | (with_reducible apply Blk.two) | (with_reducible refine Blk.set' ?_ _ _ ?_) | (with_reducible rfl) | rfl))
  clear hb0 hb_1
  have f_x := g_x
  clear g_x
  have f_p := g_p
  clear g_p
  have r_x := rowAt_blk f_x
  have x_l := f_x.lt
  have x_2 : w_1.cell? ⟨w.heap.size, 2, none⟩ = some (.int .u64 xd1) := (f_x).cell 2
  have x_f2 := (f_x).frozen 2
  have x_3 : w_1.cell? ⟨w.heap.size, 3, none⟩ = some (.int .u64 xd2) := (f_x).cell 3
  have x_f3 := (f_x).frozen 3
  have x_4 : w_1.cell? ⟨w.heap.size, 4, none⟩ = some (.int .u64 xc1) := (f_x).cell 4
  have x_f4 := (f_x).frozen 4
  have x_5 : w_1.cell? ⟨w.heap.size, 5, none⟩ = some (.int .u64 xc2) := (f_x).cell 5
  have x_f5 := (f_x).frozen 5
  have x_6 : w_1.cell? ⟨w.heap.size, 6, none⟩ = some (.int .u64 xm1) := (f_x).cell 6
  have x_f6 := (f_x).frozen 6
  have x_7 : w_1.cell? ⟨w.heap.size, 7, none⟩ = some (.int .u64 xm2) := (f_x).cell 7
  have x_f7 := (f_x).frozen 7
  have x_11 : w_1.cell? ⟨w.heap.size, 11, none⟩ = some (.int .u32 xto) := (f_x).cell 11
  have x_f11 := (f_x).frozen 11
  have x_12 : w_1.cell? ⟨w.heap.size, 12, none⟩ = some (.int .u32 xlg) := (f_x).cell 12
  have x_f12 := (f_x).frozen 12
  have x_13 : w_1.cell? ⟨w.heap.size, 13, none⟩ = some (.int .u16 xcd) := (f_x).cell 13
  have x_f13 := (f_x).frozen 13
  have x_14 : w_1.cell? ⟨w.heap.size, 14, none⟩ = some (.int .u16 xfl) := (f_x).cell 14
  have x_f14 := (f_x).frozen 14
  replace f_x := Lib.hid f_x
  have r_p := rowAt_blk f_p
  have p_l := f_p.lt
  have p_11 : w_1.cell? ⟨w.heap.size + 1, 11, none⟩ = some (.int .u32 alg) := (f_p).cell 11
  have p_f11 := (f_p).frozen 11
  have p_13 : w_1.cell? ⟨w.heap.size + 1, 13, none⟩ = some (.int .u16 afl) := (f_p).cell 13
  have p_f13 := (f_p).frozen 13
  have p_26 : w_1.cell? ⟨w.heap.size + 1, 26, none⟩ = some (.int .u32 elg) := (f_p).cell 26
  have p_f26 := (f_p).frozen 26
  have p_28 : w_1.cell? ⟨w.heap.size + 1, 28, none⟩ = some (.int .u16 efl) := (f_p).cell 28
  have p_f28 := (f_p).frozen 28
  have p_30 : w_1.cell? ⟨w.heap.size + 1, 30, none⟩ = some (.bool true) := (f_p).cell 30
  have p_f30 := (f_p).frozen 30
  have p_31 : w_1.cell? ⟨w.heap.size + 1, 31, none⟩ = some (.bool true) := (f_p).cell 31
  have p_f31 := (f_p).frozen 31
  replace f_p := Lib.hid f_p
  replace hB_1 := Lib.hid hB_1
  go_wp2_with fail
  refine (HM.out _).mono ?_
  rintro e w_2 ⟨rfl, hb_2⟩
  have z_2 := hb_2.size
  try simp at z_2
  have t_ := hB_1.out
  have hB_2 := bel_eld (w := w) (X := _) (by first | ((repeat (first | with_reducible exact Below.refl _ _ | with_reducible assumption | (with_reducible refine bel_set ?_ (by first | exact Nat.le_refl _ | (simp; done) | (simp; omega) | omega) _) | with_reducible refine bel_grow ?_ _ | with_reducible refine Below.drew ?_ | with_reducible refine below_drewN ?_ _ | with_reducible refine bel_alloc ?_ _ | with_reducible refine bel_trans ?_ (by assumption))); done) | (repeat (first | exact Below.refl _ _ | assumption | refine below_drewN ?_ _ | refine bel_grow ?_ _ | refine Below.drew ?_ | refine bel_alloc ?_ _ | refine bel_set ?_ (by first | exact Nat.le_refl _ | (simp; done) | (simp; omega) | omega) _ | refine bel_trans ?_ (by assumption)))) hb_2
  clear t_
  have t_x := f_x.out
  have t_p := f_p.out
  have g_x : Blk w_2 (w.heap.size) 28 #[.int .u64 xi1, .int .u64 xi2, .int .u64 xd1, .int .u64 xd2, .int .u64 xc1, .int .u64 xc2, .int .u64 xm1, .int .u64 xm2, .int .u64 xw1, .int .u64 xw2, .int .u64 xtg, .int .u32 xto, .int .u32 xlg, .int .u16 xcd, .int .u16 xfl, .int .u64 xst] := by
    refine Blk.kept ?_ hb_2
    (repeat (first | with_reducible assumption | (with_reducible refine Blk.new' ?_; first | with_reducible rfl | (simp; done)) | with_reducible refine Blk.alloc ?_ _ | with_reducible refine Blk.grow ?_ _ | with_reducible refine Blk.drew ?_ | with_reducible refine Blk.drewN ?_ _ | (with_reducible refine Blk.far ?_ (by first | (dsimp only; omega) | (simp; omega)) _) | (with_reducible apply Blk.two) | (with_reducible refine Blk.set' ?_ _ _ ?_) | (with_reducible rfl) | rfl))
  have g_p : Blk w_2 (w.heap.size + 1) 32 #[.int .u64 ai1, .int .u64 ai2, .int .u64 ap1, .int .u64 ap2, .int .u64 aq1, .int .u64 aq2, .int .u64 ar1, .int .u64 ar2, .int .u64 as1, .int .u64 as2, .int .u64 atg, .int .u32 alg, .int .u16 acd, .int .u16 afl, .int .u64 ast, .int .u64 ei1, .int .u64 ei2, .int .u64 ep1, .int .u64 ep2, .int .u64 eq1, .int .u64 eq2, .int .u64 er1, .int .u64 er2, .int .u64 es1, .int .u64 es2, .int .u64 etg, .int .u32 elg, .int .u16 ecd, .int .u16 efl, .int .u64 est, .bool true, .bool true] := by
    refine Blk.kept ?_ hb_2
    (repeat (first | with_reducible assumption | (with_reducible refine Blk.new' ?_; first | with_reducible rfl | (simp; done)) | with_reducible refine Blk.alloc ?_ _ | with_reducible refine Blk.grow ?_ _ | with_reducible refine Blk.drew ?_ | with_reducible refine Blk.drewN ?_ _ | (with_reducible refine Blk.far ?_ (by first | (dsimp only; omega) | (simp; omega)) _) | (with_reducible apply Blk.two) | (with_reducible refine Blk.set' ?_ _ _ ?_) | (with_reducible rfl) | rfl))
  have g_m : Blk w_2 (w_1.heap.size) 24 #[.int .u64 m1, .int .u64 m2] := by
    refine Blk.kept ?_ hb_2
    (repeat (first | with_reducible assumption | (with_reducible refine Blk.new' ?_; first | with_reducible rfl | (simp; done)) | with_reducible refine Blk.alloc ?_ _ | with_reducible refine Blk.grow ?_ _ | with_reducible refine Blk.drew ?_ | with_reducible refine Blk.drewN ?_ _ | (with_reducible refine Blk.far ?_ (by first | (dsimp only; omega) | (simp; omega)) _) | (with_reducible apply Blk.two) | (with_reducible refine Blk.set' ?_ _ _ ?_) | (with_reducible rfl) | rfl))
  clear f_x x_l r_x x_2 x_f2 x_3 x_f3 x_4 x_f4 x_5 x_f5 x_6 x_f6 x_7 x_f7 x_11 x_f11 x_12 x_f12 x_13 x_f13 x_14 x_f14 f_p p_l r_p p_11 p_f11 p_13 p_f13 p_26 p_f26 p_28 p_f28 p_30 p_f30 p_31 p_f31 t_x t_p hB_1 hb_2
  have f_x := g_x
  clear g_x
  have f_p := g_p
  clear g_p
  have f_m := g_m
  clear g_m
  have r_x := rowAt_blk f_x
  have x_l := f_x.lt
  have x_2 : w_2.cell? ⟨w.heap.size, 2, none⟩ = some (.int .u64 xd1) := (f_x).cell 2
  have x_f2 := (f_x).frozen 2
  have x_3 : w_2.cell? ⟨w.heap.size, 3, none⟩ = some (.int .u64 xd2) := (f_x).cell 3
  have x_f3 := (f_x).frozen 3
  have x_4 : w_2.cell? ⟨w.heap.size, 4, none⟩ = some (.int .u64 xc1) := (f_x).cell 4
  have x_f4 := (f_x).frozen 4
  have x_5 : w_2.cell? ⟨w.heap.size, 5, none⟩ = some (.int .u64 xc2) := (f_x).cell 5
  have x_f5 := (f_x).frozen 5
  have x_6 : w_2.cell? ⟨w.heap.size, 6, none⟩ = some (.int .u64 xm1) := (f_x).cell 6
  have x_f6 := (f_x).frozen 6
  have x_7 : w_2.cell? ⟨w.heap.size, 7, none⟩ = some (.int .u64 xm2) := (f_x).cell 7
  have x_f7 := (f_x).frozen 7
  have x_11 : w_2.cell? ⟨w.heap.size, 11, none⟩ = some (.int .u32 xto) := (f_x).cell 11
  have x_f11 := (f_x).frozen 11
  have x_12 : w_2.cell? ⟨w.heap.size, 12, none⟩ = some (.int .u32 xlg) := (f_x).cell 12
  have x_f12 := (f_x).frozen 12
  have x_13 : w_2.cell? ⟨w.heap.size, 13, none⟩ = some (.int .u16 xcd) := (f_x).cell 13
  have x_f13 := (f_x).frozen 13
  have x_14 : w_2.cell? ⟨w.heap.size, 14, none⟩ = some (.int .u16 xfl) := (f_x).cell 14
  have x_f14 := (f_x).frozen 14
  replace f_x := Lib.hid f_x
  have r_p := rowAt_blk f_p
  have p_l := f_p.lt
  have p_11 : w_2.cell? ⟨w.heap.size + 1, 11, none⟩ = some (.int .u32 alg) := (f_p).cell 11
  have p_f11 := (f_p).frozen 11
  have p_13 : w_2.cell? ⟨w.heap.size + 1, 13, none⟩ = some (.int .u16 afl) := (f_p).cell 13
  have p_f13 := (f_p).frozen 13
  have p_26 : w_2.cell? ⟨w.heap.size + 1, 26, none⟩ = some (.int .u32 elg) := (f_p).cell 26
  have p_f26 := (f_p).frozen 26
  have p_28 : w_2.cell? ⟨w.heap.size + 1, 28, none⟩ = some (.int .u16 efl) := (f_p).cell 28
  have p_f28 := (f_p).frozen 28
  have p_30 : w_2.cell? ⟨w.heap.size + 1, 30, none⟩ = some (.bool true) := (f_p).cell 30
  have p_f30 := (f_p).frozen 30
  have p_31 : w_2.cell? ⟨w.heap.size + 1, 31, none⟩ = some (.bool true) := (f_p).cell 31
  have p_f31 := (f_p).frozen 31
  replace f_p := Lib.hid f_p
  have m_0 : w_2.cell? ⟨w_1.heap.size, 0, none⟩ = some (.int .u64 m1) := (f_m).cell 0
  have m_1 : w_2.cell? ⟨w_1.heap.size, 1, none⟩ = some (.int .u64 m2) := (f_m).cell 1
  have m_f0 := (f_m).frozen 0
  have m_f1 := (f_m).frozen 1
  have m_l := (f_m).lt
  replace f_m := Lib.hid f_m
  replace hB_2 := Lib.hid hB_2
  go_wp2_with fail
  refine (HA.out _).mono ?_
  rintro e w_3 ⟨rfl, hb_3⟩
  have z_3 := hb_3.size
  try simp at z_3
  have t_ := hB_2.out
  have hB_3 := bel_eld (w := w) (X := _) (by first | ((repeat (first | with_reducible exact Below.refl _ _ | with_reducible assumption | (with_reducible refine bel_set ?_ (by first | exact Nat.le_refl _ | (simp; done) | (simp; omega) | omega) _) | with_reducible refine bel_grow ?_ _ | with_reducible refine Below.drew ?_ | with_reducible refine below_drewN ?_ _ | with_reducible refine bel_alloc ?_ _ | with_reducible refine bel_trans ?_ (by assumption))); done) | (repeat (first | exact Below.refl _ _ | assumption | refine below_drewN ?_ _ | refine bel_grow ?_ _ | refine Below.drew ?_ | refine bel_alloc ?_ _ | refine bel_set ?_ (by first | exact Nat.le_refl _ | (simp; done) | (simp; omega) | omega) _ | refine bel_trans ?_ (by assumption)))) hb_3
  clear t_
  have t_x := f_x.out
  have t_p := f_p.out
  have t_m := f_m.out
  have g_x : Blk w_3 (w.heap.size) 28 #[.int .u64 xi1, .int .u64 xi2, .int .u64 xd1, .int .u64 xd2, .int .u64 xc1, .int .u64 xc2, .int .u64 xm1, .int .u64 xm2, .int .u64 xw1, .int .u64 xw2, .int .u64 xtg, .int .u32 xto, .int .u32 xlg, .int .u16 xcd, .int .u16 xfl, .int .u64 xst] := by
    refine Blk.kept ?_ hb_3
    (repeat (first | with_reducible assumption | (with_reducible refine Blk.new' ?_; first | with_reducible rfl | (simp; done)) | with_reducible refine Blk.alloc ?_ _ | with_reducible refine Blk.grow ?_ _ | with_reducible refine Blk.drew ?_ | with_reducible refine Blk.drewN ?_ _ | (with_reducible refine Blk.far ?_ (by first | (dsimp only; omega) | (simp; omega)) _) | (with_reducible apply Blk.two) | (with_reducible refine Blk.set' ?_ _ _ ?_) | (with_reducible rfl) | rfl))
  have g_p : Blk w_3 (w.heap.size + 1) 32 #[.int .u64 ai1, .int .u64 ai2, .int .u64 ap1, .int .u64 ap2, .int .u64 aq1, .int .u64 aq2, .int .u64 ar1, .int .u64 ar2, .int .u64 as1, .int .u64 as2, .int .u64 atg, .int .u32 alg, .int .u16 acd, .int .u16 afl, .int .u64 ast, .int .u64 ei1, .int .u64 ei2, .int .u64 ep1, .int .u64 ep2, .int .u64 eq1, .int .u64 eq2, .int .u64 er1, .int .u64 er2, .int .u64 es1, .int .u64 es2, .int .u64 etg, .int .u32 elg, .int .u16 ecd, .int .u16 efl, .int .u64 est, .bool true, .bool true] := by
    refine Blk.kept ?_ hb_3
    (repeat (first | with_reducible assumption | (with_reducible refine Blk.new' ?_; first | with_reducible rfl | (simp; done)) | with_reducible refine Blk.alloc ?_ _ | with_reducible refine Blk.grow ?_ _ | with_reducible refine Blk.drew ?_ | with_reducible refine Blk.drewN ?_ _ | (with_reducible refine Blk.far ?_ (by first | (dsimp only; omega) | (simp; omega)) _) | (with_reducible apply Blk.two) | (with_reducible refine Blk.set' ?_ _ _ ?_) | (with_reducible rfl) | rfl))
  have g_m : Blk w_3 (w_1.heap.size) 24 #[.int .u64 m1, .int .u64 m2] := by
    refine Blk.kept ?_ hb_3
    (repeat (first | with_reducible assumption | (with_reducible refine Blk.new' ?_; first | with_reducible rfl | (simp; done)) | with_reducible refine Blk.alloc ?_ _ | with_reducible refine Blk.grow ?_ _ | with_reducible refine Blk.drew ?_ | with_reducible refine Blk.drewN ?_ _ | (with_reducible refine Blk.far ?_ (by first | (dsimp only; omega) | (simp; omega)) _) | (with_reducible apply Blk.two) | (with_reducible refine Blk.set' ?_ _ _ ?_) | (with_reducible rfl) | rfl))
  have g_z : Blk w_3 (w_2.heap.size) 32 #[.int .u64 zai1, .int .u64 zai2, .int .u64 zap1, .int .u64 zap2, .int .u64 zaq1, .int .u64 zaq2, .int .u64 zar1, .int .u64 zar2, .int .u64 zas1, .int .u64 zas2, .int .u64 zatg, .int .u32 zalg, .int .u16 zacd, .int .u16 zafl, .int .u64 zast, .int .u64 zei1, .int .u64 zei2, .int .u64 zep1, .int .u64 zep2, .int .u64 zeq1, .int .u64 zeq2, .int .u64 zer1, .int .u64 zer2, .int .u64 zes1, .int .u64 zes2, .int .u64 zetg, .int .u32 zelg, .int .u16 zecd, .int .u16 zefl, .int .u64 zest, .bool zd, .bool zc] := by
    refine Blk.kept ?_ hb_3
    (repeat (first | with_reducible assumption | (with_reducible refine Blk.new' ?_; first | with_reducible rfl | (simp; done)) | with_reducible refine Blk.alloc ?_ _ | with_reducible refine Blk.grow ?_ _ | with_reducible refine Blk.drew ?_ | with_reducible refine Blk.drewN ?_ _ | (with_reducible refine Blk.far ?_ (by first | (dsimp only; omega) | (simp; omega)) _) | (with_reducible apply Blk.two) | (with_reducible refine Blk.set' ?_ _ _ ?_) | (with_reducible rfl) | rfl))
  clear f_x x_l r_x x_2 x_f2 x_3 x_f3 x_4 x_f4 x_5 x_f5 x_6 x_f6 x_7 x_f7 x_11 x_f11 x_12 x_f12 x_13 x_f13 x_14 x_f14 f_p p_l r_p p_11 p_f11 p_13 p_f13 p_26 p_f26 p_28 p_f28 p_30 p_f30 p_31 p_f31 f_m m_l m_0 m_1 m_f0 m_f1 t_x t_p t_m hB_2 hb_3
  have f_x := g_x
  clear g_x
  have f_p := g_p
  clear g_p
  have f_m := g_m
  clear g_m
  have f_z := g_z
  clear g_z
  have r_x := rowAt_blk f_x
  have x_l := f_x.lt
  have x_2 : w_3.cell? ⟨w.heap.size, 2, none⟩ = some (.int .u64 xd1) := (f_x).cell 2
  have x_f2 := (f_x).frozen 2
  have x_3 : w_3.cell? ⟨w.heap.size, 3, none⟩ = some (.int .u64 xd2) := (f_x).cell 3
  have x_f3 := (f_x).frozen 3
  have x_4 : w_3.cell? ⟨w.heap.size, 4, none⟩ = some (.int .u64 xc1) := (f_x).cell 4
  have x_f4 := (f_x).frozen 4
  have x_5 : w_3.cell? ⟨w.heap.size, 5, none⟩ = some (.int .u64 xc2) := (f_x).cell 5
  have x_f5 := (f_x).frozen 5
  have x_6 : w_3.cell? ⟨w.heap.size, 6, none⟩ = some (.int .u64 xm1) := (f_x).cell 6
  have x_f6 := (f_x).frozen 6
  have x_7 : w_3.cell? ⟨w.heap.size, 7, none⟩ = some (.int .u64 xm2) := (f_x).cell 7
  have x_f7 := (f_x).frozen 7
  have x_11 : w_3.cell? ⟨w.heap.size, 11, none⟩ = some (.int .u32 xto) := (f_x).cell 11
  have x_f11 := (f_x).frozen 11
  have x_12 : w_3.cell? ⟨w.heap.size, 12, none⟩ = some (.int .u32 xlg) := (f_x).cell 12
  have x_f12 := (f_x).frozen 12
  have x_13 : w_3.cell? ⟨w.heap.size, 13, none⟩ = some (.int .u16 xcd) := (f_x).cell 13
  have x_f13 := (f_x).frozen 13
  have x_14 : w_3.cell? ⟨w.heap.size, 14, none⟩ = some (.int .u16 xfl) := (f_x).cell 14
  have x_f14 := (f_x).frozen 14
  replace f_x := Lib.hid f_x
  have r_p := rowAt_blk f_p
  have p_l := f_p.lt
  have p_11 : w_3.cell? ⟨w.heap.size + 1, 11, none⟩ = some (.int .u32 alg) := (f_p).cell 11
  have p_f11 := (f_p).frozen 11
  have p_13 : w_3.cell? ⟨w.heap.size + 1, 13, none⟩ = some (.int .u16 afl) := (f_p).cell 13
  have p_f13 := (f_p).frozen 13
  have p_26 : w_3.cell? ⟨w.heap.size + 1, 26, none⟩ = some (.int .u32 elg) := (f_p).cell 26
  have p_f26 := (f_p).frozen 26
  have p_28 : w_3.cell? ⟨w.heap.size + 1, 28, none⟩ = some (.int .u16 efl) := (f_p).cell 28
  have p_f28 := (f_p).frozen 28
  have p_30 : w_3.cell? ⟨w.heap.size + 1, 30, none⟩ = some (.bool true) := (f_p).cell 30
  have p_f30 := (f_p).frozen 30
  have p_31 : w_3.cell? ⟨w.heap.size + 1, 31, none⟩ = some (.bool true) := (f_p).cell 31
  have p_f31 := (f_p).frozen 31
  replace f_p := Lib.hid f_p
  have m_0 : w_3.cell? ⟨w_1.heap.size, 0, none⟩ = some (.int .u64 m1) := (f_m).cell 0
  have m_1 : w_3.cell? ⟨w_1.heap.size, 1, none⟩ = some (.int .u64 m2) := (f_m).cell 1
  have m_f0 := (f_m).frozen 0
  have m_f1 := (f_m).frozen 1
  have m_l := (f_m).lt
  replace f_m := Lib.hid f_m
  have r_z := rowAt_blk f_z
  have z_l := f_z.lt
  have z_2 : w_3.cell? ⟨w_2.heap.size, 2, none⟩ = some (.int .u64 zap1) := (f_z).cell 2
  have z_f2 := (f_z).frozen 2
  have z_3 : w_3.cell? ⟨w_2.heap.size, 3, none⟩ = some (.int .u64 zap2) := (f_z).cell 3
  have z_f3 := (f_z).frozen 3
  have z_4 : w_3.cell? ⟨w_2.heap.size, 4, none⟩ = some (.int .u64 zaq1) := (f_z).cell 4
  have z_f4 := (f_z).frozen 4
  have z_5 : w_3.cell? ⟨w_2.heap.size, 5, none⟩ = some (.int .u64 zaq2) := (f_z).cell 5
  have z_f5 := (f_z).frozen 5
  have z_8 : w_3.cell? ⟨w_2.heap.size, 8, none⟩ = some (.int .u64 zas1) := (f_z).cell 8
  have z_f8 := (f_z).frozen 8
  have z_9 : w_3.cell? ⟨w_2.heap.size, 9, none⟩ = some (.int .u64 zas2) := (f_z).cell 9
  have z_f9 := (f_z).frozen 9
  have z_19 : w_3.cell? ⟨w_2.heap.size, 19, none⟩ = some (.int .u64 zeq1) := (f_z).cell 19
  have z_f19 := (f_z).frozen 19
  have z_20 : w_3.cell? ⟨w_2.heap.size, 20, none⟩ = some (.int .u64 zeq2) := (f_z).cell 20
  have z_f20 := (f_z).frozen 20
  have z_21 : w_3.cell? ⟨w_2.heap.size, 21, none⟩ = some (.int .u64 zer1) := (f_z).cell 21
  have z_f21 := (f_z).frozen 21
  have z_22 : w_3.cell? ⟨w_2.heap.size, 22, none⟩ = some (.int .u64 zer2) := (f_z).cell 22
  have z_f22 := (f_z).frozen 22
  have z_23 : w_3.cell? ⟨w_2.heap.size, 23, none⟩ = some (.int .u64 zes1) := (f_z).cell 23
  have z_f23 := (f_z).frozen 23
  have z_24 : w_3.cell? ⟨w_2.heap.size, 24, none⟩ = some (.int .u64 zes2) := (f_z).cell 24
  have z_f24 := (f_z).frozen 24
  replace f_z := Lib.hid f_z
  replace hB_3 := Lib.hid hB_3
  go_wp2_with fail
  refine (HD.out _).mono ?_
  rintro e w_4 ⟨rfl, hb_4⟩
  have z_4 := hb_4.size
  try simp at z_4
  have t_ := hB_3.out
  have hB_4 := bel_eld (w := w) (X := _) (by first | ((repeat (first | with_reducible exact Below.refl _ _ | with_reducible assumption | (with_reducible refine bel_set ?_ (by first | exact Nat.le_refl _ | (simp; done) | (simp; omega) | omega) _) | with_reducible refine bel_grow ?_ _ | with_reducible refine Below.drew ?_ | with_reducible refine below_drewN ?_ _ | with_reducible refine bel_alloc ?_ _ | with_reducible refine bel_trans ?_ (by assumption))); done) | (repeat (first | exact Below.refl _ _ | assumption | refine below_drewN ?_ _ | refine bel_grow ?_ _ | refine Below.drew ?_ | refine bel_alloc ?_ _ | refine bel_set ?_ (by first | exact Nat.le_refl _ | (simp; done) | (simp; omega) | omega) _ | refine bel_trans ?_ (by assumption)))) hb_4
  clear t_
  have t_x := f_x.out
  have t_p := f_p.out
  have t_m := f_m.out
  have t_z := f_z.out
  have g_x : Blk w_4 (w.heap.size) 28 #[.int .u64 xi1, .int .u64 xi2, .int .u64 xd1, .int .u64 xd2, .int .u64 xc1, .int .u64 xc2, .int .u64 xm1, .int .u64 xm2, .int .u64 xw1, .int .u64 xw2, .int .u64 xtg, .int .u32 xto, .int .u32 xlg, .int .u16 xcd, .int .u16 xfl, .int .u64 xst] := by
    refine Blk.kept ?_ hb_4
    (repeat (first | with_reducible assumption | (with_reducible refine Blk.new' ?_; first | with_reducible rfl | (simp; done)) | with_reducible refine Blk.alloc ?_ _ | with_reducible refine Blk.grow ?_ _ | with_reducible refine Blk.drew ?_ | with_reducible refine Blk.drewN ?_ _ | (with_reducible refine Blk.far ?_ (by first | (dsimp only; omega) | (simp; omega)) _) | (with_reducible apply Blk.two) | (with_reducible refine Blk.set' ?_ _ _ ?_) | (with_reducible rfl) | rfl))
  have g_p : Blk w_4 (w.heap.size + 1) 32 #[.int .u64 ai1, .int .u64 ai2, .int .u64 ap1, .int .u64 ap2, .int .u64 aq1, .int .u64 aq2, .int .u64 ar1, .int .u64 ar2, .int .u64 as1, .int .u64 as2, .int .u64 atg, .int .u32 alg, .int .u16 acd, .int .u16 afl, .int .u64 ast, .int .u64 ei1, .int .u64 ei2, .int .u64 ep1, .int .u64 ep2, .int .u64 eq1, .int .u64 eq2, .int .u64 er1, .int .u64 er2, .int .u64 es1, .int .u64 es2, .int .u64 etg, .int .u32 elg, .int .u16 ecd, .int .u16 efl, .int .u64 est, .bool true, .bool true] := by
    refine Blk.kept ?_ hb_4
    (repeat (first | with_reducible assumption | (with_reducible refine Blk.new' ?_; first | with_reducible rfl | (simp; done)) | with_reducible refine Blk.alloc ?_ _ | with_reducible refine Blk.grow ?_ _ | with_reducible refine Blk.drew ?_ | with_reducible refine Blk.drewN ?_ _ | (with_reducible refine Blk.far ?_ (by first | (dsimp only; omega) | (simp; omega)) _) | (with_reducible apply Blk.two) | (with_reducible refine Blk.set' ?_ _ _ ?_) | (with_reducible rfl) | rfl))
  have g_m : Blk w_4 (w_1.heap.size) 24 #[.int .u64 m1, .int .u64 m2] := by
    refine Blk.kept ?_ hb_4
    (repeat (first | with_reducible assumption | (with_reducible refine Blk.new' ?_; first | with_reducible rfl | (simp; done)) | with_reducible refine Blk.alloc ?_ _ | with_reducible refine Blk.grow ?_ _ | with_reducible refine Blk.drew ?_ | with_reducible refine Blk.drewN ?_ _ | (with_reducible refine Blk.far ?_ (by first | (dsimp only; omega) | (simp; omega)) _) | (with_reducible apply Blk.two) | (with_reducible refine Blk.set' ?_ _ _ ?_) | (with_reducible rfl) | rfl))
  have g_z : Blk w_4 (w_2.heap.size) 32 #[.int .u64 zai1, .int .u64 zai2, .int .u64 zap1, .int .u64 zap2, .int .u64 zaq1, .int .u64 zaq2, .int .u64 zar1, .int .u64 zar2, .int .u64 zas1, .int .u64 zas2, .int .u64 zatg, .int .u32 zalg, .int .u16 zacd, .int .u16 zafl, .int .u64 zast, .int .u64 zei1, .int .u64 zei2, .int .u64 zep1, .int .u64 zep2, .int .u64 zeq1, .int .u64 zeq2, .int .u64 zer1, .int .u64 zer2, .int .u64 zes1, .int .u64 zes2, .int .u64 zetg, .int .u32 zelg, .int .u16 zecd, .int .u16 zefl, .int .u64 zest, .bool zd, .bool zc] := by
    refine Blk.kept ?_ hb_4
    (repeat (first | with_reducible assumption | (with_reducible refine Blk.new' ?_; first | with_reducible rfl | (simp; done)) | with_reducible refine Blk.alloc ?_ _ | with_reducible refine Blk.grow ?_ _ | with_reducible refine Blk.drew ?_ | with_reducible refine Blk.drewN ?_ _ | (with_reducible refine Blk.far ?_ (by first | (dsimp only; omega) | (simp; omega)) _) | (with_reducible apply Blk.two) | (with_reducible refine Blk.set' ?_ _ _ ?_) | (with_reducible rfl) | rfl))
  clear f_x x_l r_x x_2 x_f2 x_3 x_f3 x_4 x_f4 x_5 x_f5 x_6 x_f6 x_7 x_f7 x_11 x_f11 x_12 x_f12 x_13 x_f13 x_14 x_f14 f_p p_l r_p p_11 p_f11 p_13 p_f13 p_26 p_f26 p_28 p_f28 p_30 p_f30 p_31 p_f31 f_m m_l m_0 m_1 m_f0 m_f1 f_z z_l r_z z_2 z_f2 z_3 z_f3 z_4 z_f4 z_5 z_f5 z_8 z_f8 z_9 z_f9 z_19 z_f19 z_20 z_f20 z_21 z_f21 z_22 z_f22 z_23 z_f23 z_24 z_f24 t_x t_p t_m t_z hB_3 hb_4
  have f_x := g_x
  clear g_x
  have f_p := g_p
  clear g_p
  have f_m := g_m
  clear g_m
  have f_z := g_z
  clear g_z
  have r_x := rowAt_blk f_x
  have x_l := f_x.lt
  have x_2 : w_4.cell? ⟨w.heap.size, 2, none⟩ = some (.int .u64 xd1) := (f_x).cell 2
  have x_f2 := (f_x).frozen 2
  have x_3 : w_4.cell? ⟨w.heap.size, 3, none⟩ = some (.int .u64 xd2) := (f_x).cell 3
  have x_f3 := (f_x).frozen 3
  have x_4 : w_4.cell? ⟨w.heap.size, 4, none⟩ = some (.int .u64 xc1) := (f_x).cell 4
  have x_f4 := (f_x).frozen 4
  have x_5 : w_4.cell? ⟨w.heap.size, 5, none⟩ = some (.int .u64 xc2) := (f_x).cell 5
  have x_f5 := (f_x).frozen 5
  have x_6 : w_4.cell? ⟨w.heap.size, 6, none⟩ = some (.int .u64 xm1) := (f_x).cell 6
  have x_f6 := (f_x).frozen 6
  have x_7 : w_4.cell? ⟨w.heap.size, 7, none⟩ = some (.int .u64 xm2) := (f_x).cell 7
  have x_f7 := (f_x).frozen 7
  have x_11 : w_4.cell? ⟨w.heap.size, 11, none⟩ = some (.int .u32 xto) := (f_x).cell 11
  have x_f11 := (f_x).frozen 11
  have x_12 : w_4.cell? ⟨w.heap.size, 12, none⟩ = some (.int .u32 xlg) := (f_x).cell 12
  have x_f12 := (f_x).frozen 12
  have x_13 : w_4.cell? ⟨w.heap.size, 13, none⟩ = some (.int .u16 xcd) := (f_x).cell 13
  have x_f13 := (f_x).frozen 13
  have x_14 : w_4.cell? ⟨w.heap.size, 14, none⟩ = some (.int .u16 xfl) := (f_x).cell 14
  have x_f14 := (f_x).frozen 14
  replace f_x := Lib.hid f_x
  have r_p := rowAt_blk f_p
  have p_l := f_p.lt
  have p_11 : w_4.cell? ⟨w.heap.size + 1, 11, none⟩ = some (.int .u32 alg) := (f_p).cell 11
  have p_f11 := (f_p).frozen 11
  have p_13 : w_4.cell? ⟨w.heap.size + 1, 13, none⟩ = some (.int .u16 afl) := (f_p).cell 13
  have p_f13 := (f_p).frozen 13
  have p_26 : w_4.cell? ⟨w.heap.size + 1, 26, none⟩ = some (.int .u32 elg) := (f_p).cell 26
  have p_f26 := (f_p).frozen 26
  have p_28 : w_4.cell? ⟨w.heap.size + 1, 28, none⟩ = some (.int .u16 efl) := (f_p).cell 28
  have p_f28 := (f_p).frozen 28
  have p_30 : w_4.cell? ⟨w.heap.size + 1, 30, none⟩ = some (.bool true) := (f_p).cell 30
  have p_f30 := (f_p).frozen 30
  have p_31 : w_4.cell? ⟨w.heap.size + 1, 31, none⟩ = some (.bool true) := (f_p).cell 31
  have p_f31 := (f_p).frozen 31
  replace f_p := Lib.hid f_p
  have m_0 : w_4.cell? ⟨w_1.heap.size, 0, none⟩ = some (.int .u64 m1) := (f_m).cell 0
  have m_1 : w_4.cell? ⟨w_1.heap.size, 1, none⟩ = some (.int .u64 m2) := (f_m).cell 1
  have m_f0 := (f_m).frozen 0
  have m_f1 := (f_m).frozen 1
  have m_l := (f_m).lt
  replace f_m := Lib.hid f_m
  have r_z := rowAt_blk f_z
  have z_l := f_z.lt
  have z_2 : w_4.cell? ⟨w_2.heap.size, 2, none⟩ = some (.int .u64 zap1) := (f_z).cell 2
  have z_f2 := (f_z).frozen 2
  have z_3 : w_4.cell? ⟨w_2.heap.size, 3, none⟩ = some (.int .u64 zap2) := (f_z).cell 3
  have z_f3 := (f_z).frozen 3
  have z_4 : w_4.cell? ⟨w_2.heap.size, 4, none⟩ = some (.int .u64 zaq1) := (f_z).cell 4
  have z_f4 := (f_z).frozen 4
  have z_5 : w_4.cell? ⟨w_2.heap.size, 5, none⟩ = some (.int .u64 zaq2) := (f_z).cell 5
  have z_f5 := (f_z).frozen 5
  have z_8 : w_4.cell? ⟨w_2.heap.size, 8, none⟩ = some (.int .u64 zas1) := (f_z).cell 8
  have z_f8 := (f_z).frozen 8
  have z_9 : w_4.cell? ⟨w_2.heap.size, 9, none⟩ = some (.int .u64 zas2) := (f_z).cell 9
  have z_f9 := (f_z).frozen 9
  have z_19 : w_4.cell? ⟨w_2.heap.size, 19, none⟩ = some (.int .u64 zeq1) := (f_z).cell 19
  have z_f19 := (f_z).frozen 19
  have z_20 : w_4.cell? ⟨w_2.heap.size, 20, none⟩ = some (.int .u64 zeq2) := (f_z).cell 20
  have z_f20 := (f_z).frozen 20
  have z_21 : w_4.cell? ⟨w_2.heap.size, 21, none⟩ = some (.int .u64 zer1) := (f_z).cell 21
  have z_f21 := (f_z).frozen 21
  have z_22 : w_4.cell? ⟨w_2.heap.size, 22, none⟩ = some (.int .u64 zer2) := (f_z).cell 22
  have z_f22 := (f_z).frozen 22
  have z_23 : w_4.cell? ⟨w_2.heap.size, 23, none⟩ = some (.int .u64 zes1) := (f_z).cell 23
  have z_f23 := (f_z).frozen 23
  have z_24 : w_4.cell? ⟨w_2.heap.size, 24, none⟩ = some (.int .u64 zes2) := (f_z).cell 24
  have z_f24 := (f_z).frozen 24
  replace f_z := Lib.hid f_z
  replace hB_4 := Lib.hid hB_4
  go_wp2_with fail
  refine (HC.out _).mono ?_
  rintro e w_5 ⟨rfl, hb_5⟩
  have z_5 := hb_5.size
  try simp at z_5
  have t_ := hB_4.out
  have hB_5 := bel_eld (w := w) (X := _) (by first | ((repeat (first | with_reducible exact Below.refl _ _ | with_reducible assumption | (with_reducible refine bel_set ?_ (by first | exact Nat.le_refl _ | (simp; done) | (simp; omega) | omega) _) | with_reducible refine bel_grow ?_ _ | with_reducible refine Below.drew ?_ | with_reducible refine below_drewN ?_ _ | with_reducible refine bel_alloc ?_ _ | with_reducible refine bel_trans ?_ (by assumption))); done) | (repeat (first | exact Below.refl _ _ | assumption | refine below_drewN ?_ _ | refine bel_grow ?_ _ | refine Below.drew ?_ | refine bel_alloc ?_ _ | refine bel_set ?_ (by first | exact Nat.le_refl _ | (simp; done) | (simp; omega) | omega) _ | refine bel_trans ?_ (by assumption)))) hb_5
  clear t_
  have t_x := f_x.out
  have t_p := f_p.out
  have t_m := f_m.out
  have t_z := f_z.out
  have g_x : Blk w_5 (w.heap.size) 28 #[.int .u64 xi1, .int .u64 xi2, .int .u64 xd1, .int .u64 xd2, .int .u64 xc1, .int .u64 xc2, .int .u64 xm1, .int .u64 xm2, .int .u64 xw1, .int .u64 xw2, .int .u64 xtg, .int .u32 xto, .int .u32 xlg, .int .u16 xcd, .int .u16 xfl, .int .u64 xst] := by
    refine Blk.kept ?_ hb_5
    (repeat (first | with_reducible assumption | (with_reducible refine Blk.new' ?_; first | with_reducible rfl | (simp; done)) | with_reducible refine Blk.alloc ?_ _ | with_reducible refine Blk.grow ?_ _ | with_reducible refine Blk.drew ?_ | with_reducible refine Blk.drewN ?_ _ | (with_reducible refine Blk.far ?_ (by first | (dsimp only; omega) | (simp; omega)) _) | (with_reducible apply Blk.two) | (with_reducible refine Blk.set' ?_ _ _ ?_) | (with_reducible rfl) | rfl))
  have g_p : Blk w_5 (w.heap.size + 1) 32 #[.int .u64 ai1, .int .u64 ai2, .int .u64 ap1, .int .u64 ap2, .int .u64 aq1, .int .u64 aq2, .int .u64 ar1, .int .u64 ar2, .int .u64 as1, .int .u64 as2, .int .u64 atg, .int .u32 alg, .int .u16 acd, .int .u16 afl, .int .u64 ast, .int .u64 ei1, .int .u64 ei2, .int .u64 ep1, .int .u64 ep2, .int .u64 eq1, .int .u64 eq2, .int .u64 er1, .int .u64 er2, .int .u64 es1, .int .u64 es2, .int .u64 etg, .int .u32 elg, .int .u16 ecd, .int .u16 efl, .int .u64 est, .bool true, .bool true] := by
    refine Blk.kept ?_ hb_5
    (repeat (first | with_reducible assumption | (with_reducible refine Blk.new' ?_; first | with_reducible rfl | (simp; done)) | with_reducible refine Blk.alloc ?_ _ | with_reducible refine Blk.grow ?_ _ | with_reducible refine Blk.drew ?_ | with_reducible refine Blk.drewN ?_ _ | (with_reducible refine Blk.far ?_ (by first | (dsimp only; omega) | (simp; omega)) _) | (with_reducible apply Blk.two) | (with_reducible refine Blk.set' ?_ _ _ ?_) | (with_reducible rfl) | rfl))
  have g_m : Blk w_5 (w_1.heap.size) 24 #[.int .u64 m1, .int .u64 m2] := by
    refine Blk.kept ?_ hb_5
    (repeat (first | with_reducible assumption | (with_reducible refine Blk.new' ?_; first | with_reducible rfl | (simp; done)) | with_reducible refine Blk.alloc ?_ _ | with_reducible refine Blk.grow ?_ _ | with_reducible refine Blk.drew ?_ | with_reducible refine Blk.drewN ?_ _ | (with_reducible refine Blk.far ?_ (by first | (dsimp only; omega) | (simp; omega)) _) | (with_reducible apply Blk.two) | (with_reducible refine Blk.set' ?_ _ _ ?_) | (with_reducible rfl) | rfl))
  have g_z : Blk w_5 (w_2.heap.size) 32 #[.int .u64 zai1, .int .u64 zai2, .int .u64 zap1, .int .u64 zap2, .int .u64 zaq1, .int .u64 zaq2, .int .u64 zar1, .int .u64 zar2, .int .u64 zas1, .int .u64 zas2, .int .u64 zatg, .int .u32 zalg, .int .u16 zacd, .int .u16 zafl, .int .u64 zast, .int .u64 zei1, .int .u64 zei2, .int .u64 zep1, .int .u64 zep2, .int .u64 zeq1, .int .u64 zeq2, .int .u64 zer1, .int .u64 zer2, .int .u64 zes1, .int .u64 zes2, .int .u64 zetg, .int .u32 zelg, .int .u16 zecd, .int .u16 zefl, .int .u64 zest, .bool zd, .bool zc] := by
    refine Blk.kept ?_ hb_5
    (repeat (first | with_reducible assumption | (with_reducible refine Blk.new' ?_; first | with_reducible rfl | (simp; done)) | with_reducible refine Blk.alloc ?_ _ | with_reducible refine Blk.grow ?_ _ | with_reducible refine Blk.drew ?_ | with_reducible refine Blk.drewN ?_ _ | (with_reducible refine Blk.far ?_ (by first | (dsimp only; omega) | (simp; omega)) _) | (with_reducible apply Blk.two) | (with_reducible refine Blk.set' ?_ _ _ ?_) | (with_reducible rfl) | rfl))
  have g_d : Blk w_5 (w_4.heap.size) 24 #[.int .u64 dh, .int .u64 dl] := by
    refine Blk.kept ?_ hb_5
    (repeat (first | with_reducible assumption | (with_reducible refine Blk.new' ?_; first | with_reducible rfl | (simp; done)) | with_reducible refine Blk.alloc ?_ _ | with_reducible refine Blk.grow ?_ _ | with_reducible refine Blk.drew ?_ | with_reducible refine Blk.drewN ?_ _ | (with_reducible refine Blk.far ?_ (by first | (dsimp only; omega) | (simp; omega)) _) | (with_reducible apply Blk.two) | (with_reducible refine Blk.set' ?_ _ _ ?_) | (with_reducible rfl) | rfl))
  clear f_x x_l r_x x_2 x_f2 x_3 x_f3 x_4 x_f4 x_5 x_f5 x_6 x_f6 x_7 x_f7 x_11 x_f11 x_12 x_f12 x_13 x_f13 x_14 x_f14 f_p p_l r_p p_11 p_f11 p_13 p_f13 p_26 p_f26 p_28 p_f28 p_30 p_f30 p_31 p_f31 f_m m_l m_0 m_1 m_f0 m_f1 f_z z_l r_z z_2 z_f2 z_3 z_f3 z_4 z_f4 z_5 z_f5 z_8 z_f8 z_9 z_f9 z_19 z_f19 z_20 z_f20 z_21 z_f21 z_22 z_f22 z_23 z_f23 z_24 z_f24 t_x t_p t_m t_z hB_4 hb_5
  have f_x := g_x
  clear g_x
  have f_p := g_p
  clear g_p
  have f_m := g_m
  clear g_m
  have f_z := g_z
  clear g_z
  have f_d := g_d
  clear g_d
  have r_x := rowAt_blk f_x
  have x_l := f_x.lt
  have x_2 : w_5.cell? ⟨w.heap.size, 2, none⟩ = some (.int .u64 xd1) := (f_x).cell 2
  have x_f2 := (f_x).frozen 2
  have x_3 : w_5.cell? ⟨w.heap.size, 3, none⟩ = some (.int .u64 xd2) := (f_x).cell 3
  have x_f3 := (f_x).frozen 3
  have x_4 : w_5.cell? ⟨w.heap.size, 4, none⟩ = some (.int .u64 xc1) := (f_x).cell 4
  have x_f4 := (f_x).frozen 4
  have x_5 : w_5.cell? ⟨w.heap.size, 5, none⟩ = some (.int .u64 xc2) := (f_x).cell 5
  have x_f5 := (f_x).frozen 5
  have x_6 : w_5.cell? ⟨w.heap.size, 6, none⟩ = some (.int .u64 xm1) := (f_x).cell 6
  have x_f6 := (f_x).frozen 6
  have x_7 : w_5.cell? ⟨w.heap.size, 7, none⟩ = some (.int .u64 xm2) := (f_x).cell 7
  have x_f7 := (f_x).frozen 7
  have x_11 : w_5.cell? ⟨w.heap.size, 11, none⟩ = some (.int .u32 xto) := (f_x).cell 11
  have x_f11 := (f_x).frozen 11
  have x_12 : w_5.cell? ⟨w.heap.size, 12, none⟩ = some (.int .u32 xlg) := (f_x).cell 12
  have x_f12 := (f_x).frozen 12
  have x_13 : w_5.cell? ⟨w.heap.size, 13, none⟩ = some (.int .u16 xcd) := (f_x).cell 13
  have x_f13 := (f_x).frozen 13
  have x_14 : w_5.cell? ⟨w.heap.size, 14, none⟩ = some (.int .u16 xfl) := (f_x).cell 14
  have x_f14 := (f_x).frozen 14
  replace f_x := Lib.hid f_x
  have r_p := rowAt_blk f_p
  have p_l := f_p.lt
  have p_11 : w_5.cell? ⟨w.heap.size + 1, 11, none⟩ = some (.int .u32 alg) := (f_p).cell 11
  have p_f11 := (f_p).frozen 11
  have p_13 : w_5.cell? ⟨w.heap.size + 1, 13, none⟩ = some (.int .u16 afl) := (f_p).cell 13
  have p_f13 := (f_p).frozen 13
  have p_26 : w_5.cell? ⟨w.heap.size + 1, 26, none⟩ = some (.int .u32 elg) := (f_p).cell 26
  have p_f26 := (f_p).frozen 26
  have p_28 : w_5.cell? ⟨w.heap.size + 1, 28, none⟩ = some (.int .u16 efl) := (f_p).cell 28
  have p_f28 := (f_p).frozen 28
  have p_30 : w_5.cell? ⟨w.heap.size + 1, 30, none⟩ = some (.bool true) := (f_p).cell 30
  have p_f30 := (f_p).frozen 30
  have p_31 : w_5.cell? ⟨w.heap.size + 1, 31, none⟩ = some (.bool true) := (f_p).cell 31
  have p_f31 := (f_p).frozen 31
  replace f_p := Lib.hid f_p
  have m_0 : w_5.cell? ⟨w_1.heap.size, 0, none⟩ = some (.int .u64 m1) := (f_m).cell 0
  have m_1 : w_5.cell? ⟨w_1.heap.size, 1, none⟩ = some (.int .u64 m2) := (f_m).cell 1
  have m_f0 := (f_m).frozen 0
  have m_f1 := (f_m).frozen 1
  have m_l := (f_m).lt
  replace f_m := Lib.hid f_m
  have r_z := rowAt_blk f_z
  have z_l := f_z.lt
  have z_2 : w_5.cell? ⟨w_2.heap.size, 2, none⟩ = some (.int .u64 zap1) := (f_z).cell 2
  have z_f2 := (f_z).frozen 2
  have z_3 : w_5.cell? ⟨w_2.heap.size, 3, none⟩ = some (.int .u64 zap2) := (f_z).cell 3
  have z_f3 := (f_z).frozen 3
  have z_4 : w_5.cell? ⟨w_2.heap.size, 4, none⟩ = some (.int .u64 zaq1) := (f_z).cell 4
  have z_f4 := (f_z).frozen 4
  have z_5 : w_5.cell? ⟨w_2.heap.size, 5, none⟩ = some (.int .u64 zaq2) := (f_z).cell 5
  have z_f5 := (f_z).frozen 5
  have z_8 : w_5.cell? ⟨w_2.heap.size, 8, none⟩ = some (.int .u64 zas1) := (f_z).cell 8
  have z_f8 := (f_z).frozen 8
  have z_9 : w_5.cell? ⟨w_2.heap.size, 9, none⟩ = some (.int .u64 zas2) := (f_z).cell 9
  have z_f9 := (f_z).frozen 9
  have z_19 : w_5.cell? ⟨w_2.heap.size, 19, none⟩ = some (.int .u64 zeq1) := (f_z).cell 19
  have z_f19 := (f_z).frozen 19
  have z_20 : w_5.cell? ⟨w_2.heap.size, 20, none⟩ = some (.int .u64 zeq2) := (f_z).cell 20
  have z_f20 := (f_z).frozen 20
  have z_21 : w_5.cell? ⟨w_2.heap.size, 21, none⟩ = some (.int .u64 zer1) := (f_z).cell 21
  have z_f21 := (f_z).frozen 21
  have z_22 : w_5.cell? ⟨w_2.heap.size, 22, none⟩ = some (.int .u64 zer2) := (f_z).cell 22
  have z_f22 := (f_z).frozen 22
  have z_23 : w_5.cell? ⟨w_2.heap.size, 23, none⟩ = some (.int .u64 zes1) := (f_z).cell 23
  have z_f23 := (f_z).frozen 23
  have z_24 : w_5.cell? ⟨w_2.heap.size, 24, none⟩ = some (.int .u64 zes2) := (f_z).cell 24
  have z_f24 := (f_z).frozen 24
  replace f_z := Lib.hid f_z
  have d_0 : w_5.cell? ⟨w_4.heap.size, 0, none⟩ = some (.int .u64 dh) := (f_d).cell 0
  have d_1 : w_5.cell? ⟨w_4.heap.size, 1, none⟩ = some (.int .u64 dl) := (f_d).cell 1
  have d_f0 := (f_d).frozen 0
  have d_f1 := (f_d).frozen 1
  have d_l := (f_d).lt
  replace f_d := Lib.hid f_d
  replace hB_5 := Lib.hid hB_5
  go_wp2_with fail
  refine (HX.out _).mono ?_
  rintro e w_6 ⟨rfl, hb_6⟩
  have z_6 := hb_6.size
  try simp at z_6
  have t_ := hB_5.out
  have hB_6 := bel_eld (w := w) (X := _) (by first | ((repeat (first | with_reducible exact Below.refl _ _ | with_reducible assumption | (with_reducible refine bel_set ?_ (by first | exact Nat.le_refl _ | (simp; done) | (simp; omega) | omega) _) | with_reducible refine bel_grow ?_ _ | with_reducible refine Below.drew ?_ | with_reducible refine below_drewN ?_ _ | with_reducible refine bel_alloc ?_ _ | with_reducible refine bel_trans ?_ (by assumption))); done) | (repeat (first | exact Below.refl _ _ | assumption | refine below_drewN ?_ _ | refine bel_grow ?_ _ | refine Below.drew ?_ | refine bel_alloc ?_ _ | refine bel_set ?_ (by first | exact Nat.le_refl _ | (simp; done) | (simp; omega) | omega) _ | refine bel_trans ?_ (by assumption)))) hb_6
  clear t_
  have t_x := f_x.out
  have t_p := f_p.out
  have t_z := f_z.out
  have t_d := f_d.out
  have g_x : Blk w_6 (w.heap.size) 28 #[.int .u64 xi1, .int .u64 xi2, .int .u64 xd1, .int .u64 xd2, .int .u64 xc1, .int .u64 xc2, .int .u64 xm1, .int .u64 xm2, .int .u64 xw1, .int .u64 xw2, .int .u64 xtg, .int .u32 xto, .int .u32 xlg, .int .u16 xcd, .int .u16 xfl, .int .u64 xst] := by
    refine Blk.kept ?_ hb_6
    (repeat (first | with_reducible assumption | (with_reducible refine Blk.new' ?_; first | with_reducible rfl | (simp; done)) | with_reducible refine Blk.alloc ?_ _ | with_reducible refine Blk.grow ?_ _ | with_reducible refine Blk.drew ?_ | with_reducible refine Blk.drewN ?_ _ | (with_reducible refine Blk.far ?_ (by first | (dsimp only; omega) | (simp; omega)) _) | (with_reducible apply Blk.two) | (with_reducible refine Blk.set' ?_ _ _ ?_) | (with_reducible rfl) | rfl))
  have g_p : Blk w_6 (w.heap.size + 1) 32 #[.int .u64 ai1, .int .u64 ai2, .int .u64 ap1, .int .u64 ap2, .int .u64 aq1, .int .u64 aq2, .int .u64 ar1, .int .u64 ar2, .int .u64 as1, .int .u64 as2, .int .u64 atg, .int .u32 alg, .int .u16 acd, .int .u16 afl, .int .u64 ast, .int .u64 ei1, .int .u64 ei2, .int .u64 ep1, .int .u64 ep2, .int .u64 eq1, .int .u64 eq2, .int .u64 er1, .int .u64 er2, .int .u64 es1, .int .u64 es2, .int .u64 etg, .int .u32 elg, .int .u16 ecd, .int .u16 efl, .int .u64 est, .bool true, .bool true] := by
    refine Blk.kept ?_ hb_6
    (repeat (first | with_reducible assumption | (with_reducible refine Blk.new' ?_; first | with_reducible rfl | (simp; done)) | with_reducible refine Blk.alloc ?_ _ | with_reducible refine Blk.grow ?_ _ | with_reducible refine Blk.drew ?_ | with_reducible refine Blk.drewN ?_ _ | (with_reducible refine Blk.far ?_ (by first | (dsimp only; omega) | (simp; omega)) _) | (with_reducible apply Blk.two) | (with_reducible refine Blk.set' ?_ _ _ ?_) | (with_reducible rfl) | rfl))
  have g_z : Blk w_6 (w_2.heap.size) 32 #[.int .u64 zai1, .int .u64 zai2, .int .u64 zap1, .int .u64 zap2, .int .u64 zaq1, .int .u64 zaq2, .int .u64 zar1, .int .u64 zar2, .int .u64 zas1, .int .u64 zas2, .int .u64 zatg, .int .u32 zalg, .int .u16 zacd, .int .u16 zafl, .int .u64 zast, .int .u64 zei1, .int .u64 zei2, .int .u64 zep1, .int .u64 zep2, .int .u64 zeq1, .int .u64 zeq2, .int .u64 zer1, .int .u64 zer2, .int .u64 zes1, .int .u64 zes2, .int .u64 zetg, .int .u32 zelg, .int .u16 zecd, .int .u16 zefl, .int .u64 zest, .bool zd, .bool zc] := by
    refine Blk.kept ?_ hb_6
    (repeat (first | with_reducible assumption | (with_reducible refine Blk.new' ?_; first | with_reducible rfl | (simp; done)) | with_reducible refine Blk.alloc ?_ _ | with_reducible refine Blk.grow ?_ _ | with_reducible refine Blk.drew ?_ | with_reducible refine Blk.drewN ?_ _ | (with_reducible refine Blk.far ?_ (by first | (dsimp only; omega) | (simp; omega)) _) | (with_reducible apply Blk.two) | (with_reducible refine Blk.set' ?_ _ _ ?_) | (with_reducible rfl) | rfl))
  have g_d : Blk w_6 (w_4.heap.size) 24 #[.int .u64 dh, .int .u64 dl] := by
    refine Blk.kept ?_ hb_6
    (repeat (first | with_reducible assumption | (with_reducible refine Blk.new' ?_; first | with_reducible rfl | (simp; done)) | with_reducible refine Blk.alloc ?_ _ | with_reducible refine Blk.grow ?_ _ | with_reducible refine Blk.drew ?_ | with_reducible refine Blk.drewN ?_ _ | (with_reducible refine Blk.far ?_ (by first | (dsimp only; omega) | (simp; omega)) _) | (with_reducible apply Blk.two) | (with_reducible refine Blk.set' ?_ _ _ ?_) | (with_reducible rfl) | rfl))
  have g_c : Blk w_6 (w_5.heap.size) 24 #[.int .u64 ch, .int .u64 cl] := by
    refine Blk.kept ?_ hb_6
    (repeat (first | with_reducible assumption | (with_reducible refine Blk.new' ?_; first | with_reducible rfl | (simp; done)) | with_reducible refine Blk.alloc ?_ _ | with_reducible refine Blk.grow ?_ _ | with_reducible refine Blk.drew ?_ | with_reducible refine Blk.drewN ?_ _ | (with_reducible refine Blk.far ?_ (by first | (dsimp only; omega) | (simp; omega)) _) | (with_reducible apply Blk.two) | (with_reducible refine Blk.set' ?_ _ _ ?_) | (with_reducible rfl) | rfl))
  clear f_x x_l r_x x_2 x_f2 x_3 x_f3 x_4 x_f4 x_5 x_f5 x_6 x_f6 x_7 x_f7 x_11 x_f11 x_12 x_f12 x_13 x_f13 x_14 x_f14 f_p p_l r_p p_11 p_f11 p_13 p_f13 p_26 p_f26 p_28 p_f28 p_30 p_f30 p_31 p_f31 f_m m_l m_0 m_1 m_f0 m_f1 f_z z_l r_z z_2 z_f2 z_3 z_f3 z_4 z_f4 z_5 z_f5 z_8 z_f8 z_9 z_f9 z_19 z_f19 z_20 z_f20 z_21 z_f21 z_22 z_f22 z_23 z_f23 z_24 z_f24 f_d d_l d_0 d_1 d_f0 d_f1 t_x t_p t_z t_d hB_5 hb_6
  have f_x := g_x
  clear g_x
  have f_p := g_p
  clear g_p
  have f_z := g_z
  clear g_z
  have f_d := g_d
  clear g_d
  have f_c := g_c
  clear g_c
  have r_x := rowAt_blk f_x
  have x_l := f_x.lt
  have x_2 : w_6.cell? ⟨w.heap.size, 2, none⟩ = some (.int .u64 xd1) := (f_x).cell 2
  have x_f2 := (f_x).frozen 2
  have x_3 : w_6.cell? ⟨w.heap.size, 3, none⟩ = some (.int .u64 xd2) := (f_x).cell 3
  have x_f3 := (f_x).frozen 3
  have x_4 : w_6.cell? ⟨w.heap.size, 4, none⟩ = some (.int .u64 xc1) := (f_x).cell 4
  have x_f4 := (f_x).frozen 4
  have x_5 : w_6.cell? ⟨w.heap.size, 5, none⟩ = some (.int .u64 xc2) := (f_x).cell 5
  have x_f5 := (f_x).frozen 5
  have x_6 : w_6.cell? ⟨w.heap.size, 6, none⟩ = some (.int .u64 xm1) := (f_x).cell 6
  have x_f6 := (f_x).frozen 6
  have x_7 : w_6.cell? ⟨w.heap.size, 7, none⟩ = some (.int .u64 xm2) := (f_x).cell 7
  have x_f7 := (f_x).frozen 7
  have x_11 : w_6.cell? ⟨w.heap.size, 11, none⟩ = some (.int .u32 xto) := (f_x).cell 11
  have x_f11 := (f_x).frozen 11
  have x_12 : w_6.cell? ⟨w.heap.size, 12, none⟩ = some (.int .u32 xlg) := (f_x).cell 12
  have x_f12 := (f_x).frozen 12
  have x_13 : w_6.cell? ⟨w.heap.size, 13, none⟩ = some (.int .u16 xcd) := (f_x).cell 13
  have x_f13 := (f_x).frozen 13
  have x_14 : w_6.cell? ⟨w.heap.size, 14, none⟩ = some (.int .u16 xfl) := (f_x).cell 14
  have x_f14 := (f_x).frozen 14
  replace f_x := Lib.hid f_x
  have r_p := rowAt_blk f_p
  have p_l := f_p.lt
  have p_11 : w_6.cell? ⟨w.heap.size + 1, 11, none⟩ = some (.int .u32 alg) := (f_p).cell 11
  have p_f11 := (f_p).frozen 11
  have p_13 : w_6.cell? ⟨w.heap.size + 1, 13, none⟩ = some (.int .u16 afl) := (f_p).cell 13
  have p_f13 := (f_p).frozen 13
  have p_26 : w_6.cell? ⟨w.heap.size + 1, 26, none⟩ = some (.int .u32 elg) := (f_p).cell 26
  have p_f26 := (f_p).frozen 26
  have p_28 : w_6.cell? ⟨w.heap.size + 1, 28, none⟩ = some (.int .u16 efl) := (f_p).cell 28
  have p_f28 := (f_p).frozen 28
  have p_30 : w_6.cell? ⟨w.heap.size + 1, 30, none⟩ = some (.bool true) := (f_p).cell 30
  have p_f30 := (f_p).frozen 30
  have p_31 : w_6.cell? ⟨w.heap.size + 1, 31, none⟩ = some (.bool true) := (f_p).cell 31
  have p_f31 := (f_p).frozen 31
  replace f_p := Lib.hid f_p
  have r_z := rowAt_blk f_z
  have z_l := f_z.lt
  have z_2 : w_6.cell? ⟨w_2.heap.size, 2, none⟩ = some (.int .u64 zap1) := (f_z).cell 2
  have z_f2 := (f_z).frozen 2
  have z_3 : w_6.cell? ⟨w_2.heap.size, 3, none⟩ = some (.int .u64 zap2) := (f_z).cell 3
  have z_f3 := (f_z).frozen 3
  have z_4 : w_6.cell? ⟨w_2.heap.size, 4, none⟩ = some (.int .u64 zaq1) := (f_z).cell 4
  have z_f4 := (f_z).frozen 4
  have z_5 : w_6.cell? ⟨w_2.heap.size, 5, none⟩ = some (.int .u64 zaq2) := (f_z).cell 5
  have z_f5 := (f_z).frozen 5
  have z_8 : w_6.cell? ⟨w_2.heap.size, 8, none⟩ = some (.int .u64 zas1) := (f_z).cell 8
  have z_f8 := (f_z).frozen 8
  have z_9 : w_6.cell? ⟨w_2.heap.size, 9, none⟩ = some (.int .u64 zas2) := (f_z).cell 9
  have z_f9 := (f_z).frozen 9
  have z_19 : w_6.cell? ⟨w_2.heap.size, 19, none⟩ = some (.int .u64 zeq1) := (f_z).cell 19
  have z_f19 := (f_z).frozen 19
  have z_20 : w_6.cell? ⟨w_2.heap.size, 20, none⟩ = some (.int .u64 zeq2) := (f_z).cell 20
  have z_f20 := (f_z).frozen 20
  have z_21 : w_6.cell? ⟨w_2.heap.size, 21, none⟩ = some (.int .u64 zer1) := (f_z).cell 21
  have z_f21 := (f_z).frozen 21
  have z_22 : w_6.cell? ⟨w_2.heap.size, 22, none⟩ = some (.int .u64 zer2) := (f_z).cell 22
  have z_f22 := (f_z).frozen 22
  have z_23 : w_6.cell? ⟨w_2.heap.size, 23, none⟩ = some (.int .u64 zes1) := (f_z).cell 23
  have z_f23 := (f_z).frozen 23
  have z_24 : w_6.cell? ⟨w_2.heap.size, 24, none⟩ = some (.int .u64 zes2) := (f_z).cell 24
  have z_f24 := (f_z).frozen 24
  replace f_z := Lib.hid f_z
  have d_0 : w_6.cell? ⟨w_4.heap.size, 0, none⟩ = some (.int .u64 dh) := (f_d).cell 0
  have d_1 : w_6.cell? ⟨w_4.heap.size, 1, none⟩ = some (.int .u64 dl) := (f_d).cell 1
  have d_f0 := (f_d).frozen 0
  have d_f1 := (f_d).frozen 1
  have d_l := (f_d).lt
  replace f_d := Lib.hid f_d
  have c_0 : w_6.cell? ⟨w_5.heap.size, 0, none⟩ = some (.int .u64 ch) := (f_c).cell 0
  have c_1 : w_6.cell? ⟨w_5.heap.size, 1, none⟩ = some (.int .u64 cl) := (f_c).cell 1
  have c_f0 := (f_c).frozen 0
  have c_f1 := (f_c).frozen 1
  have c_l := (f_c).lt
  replace f_c := Lib.hid f_c
  replace hB_6 := Lib.hid hB_6

  cases b2
  case true =>
    cases b4
    case true =>
      cases t0
      case true =>
        go_wp2_with fail
        go_ret
        exact ⟨by first | rfl | simp, by have t_B := hB_6.out; (repeat (first | with_reducible exact Below.refl _ _ | with_reducible assumption | (with_reducible refine bel_set ?_ (by first | exact Nat.le_refl _ | (simp; done) | (simp; omega) | omega) _) | with_reducible refine bel_grow ?_ _ | with_reducible refine Below.drew ?_ | with_reducible refine bel_alloc ?_ _ | with_reducible refine bel_eld ?_ (by assumption)))⟩
      case false =>
        have e5 := F5.out rfl
        have e6 := e5.1
        have e7 := e5.2
        clear e5
        go_wp2_with fail
        go_ret
        exact ⟨by first | rfl | simp, by have t_B := hB_6.out; (repeat (first | with_reducible exact Below.refl _ _ | with_reducible assumption | (with_reducible refine bel_set ?_ (by first | exact Nat.le_refl _ | (simp; done) | (simp; omega) | omega) _) | with_reducible refine bel_grow ?_ _ | with_reducible refine Below.drew ?_ | with_reducible refine bel_alloc ?_ _ | with_reducible refine bel_eld ?_ (by assumption)))⟩
    case false =>
      have g2' := g2.out rfl
      go_wp2_with fail
      refine (HC2.out _).mono ?_
      rintro e w_7 ⟨rfl, hb_7⟩
      have z_7 := hb_7.size
      try simp at z_7
      have t_ := hB_6.out
      have hB_7 := bel_eld (w := w) (X := _) (by first | ((repeat (first | with_reducible exact Below.refl _ _ | with_reducible assumption | (with_reducible refine bel_set ?_ (by first | exact Nat.le_refl _ | (simp; done) | (simp; omega) | omega) _) | with_reducible refine bel_grow ?_ _ | with_reducible refine Below.drew ?_ | with_reducible refine below_drewN ?_ _ | with_reducible refine bel_alloc ?_ _ | with_reducible refine bel_trans ?_ (by assumption))); done) | (repeat (first | exact Below.refl _ _ | assumption | refine below_drewN ?_ _ | refine bel_grow ?_ _ | refine Below.drew ?_ | refine bel_alloc ?_ _ | refine bel_set ?_ (by first | exact Nat.le_refl _ | (simp; done) | (simp; omega) | omega) _ | refine bel_trans ?_ (by assumption)))) hb_7
      clear t_
      have t_x := f_x.out
      have t_p := f_p.out
      have t_z := f_z.out
      have t_d := f_d.out
      have t_c := f_c.out
      have g_x : Blk w_7 (w.heap.size) 28 #[.int .u64 xi1, .int .u64 xi2, .int .u64 xd1, .int .u64 xd2, .int .u64 xc1, .int .u64 xc2, .int .u64 xm1, .int .u64 xm2, .int .u64 xw1, .int .u64 xw2, .int .u64 xtg, .int .u32 xto, .int .u32 xlg, .int .u16 xcd, .int .u16 xfl, .int .u64 xst] := by
        refine Blk.kept ?_ hb_7
        (repeat (first | with_reducible assumption | (with_reducible refine Blk.new' ?_; first | with_reducible rfl | (simp; done)) | with_reducible refine Blk.alloc ?_ _ | with_reducible refine Blk.grow ?_ _ | with_reducible refine Blk.drew ?_ | with_reducible refine Blk.drewN ?_ _ | (with_reducible refine Blk.far ?_ (by first | (dsimp only; omega) | (simp; omega)) _) | (with_reducible apply Blk.two) | (with_reducible refine Blk.set' ?_ _ _ ?_) | (with_reducible rfl) | rfl))
      have g_p : Blk w_7 (w.heap.size + 1) 32 #[.int .u64 ai1, .int .u64 ai2, .int .u64 ap1, .int .u64 ap2, .int .u64 aq1, .int .u64 aq2, .int .u64 ar1, .int .u64 ar2, .int .u64 as1, .int .u64 as2, .int .u64 atg, .int .u32 alg, .int .u16 acd, .int .u16 afl, .int .u64 ast, .int .u64 ei1, .int .u64 ei2, .int .u64 ep1, .int .u64 ep2, .int .u64 eq1, .int .u64 eq2, .int .u64 er1, .int .u64 er2, .int .u64 es1, .int .u64 es2, .int .u64 etg, .int .u32 elg, .int .u16 ecd, .int .u16 efl, .int .u64 est, .bool true, .bool true] := by
        refine Blk.kept ?_ hb_7
        (repeat (first | with_reducible assumption | (with_reducible refine Blk.new' ?_; first | with_reducible rfl | (simp; done)) | with_reducible refine Blk.alloc ?_ _ | with_reducible refine Blk.grow ?_ _ | with_reducible refine Blk.drew ?_ | with_reducible refine Blk.drewN ?_ _ | (with_reducible refine Blk.far ?_ (by first | (dsimp only; omega) | (simp; omega)) _) | (with_reducible apply Blk.two) | (with_reducible refine Blk.set' ?_ _ _ ?_) | (with_reducible rfl) | rfl))
      have g_z : Blk w_7 (w_2.heap.size) 32 #[.int .u64 zai1, .int .u64 zai2, .int .u64 zap1, .int .u64 zap2, .int .u64 zaq1, .int .u64 zaq2, .int .u64 zar1, .int .u64 zar2, .int .u64 zas1, .int .u64 zas2, .int .u64 zatg, .int .u32 zalg, .int .u16 zacd, .int .u16 zafl, .int .u64 zast, .int .u64 zei1, .int .u64 zei2, .int .u64 zep1, .int .u64 zep2, .int .u64 zeq1, .int .u64 zeq2, .int .u64 zer1, .int .u64 zer2, .int .u64 zes1, .int .u64 zes2, .int .u64 zetg, .int .u32 zelg, .int .u16 zecd, .int .u16 zefl, .int .u64 zest, .bool zd, .bool zc] := by
        refine Blk.kept ?_ hb_7
        (repeat (first | with_reducible assumption | (with_reducible refine Blk.new' ?_; first | with_reducible rfl | (simp; done)) | with_reducible refine Blk.alloc ?_ _ | with_reducible refine Blk.grow ?_ _ | with_reducible refine Blk.drew ?_ | with_reducible refine Blk.drewN ?_ _ | (with_reducible refine Blk.far ?_ (by first | (dsimp only; omega) | (simp; omega)) _) | (with_reducible apply Blk.two) | (with_reducible refine Blk.set' ?_ _ _ ?_) | (with_reducible rfl) | rfl))
      have g_d : Blk w_7 (w_4.heap.size) 24 #[.int .u64 dh, .int .u64 dl] := by
        refine Blk.kept ?_ hb_7
        (repeat (first | with_reducible assumption | (with_reducible refine Blk.new' ?_; first | with_reducible rfl | (simp; done)) | with_reducible refine Blk.alloc ?_ _ | with_reducible refine Blk.grow ?_ _ | with_reducible refine Blk.drew ?_ | with_reducible refine Blk.drewN ?_ _ | (with_reducible refine Blk.far ?_ (by first | (dsimp only; omega) | (simp; omega)) _) | (with_reducible apply Blk.two) | (with_reducible refine Blk.set' ?_ _ _ ?_) | (with_reducible rfl) | rfl))
      have g_c : Blk w_7 (w_5.heap.size) 24 #[.int .u64 ch, .int .u64 cl] := by
        refine Blk.kept ?_ hb_7
        (repeat (first | with_reducible assumption | (with_reducible refine Blk.new' ?_; first | with_reducible rfl | (simp; done)) | with_reducible refine Blk.alloc ?_ _ | with_reducible refine Blk.grow ?_ _ | with_reducible refine Blk.drew ?_ | with_reducible refine Blk.drewN ?_ _ | (with_reducible refine Blk.far ?_ (by first | (dsimp only; omega) | (simp; omega)) _) | (with_reducible apply Blk.two) | (with_reducible refine Blk.set' ?_ _ _ ?_) | (with_reducible rfl) | rfl))
      clear f_x x_l r_x x_2 x_f2 x_3 x_f3 x_4 x_f4 x_5 x_f5 x_6 x_f6 x_7 x_f7 x_11 x_f11 x_12 x_f12 x_13 x_f13 x_14 x_f14 f_p p_l r_p p_11 p_f11 p_13 p_f13 p_26 p_f26 p_28 p_f28 p_30 p_f30 p_31 p_f31 f_z z_l r_z z_2 z_f2 z_3 z_f3 z_4 z_f4 z_5 z_f5 z_8 z_f8 z_9 z_f9 z_19 z_f19 z_20 z_f20 z_21 z_f21 z_22 z_f22 z_23 z_f23 z_24 z_f24 f_d d_l d_0 d_1 d_f0 d_f1 f_c c_l c_0 c_1 c_f0 c_f1 t_x t_p t_z t_d t_c hB_6 hb_7
      have f_x := g_x
      clear g_x
      have f_p := g_p
      clear g_p
      have f_z := g_z
      clear g_z
      have f_d := g_d
      clear g_d
      have f_c := g_c
      clear g_c
      have r_x := rowAt_blk f_x
      have x_l := f_x.lt
      have x_2 : w_7.cell? ⟨w.heap.size, 2, none⟩ = some (.int .u64 xd1) := (f_x).cell 2
      have x_f2 := (f_x).frozen 2
      have x_3 : w_7.cell? ⟨w.heap.size, 3, none⟩ = some (.int .u64 xd2) := (f_x).cell 3
      have x_f3 := (f_x).frozen 3
      have x_4 : w_7.cell? ⟨w.heap.size, 4, none⟩ = some (.int .u64 xc1) := (f_x).cell 4
      have x_f4 := (f_x).frozen 4
      have x_5 : w_7.cell? ⟨w.heap.size, 5, none⟩ = some (.int .u64 xc2) := (f_x).cell 5
      have x_f5 := (f_x).frozen 5
      have x_6 : w_7.cell? ⟨w.heap.size, 6, none⟩ = some (.int .u64 xm1) := (f_x).cell 6
      have x_f6 := (f_x).frozen 6
      have x_7 : w_7.cell? ⟨w.heap.size, 7, none⟩ = some (.int .u64 xm2) := (f_x).cell 7
      have x_f7 := (f_x).frozen 7
      have x_11 : w_7.cell? ⟨w.heap.size, 11, none⟩ = some (.int .u32 xto) := (f_x).cell 11
      have x_f11 := (f_x).frozen 11
      have x_12 : w_7.cell? ⟨w.heap.size, 12, none⟩ = some (.int .u32 xlg) := (f_x).cell 12
      have x_f12 := (f_x).frozen 12
      have x_13 : w_7.cell? ⟨w.heap.size, 13, none⟩ = some (.int .u16 xcd) := (f_x).cell 13
      have x_f13 := (f_x).frozen 13
      have x_14 : w_7.cell? ⟨w.heap.size, 14, none⟩ = some (.int .u16 xfl) := (f_x).cell 14
      have x_f14 := (f_x).frozen 14
      replace f_x := Lib.hid f_x
      have r_p := rowAt_blk f_p
      have p_l := f_p.lt
      have p_11 : w_7.cell? ⟨w.heap.size + 1, 11, none⟩ = some (.int .u32 alg) := (f_p).cell 11
      have p_f11 := (f_p).frozen 11
      have p_13 : w_7.cell? ⟨w.heap.size + 1, 13, none⟩ = some (.int .u16 afl) := (f_p).cell 13
      have p_f13 := (f_p).frozen 13
      have p_26 : w_7.cell? ⟨w.heap.size + 1, 26, none⟩ = some (.int .u32 elg) := (f_p).cell 26
      have p_f26 := (f_p).frozen 26
      have p_28 : w_7.cell? ⟨w.heap.size + 1, 28, none⟩ = some (.int .u16 efl) := (f_p).cell 28
      have p_f28 := (f_p).frozen 28
      have p_30 : w_7.cell? ⟨w.heap.size + 1, 30, none⟩ = some (.bool true) := (f_p).cell 30
      have p_f30 := (f_p).frozen 30
      have p_31 : w_7.cell? ⟨w.heap.size + 1, 31, none⟩ = some (.bool true) := (f_p).cell 31
      have p_f31 := (f_p).frozen 31
      replace f_p := Lib.hid f_p
      have r_z := rowAt_blk f_z
      have z_l := f_z.lt
      have z_2 : w_7.cell? ⟨w_2.heap.size, 2, none⟩ = some (.int .u64 zap1) := (f_z).cell 2
      have z_f2 := (f_z).frozen 2
      have z_3 : w_7.cell? ⟨w_2.heap.size, 3, none⟩ = some (.int .u64 zap2) := (f_z).cell 3
      have z_f3 := (f_z).frozen 3
      have z_4 : w_7.cell? ⟨w_2.heap.size, 4, none⟩ = some (.int .u64 zaq1) := (f_z).cell 4
      have z_f4 := (f_z).frozen 4
      have z_5 : w_7.cell? ⟨w_2.heap.size, 5, none⟩ = some (.int .u64 zaq2) := (f_z).cell 5
      have z_f5 := (f_z).frozen 5
      have z_8 : w_7.cell? ⟨w_2.heap.size, 8, none⟩ = some (.int .u64 zas1) := (f_z).cell 8
      have z_f8 := (f_z).frozen 8
      have z_9 : w_7.cell? ⟨w_2.heap.size, 9, none⟩ = some (.int .u64 zas2) := (f_z).cell 9
      have z_f9 := (f_z).frozen 9
      have z_19 : w_7.cell? ⟨w_2.heap.size, 19, none⟩ = some (.int .u64 zeq1) := (f_z).cell 19
      have z_f19 := (f_z).frozen 19
      have z_20 : w_7.cell? ⟨w_2.heap.size, 20, none⟩ = some (.int .u64 zeq2) := (f_z).cell 20
      have z_f20 := (f_z).frozen 20
      have z_21 : w_7.cell? ⟨w_2.heap.size, 21, none⟩ = some (.int .u64 zer1) := (f_z).cell 21
      have z_f21 := (f_z).frozen 21
      have z_22 : w_7.cell? ⟨w_2.heap.size, 22, none⟩ = some (.int .u64 zer2) := (f_z).cell 22
      have z_f22 := (f_z).frozen 22
      have z_23 : w_7.cell? ⟨w_2.heap.size, 23, none⟩ = some (.int .u64 zes1) := (f_z).cell 23
      have z_f23 := (f_z).frozen 23
      have z_24 : w_7.cell? ⟨w_2.heap.size, 24, none⟩ = some (.int .u64 zes2) := (f_z).cell 24
      have z_f24 := (f_z).frozen 24
      replace f_z := Lib.hid f_z
      have d_0 : w_7.cell? ⟨w_4.heap.size, 0, none⟩ = some (.int .u64 dh) := (f_d).cell 0
      have d_1 : w_7.cell? ⟨w_4.heap.size, 1, none⟩ = some (.int .u64 dl) := (f_d).cell 1
      have d_f0 := (f_d).frozen 0
      have d_f1 := (f_d).frozen 1
      have d_l := (f_d).lt
      replace f_d := Lib.hid f_d
      have c_0 : w_7.cell? ⟨w_5.heap.size, 0, none⟩ = some (.int .u64 ch) := (f_c).cell 0
      have c_1 : w_7.cell? ⟨w_5.heap.size, 1, none⟩ = some (.int .u64 cl) := (f_c).cell 1
      have c_f0 := (f_c).frozen 0
      have c_f1 := (f_c).frozen 1
      have c_l := (f_c).lt
      replace f_c := Lib.hid f_c
      replace hB_7 := Lib.hid hB_7
      cases t0
      case true =>
        go_wp2_with fail
        go_ret
        exact ⟨by first | rfl | simp, by have t_B := hB_7.out; (repeat (first | with_reducible exact Below.refl _ _ | with_reducible assumption | (with_reducible refine bel_set ?_ (by first | exact Nat.le_refl _ | (simp; done) | (simp; omega) | omega) _) | with_reducible refine bel_grow ?_ _ | with_reducible refine Below.drew ?_ | with_reducible refine bel_alloc ?_ _ | with_reducible refine bel_eld ?_ (by assumption)))⟩
      case false =>
        have e5 := F5.out rfl
        have e6 := e5.1
        have e7 := e5.2
        clear e5
        go_wp2_with fail
        go_ret
        exact ⟨by first | rfl | simp, by have t_B := hB_7.out; (repeat (first | with_reducible exact Below.refl _ _ | with_reducible assumption | (with_reducible refine bel_set ?_ (by first | exact Nat.le_refl _ | (simp; done) | (simp; omega) | omega) _) | with_reducible refine bel_grow ?_ _ | with_reducible refine Below.drew ?_ | with_reducible refine bel_alloc ?_ _ | with_reducible refine bel_eld ?_ (by assumption)))⟩
  case false =>

    have g1' := g1.out rfl
    go_wp2_with fail
    refine (HC1.out _).mono ?_
    rintro e w_7 ⟨rfl, hb_7⟩
    have z_7 := hb_7.size
    try simp at z_7
    have t_ := hB_6.out
    have hB_7 := bel_eld (w := w) (X := _) (by first | ((repeat (first | with_reducible exact Below.refl _ _ | with_reducible assumption | (with_reducible refine bel_set ?_ (by first | exact Nat.le_refl _ | (simp; done) | (simp; omega) | omega) _) | with_reducible refine bel_grow ?_ _ | with_reducible refine Below.drew ?_ | with_reducible refine below_drewN ?_ _ | with_reducible refine bel_alloc ?_ _ | with_reducible refine bel_trans ?_ (by assumption))); done) | (repeat (first | exact Below.refl _ _ | assumption | refine below_drewN ?_ _ | refine bel_grow ?_ _ | refine Below.drew ?_ | refine bel_alloc ?_ _ | refine bel_set ?_ (by first | exact Nat.le_refl _ | (simp; done) | (simp; omega) | omega) _ | refine bel_trans ?_ (by assumption)))) hb_7
    clear t_
    have t_x := f_x.out
    have t_p := f_p.out
    have t_z := f_z.out
    have t_d := f_d.out
    have t_c := f_c.out
    have g_x : Blk w_7 (w.heap.size) 28 #[.int .u64 xi1, .int .u64 xi2, .int .u64 xd1, .int .u64 xd2, .int .u64 xc1, .int .u64 xc2, .int .u64 xm1, .int .u64 xm2, .int .u64 xw1, .int .u64 xw2, .int .u64 xtg, .int .u32 xto, .int .u32 xlg, .int .u16 xcd, .int .u16 xfl, .int .u64 xst] := by
      refine Blk.kept ?_ hb_7
      (repeat (first | with_reducible assumption | (with_reducible refine Blk.new' ?_; first | with_reducible rfl | (simp; done)) | with_reducible refine Blk.alloc ?_ _ | with_reducible refine Blk.grow ?_ _ | with_reducible refine Blk.drew ?_ | with_reducible refine Blk.drewN ?_ _ | (with_reducible refine Blk.far ?_ (by first | (dsimp only; omega) | (simp; omega)) _) | (with_reducible apply Blk.two) | (with_reducible refine Blk.set' ?_ _ _ ?_) | (with_reducible rfl) | rfl))
    have g_p : Blk w_7 (w.heap.size + 1) 32 #[.int .u64 ai1, .int .u64 ai2, .int .u64 ap1, .int .u64 ap2, .int .u64 aq1, .int .u64 aq2, .int .u64 ar1, .int .u64 ar2, .int .u64 as1, .int .u64 as2, .int .u64 atg, .int .u32 alg, .int .u16 acd, .int .u16 afl, .int .u64 ast, .int .u64 ei1, .int .u64 ei2, .int .u64 ep1, .int .u64 ep2, .int .u64 eq1, .int .u64 eq2, .int .u64 er1, .int .u64 er2, .int .u64 es1, .int .u64 es2, .int .u64 etg, .int .u32 elg, .int .u16 ecd, .int .u16 efl, .int .u64 est, .bool true, .bool true] := by
      refine Blk.kept ?_ hb_7
      (repeat (first | with_reducible assumption | (with_reducible refine Blk.new' ?_; first | with_reducible rfl | (simp; done)) | with_reducible refine Blk.alloc ?_ _ | with_reducible refine Blk.grow ?_ _ | with_reducible refine Blk.drew ?_ | with_reducible refine Blk.drewN ?_ _ | (with_reducible refine Blk.far ?_ (by first | (dsimp only; omega) | (simp; omega)) _) | (with_reducible apply Blk.two) | (with_reducible refine Blk.set' ?_ _ _ ?_) | (with_reducible rfl) | rfl))
    have g_z : Blk w_7 (w_2.heap.size) 32 #[.int .u64 zai1, .int .u64 zai2, .int .u64 zap1, .int .u64 zap2, .int .u64 zaq1, .int .u64 zaq2, .int .u64 zar1, .int .u64 zar2, .int .u64 zas1, .int .u64 zas2, .int .u64 zatg, .int .u32 zalg, .int .u16 zacd, .int .u16 zafl, .int .u64 zast, .int .u64 zei1, .int .u64 zei2, .int .u64 zep1, .int .u64 zep2, .int .u64 zeq1, .int .u64 zeq2, .int .u64 zer1, .int .u64 zer2, .int .u64 zes1, .int .u64 zes2, .int .u64 zetg, .int .u32 zelg, .int .u16 zecd, .int .u16 zefl, .int .u64 zest, .bool zd, .bool zc] := by
      refine Blk.kept ?_ hb_7
      (repeat (first | with_reducible assumption | (with_reducible refine Blk.new' ?_; first | with_reducible rfl | (simp; done)) | with_reducible refine Blk.alloc ?_ _ | with_reducible refine Blk.grow ?_ _ | with_reducible refine Blk.drew ?_ | with_reducible refine Blk.drewN ?_ _ | (with_reducible refine Blk.far ?_ (by first | (dsimp only; omega) | (simp; omega)) _) | (with_reducible apply Blk.two) | (with_reducible refine Blk.set' ?_ _ _ ?_) | (with_reducible rfl) | rfl))
    have g_d : Blk w_7 (w_4.heap.size) 24 #[.int .u64 dh, .int .u64 dl] := by
      refine Blk.kept ?_ hb_7
      (repeat (first | with_reducible assumption | (with_reducible refine Blk.new' ?_; first | with_reducible rfl | (simp; done)) | with_reducible refine Blk.alloc ?_ _ | with_reducible refine Blk.grow ?_ _ | with_reducible refine Blk.drew ?_ | with_reducible refine Blk.drewN ?_ _ | (with_reducible refine Blk.far ?_ (by first | (dsimp only; omega) | (simp; omega)) _) | (with_reducible apply Blk.two) | (with_reducible refine Blk.set' ?_ _ _ ?_) | (with_reducible rfl) | rfl))
    have g_c : Blk w_7 (w_5.heap.size) 24 #[.int .u64 ch, .int .u64 cl] := by
      refine Blk.kept ?_ hb_7
      (repeat (first | with_reducible assumption | (with_reducible refine Blk.new' ?_; first | with_reducible rfl | (simp; done)) | with_reducible refine Blk.alloc ?_ _ | with_reducible refine Blk.grow ?_ _ | with_reducible refine Blk.drew ?_ | with_reducible refine Blk.drewN ?_ _ | (with_reducible refine Blk.far ?_ (by first | (dsimp only; omega) | (simp; omega)) _) | (with_reducible apply Blk.two) | (with_reducible refine Blk.set' ?_ _ _ ?_) | (with_reducible rfl) | rfl))
    clear f_x x_l r_x x_2 x_f2 x_3 x_f3 x_4 x_f4 x_5 x_f5 x_6 x_f6 x_7 x_f7 x_11 x_f11 x_12 x_f12 x_13 x_f13 x_14 x_f14 f_p p_l r_p p_11 p_f11 p_13 p_f13 p_26 p_f26 p_28 p_f28 p_30 p_f30 p_31 p_f31 f_z z_l r_z z_2 z_f2 z_3 z_f3 z_4 z_f4 z_5 z_f5 z_8 z_f8 z_9 z_f9 z_19 z_f19 z_20 z_f20 z_21 z_f21 z_22 z_f22 z_23 z_f23 z_24 z_f24 f_d d_l d_0 d_1 d_f0 d_f1 f_c c_l c_0 c_1 c_f0 c_f1 t_x t_p t_z t_d t_c hB_6 hb_7
    have f_x := g_x
    clear g_x
    have f_p := g_p
    clear g_p
    have f_z := g_z
    clear g_z
    have f_d := g_d
    clear g_d
    have f_c := g_c
    clear g_c
    have r_x := rowAt_blk f_x
    have x_l := f_x.lt
    have x_2 : w_7.cell? ⟨w.heap.size, 2, none⟩ = some (.int .u64 xd1) := (f_x).cell 2
    have x_f2 := (f_x).frozen 2
    have x_3 : w_7.cell? ⟨w.heap.size, 3, none⟩ = some (.int .u64 xd2) := (f_x).cell 3
    have x_f3 := (f_x).frozen 3
    have x_4 : w_7.cell? ⟨w.heap.size, 4, none⟩ = some (.int .u64 xc1) := (f_x).cell 4
    have x_f4 := (f_x).frozen 4
    have x_5 : w_7.cell? ⟨w.heap.size, 5, none⟩ = some (.int .u64 xc2) := (f_x).cell 5
    have x_f5 := (f_x).frozen 5
    have x_6 : w_7.cell? ⟨w.heap.size, 6, none⟩ = some (.int .u64 xm1) := (f_x).cell 6
    have x_f6 := (f_x).frozen 6
    have x_7 : w_7.cell? ⟨w.heap.size, 7, none⟩ = some (.int .u64 xm2) := (f_x).cell 7
    have x_f7 := (f_x).frozen 7
    have x_11 : w_7.cell? ⟨w.heap.size, 11, none⟩ = some (.int .u32 xto) := (f_x).cell 11
    have x_f11 := (f_x).frozen 11
    have x_12 : w_7.cell? ⟨w.heap.size, 12, none⟩ = some (.int .u32 xlg) := (f_x).cell 12
    have x_f12 := (f_x).frozen 12
    have x_13 : w_7.cell? ⟨w.heap.size, 13, none⟩ = some (.int .u16 xcd) := (f_x).cell 13
    have x_f13 := (f_x).frozen 13
    have x_14 : w_7.cell? ⟨w.heap.size, 14, none⟩ = some (.int .u16 xfl) := (f_x).cell 14
    have x_f14 := (f_x).frozen 14
    replace f_x := Lib.hid f_x
    have r_p := rowAt_blk f_p
    have p_l := f_p.lt
    have p_11 : w_7.cell? ⟨w.heap.size + 1, 11, none⟩ = some (.int .u32 alg) := (f_p).cell 11
    have p_f11 := (f_p).frozen 11
    have p_13 : w_7.cell? ⟨w.heap.size + 1, 13, none⟩ = some (.int .u16 afl) := (f_p).cell 13
    have p_f13 := (f_p).frozen 13
    have p_26 : w_7.cell? ⟨w.heap.size + 1, 26, none⟩ = some (.int .u32 elg) := (f_p).cell 26
    have p_f26 := (f_p).frozen 26
    have p_28 : w_7.cell? ⟨w.heap.size + 1, 28, none⟩ = some (.int .u16 efl) := (f_p).cell 28
    have p_f28 := (f_p).frozen 28
    have p_30 : w_7.cell? ⟨w.heap.size + 1, 30, none⟩ = some (.bool true) := (f_p).cell 30
    have p_f30 := (f_p).frozen 30
    have p_31 : w_7.cell? ⟨w.heap.size + 1, 31, none⟩ = some (.bool true) := (f_p).cell 31
    have p_f31 := (f_p).frozen 31
    replace f_p := Lib.hid f_p
    have r_z := rowAt_blk f_z
    have z_l := f_z.lt
    have z_2 : w_7.cell? ⟨w_2.heap.size, 2, none⟩ = some (.int .u64 zap1) := (f_z).cell 2
    have z_f2 := (f_z).frozen 2
    have z_3 : w_7.cell? ⟨w_2.heap.size, 3, none⟩ = some (.int .u64 zap2) := (f_z).cell 3
    have z_f3 := (f_z).frozen 3
    have z_4 : w_7.cell? ⟨w_2.heap.size, 4, none⟩ = some (.int .u64 zaq1) := (f_z).cell 4
    have z_f4 := (f_z).frozen 4
    have z_5 : w_7.cell? ⟨w_2.heap.size, 5, none⟩ = some (.int .u64 zaq2) := (f_z).cell 5
    have z_f5 := (f_z).frozen 5
    have z_8 : w_7.cell? ⟨w_2.heap.size, 8, none⟩ = some (.int .u64 zas1) := (f_z).cell 8
    have z_f8 := (f_z).frozen 8
    have z_9 : w_7.cell? ⟨w_2.heap.size, 9, none⟩ = some (.int .u64 zas2) := (f_z).cell 9
    have z_f9 := (f_z).frozen 9
    have z_19 : w_7.cell? ⟨w_2.heap.size, 19, none⟩ = some (.int .u64 zeq1) := (f_z).cell 19
    have z_f19 := (f_z).frozen 19
    have z_20 : w_7.cell? ⟨w_2.heap.size, 20, none⟩ = some (.int .u64 zeq2) := (f_z).cell 20
    have z_f20 := (f_z).frozen 20
    have z_21 : w_7.cell? ⟨w_2.heap.size, 21, none⟩ = some (.int .u64 zer1) := (f_z).cell 21
    have z_f21 := (f_z).frozen 21
    have z_22 : w_7.cell? ⟨w_2.heap.size, 22, none⟩ = some (.int .u64 zer2) := (f_z).cell 22
    have z_f22 := (f_z).frozen 22
    have z_23 : w_7.cell? ⟨w_2.heap.size, 23, none⟩ = some (.int .u64 zes1) := (f_z).cell 23
    have z_f23 := (f_z).frozen 23
    have z_24 : w_7.cell? ⟨w_2.heap.size, 24, none⟩ = some (.int .u64 zes2) := (f_z).cell 24
    have z_f24 := (f_z).frozen 24
    replace f_z := Lib.hid f_z
    have d_0 : w_7.cell? ⟨w_4.heap.size, 0, none⟩ = some (.int .u64 dh) := (f_d).cell 0
    have d_1 : w_7.cell? ⟨w_4.heap.size, 1, none⟩ = some (.int .u64 dl) := (f_d).cell 1
    have d_f0 := (f_d).frozen 0
    have d_f1 := (f_d).frozen 1
    have d_l := (f_d).lt
    replace f_d := Lib.hid f_d
    have c_0 : w_7.cell? ⟨w_5.heap.size, 0, none⟩ = some (.int .u64 ch) := (f_c).cell 0
    have c_1 : w_7.cell? ⟨w_5.heap.size, 1, none⟩ = some (.int .u64 cl) := (f_c).cell 1
    have c_f0 := (f_c).frozen 0
    have c_f1 := (f_c).frozen 1
    have c_l := (f_c).lt
    replace f_c := Lib.hid f_c
    replace hB_7 := Lib.hid hB_7
    cases b4
    case true =>
      cases t0
      case true =>
        go_wp2_with fail
        go_ret
        exact ⟨by first | rfl | simp, by have t_B := hB_7.out; (repeat (first | with_reducible exact Below.refl _ _ | with_reducible assumption | (with_reducible refine bel_set ?_ (by first | exact Nat.le_refl _ | (simp; done) | (simp; omega) | omega) _) | with_reducible refine bel_grow ?_ _ | with_reducible refine Below.drew ?_ | with_reducible refine bel_alloc ?_ _ | with_reducible refine bel_eld ?_ (by assumption)))⟩
      case false =>
        have e5 := F5.out rfl
        have e6 := e5.1
        have e7 := e5.2
        clear e5
        go_wp2_with fail
        go_ret
        exact ⟨by first | rfl | simp, by have t_B := hB_7.out; (repeat (first | with_reducible exact Below.refl _ _ | with_reducible assumption | (with_reducible refine bel_set ?_ (by first | exact Nat.le_refl _ | (simp; done) | (simp; omega) | omega) _) | with_reducible refine bel_grow ?_ _ | with_reducible refine Below.drew ?_ | with_reducible refine bel_alloc ?_ _ | with_reducible refine bel_eld ?_ (by assumption)))⟩
    case false =>
      have g2' := g2.out rfl
      go_wp2_with fail
      refine (HC2.out _).mono ?_
      rintro e w_8 ⟨rfl, hb_8⟩
      have z_8 := hb_8.size
      try simp at z_8
      have t_ := hB_7.out
      have hB_8 := bel_eld (w := w) (X := _) (by first | ((repeat (first | with_reducible exact Below.refl _ _ | with_reducible assumption | (with_reducible refine bel_set ?_ (by first | exact Nat.le_refl _ | (simp; done) | (simp; omega) | omega) _) | with_reducible refine bel_grow ?_ _ | with_reducible refine Below.drew ?_ | with_reducible refine below_drewN ?_ _ | with_reducible refine bel_alloc ?_ _ | with_reducible refine bel_trans ?_ (by assumption))); done) | (repeat (first | exact Below.refl _ _ | assumption | refine below_drewN ?_ _ | refine bel_grow ?_ _ | refine Below.drew ?_ | refine bel_alloc ?_ _ | refine bel_set ?_ (by first | exact Nat.le_refl _ | (simp; done) | (simp; omega) | omega) _ | refine bel_trans ?_ (by assumption)))) hb_8
      clear t_
      have t_x := f_x.out
      have t_p := f_p.out
      have t_z := f_z.out
      have t_d := f_d.out
      have t_c := f_c.out
      have g_x : Blk w_8 (w.heap.size) 28 #[.int .u64 xi1, .int .u64 xi2, .int .u64 xd1, .int .u64 xd2, .int .u64 xc1, .int .u64 xc2, .int .u64 xm1, .int .u64 xm2, .int .u64 xw1, .int .u64 xw2, .int .u64 xtg, .int .u32 xto, .int .u32 xlg, .int .u16 xcd, .int .u16 xfl, .int .u64 xst] := by
        refine Blk.kept ?_ hb_8
        (repeat (first | with_reducible assumption | (with_reducible refine Blk.new' ?_; first | with_reducible rfl | (simp; done)) | with_reducible refine Blk.alloc ?_ _ | with_reducible refine Blk.grow ?_ _ | with_reducible refine Blk.drew ?_ | with_reducible refine Blk.drewN ?_ _ | (with_reducible refine Blk.far ?_ (by first | (dsimp only; omega) | (simp; omega)) _) | (with_reducible apply Blk.two) | (with_reducible refine Blk.set' ?_ _ _ ?_) | (with_reducible rfl) | rfl))
      have g_p : Blk w_8 (w.heap.size + 1) 32 #[.int .u64 ai1, .int .u64 ai2, .int .u64 ap1, .int .u64 ap2, .int .u64 aq1, .int .u64 aq2, .int .u64 ar1, .int .u64 ar2, .int .u64 as1, .int .u64 as2, .int .u64 atg, .int .u32 alg, .int .u16 acd, .int .u16 afl, .int .u64 ast, .int .u64 ei1, .int .u64 ei2, .int .u64 ep1, .int .u64 ep2, .int .u64 eq1, .int .u64 eq2, .int .u64 er1, .int .u64 er2, .int .u64 es1, .int .u64 es2, .int .u64 etg, .int .u32 elg, .int .u16 ecd, .int .u16 efl, .int .u64 est, .bool true, .bool true] := by
        refine Blk.kept ?_ hb_8
        (repeat (first | with_reducible assumption | (with_reducible refine Blk.new' ?_; first | with_reducible rfl | (simp; done)) | with_reducible refine Blk.alloc ?_ _ | with_reducible refine Blk.grow ?_ _ | with_reducible refine Blk.drew ?_ | with_reducible refine Blk.drewN ?_ _ | (with_reducible refine Blk.far ?_ (by first | (dsimp only; omega) | (simp; omega)) _) | (with_reducible apply Blk.two) | (with_reducible refine Blk.set' ?_ _ _ ?_) | (with_reducible rfl) | rfl))
      have g_z : Blk w_8 (w_2.heap.size) 32 #[.int .u64 zai1, .int .u64 zai2, .int .u64 zap1, .int .u64 zap2, .int .u64 zaq1, .int .u64 zaq2, .int .u64 zar1, .int .u64 zar2, .int .u64 zas1, .int .u64 zas2, .int .u64 zatg, .int .u32 zalg, .int .u16 zacd, .int .u16 zafl, .int .u64 zast, .int .u64 zei1, .int .u64 zei2, .int .u64 zep1, .int .u64 zep2, .int .u64 zeq1, .int .u64 zeq2, .int .u64 zer1, .int .u64 zer2, .int .u64 zes1, .int .u64 zes2, .int .u64 zetg, .int .u32 zelg, .int .u16 zecd, .int .u16 zefl, .int .u64 zest, .bool zd, .bool zc] := by
        refine Blk.kept ?_ hb_8
        (repeat (first | with_reducible assumption | (with_reducible refine Blk.new' ?_; first | with_reducible rfl | (simp; done)) | with_reducible refine Blk.alloc ?_ _ | with_reducible refine Blk.grow ?_ _ | with_reducible refine Blk.drew ?_ | with_reducible refine Blk.drewN ?_ _ | (with_reducible refine Blk.far ?_ (by first | (dsimp only; omega) | (simp; omega)) _) | (with_reducible apply Blk.two) | (with_reducible refine Blk.set' ?_ _ _ ?_) | (with_reducible rfl) | rfl))
      have g_d : Blk w_8 (w_4.heap.size) 24 #[.int .u64 dh, .int .u64 dl] := by
        refine Blk.kept ?_ hb_8
        (repeat (first | with_reducible assumption | (with_reducible refine Blk.new' ?_; first | with_reducible rfl | (simp; done)) | with_reducible refine Blk.alloc ?_ _ | with_reducible refine Blk.grow ?_ _ | with_reducible refine Blk.drew ?_ | with_reducible refine Blk.drewN ?_ _ | (with_reducible refine Blk.far ?_ (by first | (dsimp only; omega) | (simp; omega)) _) | (with_reducible apply Blk.two) | (with_reducible refine Blk.set' ?_ _ _ ?_) | (with_reducible rfl) | rfl))
      have g_c : Blk w_8 (w_5.heap.size) 24 #[.int .u64 ch, .int .u64 cl] := by
        refine Blk.kept ?_ hb_8
        (repeat (first | with_reducible assumption | (with_reducible refine Blk.new' ?_; first | with_reducible rfl | (simp; done)) | with_reducible refine Blk.alloc ?_ _ | with_reducible refine Blk.grow ?_ _ | with_reducible refine Blk.drew ?_ | with_reducible refine Blk.drewN ?_ _ | (with_reducible refine Blk.far ?_ (by first | (dsimp only; omega) | (simp; omega)) _) | (with_reducible apply Blk.two) | (with_reducible refine Blk.set' ?_ _ _ ?_) | (with_reducible rfl) | rfl))
      clear f_x x_l r_x x_2 x_f2 x_3 x_f3 x_4 x_f4 x_5 x_f5 x_6 x_f6 x_7 x_f7 x_11 x_f11 x_12 x_f12 x_13 x_f13 x_14 x_f14 f_p p_l r_p p_11 p_f11 p_13 p_f13 p_26 p_f26 p_28 p_f28 p_30 p_f30 p_31 p_f31 f_z z_l r_z z_2 z_f2 z_3 z_f3 z_4 z_f4 z_5 z_f5 z_8 z_f8 z_9 z_f9 z_19 z_f19 z_20 z_f20 z_21 z_f21 z_22 z_f22 z_23 z_f23 z_24 z_f24 f_d d_l d_0 d_1 d_f0 d_f1 f_c c_l c_0 c_1 c_f0 c_f1 t_x t_p t_z t_d t_c hB_7 hb_8
      have f_x := g_x
      clear g_x
      have f_p := g_p
      clear g_p
      have f_z := g_z
      clear g_z
      have f_d := g_d
      clear g_d
      have f_c := g_c
      clear g_c
      have r_x := rowAt_blk f_x
      have x_l := f_x.lt
      have x_2 : w_8.cell? ⟨w.heap.size, 2, none⟩ = some (.int .u64 xd1) := (f_x).cell 2
      have x_f2 := (f_x).frozen 2
      have x_3 : w_8.cell? ⟨w.heap.size, 3, none⟩ = some (.int .u64 xd2) := (f_x).cell 3
      have x_f3 := (f_x).frozen 3
      have x_4 : w_8.cell? ⟨w.heap.size, 4, none⟩ = some (.int .u64 xc1) := (f_x).cell 4
      have x_f4 := (f_x).frozen 4
      have x_5 : w_8.cell? ⟨w.heap.size, 5, none⟩ = some (.int .u64 xc2) := (f_x).cell 5
      have x_f5 := (f_x).frozen 5
      have x_6 : w_8.cell? ⟨w.heap.size, 6, none⟩ = some (.int .u64 xm1) := (f_x).cell 6
      have x_f6 := (f_x).frozen 6
      have x_7 : w_8.cell? ⟨w.heap.size, 7, none⟩ = some (.int .u64 xm2) := (f_x).cell 7
      have x_f7 := (f_x).frozen 7
      have x_11 : w_8.cell? ⟨w.heap.size, 11, none⟩ = some (.int .u32 xto) := (f_x).cell 11
      have x_f11 := (f_x).frozen 11
      have x_12 : w_8.cell? ⟨w.heap.size, 12, none⟩ = some (.int .u32 xlg) := (f_x).cell 12
      have x_f12 := (f_x).frozen 12
      have x_13 : w_8.cell? ⟨w.heap.size, 13, none⟩ = some (.int .u16 xcd) := (f_x).cell 13
      have x_f13 := (f_x).frozen 13
      have x_14 : w_8.cell? ⟨w.heap.size, 14, none⟩ = some (.int .u16 xfl) := (f_x).cell 14
      have x_f14 := (f_x).frozen 14
      replace f_x := Lib.hid f_x
      have r_p := rowAt_blk f_p
      have p_l := f_p.lt
      have p_11 : w_8.cell? ⟨w.heap.size + 1, 11, none⟩ = some (.int .u32 alg) := (f_p).cell 11
      have p_f11 := (f_p).frozen 11
      have p_13 : w_8.cell? ⟨w.heap.size + 1, 13, none⟩ = some (.int .u16 afl) := (f_p).cell 13
      have p_f13 := (f_p).frozen 13
      have p_26 : w_8.cell? ⟨w.heap.size + 1, 26, none⟩ = some (.int .u32 elg) := (f_p).cell 26
      have p_f26 := (f_p).frozen 26
      have p_28 : w_8.cell? ⟨w.heap.size + 1, 28, none⟩ = some (.int .u16 efl) := (f_p).cell 28
      have p_f28 := (f_p).frozen 28
      have p_30 : w_8.cell? ⟨w.heap.size + 1, 30, none⟩ = some (.bool true) := (f_p).cell 30
      have p_f30 := (f_p).frozen 30
      have p_31 : w_8.cell? ⟨w.heap.size + 1, 31, none⟩ = some (.bool true) := (f_p).cell 31
      have p_f31 := (f_p).frozen 31
      replace f_p := Lib.hid f_p
      have r_z := rowAt_blk f_z
      have z_l := f_z.lt
      have z_2 : w_8.cell? ⟨w_2.heap.size, 2, none⟩ = some (.int .u64 zap1) := (f_z).cell 2
      have z_f2 := (f_z).frozen 2
      have z_3 : w_8.cell? ⟨w_2.heap.size, 3, none⟩ = some (.int .u64 zap2) := (f_z).cell 3
      have z_f3 := (f_z).frozen 3
      have z_4 : w_8.cell? ⟨w_2.heap.size, 4, none⟩ = some (.int .u64 zaq1) := (f_z).cell 4
      have z_f4 := (f_z).frozen 4
      have z_5 : w_8.cell? ⟨w_2.heap.size, 5, none⟩ = some (.int .u64 zaq2) := (f_z).cell 5
      have z_f5 := (f_z).frozen 5
      have z_8 : w_8.cell? ⟨w_2.heap.size, 8, none⟩ = some (.int .u64 zas1) := (f_z).cell 8
      have z_f8 := (f_z).frozen 8
      have z_9 : w_8.cell? ⟨w_2.heap.size, 9, none⟩ = some (.int .u64 zas2) := (f_z).cell 9
      have z_f9 := (f_z).frozen 9
      have z_19 : w_8.cell? ⟨w_2.heap.size, 19, none⟩ = some (.int .u64 zeq1) := (f_z).cell 19
      have z_f19 := (f_z).frozen 19
      have z_20 : w_8.cell? ⟨w_2.heap.size, 20, none⟩ = some (.int .u64 zeq2) := (f_z).cell 20
      have z_f20 := (f_z).frozen 20
      have z_21 : w_8.cell? ⟨w_2.heap.size, 21, none⟩ = some (.int .u64 zer1) := (f_z).cell 21
      have z_f21 := (f_z).frozen 21
      have z_22 : w_8.cell? ⟨w_2.heap.size, 22, none⟩ = some (.int .u64 zer2) := (f_z).cell 22
      have z_f22 := (f_z).frozen 22
      have z_23 : w_8.cell? ⟨w_2.heap.size, 23, none⟩ = some (.int .u64 zes1) := (f_z).cell 23
      have z_f23 := (f_z).frozen 23
      have z_24 : w_8.cell? ⟨w_2.heap.size, 24, none⟩ = some (.int .u64 zes2) := (f_z).cell 24
      have z_f24 := (f_z).frozen 24
      replace f_z := Lib.hid f_z
      have d_0 : w_8.cell? ⟨w_4.heap.size, 0, none⟩ = some (.int .u64 dh) := (f_d).cell 0
      have d_1 : w_8.cell? ⟨w_4.heap.size, 1, none⟩ = some (.int .u64 dl) := (f_d).cell 1
      have d_f0 := (f_d).frozen 0
      have d_f1 := (f_d).frozen 1
      have d_l := (f_d).lt
      replace f_d := Lib.hid f_d
      have c_0 : w_8.cell? ⟨w_5.heap.size, 0, none⟩ = some (.int .u64 ch) := (f_c).cell 0
      have c_1 : w_8.cell? ⟨w_5.heap.size, 1, none⟩ = some (.int .u64 cl) := (f_c).cell 1
      have c_f0 := (f_c).frozen 0
      have c_f1 := (f_c).frozen 1
      have c_l := (f_c).lt
      replace f_c := Lib.hid f_c
      replace hB_8 := Lib.hid hB_8
      cases t0
      case true =>
        go_wp2_with fail
        go_ret
        exact ⟨by first | rfl | simp, by have t_B := hB_8.out; (repeat (first | with_reducible exact Below.refl _ _ | with_reducible assumption | (with_reducible refine bel_set ?_ (by first | exact Nat.le_refl _ | (simp; done) | (simp; omega) | omega) _) | with_reducible refine bel_grow ?_ _ | with_reducible refine Below.drew ?_ | with_reducible refine bel_alloc ?_ _ | with_reducible refine bel_eld ?_ (by assumption)))⟩
      case false =>
        have e5 := F5.out rfl
        have e6 := e5.1
        have e7 := e5.2
        clear e5
        go_wp2_with fail
        go_ret
        exact ⟨by first | rfl | simp, by have t_B := hB_8.out; (repeat (first | with_reducible exact Below.refl _ _ | with_reducible assumption | (with_reducible refine bel_set ?_ (by first | exact Nat.le_refl _ | (simp; done) | (simp; omega) | omega) _) | with_reducible refine bel_grow ?_ _ | with_reducible refine Below.drew ?_ | with_reducible refine bel_alloc ?_ _ | with_reducible refine bel_eld ?_ (by assumption)))⟩
end Go.Proofs.Ytpbnakoimlmhnaa
