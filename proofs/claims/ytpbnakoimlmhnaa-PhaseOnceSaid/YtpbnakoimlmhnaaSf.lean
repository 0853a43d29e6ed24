/-
  PhaseOnce, walked.
-/
import Derived.Test.YtpbnakoimlmhnaaBk
import Derived.Test.YtpbnakoimlmhnaaEq
import Derived.Test.YtpbnakoimlmhnaaSb
import Derived.Deep.DeepCutAuto
namespace Go.Proofs.Ytpbnakoimlmhnaa
set_option linter.unusedVariables false
set_option linter.unusedSimpArgs false
open Go.RowKit

attribute [local go_sem] loadV_ptr storeV_ptr one_func drew_hs ext_deb ext_cre ext_cols ext_acc
attribute [local go_sem ↓] load_Cols store_Cols load_Transfer store_Transfer load_Parties store_Parties load_Acct store_Acct
attribute [local go_sem ↓] load_Waits store_Waits
set_option maxRecDepth 20000 in
set_option maxHeartbeats 8000000 in
theorem oncebad_of (xi1 xi2 xd1 xd2 xc1 xc2 xm1 xm2 xw1 xw2 xtg xto xlg xcd xfl xst ss yi1 yi2 yd1 yd2 yc1 yc2 ym1 ym2 yw1 yw2 ytg yto ylg ycd yfl yst sv ai1 ai2 ap1 ap2 aq1 aq2 ar1 ar2 as1 as2 atg alg acd afl ast ei1 ei2 ep1 ep2 eq1 eq2 er1 er2 es1 es2 etg elg ecd efl est v : Int) (th hd hc : Bool) (hv : (v != 0) = true) (HX : ∀ w, Calls Try.prog 37 #[] w fun r w' => r = .returned (.bool true) ∧ Below w.heap.size w w') (HV : ∀ w, Calls Try.prog 36 #[.agg #[.int .u64 xi1, .int .u64 xi2, .int .u64 xd1, .int .u64 xd2, .int .u64 xc1, .int .u64 xc2, .int .u64 xm1, .int .u64 xm2, .int .u64 xw1, .int .u64 xw2, .int .u64 xtg, .int .u32 xto, .int .u32 xlg, .int .u16 xcd, .int .u16 xfl, .int .u64 xst], .int .u64 ss, .agg #[.int .u64 yi1, .int .u64 yi2, .int .u64 yd1, .int .u64 yd2, .int .u64 yc1, .int .u64 yc2, .int .u64 ym1, .int .u64 ym2, .int .u64 yw1, .int .u64 yw2, .int .u64 ytg, .int .u32 yto, .int .u32 ylg, .int .u16 ycd, .int .u16 yfl, .int .u64 yst, .bool th, .int .u8 sv], .agg #[.int .u64 ai1, .int .u64 ai2, .int .u64 ap1, .int .u64 ap2, .int .u64 aq1, .int .u64 aq2, .int .u64 ar1, .int .u64 ar2, .int .u64 as1, .int .u64 as2, .int .u64 atg, .int .u32 alg, .int .u16 acd, .int .u16 afl, .int .u64 ast, .int .u64 ei1, .int .u64 ei2, .int .u64 ep1, .int .u64 ep2, .int .u64 eq1, .int .u64 eq2, .int .u64 er1, .int .u64 er2, .int .u64 es1, .int .u64 es2, .int .u64 etg, .int .u32 elg, .int .u16 ecd, .int .u16 efl, .int .u64 est, .bool hd, .bool hc]] w fun r w' => r = .returned (.tuple #[.int .u32 v, .agg #[.int .u64 0, .int .u64 0]]) ∧ Below w.heap.size w w')
    (w : World) : Calls Try.prog 13 #[.agg #[.int .u64 xi1, .int .u64 xi2, .int .u64 xd1, .int .u64 xd2, .int .u64 xc1, .int .u64 xc2, .int .u64 xm1, .int .u64 xm2, .int .u64 xw1, .int .u64 xw2, .int .u64 xtg, .int .u32 xto, .int .u32 xlg, .int .u16 xcd, .int .u16 xfl, .int .u64 xst, .int .u64 ss, .int .u64 yi1, .int .u64 yi2, .int .u64 yd1, .int .u64 yd2, .int .u64 yc1, .int .u64 yc2, .int .u64 ym1, .int .u64 ym2, .int .u64 yw1, .int .u64 yw2, .int .u64 ytg, .int .u32 yto, .int .u32 ylg, .int .u16 ycd, .int .u16 yfl, .int .u64 yst, .bool th, .int .u8 sv, .int .u64 ai1, .int .u64 ai2, .int .u64 ap1, .int .u64 ap2, .int .u64 aq1, .int .u64 aq2, .int .u64 ar1, .int .u64 ar2, .int .u64 as1, .int .u64 as2, .int .u64 atg, .int .u32 alg, .int .u16 acd, .int .u16 afl, .int .u64 ast, .int .u64 ei1, .int .u64 ei2, .int .u64 ep1, .int .u64 ep2, .int .u64 eq1, .int .u64 eq2, .int .u64 er1, .int .u64 er2, .int .u64 es1, .int .u64 es2, .int .u64 etg, .int .u32 elg, .int .u16 ecd, .int .u16 efl, .int .u64 est, .bool hd, .bool hc]] w fun r w' => r = .returned (.bool true) ∧ Below w.heap.size w w' := by
  replace HX := Lib.hid HX
  replace HV := Lib.hid HV
  have hb0 := Below.refl w.heap.size w
  go_enter Try.func13, Try.ntmps13
  go_upto_region 1 with fail
  replace hb0 := Lib.hid hb0
  refine abs_wp (fun Y_ => Below w.heap.size w Y_ ∧ Blk Y_ (w.heap.size) 68 #[.int .u64 xi1, .int .u64 xi2, .int .u64 xd1, .int .u64 xd2, .int .u64 xc1, .int .u64 xc2, .int .u64 xm1, .int .u64 xm2, .int .u64 xw1, .int .u64 xw2, .int .u64 xtg, .int .u32 xto, .int .u32 xlg, .int .u16 xcd, .int .u16 xfl, .int .u64 xst, .int .u64 ss, .int .u64 yi1, .int .u64 yi2, .int .u64 yd1, .int .u64 yd2, .int .u64 yc1, .int .u64 yc2, .int .u64 ym1, .int .u64 ym2, .int .u64 yw1, .int .u64 yw2, .int .u64 ytg, .int .u32 yto, .int .u32 ylg, .int .u16 ycd, .int .u16 yfl, .int .u64 yst, .bool th, .int .u8 sv, .int .u64 ai1, .int .u64 ai2, .int .u64 ap1, .int .u64 ap2, .int .u64 aq1, .int .u64 aq2, .int .u64 ar1, .int .u64 ar2, .int .u64 as1, .int .u64 as2, .int .u64 atg, .int .u32 alg, .int .u16 acd, .int .u16 afl, .int .u64 ast, .int .u64 ei1, .int .u64 ei2, .int .u64 ep1, .int .u64 ep2, .int .u64 eq1, .int .u64 eq2, .int .u64 er1, .int .u64 er2, .int .u64 es1, .int .u64 es2, .int .u64 etg, .int .u32 elg, .int .u16 ecd, .int .u16 efl, .int .u64 est, .bool hd, .bool hc]) ?_ ?_
  · have t_B := hb0.out
    refine ⟨by (repeat (first | with_reducible exact Below.refl _ _ | with_reducible assumption | (with_reducible refine bel_set ?_ (by first | exact Nat.le_refl _ | (simp; done) | (simp; omega) | omega) _) | with_reducible refine bel_grow ?_ _ | with_reducible refine Below.drew ?_ | with_reducible refine bel_alloc ?_ _ | with_reducible refine bel_eld ?_ (by assumption))), ?_⟩
    · (repeat (first | with_reducible assumption | (with_reducible refine Blk.new' ?_; first | with_reducible rfl | (simp; done)) | with_reducible refine Blk.alloc ?_ _ | with_reducible refine Blk.grow ?_ _ | with_reducible refine Blk.drew ?_ | with_reducible refine Blk.drewN ?_ _ | (with_reducible refine Blk.far ?_ (by first | (dsimp only; omega) | (simp; omega)) _) | (with_reducible apply Blk.two) | (with_reducible refine Blk.kept ?_ (by assumption)) | (with_reducible refine Blk.setRow ?_ (by first | rfl | (simp; done))) | (with_reducible refine Blk.setRow_far ?_ (by first | omega | (simp; omega)) _) | (with_reducible refine Blk.set' ?_ _ _ (by first | rfl | (simp; done)))))
  clear hb0
  rintro X0 ⟨hB_1, f_x⟩
  have r_x := rowAt_blk f_x
  have x_l := f_x.lt
  have x_16 : X0.cell? ⟨w.heap.size, 16, none⟩ = some (.int .u64 ss) := (f_x).cell 16
  have x_f16 := (f_x).frozen 16
  replace f_x := Lib.hid f_x
  replace hB_1 := Lib.hid hB_1
  go_wp2_with fail
  refine (HV.out _).mono ?_
  rintro e w_2 ⟨rfl, hb_2⟩
  have z_2 := hb_2.size
  try simp at z_2
  have t_ := hB_1.out
  have hB_2 := bel_eld (w := w) (X := _) (by first | ((repeat (first | with_reducible exact Below.refl _ _ | with_reducible assumption | (with_reducible refine bel_set ?_ (by first | exact Nat.le_refl _ | (simp; done) | (simp; omega) | omega) _) | with_reducible refine bel_grow ?_ _ | with_reducible refine Below.drew ?_ | with_reducible refine below_drewN ?_ _ | with_reducible refine bel_alloc ?_ _ | with_reducible refine bel_trans ?_ (by assumption))); done) | (repeat (first | exact Below.refl _ _ | assumption | refine below_drewN ?_ _ | refine bel_grow ?_ _ | refine Below.drew ?_ | refine bel_alloc ?_ _ | refine bel_set ?_ (by first | exact Nat.le_refl _ | (simp; done) | (simp; omega) | omega) _ | refine bel_trans ?_ (by assumption)))) hb_2
  clear t_
  have t_x := f_x.out
  have g_x : Blk w_2 (w.heap.size) 68 #[.int .u64 xi1, .int .u64 xi2, .int .u64 xd1, .int .u64 xd2, .int .u64 xc1, .int .u64 xc2, .int .u64 xm1, .int .u64 xm2, .int .u64 xw1, .int .u64 xw2, .int .u64 xtg, .int .u32 xto, .int .u32 xlg, .int .u16 xcd, .int .u16 xfl, .int .u64 xst, .int .u64 ss, .int .u64 yi1, .int .u64 yi2, .int .u64 yd1, .int .u64 yd2, .int .u64 yc1, .int .u64 yc2, .int .u64 ym1, .int .u64 ym2, .int .u64 yw1, .int .u64 yw2, .int .u64 ytg, .int .u32 yto, .int .u32 ylg, .int .u16 ycd, .int .u16 yfl, .int .u64 yst, .bool th, .int .u8 sv, .int .u64 ai1, .int .u64 ai2, .int .u64 ap1, .int .u64 ap2, .int .u64 aq1, .int .u64 aq2, .int .u64 ar1, .int .u64 ar2, .int .u64 as1, .int .u64 as2, .int .u64 atg, .int .u32 alg, .int .u16 acd, .int .u16 afl, .int .u64 ast, .int .u64 ei1, .int .u64 ei2, .int .u64 ep1, .int .u64 ep2, .int .u64 eq1, .int .u64 eq2, .int .u64 er1, .int .u64 er2, .int .u64 es1, .int .u64 es2, .int .u64 etg, .int .u32 elg, .int .u16 ecd, .int .u16 efl, .int .u64 est, .bool hd, .bool hc] := by
    refine Blk.kept ?_ hb_2
    (repeat (first | with_reducible assumption | (with_reducible refine Blk.new' ?_; first | with_reducible rfl | (simp; done)) | with_reducible refine Blk.alloc ?_ _ | with_reducible refine Blk.grow ?_ _ | with_reducible refine Blk.drew ?_ | with_reducible refine Blk.drewN ?_ _ | (with_reducible refine Blk.far ?_ (by first | (dsimp only; omega) | (simp; omega)) _) | (with_reducible apply Blk.two) | (with_reducible refine Blk.set' ?_ _ _ ?_) | (with_reducible rfl) | rfl))
  clear f_x x_l r_x x_16 x_f16 t_x hB_1 hb_2
  have f_x := g_x
  clear g_x
  have r_x := rowAt_blk f_x
  have x_l := f_x.lt
  have x_16 : w_2.cell? ⟨w.heap.size, 16, none⟩ = some (.int .u64 ss) := (f_x).cell 16
  have x_f16 := (f_x).frozen 16
  replace f_x := Lib.hid f_x
  replace hB_2 := Lib.hid hB_2
  go_wp2_with fail
  refine (HX.out _).mono ?_
  rintro e w_3 ⟨rfl, hb_3⟩
  have z_3 := hb_3.size
  try simp at z_3
  have t_ := hB_2.out
  have hB_3 := bel_eld (w := w) (X := _) (by first | ((repeat (first | with_reducible exact Below.refl _ _ | with_reducible assumption | (with_reducible refine bel_set ?_ (by first | exact Nat.le_refl _ | (simp; done) | (simp; omega) | omega) _) | with_reducible refine bel_grow ?_ _ | with_reducible refine Below.drew ?_ | with_reducible refine below_drewN ?_ _ | with_reducible refine bel_alloc ?_ _ | with_reducible refine bel_trans ?_ (by assumption))); done) | (repeat (first | exact Below.refl _ _ | assumption | refine below_drewN ?_ _ | refine bel_grow ?_ _ | refine Below.drew ?_ | refine bel_alloc ?_ _ | refine bel_set ?_ (by first | exact Nat.le_refl _ | (simp; done) | (simp; omega) | omega) _ | refine bel_trans ?_ (by assumption)))) hb_3
  clear t_
  have t_x := f_x.out
  have g_x : Blk w_3 (w.heap.size) 68 #[.int .u64 xi1, .int .u64 xi2, .int .u64 xd1, .int .u64 xd2, .int .u64 xc1, .int .u64 xc2, .int .u64 xm1, .int .u64 xm2, .int .u64 xw1, .int .u64 xw2, .int .u64 xtg, .int .u32 xto, .int .u32 xlg, .int .u16 xcd, .int .u16 xfl, .int .u64 xst, .int .u64 ss, .int .u64 yi1, .int .u64 yi2, .int .u64 yd1, .int .u64 yd2, .int .u64 yc1, .int .u64 yc2, .int .u64 ym1, .int .u64 ym2, .int .u64 yw1, .int .u64 yw2, .int .u64 ytg, .int .u32 yto, .int .u32 ylg, .int .u16 ycd, .int .u16 yfl, .int .u64 yst, .bool th, .int .u8 sv, .int .u64 ai1, .int .u64 ai2, .int .u64 ap1, .int .u64 ap2, .int .u64 aq1, .int .u64 aq2, .int .u64 ar1, .int .u64 ar2, .int .u64 as1, .int .u64 as2, .int .u64 atg, .int .u32 alg, .int .u16 acd, .int .u16 afl, .int .u64 ast, .int .u64 ei1, .int .u64 ei2, .int .u64 ep1, .int .u64 ep2, .int .u64 eq1, .int .u64 eq2, .int .u64 er1, .int .u64 er2, .int .u64 es1, .int .u64 es2, .int .u64 etg, .int .u32 elg, .int .u16 ecd, .int .u16 efl, .int .u64 est, .bool hd, .bool hc] := by
    refine Blk.kept ?_ hb_3
    (repeat (first | with_reducible assumption | (with_reducible refine Blk.new' ?_; first | with_reducible rfl | (simp; done)) | with_reducible refine Blk.alloc ?_ _ | with_reducible refine Blk.grow ?_ _ | with_reducible refine Blk.drew ?_ | with_reducible refine Blk.drewN ?_ _ | (with_reducible refine Blk.far ?_ (by first | (dsimp only; omega) | (simp; omega)) _) | (with_reducible apply Blk.two) | (with_reducible refine Blk.set' ?_ _ _ ?_) | (with_reducible rfl) | rfl))
  have g_m : Blk w_3 (w_2.heap.size) 24 #[.int .u64 0, .int .u64 0] := by
    refine Blk.kept ?_ hb_3
    (repeat (first | with_reducible assumption | (with_reducible refine Blk.new' ?_; first | with_reducible rfl | (simp; done)) | with_reducible refine Blk.alloc ?_ _ | with_reducible refine Blk.grow ?_ _ | with_reducible refine Blk.drew ?_ | with_reducible refine Blk.drewN ?_ _ | (with_reducible refine Blk.far ?_ (by first | (dsimp only; omega) | (simp; omega)) _) | (with_reducible apply Blk.two) | (with_reducible refine Blk.set' ?_ _ _ ?_) | (with_reducible rfl) | rfl))
  clear f_x x_l r_x x_16 x_f16 t_x hB_2 hb_3
  have f_x := g_x
  clear g_x
  have f_m := g_m
  clear g_m
  have r_x := rowAt_blk f_x
  have x_l := f_x.lt
  have x_16 : w_3.cell? ⟨w.heap.size, 16, none⟩ = some (.int .u64 ss) := (f_x).cell 16
  have x_f16 := (f_x).frozen 16
  replace f_x := Lib.hid f_x
  have m_0 : w_3.cell? ⟨w_2.heap.size, 0, none⟩ = some (.int .u64 0) := (f_m).cell 0
  have m_1 : w_3.cell? ⟨w_2.heap.size, 1, none⟩ = some (.int .u64 0) := (f_m).cell 1
  have m_f0 := (f_m).frozen 0
  have m_f1 := (f_m).frozen 1
  have m_l := (f_m).lt
  replace f_m := Lib.hid f_m
  replace hB_3 := Lib.hid hB_3
  go_wp2_with fail
  go_ret
  exact ⟨by first | rfl | simp, by have t_B := hB_3.out; (repeat (first | with_reducible exact Below.refl _ _ | with_reducible assumption | (with_reducible refine bel_set ?_ (by first | exact Nat.le_refl _ | (simp; done) | (simp; omega) | omega) _) | with_reducible refine bel_grow ?_ _ | with_reducible refine Below.drew ?_ | with_reducible refine bel_alloc ?_ _ | with_reducible refine bel_eld ?_ (by assumption)))⟩
set_option maxRecDepth 20000 in
set_option maxHeartbeats 8000000 in
theorem once_of (xi1 xi2 xd1 xd2 xc1 xc2 xm1 xm2 xw1 xw2 xtg xto xlg xcd xfl xst ss yi1 yi2 yd1 yd2 yc1 yc2 ym1 ym2 yw1 yw2 ytg yto ylg ycd yfl yst sv ai1 ai2 ap1 ap2 aq1 aq2 ar1 ar2 as1 as2 atg alg acd afl ast ei1 ei2 ep1 ep2 eq1 eq2 er1 er2 es1 es2 etg elg ecd efl est zai1 zai2 zap1 zap2 zaq1 zaq2 zar1 zar2 zas1 zas2 zatg zalg zacd zafl zast zei1 zei2 zep1 zep2 zeq1 zeq2 zer1 zer2 zes1 zes2 zetg zelg zecd zefl zest uai1 uai2 uap1 uap2 uaq1 uaq2 uar1 uar2 uas1 uas2 uatg ualg uacd uafl uast uei1 uei2 uep1 uep2 ueq1 ueq2 uer1 uer2 ues1 ues2 uetg uelg uecd uefl uest m1 m2 at_ ka dh dl ch cl eh el gh gl k1 k2 : Int) (hd hc ok zd zc zb ud uc qb f1 f2 f3 f4 pb : Bool)
    (hyf : (bits .and .u16 yfl 2 == 0) = false) (F3 : decide (2 ≤ sv) = true → decide (sv ≤ 4) = false) (F2 : ok = true → decide (at_ ≤ ss) = false) (hka : decide (0 < ka) = false)
    (hpb : (bits .and .u16 xfl 4 != 0) = pb)
    (F1 : zb = true → f1 = true → f2 = true → qb = true ∧ f3 = true ∧ f4 = true ∧ decide (k1 ≤ 0) = true ∧ decide (k2 ≤ 0) = true ∧ (pb = false → (uaq1 == aq1 && uaq2 == aq2) = true))
    (HX : ∀ w, Calls Try.prog 37 #[] w fun r w' => r = .returned (.bool true) ∧ Below w.heap.size w w')
    (HV : ∀ w, Calls Try.prog 36 #[.agg #[.int .u64 xi1, .int .u64 xi2, .int .u64 xd1, .int .u64 xd2, .int .u64 xc1, .int .u64 xc2, .int .u64 xm1, .int .u64 xm2, .int .u64 xw1, .int .u64 xw2, .int .u64 xtg, .int .u32 xto, .int .u32 xlg, .int .u16 xcd, .int .u16 xfl, .int .u64 xst], .int .u64 ss, .agg #[.int .u64 yi1, .int .u64 yi2, .int .u64 yd1, .int .u64 yd2, .int .u64 yc1, .int .u64 yc2, .int .u64 ym1, .int .u64 ym2, .int .u64 yw1, .int .u64 yw2, .int .u64 ytg, .int .u32 yto, .int .u32 ylg, .int .u16 ycd, .int .u16 yfl, .int .u64 yst, .bool true, .int .u8 sv], .agg #[.int .u64 ai1, .int .u64 ai2, .int .u64 ap1, .int .u64 ap2, .int .u64 aq1, .int .u64 aq2, .int .u64 ar1, .int .u64 ar2, .int .u64 as1, .int .u64 as2, .int .u64 atg, .int .u32 alg, .int .u16 acd, .int .u16 afl, .int .u64 ast, .int .u64 ei1, .int .u64 ei2, .int .u64 ep1, .int .u64 ep2, .int .u64 eq1, .int .u64 eq2, .int .u64 er1, .int .u64 er2, .int .u64 es1, .int .u64 es2, .int .u64 etg, .int .u32 elg, .int .u16 ecd, .int .u16 efl, .int .u64 est, .bool hd, .bool hc]] w fun r w' => r = .returned (.tuple #[.int .u32 0, .agg #[.int .u64 m1, .int .u64 m2]]) ∧ Below w.heap.size w w')
    (HL : ∀ w, Calls Try.prog 38 #[.agg #[.int .u64 yi1, .int .u64 yi2, .int .u64 yd1, .int .u64 yd2, .int .u64 yc1, .int .u64 yc2, .int .u64 ym1, .int .u64 ym2, .int .u64 yw1, .int .u64 yw2, .int .u64 ytg, .int .u32 yto, .int .u32 ylg, .int .u16 ycd, .int .u16 yfl, .int .u64 yst]] w fun r w' => r = .returned (.tuple #[.int .u64 at_, .bool ok]) ∧ Below w.heap.size w w')
    (HA : ∀ w, Calls Try.prog 25 #[.agg #[.int .u64 m1, .int .u64 m2], .agg #[.int .u64 ym1, .int .u64 ym2]] w fun r w' => r = .returned (.int .i64 ka) ∧ Below w.heap.size w w')
    (HM : ∀ w, Calls Try.prog 14 #[.agg #[.int .u64 yi1, .int .u64 yi2, .int .u64 yd1, .int .u64 yd2, .int .u64 yc1, .int .u64 yc2, .int .u64 ym1, .int .u64 ym2, .int .u64 yw1, .int .u64 yw2, .int .u64 ytg, .int .u32 yto, .int .u32 ylg, .int .u16 ycd, .int .u16 yfl, .int .u64 yst], .agg #[.int .u64 ym1, .int .u64 ym2], .agg #[.int .u64 ai1, .int .u64 ai2, .int .u64 ap1, .int .u64 ap2, .int .u64 aq1, .int .u64 aq2, .int .u64 ar1, .int .u64 ar2, .int .u64 as1, .int .u64 as2, .int .u64 atg, .int .u32 alg, .int .u16 acd, .int .u16 afl, .int .u64 ast, .int .u64 ei1, .int .u64 ei2, .int .u64 ep1, .int .u64 ep2, .int .u64 eq1, .int .u64 eq2, .int .u64 er1, .int .u64 er2, .int .u64 es1, .int .u64 es2, .int .u64 etg, .int .u32 elg, .int .u16 ecd, .int .u16 efl, .int .u64 est, .bool hd, .bool hc]] w fun r w' => r = .returned (.tuple #[.agg #[.int .u64 zai1, .int .u64 zai2, .int .u64 zap1, .int .u64 zap2, .int .u64 zaq1, .int .u64 zaq2, .int .u64 zar1, .int .u64 zar2, .int .u64 zas1, .int .u64 zas2, .int .u64 zatg, .int .u32 zalg, .int .u16 zacd, .int .u16 zafl, .int .u64 zast, .int .u64 zei1, .int .u64 zei2, .int .u64 zep1, .int .u64 zep2, .int .u64 zeq1, .int .u64 zeq2, .int .u64 zer1, .int .u64 zer2, .int .u64 zes1, .int .u64 zes2, .int .u64 zetg, .int .u32 zelg, .int .u16 zecd, .int .u16 zefl, .int .u64 zest, .bool zd, .bool zc], .bool zb]) ∧ Below w.heap.size w w')
    (H1 : ∀ w, Calls Try.prog 24 #[.agg #[.int .u64 zap1, .int .u64 zap2], .agg #[.int .u64 zaq1, .int .u64 zaq2]] w fun r w' => r = .returned (.tuple #[.agg #[.int .u64 dh, .int .u64 dl], .bool f1]) ∧ Below w.heap.size w w')
    (H2 : ∀ w, Calls Try.prog 24 #[.agg #[.int .u64 zer1, .int .u64 zer2], .agg #[.int .u64 zes1, .int .u64 zes2]] w fun r w' => r = .returned (.tuple #[.agg #[.int .u64 ch, .int .u64 cl], .bool f2]) ∧ Below w.heap.size w w')
    (HS : ∀ w, Calls Try.prog 18 #[.agg #[.int .u64 yi1, .int .u64 yi2, .int .u64 yd1, .int .u64 yd2, .int .u64 yc1, .int .u64 yc2, .int .u64 ym1, .int .u64 ym2, .int .u64 yw1, .int .u64 yw2, .int .u64 ytg, .int .u32 yto, .int .u32 ylg, .int .u16 ycd, .int .u16 yfl, .int .u64 yst], .agg #[.int .u64 m1, .int .u64 m2], .bool pb, .agg #[.int .u64 zai1, .int .u64 zai2, .int .u64 zap1, .int .u64 zap2, .int .u64 zaq1, .int .u64 zaq2, .int .u64 zar1, .int .u64 zar2, .int .u64 zas1, .int .u64 zas2, .int .u64 zatg, .int .u32 zalg, .int .u16 zacd, .int .u16 zafl, .int .u64 zast, .int .u64 zei1, .int .u64 zei2, .int .u64 zep1, .int .u64 zep2, .int .u64 zeq1, .int .u64 zeq2, .int .u64 zer1, .int .u64 zer2, .int .u64 zes1, .int .u64 zes2, .int .u64 zetg, .int .u32 zelg, .int .u16 zecd, .int .u16 zefl, .int .u64 zest, .bool zd, .bool zc]] w fun r w' => r = .returned (.tuple #[.agg #[.int .u64 uai1, .int .u64 uai2, .int .u64 uap1, .int .u64 uap2, .int .u64 uaq1, .int .u64 uaq2, .int .u64 uar1, .int .u64 uar2, .int .u64 uas1, .int .u64 uas2, .int .u64 uatg, .int .u32 ualg, .int .u16 uacd, .int .u16 uafl, .int .u64 uast, .int .u64 uei1, .int .u64 uei2, .int .u64 uep1, .int .u64 uep2, .int .u64 ueq1, .int .u64 ueq2, .int .u64 uer1, .int .u64 uer2, .int .u64 ues1, .int .u64 ues2, .int .u64 uetg, .int .u32 uelg, .int .u16 uecd, .int .u16 uefl, .int .u64 uest, .bool ud, .bool uc], .bool qb]) ∧ Below w.heap.size w w')
    (H3 : ∀ w, Calls Try.prog 24 #[.agg #[.int .u64 uap1, .int .u64 uap2], .agg #[.int .u64 uaq1, .int .u64 uaq2]] w fun r w' => r = .returned (.tuple #[.agg #[.int .u64 eh, .int .u64 el], .bool f3]) ∧ Below w.heap.size w w')
    (H4 : ∀ w, Calls Try.prog 24 #[.agg #[.int .u64 uer1, .int .u64 uer2], .agg #[.int .u64 ues1, .int .u64 ues2]] w fun r w' => r = .returned (.tuple #[.agg #[.int .u64 gh, .int .u64 gl], .bool f4]) ∧ Below w.heap.size w w')
    (K1 : ∀ w, Calls Try.prog 25 #[.agg #[.int .u64 eh, .int .u64 el], .agg #[.int .u64 dh, .int .u64 dl]] w fun r w' => r = .returned (.int .i64 k1) ∧ Below w.heap.size w w')
    (K2 : ∀ w, Calls Try.prog 25 #[.agg #[.int .u64 gh, .int .u64 gl], .agg #[.int .u64 ch, .int .u64 cl]] w fun r w' => r = .returned (.int .i64 k2) ∧ Below w.heap.size w w')
    (w : World) : Calls Try.prog 13 #[.agg #[.int .u64 xi1, .int .u64 xi2, .int .u64 xd1, .int .u64 xd2, .int .u64 xc1, .int .u64 xc2, .int .u64 xm1, .int .u64 xm2, .int .u64 xw1, .int .u64 xw2, .int .u64 xtg, .int .u32 xto, .int .u32 xlg, .int .u16 xcd, .int .u16 xfl, .int .u64 xst, .int .u64 ss, .int .u64 yi1, .int .u64 yi2, .int .u64 yd1, .int .u64 yd2, .int .u64 yc1, .int .u64 yc2, .int .u64 ym1, .int .u64 ym2, .int .u64 yw1, .int .u64 yw2, .int .u64 ytg, .int .u32 yto, .int .u32 ylg, .int .u16 ycd, .int .u16 yfl, .int .u64 yst, .bool true, .int .u8 sv, .int .u64 ai1, .int .u64 ai2, .int .u64 ap1, .int .u64 ap2, .int .u64 aq1, .int .u64 aq2, .int .u64 ar1, .int .u64 ar2, .int .u64 as1, .int .u64 as2, .int .u64 atg, .int .u32 alg, .int .u16 acd, .int .u16 afl, .int .u64 ast, .int .u64 ei1, .int .u64 ei2, .int .u64 ep1, .int .u64 ep2, .int .u64 eq1, .int .u64 eq2, .int .u64 er1, .int .u64 er2, .int .u64 es1, .int .u64 es2, .int .u64 etg, .int .u32 elg, .int .u16 ecd, .int .u16 efl, .int .u64 est, .bool hd, .bool hc]] w fun r w' => r = .returned (.bool true) ∧ Below w.heap.size w w' := by
  replace HX := Lib.hid HX
  replace HV := Lib.hid HV
  replace HL := Lib.hid HL
  replace HA := Lib.hid HA
  replace HM := Lib.hid HM
  replace H1 := Lib.hid H1
  replace H2 := Lib.hid H2
  replace HS := Lib.hid HS
  replace H3 := Lib.hid H3
  replace H4 := Lib.hid H4
  replace K1 := Lib.hid K1
  replace K2 := Lib.hid K2
  replace F1 := Lib.hid F1
  replace F2 := Lib.hid F2
  replace F3 := Lib.hid F3
  have hb0 := Below.refl w.heap.size w
  go_enter Try.func13, Try.ntmps13
  go_upto_region 1 with fail
  replace hb0 := Lib.hid hb0
  refine abs_wp (fun Y_ => Below w.heap.size w Y_ ∧ Blk Y_ (w.heap.size) 68 #[.int .u64 xi1, .int .u64 xi2, .int .u64 xd1, .int .u64 xd2, .int .u64 xc1, .int .u64 xc2, .int .u64 xm1, .int .u64 xm2, .int .u64 xw1, .int .u64 xw2, .int .u64 xtg, .int .u32 xto, .int .u32 xlg, .int .u16 xcd, .int .u16 xfl, .int .u64 xst, .int .u64 ss, .int .u64 yi1, .int .u64 yi2, .int .u64 yd1, .int .u64 yd2, .int .u64 yc1, .int .u64 yc2, .int .u64 ym1, .int .u64 ym2, .int .u64 yw1, .int .u64 yw2, .int .u64 ytg, .int .u32 yto, .int .u32 ylg, .int .u16 ycd, .int .u16 yfl, .int .u64 yst, .bool true, .int .u8 sv, .int .u64 ai1, .int .u64 ai2, .int .u64 ap1, .int .u64 ap2, .int .u64 aq1, .int .u64 aq2, .int .u64 ar1, .int .u64 ar2, .int .u64 as1, .int .u64 as2, .int .u64 atg, .int .u32 alg, .int .u16 acd, .int .u16 afl, .int .u64 ast, .int .u64 ei1, .int .u64 ei2, .int .u64 ep1, .int .u64 ep2, .int .u64 eq1, .int .u64 eq2, .int .u64 er1, .int .u64 er2, .int .u64 es1, .int .u64 es2, .int .u64 etg, .int .u32 elg, .int .u16 ecd, .int .u16 efl, .int .u64 est, .bool hd, .bool hc]) ?_ ?_
  · have t_B := hb0.out
    refine ⟨by (repeat (first | with_reducible exact Below.refl _ _ | with_reducible assumption | (with_reducible refine bel_set ?_ (by first | exact Nat.le_refl _ | (simp; done) | (simp; omega) | omega) _) | with_reducible refine bel_grow ?_ _ | with_reducible refine Below.drew ?_ | with_reducible refine bel_alloc ?_ _ | with_reducible refine bel_eld ?_ (by assumption))), ?_⟩
    · (repeat (first | with_reducible assumption | (with_reducible refine Blk.new' ?_; first | with_reducible rfl | (simp; done)) | with_reducible refine Blk.alloc ?_ _ | with_reducible refine Blk.grow ?_ _ | with_reducible refine Blk.drew ?_ | with_reducible refine Blk.drewN ?_ _ | (with_reducible refine Blk.far ?_ (by first | (dsimp only; omega) | (simp; omega)) _) | (with_reducible apply Blk.two) | (with_reducible refine Blk.kept ?_ (by assumption)) | (with_reducible refine Blk.setRow ?_ (by first | rfl | (simp; done))) | (with_reducible refine Blk.setRow_far ?_ (by first | omega | (simp; omega)) _) | (with_reducible refine Blk.set' ?_ _ _ (by first | rfl | (simp; done)))))
  clear hb0
  rintro X0 ⟨hB_1, f_x⟩
  have r_x := rowAt_blk f_x
  have x_l := f_x.lt
  have x_14 : X0.cell? ⟨w.heap.size, 14, none⟩ = some (.int .u16 xfl) := (f_x).cell 14
  have x_f14 := (f_x).frozen 14
  have x_16 : X0.cell? ⟨w.heap.size, 16, none⟩ = some (.int .u64 ss) := (f_x).cell 16
  have x_f16 := (f_x).frozen 16
  have x_23 : X0.cell? ⟨w.heap.size, 23, none⟩ = some (.int .u64 ym1) := (f_x).cell 23
  have x_f23 := (f_x).frozen 23
  have x_24 : X0.cell? ⟨w.heap.size, 24, none⟩ = some (.int .u64 ym2) := (f_x).cell 24
  have x_f24 := (f_x).frozen 24
  have x_31 : X0.cell? ⟨w.heap.size, 31, none⟩ = some (.int .u16 yfl) := (f_x).cell 31
  have x_f31 := (f_x).frozen 31
  have x_33 : X0.cell? ⟨w.heap.size, 33, none⟩ = some (.bool true) := (f_x).cell 33
  have x_f33 := (f_x).frozen 33
  have x_34 : X0.cell? ⟨w.heap.size, 34, none⟩ = some (.int .u8 sv) := (f_x).cell 34
  have x_f34 := (f_x).frozen 34
  have x_39 : X0.cell? ⟨w.heap.size, 39, none⟩ = some (.int .u64 aq1) := (f_x).cell 39
  have x_f39 := (f_x).frozen 39
  have x_40 : X0.cell? ⟨w.heap.size, 40, none⟩ = some (.int .u64 aq2) := (f_x).cell 40
  have x_f40 := (f_x).frozen 40
  replace f_x := Lib.hid f_x
  replace hB_1 := Lib.hid hB_1
  go_wp2_with fail
  refine (HV.out _).mono ?_
  rintro e w_2 ⟨rfl, hb_2⟩
  have z_2 := hb_2.size
  try simp at z_2
  have t_ := hB_1.out
  have hB_2 := bel_eld (w := w) (X := _) (by first | ((repeat (first | with_reducible exact Below.refl _ _ | with_reducible assumption | (with_reducible refine bel_set ?_ (by first | exact Nat.le_refl _ | (simp; done) | (simp; omega) | omega) _) | with_reducible refine bel_grow ?_ _ | with_reducible refine Below.drew ?_ | with_reducible refine below_drewN ?_ _ | with_reducible refine bel_alloc ?_ _ | with_reducible refine bel_trans ?_ (by assumption))); done) | (repeat (first | exact Below.refl _ _ | assumption | refine below_drewN ?_ _ | refine bel_grow ?_ _ | refine Below.drew ?_ | refine bel_alloc ?_ _ | refine bel_set ?_ (by first | exact Nat.le_refl _ | (simp; done) | (simp; omega) | omega) _ | refine bel_trans ?_ (by assumption)))) hb_2
  clear t_
  have t_x := f_x.out
  have g_x : Blk w_2 (w.heap.size) 68 #[.int .u64 xi1, .int .u64 xi2, .int .u64 xd1, .int .u64 xd2, .int .u64 xc1, .int .u64 xc2, .int .u64 xm1, .int .u64 xm2, .int .u64 xw1, .int .u64 xw2, .int .u64 xtg, .int .u32 xto, .int .u32 xlg, .int .u16 xcd, .int .u16 xfl, .int .u64 xst, .int .u64 ss, .int .u64 yi1, .int .u64 yi2, .int .u64 yd1, .int .u64 yd2, .int .u64 yc1, .int .u64 yc2, .int .u64 ym1, .int .u64 ym2, .int .u64 yw1, .int .u64 yw2, .int .u64 ytg, .int .u32 yto, .int .u32 ylg, .int .u16 ycd, .int .u16 yfl, .int .u64 yst, .bool true, .int .u8 sv, .int .u64 ai1, .int .u64 ai2, .int .u64 ap1, .int .u64 ap2, .int .u64 aq1, .int .u64 aq2, .int .u64 ar1, .int .u64 ar2, .int .u64 as1, .int .u64 as2, .int .u64 atg, .int .u32 alg, .int .u16 acd, .int .u16 afl, .int .u64 ast, .int .u64 ei1, .int .u64 ei2, .int .u64 ep1, .int .u64 ep2, .int .u64 eq1, .int .u64 eq2, .int .u64 er1, .int .u64 er2, .int .u64 es1, .int .u64 es2, .int .u64 etg, .int .u32 elg, .int .u16 ecd, .int .u16 efl, .int .u64 est, .bool hd, .bool hc] := by
    refine Blk.kept ?_ hb_2
    (repeat (first | with_reducible assumption | (with_reducible refine Blk.new' ?_; first | with_reducible rfl | (simp; done)) | with_reducible refine Blk.alloc ?_ _ | with_reducible refine Blk.grow ?_ _ | with_reducible refine Blk.drew ?_ | with_reducible refine Blk.drewN ?_ _ | (with_reducible refine Blk.far ?_ (by first | (dsimp only; omega) | (simp; omega)) _) | (with_reducible apply Blk.two) | (with_reducible refine Blk.set' ?_ _ _ ?_) | (with_reducible rfl) | rfl))
  clear f_x x_l r_x x_14 x_f14 x_16 x_f16 x_23 x_f23 x_24 x_f24 x_31 x_f31 x_33 x_f33 x_34 x_f34 x_39 x_f39 x_40 x_f40 t_x hB_1 hb_2
  have f_x := g_x
  clear g_x
  have r_x := rowAt_blk f_x
  have x_l := f_x.lt
  have x_14 : w_2.cell? ⟨w.heap.size, 14, none⟩ = some (.int .u16 xfl) := (f_x).cell 14
  have x_f14 := (f_x).frozen 14
  have x_16 : w_2.cell? ⟨w.heap.size, 16, none⟩ = some (.int .u64 ss) := (f_x).cell 16
  have x_f16 := (f_x).frozen 16
  have x_23 : w_2.cell? ⟨w.heap.size, 23, none⟩ = some (.int .u64 ym1) := (f_x).cell 23
  have x_f23 := (f_x).frozen 23
  have x_24 : w_2.cell? ⟨w.heap.size, 24, none⟩ = some (.int .u64 ym2) := (f_x).cell 24
  have x_f24 := (f_x).frozen 24
  have x_31 : w_2.cell? ⟨w.heap.size, 31, none⟩ = some (.int .u16 yfl) := (f_x).cell 31
  have x_f31 := (f_x).frozen 31
  have x_33 : w_2.cell? ⟨w.heap.size, 33, none⟩ = some (.bool true) := (f_x).cell 33
  have x_f33 := (f_x).frozen 33
  have x_34 : w_2.cell? ⟨w.heap.size, 34, none⟩ = some (.int .u8 sv) := (f_x).cell 34
  have x_f34 := (f_x).frozen 34
  have x_39 : w_2.cell? ⟨w.heap.size, 39, none⟩ = some (.int .u64 aq1) := (f_x).cell 39
  have x_f39 := (f_x).frozen 39
  have x_40 : w_2.cell? ⟨w.heap.size, 40, none⟩ = some (.int .u64 aq2) := (f_x).cell 40
  have x_f40 := (f_x).frozen 40
  replace f_x := Lib.hid f_x
  replace hB_2 := Lib.hid hB_2
  go_wp2_with fail
  refine (HL.out _).mono ?_
  rintro e w_3 ⟨rfl, hb_3⟩
  have z_3 := hb_3.size
  try simp at z_3
  have t_ := hB_2.out
  have hB_3 := bel_eld (w := w) (X := _) (by first | ((repeat (first | with_reducible exact Below.refl _ _ | with_reducible assumption | (with_reducible refine bel_set ?_ (by first | exact Nat.le_refl _ | (simp; done) | (simp; omega) | omega) _) | with_reducible refine bel_grow ?_ _ | with_reducible refine Below.drew ?_ | with_reducible refine below_drewN ?_ _ | with_reducible refine bel_alloc ?_ _ | with_reducible refine bel_trans ?_ (by assumption))); done) | (repeat (first | exact Below.refl _ _ | assumption | refine below_drewN ?_ _ | refine bel_grow ?_ _ | refine Below.drew ?_ | refine bel_alloc ?_ _ | refine bel_set ?_ (by first | exact Nat.le_refl _ | (simp; done) | (simp; omega) | omega) _ | refine bel_trans ?_ (by assumption)))) hb_3
  clear t_
  have t_x := f_x.out
  have g_x : Blk w_3 (w.heap.size) 68 #[.int .u64 xi1, .int .u64 xi2, .int .u64 xd1, .int .u64 xd2, .int .u64 xc1, .int .u64 xc2, .int .u64 xm1, .int .u64 xm2, .int .u64 xw1, .int .u64 xw2, .int .u64 xtg, .int .u32 xto, .int .u32 xlg, .int .u16 xcd, .int .u16 xfl, .int .u64 xst, .int .u64 ss, .int .u64 yi1, .int .u64 yi2, .int .u64 yd1, .int .u64 yd2, .int .u64 yc1, .int .u64 yc2, .int .u64 ym1, .int .u64 ym2, .int .u64 yw1, .int .u64 yw2, .int .u64 ytg, .int .u32 yto, .int .u32 ylg, .int .u16 ycd, .int .u16 yfl, .int .u64 yst, .bool true, .int .u8 sv, .int .u64 ai1, .int .u64 ai2, .int .u64 ap1, .int .u64 ap2, .int .u64 aq1, .int .u64 aq2, .int .u64 ar1, .int .u64 ar2, .int .u64 as1, .int .u64 as2, .int .u64 atg, .int .u32 alg, .int .u16 acd, .int .u16 afl, .int .u64 ast, .int .u64 ei1, .int .u64 ei2, .int .u64 ep1, .int .u64 ep2, .int .u64 eq1, .int .u64 eq2, .int .u64 er1, .int .u64 er2, .int .u64 es1, .int .u64 es2, .int .u64 etg, .int .u32 elg, .int .u16 ecd, .int .u16 efl, .int .u64 est, .bool hd, .bool hc] := by
    refine Blk.kept ?_ hb_3
    (repeat (first | with_reducible assumption | (with_reducible refine Blk.new' ?_; first | with_reducible rfl | (simp; done)) | with_reducible refine Blk.alloc ?_ _ | with_reducible refine Blk.grow ?_ _ | with_reducible refine Blk.drew ?_ | with_reducible refine Blk.drewN ?_ _ | (with_reducible refine Blk.far ?_ (by first | (dsimp only; omega) | (simp; omega)) _) | (with_reducible apply Blk.two) | (with_reducible refine Blk.set' ?_ _ _ ?_) | (with_reducible rfl) | rfl))
  have g_m : Blk w_3 (w_2.heap.size) 24 #[.int .u64 m1, .int .u64 m2] := by
    refine Blk.kept ?_ hb_3
    (repeat (first | with_reducible assumption | (with_reducible refine Blk.new' ?_; first | with_reducible rfl | (simp; done)) | with_reducible refine Blk.alloc ?_ _ | with_reducible refine Blk.grow ?_ _ | with_reducible refine Blk.drew ?_ | with_reducible refine Blk.drewN ?_ _ | (with_reducible refine Blk.far ?_ (by first | (dsimp only; omega) | (simp; omega)) _) | (with_reducible apply Blk.two) | (with_reducible refine Blk.set' ?_ _ _ ?_) | (with_reducible rfl) | rfl))
  clear f_x x_l r_x x_14 x_f14 x_16 x_f16 x_23 x_f23 x_24 x_f24 x_31 x_f31 x_33 x_f33 x_34 x_f34 x_39 x_f39 x_40 x_f40 t_x hB_2 hb_3
  have f_x := g_x
  clear g_x
  have f_m := g_m
  clear g_m
  have r_x := rowAt_blk f_x
  have x_l := f_x.lt
  have x_14 : w_3.cell? ⟨w.heap.size, 14, none⟩ = some (.int .u16 xfl) := (f_x).cell 14
  have x_f14 := (f_x).frozen 14
  have x_16 : w_3.cell? ⟨w.heap.size, 16, none⟩ = some (.int .u64 ss) := (f_x).cell 16
  have x_f16 := (f_x).frozen 16
  have x_23 : w_3.cell? ⟨w.heap.size, 23, none⟩ = some (.int .u64 ym1) := (f_x).cell 23
  have x_f23 := (f_x).frozen 23
  have x_24 : w_3.cell? ⟨w.heap.size, 24, none⟩ = some (.int .u64 ym2) := (f_x).cell 24
  have x_f24 := (f_x).frozen 24
  have x_31 : w_3.cell? ⟨w.heap.size, 31, none⟩ = some (.int .u16 yfl) := (f_x).cell 31
  have x_f31 := (f_x).frozen 31
  have x_33 : w_3.cell? ⟨w.heap.size, 33, none⟩ = some (.bool true) := (f_x).cell 33
  have x_f33 := (f_x).frozen 33
  have x_34 : w_3.cell? ⟨w.heap.size, 34, none⟩ = some (.int .u8 sv) := (f_x).cell 34
  have x_f34 := (f_x).frozen 34
  have x_39 : w_3.cell? ⟨w.heap.size, 39, none⟩ = some (.int .u64 aq1) := (f_x).cell 39
  have x_f39 := (f_x).frozen 39
  have x_40 : w_3.cell? ⟨w.heap.size, 40, none⟩ = some (.int .u64 aq2) := (f_x).cell 40
  have x_f40 := (f_x).frozen 40
  replace f_x := Lib.hid f_x
  have m_0 : w_3.cell? ⟨w_2.heap.size, 0, none⟩ = some (.int .u64 m1) := (f_m).cell 0
  have m_1 : w_3.cell? ⟨w_2.heap.size, 1, none⟩ = some (.int .u64 m2) := (f_m).cell 1
  have m_f0 := (f_m).frozen 0
  have m_f1 := (f_m).frozen 1
  have m_l := (f_m).lt
  replace f_m := Lib.hid f_m
  replace hB_3 := Lib.hid hB_3
  clear HV HL
  go_upto_region 5 with fail
  refine abs_wp (fun Y_ => Below w.heap.size w Y_ ∧ Blk Y_ (w.heap.size) 68 #[.int .u64 xi1, .int .u64 xi2, .int .u64 xd1, .int .u64 xd2, .int .u64 xc1, .int .u64 xc2, .int .u64 xm1, .int .u64 xm2, .int .u64 xw1, .int .u64 xw2, .int .u64 xtg, .int .u32 xto, .int .u32 xlg, .int .u16 xcd, .int .u16 xfl, .int .u64 xst, .int .u64 ss, .int .u64 yi1, .int .u64 yi2, .int .u64 yd1, .int .u64 yd2, .int .u64 yc1, .int .u64 yc2, .int .u64 ym1, .int .u64 ym2, .int .u64 yw1, .int .u64 yw2, .int .u64 ytg, .int .u32 yto, .int .u32 ylg, .int .u16 ycd, .int .u16 yfl, .int .u64 yst, .bool true, .int .u8 sv, .int .u64 ai1, .int .u64 ai2, .int .u64 ap1, .int .u64 ap2, .int .u64 aq1, .int .u64 aq2, .int .u64 ar1, .int .u64 ar2, .int .u64 as1, .int .u64 as2, .int .u64 atg, .int .u32 alg, .int .u16 acd, .int .u16 afl, .int .u64 ast, .int .u64 ei1, .int .u64 ei2, .int .u64 ep1, .int .u64 ep2, .int .u64 eq1, .int .u64 eq2, .int .u64 er1, .int .u64 er2, .int .u64 es1, .int .u64 es2, .int .u64 etg, .int .u32 elg, .int .u16 ecd, .int .u16 efl, .int .u64 est, .bool hd, .bool hc] ∧ Blk Y_ (w_2.heap.size) 24 #[.int .u64 m1, .int .u64 m2]) ?_ ?_
  · have t_B := hB_3.out
    have t_x := f_x.out
    have t_m := f_m.out
    refine ⟨by (repeat (first | with_reducible exact Below.refl _ _ | with_reducible assumption | (with_reducible refine bel_set ?_ (by first | exact Nat.le_refl _ | (simp; done) | (simp; omega) | omega) _) | with_reducible refine bel_grow ?_ _ | with_reducible refine Below.drew ?_ | with_reducible refine bel_alloc ?_ _ | with_reducible refine bel_eld ?_ (by assumption))), ?_, ?_⟩
    · (repeat (first | with_reducible assumption | (with_reducible refine Blk.new' ?_; first | with_reducible rfl | (simp; done)) | with_reducible refine Blk.alloc ?_ _ | with_reducible refine Blk.grow ?_ _ | with_reducible refine Blk.drew ?_ | with_reducible refine Blk.drewN ?_ _ | (with_reducible refine Blk.far ?_ (by first | (dsimp only; omega) | (simp; omega)) _) | (with_reducible apply Blk.two) | (with_reducible refine Blk.kept ?_ (by assumption)) | (with_reducible refine Blk.setRow ?_ (by first | rfl | (simp; done))) | (with_reducible refine Blk.setRow_far ?_ (by first | omega | (simp; omega)) _) | (with_reducible refine Blk.set' ?_ _ _ (by first | rfl | (simp; done)))))
    · (repeat (first | with_reducible assumption | (with_reducible refine Blk.new' ?_; first | with_reducible rfl | (simp; done)) | with_reducible refine Blk.alloc ?_ _ | with_reducible refine Blk.grow ?_ _ | with_reducible refine Blk.drew ?_ | with_reducible refine Blk.drewN ?_ _ | (with_reducible refine Blk.far ?_ (by first | (dsimp only; omega) | (simp; omega)) _) | (with_reducible apply Blk.two) | (with_reducible refine Blk.kept ?_ (by assumption)) | (with_reducible refine Blk.setRow ?_ (by first | rfl | (simp; done))) | (with_reducible refine Blk.setRow_far ?_ (by first | omega | (simp; omega)) _) | (with_reducible refine Blk.set' ?_ _ _ (by first | rfl | (simp; done)))))
  clear f_x x_l r_x x_14 x_f14 x_16 x_f16 x_23 x_f23 x_24 x_f24 x_31 x_f31 x_33 x_f33 x_34 x_f34 x_39 x_f39 x_40 x_f40 f_m m_l m_0 m_1 m_f0 m_f1 hB_3
  rintro X1 ⟨hB_4, f_x, f_m⟩
  have r_x := rowAt_blk f_x
  have x_l := f_x.lt
  have x_14 : X1.cell? ⟨w.heap.size, 14, none⟩ = some (.int .u16 xfl) := (f_x).cell 14
  have x_f14 := (f_x).frozen 14
  have x_16 : X1.cell? ⟨w.heap.size, 16, none⟩ = some (.int .u64 ss) := (f_x).cell 16
  have x_f16 := (f_x).frozen 16
  have x_23 : X1.cell? ⟨w.heap.size, 23, none⟩ = some (.int .u64 ym1) := (f_x).cell 23
  have x_f23 := (f_x).frozen 23
  have x_24 : X1.cell? ⟨w.heap.size, 24, none⟩ = some (.int .u64 ym2) := (f_x).cell 24
  have x_f24 := (f_x).frozen 24
  have x_31 : X1.cell? ⟨w.heap.size, 31, none⟩ = some (.int .u16 yfl) := (f_x).cell 31
  have x_f31 := (f_x).frozen 31
  have x_33 : X1.cell? ⟨w.heap.size, 33, none⟩ = some (.bool true) := (f_x).cell 33
  have x_f33 := (f_x).frozen 33
  have x_34 : X1.cell? ⟨w.heap.size, 34, none⟩ = some (.int .u8 sv) := (f_x).cell 34
  have x_f34 := (f_x).frozen 34
  have x_39 : X1.cell? ⟨w.heap.size, 39, none⟩ = some (.int .u64 aq1) := (f_x).cell 39
  have x_f39 := (f_x).frozen 39
  have x_40 : X1.cell? ⟨w.heap.size, 40, none⟩ = some (.int .u64 aq2) := (f_x).cell 40
  have x_f40 := (f_x).frozen 40
  replace f_x := Lib.hid f_x
  have m_0 : X1.cell? ⟨w_2.heap.size, 0, none⟩ = some (.int .u64 m1) := (f_m).cell 0
  have m_1 : X1.cell? ⟨w_2.heap.size, 1, none⟩ = some (.int .u64 m2) := (f_m).cell 1
  have m_f0 := (f_m).frozen 0
  have m_f1 := (f_m).frozen 1
  have m_l := (f_m).lt
  replace f_m := Lib.hid f_m
  replace hB_4 := Lib.hid hB_4
  go_cut [88] (fun s wx => s = .bool false ∧ Below w.heap.size w wx ∧ Blk wx (w.heap.size) 68 #[.int .u64 xi1, .int .u64 xi2, .int .u64 xd1, .int .u64 xd2, .int .u64 xc1, .int .u64 xc2, .int .u64 xm1, .int .u64 xm2, .int .u64 xw1, .int .u64 xw2, .int .u64 xtg, .int .u32 xto, .int .u32 xlg, .int .u16 xcd, .int .u16 xfl, .int .u64 xst, .int .u64 ss, .int .u64 yi1, .int .u64 yi2, .int .u64 yd1, .int .u64 yd2, .int .u64 yc1, .int .u64 yc2, .int .u64 ym1, .int .u64 ym2, .int .u64 yw1, .int .u64 yw2, .int .u64 ytg, .int .u32 yto, .int .u32 ylg, .int .u16 ycd, .int .u16 yfl, .int .u64 yst, .bool true, .int .u8 sv, .int .u64 ai1, .int .u64 ai2, .int .u64 ap1, .int .u64 ap2, .int .u64 aq1, .int .u64 aq2, .int .u64 ar1, .int .u64 ar2, .int .u64 as1, .int .u64 as2, .int .u64 atg, .int .u32 alg, .int .u16 acd, .int .u16 afl, .int .u64 ast, .int .u64 ei1, .int .u64 ei2, .int .u64 ep1, .int .u64 ep2, .int .u64 eq1, .int .u64 eq2, .int .u64 er1, .int .u64 er2, .int .u64 es1, .int .u64 es2, .int .u64 etg, .int .u32 elg, .int .u16 ecd, .int .u16 efl, .int .u64 est, .bool hd, .bool hc] ∧ Blk wx (w_2.heap.size) 24 #[.int .u64 m1, .int .u64 m2])
  case first =>

    cases hg : decide (2 ≤ sv)
    case false =>
      cases ok
      case false =>

        go_wp2_with fail
        refine (HA.out _).mono ?_
        rintro e w_5 ⟨rfl, hb_5⟩
        have z_5 := hb_5.size
        try simp at z_5
        have t_ := hB_4.out
        have hB_5 := bel_eld (w := w) (X := _) (by first | ((repeat (first | with_reducible exact Below.refl _ _ | with_reducible assumption | (with_reducible refine bel_set ?_ (by first | exact Nat.le_refl _ | (simp; done) | (simp; omega) | omega) _) | with_reducible refine bel_grow ?_ _ | with_reducible refine Below.drew ?_ | with_reducible refine below_drewN ?_ _ | with_reducible refine bel_alloc ?_ _ | with_reducible refine bel_trans ?_ (by assumption))); done) | (repeat (first | exact Below.refl _ _ | assumption | refine below_drewN ?_ _ | refine bel_grow ?_ _ | refine Below.drew ?_ | refine bel_alloc ?_ _ | refine bel_set ?_ (by first | exact Nat.le_refl _ | (simp; done) | (simp; omega) | omega) _ | refine bel_trans ?_ (by assumption)))) hb_5
        clear t_
        have t_x := f_x.out
        have t_m := f_m.out
        have g_x : Blk w_5 (w.heap.size) 68 #[.int .u64 xi1, .int .u64 xi2, .int .u64 xd1, .int .u64 xd2, .int .u64 xc1, .int .u64 xc2, .int .u64 xm1, .int .u64 xm2, .int .u64 xw1, .int .u64 xw2, .int .u64 xtg, .int .u32 xto, .int .u32 xlg, .int .u16 xcd, .int .u16 xfl, .int .u64 xst, .int .u64 ss, .int .u64 yi1, .int .u64 yi2, .int .u64 yd1, .int .u64 yd2, .int .u64 yc1, .int .u64 yc2, .int .u64 ym1, .int .u64 ym2, .int .u64 yw1, .int .u64 yw2, .int .u64 ytg, .int .u32 yto, .int .u32 ylg, .int .u16 ycd, .int .u16 yfl, .int .u64 yst, .bool true, .int .u8 sv, .int .u64 ai1, .int .u64 ai2, .int .u64 ap1, .int .u64 ap2, .int .u64 aq1, .int .u64 aq2, .int .u64 ar1, .int .u64 ar2, .int .u64 as1, .int .u64 as2, .int .u64 atg, .int .u32 alg, .int .u16 acd, .int .u16 afl, .int .u64 ast, .int .u64 ei1, .int .u64 ei2, .int .u64 ep1, .int .u64 ep2, .int .u64 eq1, .int .u64 eq2, .int .u64 er1, .int .u64 er2, .int .u64 es1, .int .u64 es2, .int .u64 etg, .int .u32 elg, .int .u16 ecd, .int .u16 efl, .int .u64 est, .bool hd, .bool hc] := by
          refine Blk.kept ?_ hb_5
          (repeat (first | with_reducible assumption | (with_reducible refine Blk.new' ?_; first | with_reducible rfl | (simp; done)) | with_reducible refine Blk.alloc ?_ _ | with_reducible refine Blk.grow ?_ _ | with_reducible refine Blk.drew ?_ | with_reducible refine Blk.drewN ?_ _ | (with_reducible refine Blk.far ?_ (by first | (dsimp only; omega) | (simp; omega)) _) | (with_reducible apply Blk.two) | (with_reducible refine Blk.set' ?_ _ _ ?_) | (with_reducible rfl) | rfl))
        have g_m : Blk w_5 (w_2.heap.size) 24 #[.int .u64 m1, .int .u64 m2] := by
          refine Blk.kept ?_ hb_5
          (repeat (first | with_reducible assumption | (with_reducible refine Blk.new' ?_; first | with_reducible rfl | (simp; done)) | with_reducible refine Blk.alloc ?_ _ | with_reducible refine Blk.grow ?_ _ | with_reducible refine Blk.drew ?_ | with_reducible refine Blk.drewN ?_ _ | (with_reducible refine Blk.far ?_ (by first | (dsimp only; omega) | (simp; omega)) _) | (with_reducible apply Blk.two) | (with_reducible refine Blk.set' ?_ _ _ ?_) | (with_reducible rfl) | rfl))
        clear f_x x_l r_x x_14 x_f14 x_16 x_f16 x_23 x_f23 x_24 x_f24 x_31 x_f31 x_33 x_f33 x_34 x_f34 x_39 x_f39 x_40 x_f40 f_m m_l m_0 m_1 m_f0 m_f1 t_x t_m hB_4 hb_5
        have f_x := g_x
        clear g_x
        have f_m := g_m
        clear g_m
        have r_x := rowAt_blk f_x
        have x_l := f_x.lt
        have x_14 : w_5.cell? ⟨w.heap.size, 14, none⟩ = some (.int .u16 xfl) := (f_x).cell 14
        have x_f14 := (f_x).frozen 14
        have x_16 : w_5.cell? ⟨w.heap.size, 16, none⟩ = some (.int .u64 ss) := (f_x).cell 16
        have x_f16 := (f_x).frozen 16
        have x_23 : w_5.cell? ⟨w.heap.size, 23, none⟩ = some (.int .u64 ym1) := (f_x).cell 23
        have x_f23 := (f_x).frozen 23
        have x_24 : w_5.cell? ⟨w.heap.size, 24, none⟩ = some (.int .u64 ym2) := (f_x).cell 24
        have x_f24 := (f_x).frozen 24
        have x_31 : w_5.cell? ⟨w.heap.size, 31, none⟩ = some (.int .u16 yfl) := (f_x).cell 31
        have x_f31 := (f_x).frozen 31
        have x_33 : w_5.cell? ⟨w.heap.size, 33, none⟩ = some (.bool true) := (f_x).cell 33
        have x_f33 := (f_x).frozen 33
        have x_34 : w_5.cell? ⟨w.heap.size, 34, none⟩ = some (.int .u8 sv) := (f_x).cell 34
        have x_f34 := (f_x).frozen 34
        have x_39 : w_5.cell? ⟨w.heap.size, 39, none⟩ = some (.int .u64 aq1) := (f_x).cell 39
        have x_f39 := (f_x).frozen 39
        have x_40 : w_5.cell? ⟨w.heap.size, 40, none⟩ = some (.int .u64 aq2) := (f_x).cell 40
        have x_f40 := (f_x).frozen 40
        replace f_x := Lib.hid f_x
        have m_0 : w_5.cell? ⟨w_2.heap.size, 0, none⟩ = some (.int .u64 m1) := (f_m).cell 0
        have m_1 : w_5.cell? ⟨w_2.heap.size, 1, none⟩ = some (.int .u64 m2) := (f_m).cell 1
        have m_f0 := (f_m).frozen 0
        have m_f1 := (f_m).frozen 1
        have m_l := (f_m).lt
        replace f_m := Lib.hid f_m
        replace hB_5 := Lib.hid hB_5
        go_wp2_with fail
        go_meet
        have t_B := hB_5.out
        have t_x := f_x.out
        have t_m := f_m.out
        exact ⟨rfl, by (repeat (first | with_reducible exact Below.refl _ _ | with_reducible assumption | (with_reducible refine bel_set ?_ (by first | exact Nat.le_refl _ | (simp; done) | (simp; omega) | omega) _) | with_reducible refine bel_grow ?_ _ | with_reducible refine Below.drew ?_ | with_reducible refine bel_alloc ?_ _ | (with_reducible refine below_setRow ?_ (by first | omega | (simp; omega)) _) | with_reducible refine bel_eld ?_ (by assumption))), by (repeat (first | with_reducible assumption | (with_reducible refine Blk.new' ?_; first | with_reducible rfl | (simp; done)) | with_reducible refine Blk.alloc ?_ _ | with_reducible refine Blk.grow ?_ _ | with_reducible refine Blk.drew ?_ | with_reducible refine Blk.drewN ?_ _ | (with_reducible refine Blk.far ?_ (by first | (dsimp only; omega) | (simp; omega)) _) | (with_reducible apply Blk.two) | (with_reducible refine Blk.kept ?_ (by assumption)) | (with_reducible refine Blk.setRow ?_ (by first | rfl | (simp; done))) | (with_reducible refine Blk.setRow_far ?_ (by first | omega | (simp; omega)) _) | (with_reducible refine Blk.set' ?_ _ _ (by first | rfl | (simp; done))))), by (repeat (first | with_reducible assumption | (with_reducible refine Blk.new' ?_; first | with_reducible rfl | (simp; done)) | with_reducible refine Blk.alloc ?_ _ | with_reducible refine Blk.grow ?_ _ | with_reducible refine Blk.drew ?_ | with_reducible refine Blk.drewN ?_ _ | (with_reducible refine Blk.far ?_ (by first | (dsimp only; omega) | (simp; omega)) _) | (with_reducible apply Blk.two) | (with_reducible refine Blk.kept ?_ (by assumption)) | (with_reducible refine Blk.setRow ?_ (by first | rfl | (simp; done))) | (with_reducible refine Blk.setRow_far ?_ (by first | omega | (simp; omega)) _) | (with_reducible refine Blk.set' ?_ _ _ (by first | rfl | (simp; done)))))⟩
      case true =>

        have q3 := F2.out rfl
        go_wp2_with fail
        refine (HA.out _).mono ?_
        rintro e w_5 ⟨rfl, hb_5⟩
        have z_5 := hb_5.size
        try simp at z_5
        have t_ := hB_4.out
        have hB_5 := bel_eld (w := w) (X := _) (by first | ((repeat (first | with_reducible exact Below.refl _ _ | with_reducible assumption | (with_reducible refine bel_set ?_ (by first | exact Nat.le_refl _ | (simp; done) | (simp; omega) | omega) _) | with_reducible refine bel_grow ?_ _ | with_reducible refine Below.drew ?_ | with_reducible refine below_drewN ?_ _ | with_reducible refine bel_alloc ?_ _ | with_reducible refine bel_trans ?_ (by assumption))); done) | (repeat (first | exact Below.refl _ _ | assumption | refine below_drewN ?_ _ | refine bel_grow ?_ _ | refine Below.drew ?_ | refine bel_alloc ?_ _ | refine bel_set ?_ (by first | exact Nat.le_refl _ | (simp; done) | (simp; omega) | omega) _ | refine bel_trans ?_ (by assumption)))) hb_5
        clear t_
        have t_x := f_x.out
        have t_m := f_m.out
        have g_x : Blk w_5 (w.heap.size) 68 #[.int .u64 xi1, .int .u64 xi2, .int .u64 xd1, .int .u64 xd2, .int .u64 xc1, .int .u64 xc2, .int .u64 xm1, .int .u64 xm2, .int .u64 xw1, .int .u64 xw2, .int .u64 xtg, .int .u32 xto, .int .u32 xlg, .int .u16 xcd, .int .u16 xfl, .int .u64 xst, .int .u64 ss, .int .u64 yi1, .int .u64 yi2, .int .u64 yd1, .int .u64 yd2, .int .u64 yc1, .int .u64 yc2, .int .u64 ym1, .int .u64 ym2, .int .u64 yw1, .int .u64 yw2, .int .u64 ytg, .int .u32 yto, .int .u32 ylg, .int .u16 ycd, .int .u16 yfl, .int .u64 yst, .bool true, .int .u8 sv, .int .u64 ai1, .int .u64 ai2, .int .u64 ap1, .int .u64 ap2, .int .u64 aq1, .int .u64 aq2, .int .u64 ar1, .int .u64 ar2, .int .u64 as1, .int .u64 as2, .int .u64 atg, .int .u32 alg, .int .u16 acd, .int .u16 afl, .int .u64 ast, .int .u64 ei1, .int .u64 ei2, .int .u64 ep1, .int .u64 ep2, .int .u64 eq1, .int .u64 eq2, .int .u64 er1, .int .u64 er2, .int .u64 es1, .int .u64 es2, .int .u64 etg, .int .u32 elg, .int .u16 ecd, .int .u16 efl, .int .u64 est, .bool hd, .bool hc] := by
          refine Blk.kept ?_ hb_5
          (repeat (first | with_reducible assumption | (with_reducible refine Blk.new' ?_; first | with_reducible rfl | (simp; done)) | with_reducible refine Blk.alloc ?_ _ | with_reducible refine Blk.grow ?_ _ | with_reducible refine Blk.drew ?_ | with_reducible refine Blk.drewN ?_ _ | (with_reducible refine Blk.far ?_ (by first | (dsimp only; omega) | (simp; omega)) _) | (with_reducible apply Blk.two) | (with_reducible refine Blk.set' ?_ _ _ ?_) | (with_reducible rfl) | rfl))
        have g_m : Blk w_5 (w_2.heap.size) 24 #[.int .u64 m1, .int .u64 m2] := by
          refine Blk.kept ?_ hb_5
          (repeat (first | with_reducible assumption | (with_reducible refine Blk.new' ?_; first | with_reducible rfl | (simp; done)) | with_reducible refine Blk.alloc ?_ _ | with_reducible refine Blk.grow ?_ _ | with_reducible refine Blk.drew ?_ | with_reducible refine Blk.drewN ?_ _ | (with_reducible refine Blk.far ?_ (by first | (dsimp only; omega) | (simp; omega)) _) | (with_reducible apply Blk.two) | (with_reducible refine Blk.set' ?_ _ _ ?_) | (with_reducible rfl) | rfl))
        clear f_x x_l r_x x_14 x_f14 x_16 x_f16 x_23 x_f23 x_24 x_f24 x_31 x_f31 x_33 x_f33 x_34 x_f34 x_39 x_f39 x_40 x_f40 f_m m_l m_0 m_1 m_f0 m_f1 t_x t_m hB_4 hb_5
        have f_x := g_x
        clear g_x
        have f_m := g_m
        clear g_m
        have r_x := rowAt_blk f_x
        have x_l := f_x.lt
        have x_14 : w_5.cell? ⟨w.heap.size, 14, none⟩ = some (.int .u16 xfl) := (f_x).cell 14
        have x_f14 := (f_x).frozen 14
        have x_16 : w_5.cell? ⟨w.heap.size, 16, none⟩ = some (.int .u64 ss) := (f_x).cell 16
        have x_f16 := (f_x).frozen 16
        have x_23 : w_5.cell? ⟨w.heap.size, 23, none⟩ = some (.int .u64 ym1) := (f_x).cell 23
        have x_f23 := (f_x).frozen 23
        have x_24 : w_5.cell? ⟨w.heap.size, 24, none⟩ = some (.int .u64 ym2) := (f_x).cell 24
        have x_f24 := (f_x).frozen 24
        have x_31 : w_5.cell? ⟨w.heap.size, 31, none⟩ = some (.int .u16 yfl) := (f_x).cell 31
        have x_f31 := (f_x).frozen 31
        have x_33 : w_5.cell? ⟨w.heap.size, 33, none⟩ = some (.bool true) := (f_x).cell 33
        have x_f33 := (f_x).frozen 33
        have x_34 : w_5.cell? ⟨w.heap.size, 34, none⟩ = some (.int .u8 sv) := (f_x).cell 34
        have x_f34 := (f_x).frozen 34
        have x_39 : w_5.cell? ⟨w.heap.size, 39, none⟩ = some (.int .u64 aq1) := (f_x).cell 39
        have x_f39 := (f_x).frozen 39
        have x_40 : w_5.cell? ⟨w.heap.size, 40, none⟩ = some (.int .u64 aq2) := (f_x).cell 40
        have x_f40 := (f_x).frozen 40
        replace f_x := Lib.hid f_x
        have m_0 : w_5.cell? ⟨w_2.heap.size, 0, none⟩ = some (.int .u64 m1) := (f_m).cell 0
        have m_1 : w_5.cell? ⟨w_2.heap.size, 1, none⟩ = some (.int .u64 m2) := (f_m).cell 1
        have m_f0 := (f_m).frozen 0
        have m_f1 := (f_m).frozen 1
        have m_l := (f_m).lt
        replace f_m := Lib.hid f_m
        replace hB_5 := Lib.hid hB_5
        go_wp2_with fail
        go_meet
        have t_B := hB_5.out
        have t_x := f_x.out
        have t_m := f_m.out
        exact ⟨rfl, by (repeat (first | with_reducible exact Below.refl _ _ | with_reducible assumption | (with_reducible refine bel_set ?_ (by first | exact Nat.le_refl _ | (simp; done) | (simp; omega) | omega) _) | with_reducible refine bel_grow ?_ _ | with_reducible refine Below.drew ?_ | with_reducible refine bel_alloc ?_ _ | (with_reducible refine below_setRow ?_ (by first | omega | (simp; omega)) _) | with_reducible refine bel_eld ?_ (by assumption))), by (repeat (first | with_reducible assumption | (with_reducible refine Blk.new' ?_; first | with_reducible rfl | (simp; done)) | with_reducible refine Blk.alloc ?_ _ | with_reducible refine Blk.grow ?_ _ | with_reducible refine Blk.drew ?_ | with_reducible refine Blk.drewN ?_ _ | (with_reducible refine Blk.far ?_ (by first | (dsimp only; omega) | (simp; omega)) _) | (with_reducible apply Blk.two) | (with_reducible refine Blk.kept ?_ (by assumption)) | (with_reducible refine Blk.setRow ?_ (by first | rfl | (simp; done))) | (with_reducible refine Blk.setRow_far ?_ (by first | omega | (simp; omega)) _) | (with_reducible refine Blk.set' ?_ _ _ (by first | rfl | (simp; done))))), by (repeat (first | with_reducible assumption | (with_reducible refine Blk.new' ?_; first | with_reducible rfl | (simp; done)) | with_reducible refine Blk.alloc ?_ _ | with_reducible refine Blk.grow ?_ _ | with_reducible refine Blk.drew ?_ | with_reducible refine Blk.drewN ?_ _ | (with_reducible refine Blk.far ?_ (by first | (dsimp only; omega) | (simp; omega)) _) | (with_reducible apply Blk.two) | (with_reducible refine Blk.kept ?_ (by assumption)) | (with_reducible refine Blk.setRow ?_ (by first | rfl | (simp; done))) | (with_reducible refine Blk.setRow_far ?_ (by first | omega | (simp; omega)) _) | (with_reducible refine Blk.set' ?_ _ _ (by first | rfl | (simp; done)))))⟩
    case true =>
      have q2 := F3.out hg
      cases ok
      case false =>

        go_wp2_with fail
        refine (HA.out _).mono ?_
        rintro e w_5 ⟨rfl, hb_5⟩
        have z_5 := hb_5.size
        try simp at z_5
        have t_ := hB_4.out
        have hB_5 := bel_eld (w := w) (X := _) (by first | ((repeat (first | with_reducible exact Below.refl _ _ | with_reducible assumption | (with_reducible refine bel_set ?_ (by first | exact Nat.le_refl _ | (simp; done) | (simp; omega) | omega) _) | with_reducible refine bel_grow ?_ _ | with_reducible refine Below.drew ?_ | with_reducible refine below_drewN ?_ _ | with_reducible refine bel_alloc ?_ _ | with_reducible refine bel_trans ?_ (by assumption))); done) | (repeat (first | exact Below.refl _ _ | assumption | refine below_drewN ?_ _ | refine bel_grow ?_ _ | refine Below.drew ?_ | refine bel_alloc ?_ _ | refine bel_set ?_ (by first | exact Nat.le_refl _ | (simp; done) | (simp; omega) | omega) _ | refine bel_trans ?_ (by assumption)))) hb_5
        clear t_
        have t_x := f_x.out
        have t_m := f_m.out
        have g_x : Blk w_5 (w.heap.size) 68 #[.int .u64 xi1, .int .u64 xi2, .int .u64 xd1, .int .u64 xd2, .int .u64 xc1, .int .u64 xc2, .int .u64 xm1, .int .u64 xm2, .int .u64 xw1, .int .u64 xw2, .int .u64 xtg, .int .u32 xto, .int .u32 xlg, .int .u16 xcd, .int .u16 xfl, .int .u64 xst, .int .u64 ss, .int .u64 yi1, .int .u64 yi2, .int .u64 yd1, .int .u64 yd2, .int .u64 yc1, .int .u64 yc2, .int .u64 ym1, .int .u64 ym2, .int .u64 yw1, .int .u64 yw2, .int .u64 ytg, .int .u32 yto, .int .u32 ylg, .int .u16 ycd, .int .u16 yfl, .int .u64 yst, .bool true, .int .u8 sv, .int .u64 ai1, .int .u64 ai2, .int .u64 ap1, .int .u64 ap2, .int .u64 aq1, .int .u64 aq2, .int .u64 ar1, .int .u64 ar2, .int .u64 as1, .int .u64 as2, .int .u64 atg, .int .u32 alg, .int .u16 acd, .int .u16 afl, .int .u64 ast, .int .u64 ei1, .int .u64 ei2, .int .u64 ep1, .int .u64 ep2, .int .u64 eq1, .int .u64 eq2, .int .u64 er1, .int .u64 er2, .int .u64 es1, .int .u64 es2, .int .u64 etg, .int .u32 elg, .int .u16 ecd, .int .u16 efl, .int .u64 est, .bool hd, .bool hc] := by
          refine Blk.kept ?_ hb_5
          (repeat (first | with_reducible assumption | (with_reducible refine Blk.new' ?_; first | with_reducible rfl | (simp; done)) | with_reducible refine Blk.alloc ?_ _ | with_reducible refine Blk.grow ?_ _ | with_reducible refine Blk.drew ?_ | with_reducible refine Blk.drewN ?_ _ | (with_reducible refine Blk.far ?_ (by first | (dsimp only; omega) | (simp; omega)) _) | (with_reducible apply Blk.two) | (with_reducible refine Blk.set' ?_ _ _ ?_) | (with_reducible rfl) | rfl))
        have g_m : Blk w_5 (w_2.heap.size) 24 #[.int .u64 m1, .int .u64 m2] := by
          refine Blk.kept ?_ hb_5
          (repeat (first | with_reducible assumption | (with_reducible refine Blk.new' ?_; first | with_reducible rfl | (simp; done)) | with_reducible refine Blk.alloc ?_ _ | with_reducible refine Blk.grow ?_ _ | with_reducible refine Blk.drew ?_ | with_reducible refine Blk.drewN ?_ _ | (with_reducible refine Blk.far ?_ (by first | (dsimp only; omega) | (simp; omega)) _) | (with_reducible apply Blk.two) | (with_reducible refine Blk.set' ?_ _ _ ?_) | (with_reducible rfl) | rfl))
        clear f_x x_l r_x x_14 x_f14 x_16 x_f16 x_23 x_f23 x_24 x_f24 x_31 x_f31 x_33 x_f33 x_34 x_f34 x_39 x_f39 x_40 x_f40 f_m m_l m_0 m_1 m_f0 m_f1 t_x t_m hB_4 hb_5
        have f_x := g_x
        clear g_x
        have f_m := g_m
        clear g_m
        have r_x := rowAt_blk f_x
        have x_l := f_x.lt
        have x_14 : w_5.cell? ⟨w.heap.size, 14, none⟩ = some (.int .u16 xfl) := (f_x).cell 14
        have x_f14 := (f_x).frozen 14
        have x_16 : w_5.cell? ⟨w.heap.size, 16, none⟩ = some (.int .u64 ss) := (f_x).cell 16
        have x_f16 := (f_x).frozen 16
        have x_23 : w_5.cell? ⟨w.heap.size, 23, none⟩ = some (.int .u64 ym1) := (f_x).cell 23
        have x_f23 := (f_x).frozen 23
        have x_24 : w_5.cell? ⟨w.heap.size, 24, none⟩ = some (.int .u64 ym2) := (f_x).cell 24
        have x_f24 := (f_x).frozen 24
        have x_31 : w_5.cell? ⟨w.heap.size, 31, none⟩ = some (.int .u16 yfl) := (f_x).cell 31
        have x_f31 := (f_x).frozen 31
        have x_33 : w_5.cell? ⟨w.heap.size, 33, none⟩ = some (.bool true) := (f_x).cell 33
        have x_f33 := (f_x).frozen 33
        have x_34 : w_5.cell? ⟨w.heap.size, 34, none⟩ = some (.int .u8 sv) := (f_x).cell 34
        have x_f34 := (f_x).frozen 34
        have x_39 : w_5.cell? ⟨w.heap.size, 39, none⟩ = some (.int .u64 aq1) := (f_x).cell 39
        have x_f39 := (f_x).frozen 39
        have x_40 : w_5.cell? ⟨w.heap.size, 40, none⟩ = some (.int .u64 aq2) := (f_x).cell 40
        have x_f40 := (f_x).frozen 40
        replace f_x := Lib.hid f_x
        have m_0 : w_5.cell? ⟨w_2.heap.size, 0, none⟩ = some (.int .u64 m1) := (f_m).cell 0
        have m_1 : w_5.cell? ⟨w_2.heap.size, 1, none⟩ = some (.int .u64 m2) := (f_m).cell 1
        have m_f0 := (f_m).frozen 0
        have m_f1 := (f_m).frozen 1
        have m_l := (f_m).lt
        replace f_m := Lib.hid f_m
        replace hB_5 := Lib.hid hB_5
        go_wp2_with fail
        go_meet
        have t_B := hB_5.out
        have t_x := f_x.out
        have t_m := f_m.out
        exact ⟨rfl, by (repeat (first | with_reducible exact Below.refl _ _ | with_reducible assumption | (with_reducible refine bel_set ?_ (by first | exact Nat.le_refl _ | (simp; done) | (simp; omega) | omega) _) | with_reducible refine bel_grow ?_ _ | with_reducible refine Below.drew ?_ | with_reducible refine bel_alloc ?_ _ | (with_reducible refine below_setRow ?_ (by first | omega | (simp; omega)) _) | with_reducible refine bel_eld ?_ (by assumption))), by (repeat (first | with_reducible assumption | (with_reducible refine Blk.new' ?_; first | with_reducible rfl | (simp; done)) | with_reducible refine Blk.alloc ?_ _ | with_reducible refine Blk.grow ?_ _ | with_reducible refine Blk.drew ?_ | with_reducible refine Blk.drewN ?_ _ | (with_reducible refine Blk.far ?_ (by first | (dsimp only; omega) | (simp; omega)) _) | (with_reducible apply Blk.two) | (with_reducible refine Blk.kept ?_ (by assumption)) | (with_reducible refine Blk.setRow ?_ (by first | rfl | (simp; done))) | (with_reducible refine Blk.setRow_far ?_ (by first | omega | (simp; omega)) _) | (with_reducible refine Blk.set' ?_ _ _ (by first | rfl | (simp; done))))), by (repeat (first | with_reducible assumption | (with_reducible refine Blk.new' ?_; first | with_reducible rfl | (simp; done)) | with_reducible refine Blk.alloc ?_ _ | with_reducible refine Blk.grow ?_ _ | with_reducible refine Blk.drew ?_ | with_reducible refine Blk.drewN ?_ _ | (with_reducible refine Blk.far ?_ (by first | (dsimp only; omega) | (simp; omega)) _) | (with_reducible apply Blk.two) | (with_reducible refine Blk.kept ?_ (by assumption)) | (with_reducible refine Blk.setRow ?_ (by first | rfl | (simp; done))) | (with_reducible refine Blk.setRow_far ?_ (by first | omega | (simp; omega)) _) | (with_reducible refine Blk.set' ?_ _ _ (by first | rfl | (simp; done)))))⟩
      case true =>

        have q3 := F2.out rfl
        go_wp2_with fail
        refine (HA.out _).mono ?_
        rintro e w_5 ⟨rfl, hb_5⟩
        have z_5 := hb_5.size
        try simp at z_5
        have t_ := hB_4.out
        have hB_5 := bel_eld (w := w) (X := _) (by first | ((repeat (first | with_reducible exact Below.refl _ _ | with_reducible assumption | (with_reducible refine bel_set ?_ (by first | exact Nat.le_refl _ | (simp; done) | (simp; omega) | omega) _) | with_reducible refine bel_grow ?_ _ | with_reducible refine Below.drew ?_ | with_reducible refine below_drewN ?_ _ | with_reducible refine bel_alloc ?_ _ | with_reducible refine bel_trans ?_ (by assumption))); done) | (repeat (first | exact Below.refl _ _ | assumption | refine below_drewN ?_ _ | refine bel_grow ?_ _ | refine Below.drew ?_ | refine bel_alloc ?_ _ | refine bel_set ?_ (by first | exact Nat.le_refl _ | (simp; done) | (simp; omega) | omega) _ | refine bel_trans ?_ (by assumption)))) hb_5
        clear t_
        have t_x := f_x.out
        have t_m := f_m.out
        have g_x : Blk w_5 (w.heap.size) 68 #[.int .u64 xi1, .int .u64 xi2, .int .u64 xd1, .int .u64 xd2, .int .u64 xc1, .int .u64 xc2, .int .u64 xm1, .int .u64 xm2, .int .u64 xw1, .int .u64 xw2, .int .u64 xtg, .int .u32 xto, .int .u32 xlg, .int .u16 xcd, .int .u16 xfl, .int .u64 xst, .int .u64 ss, .int .u64 yi1, .int .u64 yi2, .int .u64 yd1, .int .u64 yd2, .int .u64 yc1, .int .u64 yc2, .int .u64 ym1, .int .u64 ym2, .int .u64 yw1, .int .u64 yw2, .int .u64 ytg, .int .u32 yto, .int .u32 ylg, .int .u16 ycd, .int .u16 yfl, .int .u64 yst, .bool true, .int .u8 sv, .int .u64 ai1, .int .u64 ai2, .int .u64 ap1, .int .u64 ap2, .int .u64 aq1, .int .u64 aq2, .int .u64 ar1, .int .u64 ar2, .int .u64 as1, .int .u64 as2, .int .u64 atg, .int .u32 alg, .int .u16 acd, .int .u16 afl, .int .u64 ast, .int .u64 ei1, .int .u64 ei2, .int .u64 ep1, .int .u64 ep2, .int .u64 eq1, .int .u64 eq2, .int .u64 er1, .int .u64 er2, .int .u64 es1, .int .u64 es2, .int .u64 etg, .int .u32 elg, .int .u16 ecd, .int .u16 efl, .int .u64 est, .bool hd, .bool hc] := by
          refine Blk.kept ?_ hb_5
          (repeat (first | with_reducible assumption | (with_reducible refine Blk.new' ?_; first | with_reducible rfl | (simp; done)) | with_reducible refine Blk.alloc ?_ _ | with_reducible refine Blk.grow ?_ _ | with_reducible refine Blk.drew ?_ | with_reducible refine Blk.drewN ?_ _ | (with_reducible refine Blk.far ?_ (by first | (dsimp only; omega) | (simp; omega)) _) | (with_reducible apply Blk.two) | (with_reducible refine Blk.set' ?_ _ _ ?_) | (with_reducible rfl) | rfl))
        have g_m : Blk w_5 (w_2.heap.size) 24 #[.int .u64 m1, .int .u64 m2] := by
          refine Blk.kept ?_ hb_5
          (repeat (first | with_reducible assumption | (with_reducible refine Blk.new' ?_; first | with_reducible rfl | (simp; done)) | with_reducible refine Blk.alloc ?_ _ | with_reducible refine Blk.grow ?_ _ | with_reducible refine Blk.drew ?_ | with_reducible refine Blk.drewN ?_ _ | (with_reducible refine Blk.far ?_ (by first | (dsimp only; omega) | (simp; omega)) _) | (with_reducible apply Blk.two) | (with_reducible refine Blk.set' ?_ _ _ ?_) | (with_reducible rfl) | rfl))
        clear f_x x_l r_x x_14 x_f14 x_16 x_f16 x_23 x_f23 x_24 x_f24 x_31 x_f31 x_33 x_f33 x_34 x_f34 x_39 x_f39 x_40 x_f40 f_m m_l m_0 m_1 m_f0 m_f1 t_x t_m hB_4 hb_5
        have f_x := g_x
        clear g_x
        have f_m := g_m
        clear g_m
        have r_x := rowAt_blk f_x
        have x_l := f_x.lt
        have x_14 : w_5.cell? ⟨w.heap.size, 14, none⟩ = some (.int .u16 xfl) := (f_x).cell 14
        have x_f14 := (f_x).frozen 14
        have x_16 : w_5.cell? ⟨w.heap.size, 16, none⟩ = some (.int .u64 ss) := (f_x).cell 16
        have x_f16 := (f_x).frozen 16
        have x_23 : w_5.cell? ⟨w.heap.size, 23, none⟩ = some (.int .u64 ym1) := (f_x).cell 23
        have x_f23 := (f_x).frozen 23
        have x_24 : w_5.cell? ⟨w.heap.size, 24, none⟩ = some (.int .u64 ym2) := (f_x).cell 24
        have x_f24 := (f_x).frozen 24
        have x_31 : w_5.cell? ⟨w.heap.size, 31, none⟩ = some (.int .u16 yfl) := (f_x).cell 31
        have x_f31 := (f_x).frozen 31
        have x_33 : w_5.cell? ⟨w.heap.size, 33, none⟩ = some (.bool true) := (f_x).cell 33
        have x_f33 := (f_x).frozen 33
        have x_34 : w_5.cell? ⟨w.heap.size, 34, none⟩ = some (.int .u8 sv) := (f_x).cell 34
        have x_f34 := (f_x).frozen 34
        have x_39 : w_5.cell? ⟨w.heap.size, 39, none⟩ = some (.int .u64 aq1) := (f_x).cell 39
        have x_f39 := (f_x).frozen 39
        have x_40 : w_5.cell? ⟨w.heap.size, 40, none⟩ = some (.int .u64 aq2) := (f_x).cell 40
        have x_f40 := (f_x).frozen 40
        replace f_x := Lib.hid f_x
        have m_0 : w_5.cell? ⟨w_2.heap.size, 0, none⟩ = some (.int .u64 m1) := (f_m).cell 0
        have m_1 : w_5.cell? ⟨w_2.heap.size, 1, none⟩ = some (.int .u64 m2) := (f_m).cell 1
        have m_f0 := (f_m).frozen 0
        have m_f1 := (f_m).frozen 1
        have m_l := (f_m).lt
        replace f_m := Lib.hid f_m
        replace hB_5 := Lib.hid hB_5
        go_wp2_with fail
        go_meet
        have t_B := hB_5.out
        have t_x := f_x.out
        have t_m := f_m.out
        exact ⟨rfl, by (repeat (first | with_reducible exact Below.refl _ _ | with_reducible assumption | (with_reducible refine bel_set ?_ (by first | exact Nat.le_refl _ | (simp; done) | (simp; omega) | omega) _) | with_reducible refine bel_grow ?_ _ | with_reducible refine Below.drew ?_ | with_reducible refine bel_alloc ?_ _ | (with_reducible refine below_setRow ?_ (by first | omega | (simp; omega)) _) | with_reducible refine bel_eld ?_ (by assumption))), by (repeat (first | with_reducible assumption | (with_reducible refine Blk.new' ?_; first | with_reducible rfl | (simp; done)) | with_reducible refine Blk.alloc ?_ _ | with_reducible refine Blk.grow ?_ _ | with_reducible refine Blk.drew ?_ | with_reducible refine Blk.drewN ?_ _ | (with_reducible refine Blk.far ?_ (by first | (dsimp only; omega) | (simp; omega)) _) | (with_reducible apply Blk.two) | (with_reducible refine Blk.kept ?_ (by assumption)) | (with_reducible refine Blk.setRow ?_ (by first | rfl | (simp; done))) | (with_reducible refine Blk.setRow_far ?_ (by first | omega | (simp; omega)) _) | (with_reducible refine Blk.set' ?_ _ _ (by first | rfl | (simp; done))))), by (repeat (first | with_reducible assumption | (with_reducible refine Blk.new' ?_; first | with_reducible rfl | (simp; done)) | with_reducible refine Blk.alloc ?_ _ | with_reducible refine Blk.grow ?_ _ | with_reducible refine Blk.drew ?_ | with_reducible refine Blk.drewN ?_ _ | (with_reducible refine Blk.far ?_ (by first | (dsimp only; omega) | (simp; omega)) _) | (with_reducible apply Blk.two) | (with_reducible refine Blk.kept ?_ (by assumption)) | (with_reducible refine Blk.setRow ?_ (by first | rfl | (simp; done))) | (with_reducible refine Blk.setRow_far ?_ (by first | omega | (simp; omega)) _) | (with_reducible refine Blk.set' ?_ _ _ (by first | rfl | (simp; done)))))⟩
  case rest =>
  clear f_x x_l r_x x_14 x_f14 x_16 x_f16 x_23 x_f23 x_24 x_f24 x_31 x_f31 x_33 x_f33 x_34 x_f34 x_39 x_f39 x_40 x_f40 f_m m_l m_0 m_1 m_f0 m_f1 hB_4
  obtain ⟨rfl, hB_5, f_x, f_m⟩ := hcut
  have r_x := rowAt_blk f_x
  have x_l := f_x.lt
  have x_14 : wc.cell? ⟨w.heap.size, 14, none⟩ = some (.int .u16 xfl) := (f_x).cell 14
  have x_f14 := (f_x).frozen 14
  have x_16 : wc.cell? ⟨w.heap.size, 16, none⟩ = some (.int .u64 ss) := (f_x).cell 16
  have x_f16 := (f_x).frozen 16
  have x_23 : wc.cell? ⟨w.heap.size, 23, none⟩ = some (.int .u64 ym1) := (f_x).cell 23
  have x_f23 := (f_x).frozen 23
  have x_24 : wc.cell? ⟨w.heap.size, 24, none⟩ = some (.int .u64 ym2) := (f_x).cell 24
  have x_f24 := (f_x).frozen 24
  have x_31 : wc.cell? ⟨w.heap.size, 31, none⟩ = some (.int .u16 yfl) := (f_x).cell 31
  have x_f31 := (f_x).frozen 31
  have x_33 : wc.cell? ⟨w.heap.size, 33, none⟩ = some (.bool true) := (f_x).cell 33
  have x_f33 := (f_x).frozen 33
  have x_34 : wc.cell? ⟨w.heap.size, 34, none⟩ = some (.int .u8 sv) := (f_x).cell 34
  have x_f34 := (f_x).frozen 34
  have x_39 : wc.cell? ⟨w.heap.size, 39, none⟩ = some (.int .u64 aq1) := (f_x).cell 39
  have x_f39 := (f_x).frozen 39
  have x_40 : wc.cell? ⟨w.heap.size, 40, none⟩ = some (.int .u64 aq2) := (f_x).cell 40
  have x_f40 := (f_x).frozen 40
  replace f_x := Lib.hid f_x
  have m_0 : wc.cell? ⟨w_2.heap.size, 0, none⟩ = some (.int .u64 m1) := (f_m).cell 0
  have m_1 : wc.cell? ⟨w_2.heap.size, 1, none⟩ = some (.int .u64 m2) := (f_m).cell 1
  have m_f0 := (f_m).frozen 0
  have m_f1 := (f_m).frozen 1
  have m_l := (f_m).lt
  replace f_m := Lib.hid f_m
  replace hB_5 := Lib.hid hB_5
  clear HA F2 F3
  go_wp2_with fail
  refine (HM.out _).mono ?_
  rintro e w_6 ⟨rfl, hb_6⟩
  have z_6 := hb_6.size
  try simp at z_6
  have t_ := hB_5.out
  have hB_6 := bel_eld (w := w) (X := _) (by first | ((repeat (first | with_reducible exact Below.refl _ _ | with_reducible assumption | (with_reducible refine bel_set ?_ (by first | exact Nat.le_refl _ | (simp; done) | (simp; omega) | omega) _) | with_reducible refine bel_grow ?_ _ | with_reducible refine Below.drew ?_ | with_reducible refine below_drewN ?_ _ | with_reducible refine bel_alloc ?_ _ | with_reducible refine bel_trans ?_ (by assumption))); done) | (repeat (first | exact Below.refl _ _ | assumption | refine below_drewN ?_ _ | refine bel_grow ?_ _ | refine Below.drew ?_ | refine bel_alloc ?_ _ | refine bel_set ?_ (by first | exact Nat.le_refl _ | (simp; done) | (simp; omega) | omega) _ | refine bel_trans ?_ (by assumption)))) hb_6
  clear t_
  have t_x := f_x.out
  have t_m := f_m.out
  have g_x : Blk w_6 (w.heap.size) 68 #[.int .u64 xi1, .int .u64 xi2, .int .u64 xd1, .int .u64 xd2, .int .u64 xc1, .int .u64 xc2, .int .u64 xm1, .int .u64 xm2, .int .u64 xw1, .int .u64 xw2, .int .u64 xtg, .int .u32 xto, .int .u32 xlg, .int .u16 xcd, .int .u16 xfl, .int .u64 xst, .int .u64 ss, .int .u64 yi1, .int .u64 yi2, .int .u64 yd1, .int .u64 yd2, .int .u64 yc1, .int .u64 yc2, .int .u64 ym1, .int .u64 ym2, .int .u64 yw1, .int .u64 yw2, .int .u64 ytg, .int .u32 yto, .int .u32 ylg, .int .u16 ycd, .int .u16 yfl, .int .u64 yst, .bool true, .int .u8 sv, .int .u64 ai1, .int .u64 ai2, .int .u64 ap1, .int .u64 ap2, .int .u64 aq1, .int .u64 aq2, .int .u64 ar1, .int .u64 ar2, .int .u64 as1, .int .u64 as2, .int .u64 atg, .int .u32 alg, .int .u16 acd, .int .u16 afl, .int .u64 ast, .int .u64 ei1, .int .u64 ei2, .int .u64 ep1, .int .u64 ep2, .int .u64 eq1, .int .u64 eq2, .int .u64 er1, .int .u64 er2, .int .u64 es1, .int .u64 es2, .int .u64 etg, .int .u32 elg, .int .u16 ecd, .int .u16 efl, .int .u64 est, .bool hd, .bool hc] := by
    refine Blk.kept ?_ hb_6
    (repeat (first | with_reducible assumption | (with_reducible refine Blk.new' ?_; first | with_reducible rfl | (simp; done)) | with_reducible refine Blk.alloc ?_ _ | with_reducible refine Blk.grow ?_ _ | with_reducible refine Blk.drew ?_ | with_reducible refine Blk.drewN ?_ _ | (with_reducible refine Blk.far ?_ (by first | (dsimp only; omega) | (simp; omega)) _) | (with_reducible apply Blk.two) | (with_reducible refine Blk.set' ?_ _ _ ?_) | (with_reducible rfl) | rfl))
  have g_m : Blk w_6 (w_2.heap.size) 24 #[.int .u64 m1, .int .u64 m2] := by
    refine Blk.kept ?_ hb_6
    (repeat (first | with_reducible assumption | (with_reducible refine Blk.new' ?_; first | with_reducible rfl | (simp; done)) | with_reducible refine Blk.alloc ?_ _ | with_reducible refine Blk.grow ?_ _ | with_reducible refine Blk.drew ?_ | with_reducible refine Blk.drewN ?_ _ | (with_reducible refine Blk.far ?_ (by first | (dsimp only; omega) | (simp; omega)) _) | (with_reducible apply Blk.two) | (with_reducible refine Blk.set' ?_ _ _ ?_) | (with_reducible rfl) | rfl))
  clear f_x x_l r_x x_14 x_f14 x_16 x_f16 x_23 x_f23 x_24 x_f24 x_31 x_f31 x_33 x_f33 x_34 x_f34 x_39 x_f39 x_40 x_f40 f_m m_l m_0 m_1 m_f0 m_f1 t_x t_m hB_5 hb_6
  have f_x := g_x
  clear g_x
  have f_m := g_m
  clear g_m
  have r_x := rowAt_blk f_x
  have x_l := f_x.lt
  have x_14 : w_6.cell? ⟨w.heap.size, 14, none⟩ = some (.int .u16 xfl) := (f_x).cell 14
  have x_f14 := (f_x).frozen 14
  have x_16 : w_6.cell? ⟨w.heap.size, 16, none⟩ = some (.int .u64 ss) := (f_x).cell 16
  have x_f16 := (f_x).frozen 16
  have x_23 : w_6.cell? ⟨w.heap.size, 23, none⟩ = some (.int .u64 ym1) := (f_x).cell 23
  have x_f23 := (f_x).frozen 23
  have x_24 : w_6.cell? ⟨w.heap.size, 24, none⟩ = some (.int .u64 ym2) := (f_x).cell 24
  have x_f24 := (f_x).frozen 24
  have x_31 : w_6.cell? ⟨w.heap.size, 31, none⟩ = some (.int .u16 yfl) := (f_x).cell 31
  have x_f31 := (f_x).frozen 31
  have x_33 : w_6.cell? ⟨w.heap.size, 33, none⟩ = some (.bool true) := (f_x).cell 33
  have x_f33 := (f_x).frozen 33
  have x_34 : w_6.cell? ⟨w.heap.size, 34, none⟩ = some (.int .u8 sv) := (f_x).cell 34
  have x_f34 := (f_x).frozen 34
  have x_39 : w_6.cell? ⟨w.heap.size, 39, none⟩ = some (.int .u64 aq1) := (f_x).cell 39
  have x_f39 := (f_x).frozen 39
  have x_40 : w_6.cell? ⟨w.heap.size, 40, none⟩ = some (.int .u64 aq2) := (f_x).cell 40
  have x_f40 := (f_x).frozen 40
  replace f_x := Lib.hid f_x
  have m_0 : w_6.cell? ⟨w_2.heap.size, 0, none⟩ = some (.int .u64 m1) := (f_m).cell 0
  have m_1 : w_6.cell? ⟨w_2.heap.size, 1, none⟩ = some (.int .u64 m2) := (f_m).cell 1
  have m_f0 := (f_m).frozen 0
  have m_f1 := (f_m).frozen 1
  have m_l := (f_m).lt
  replace f_m := Lib.hid f_m
  replace hB_6 := Lib.hid hB_6
  go_wp2_with fail
  refine (H1.out _).mono ?_
  rintro e w_7 ⟨rfl, hb_7⟩
  have z_7 := hb_7.size
  try simp at z_7
  have t_ := hB_6.out
  have hB_7 := bel_eld (w := w) (X := _) (by first | ((repeat (first | with_reducible exact Below.refl _ _ | with_reducible assumption | (with_reducible refine bel_set ?_ (by first | exact Nat.le_refl _ | (simp; done) | (simp; omega) | omega) _) | with_reducible refine bel_grow ?_ _ | with_reducible refine Below.drew ?_ | with_reducible refine below_drewN ?_ _ | with_reducible refine bel_alloc ?_ _ | with_reducible refine bel_trans ?_ (by assumption))); done) | (repeat (first | exact Below.refl _ _ | assumption | refine below_drewN ?_ _ | refine bel_grow ?_ _ | refine Below.drew ?_ | refine bel_alloc ?_ _ | refine bel_set ?_ (by first | exact Nat.le_refl _ | (simp; done) | (simp; omega) | omega) _ | refine bel_trans ?_ (by assumption)))) hb_7
  clear t_
  have t_x := f_x.out
  have t_m := f_m.out
  have g_x : Blk w_7 (w.heap.size) 68 #[.int .u64 xi1, .int .u64 xi2, .int .u64 xd1, .int .u64 xd2, .int .u64 xc1, .int .u64 xc2, .int .u64 xm1, .int .u64 xm2, .int .u64 xw1, .int .u64 xw2, .int .u64 xtg, .int .u32 xto, .int .u32 xlg, .int .u16 xcd, .int .u16 xfl, .int .u64 xst, .int .u64 ss, .int .u64 yi1, .int .u64 yi2, .int .u64 yd1, .int .u64 yd2, .int .u64 yc1, .int .u64 yc2, .int .u64 ym1, .int .u64 ym2, .int .u64 yw1, .int .u64 yw2, .int .u64 ytg, .int .u32 yto, .int .u32 ylg, .int .u16 ycd, .int .u16 yfl, .int .u64 yst, .bool true, .int .u8 sv, .int .u64 ai1, .int .u64 ai2, .int .u64 ap1, .int .u64 ap2, .int .u64 aq1, .int .u64 aq2, .int .u64 ar1, .int .u64 ar2, .int .u64 as1, .int .u64 as2, .int .u64 atg, .int .u32 alg, .int .u16 acd, .int .u16 afl, .int .u64 ast, .int .u64 ei1, .int .u64 ei2, .int .u64 ep1, .int .u64 ep2, .int .u64 eq1, .int .u64 eq2, .int .u64 er1, .int .u64 er2, .int .u64 es1, .int .u64 es2, .int .u64 etg, .int .u32 elg, .int .u16 ecd, .int .u16 efl, .int .u64 est, .bool hd, .bool hc] := by
    refine Blk.kept ?_ hb_7
    (repeat (first | with_reducible assumption | (with_reducible refine Blk.new' ?_; first | with_reducible rfl | (simp; done)) | with_reducible refine Blk.alloc ?_ _ | with_reducible refine Blk.grow ?_ _ | with_reducible refine Blk.drew ?_ | with_reducible refine Blk.drewN ?_ _ | (with_reducible refine Blk.far ?_ (by first | (dsimp only; omega) | (simp; omega)) _) | (with_reducible apply Blk.two) | (with_reducible refine Blk.set' ?_ _ _ ?_) | (with_reducible rfl) | rfl))
  have g_m : Blk w_7 (w_2.heap.size) 24 #[.int .u64 m1, .int .u64 m2] := by
    refine Blk.kept ?_ hb_7
    (repeat (first | with_reducible assumption | (with_reducible refine Blk.new' ?_; first | with_reducible rfl | (simp; done)) | with_reducible refine Blk.alloc ?_ _ | with_reducible refine Blk.grow ?_ _ | with_reducible refine Blk.drew ?_ | with_reducible refine Blk.drewN ?_ _ | (with_reducible refine Blk.far ?_ (by first | (dsimp only; omega) | (simp; omega)) _) | (with_reducible apply Blk.two) | (with_reducible refine Blk.set' ?_ _ _ ?_) | (with_reducible rfl) | rfl))
  have g_z : Blk w_7 (w_6.heap.size) 32 #[.int .u64 zai1, .int .u64 zai2, .int .u64 zap1, .int .u64 zap2, .int .u64 zaq1, .int .u64 zaq2, .int .u64 zar1, .int .u64 zar2, .int .u64 zas1, .int .u64 zas2, .int .u64 zatg, .int .u32 zalg, .int .u16 zacd, .int .u16 zafl, .int .u64 zast, .int .u64 zei1, .int .u64 zei2, .int .u64 zep1, .int .u64 zep2, .int .u64 zeq1, .int .u64 zeq2, .int .u64 zer1, .int .u64 zer2, .int .u64 zes1, .int .u64 zes2, .int .u64 zetg, .int .u32 zelg, .int .u16 zecd, .int .u16 zefl, .int .u64 zest, .bool zd, .bool zc] := by
    refine Blk.kept ?_ hb_7
    (repeat (first | with_reducible assumption | (with_reducible refine Blk.new' ?_; first | with_reducible rfl | (simp; done)) | with_reducible refine Blk.alloc ?_ _ | with_reducible refine Blk.grow ?_ _ | with_reducible refine Blk.drew ?_ | with_reducible refine Blk.drewN ?_ _ | (with_reducible refine Blk.far ?_ (by first | (dsimp only; omega) | (simp; omega)) _) | (with_reducible apply Blk.two) | (with_reducible refine Blk.set' ?_ _ _ ?_) | (with_reducible rfl) | rfl))
  clear f_x x_l r_x x_14 x_f14 x_16 x_f16 x_23 x_f23 x_24 x_f24 x_31 x_f31 x_33 x_f33 x_34 x_f34 x_39 x_f39 x_40 x_f40 f_m m_l m_0 m_1 m_f0 m_f1 t_x t_m hB_6 hb_7
  have f_x := g_x
  clear g_x
  have f_m := g_m
  clear g_m
  have f_z := g_z
  clear g_z
  have r_x := rowAt_blk f_x
  have x_l := f_x.lt
  have x_14 : w_7.cell? ⟨w.heap.size, 14, none⟩ = some (.int .u16 xfl) := (f_x).cell 14
  have x_f14 := (f_x).frozen 14
  have x_16 : w_7.cell? ⟨w.heap.size, 16, none⟩ = some (.int .u64 ss) := (f_x).cell 16
  have x_f16 := (f_x).frozen 16
  have x_23 : w_7.cell? ⟨w.heap.size, 23, none⟩ = some (.int .u64 ym1) := (f_x).cell 23
  have x_f23 := (f_x).frozen 23
  have x_24 : w_7.cell? ⟨w.heap.size, 24, none⟩ = some (.int .u64 ym2) := (f_x).cell 24
  have x_f24 := (f_x).frozen 24
  have x_31 : w_7.cell? ⟨w.heap.size, 31, none⟩ = some (.int .u16 yfl) := (f_x).cell 31
  have x_f31 := (f_x).frozen 31
  have x_33 : w_7.cell? ⟨w.heap.size, 33, none⟩ = some (.bool true) := (f_x).cell 33
  have x_f33 := (f_x).frozen 33
  have x_34 : w_7.cell? ⟨w.heap.size, 34, none⟩ = some (.int .u8 sv) := (f_x).cell 34
  have x_f34 := (f_x).frozen 34
  have x_39 : w_7.cell? ⟨w.heap.size, 39, none⟩ = some (.int .u64 aq1) := (f_x).cell 39
  have x_f39 := (f_x).frozen 39
  have x_40 : w_7.cell? ⟨w.heap.size, 40, none⟩ = some (.int .u64 aq2) := (f_x).cell 40
  have x_f40 := (f_x).frozen 40
  replace f_x := Lib.hid f_x
  have m_0 : w_7.cell? ⟨w_2.heap.size, 0, none⟩ = some (.int .u64 m1) := (f_m).cell 0
  have m_1 : w_7.cell? ⟨w_2.heap.size, 1, none⟩ = some (.int .u64 m2) := (f_m).cell 1
  have m_f0 := (f_m).frozen 0
  have m_f1 := (f_m).frozen 1
  have m_l := (f_m).lt
  replace f_m := Lib.hid f_m
  have r_z := rowAt_blk f_z
  have z_l := f_z.lt
  have z_2 : w_7.cell? ⟨w_6.heap.size, 2, none⟩ = some (.int .u64 zap1) := (f_z).cell 2
  have z_f2 := (f_z).frozen 2
  have z_3 : w_7.cell? ⟨w_6.heap.size, 3, none⟩ = some (.int .u64 zap2) := (f_z).cell 3
  have z_f3 := (f_z).frozen 3
  have z_4 : w_7.cell? ⟨w_6.heap.size, 4, none⟩ = some (.int .u64 zaq1) := (f_z).cell 4
  have z_f4 := (f_z).frozen 4
  have z_5 : w_7.cell? ⟨w_6.heap.size, 5, none⟩ = some (.int .u64 zaq2) := (f_z).cell 5
  have z_f5 := (f_z).frozen 5
  have z_21 : w_7.cell? ⟨w_6.heap.size, 21, none⟩ = some (.int .u64 zer1) := (f_z).cell 21
  have z_f21 := (f_z).frozen 21
  have z_22 : w_7.cell? ⟨w_6.heap.size, 22, none⟩ = some (.int .u64 zer2) := (f_z).cell 22
  have z_f22 := (f_z).frozen 22
  have z_23 : w_7.cell? ⟨w_6.heap.size, 23, none⟩ = some (.int .u64 zes1) := (f_z).cell 23
  have z_f23 := (f_z).frozen 23
  have z_24 : w_7.cell? ⟨w_6.heap.size, 24, none⟩ = some (.int .u64 zes2) := (f_z).cell 24
  have z_f24 := (f_z).frozen 24
  replace f_z := Lib.hid f_z
  replace hB_7 := Lib.hid hB_7
  go_wp2_with fail
  refine (H2.out _).mono ?_
  rintro e w_8 ⟨rfl, hb_8⟩
  have z_8 := hb_8.size
  try simp at z_8
  have t_ := hB_7.out
  have hB_8 := bel_eld (w := w) (X := _) (by first | ((repeat (first | with_reducible exact Below.refl _ _ | with_reducible assumption | (with_reducible refine bel_set ?_ (by first | exact Nat.le_refl _ | (simp; done) | (simp; omega) | omega) _) | with_reducible refine bel_grow ?_ _ | with_reducible refine Below.drew ?_ | with_reducible refine below_drewN ?_ _ | with_reducible refine bel_alloc ?_ _ | with_reducible refine bel_trans ?_ (by assumption))); done) | (repeat (first | exact Below.refl _ _ | assumption | refine below_drewN ?_ _ | refine bel_grow ?_ _ | refine Below.drew ?_ | refine bel_alloc ?_ _ | refine bel_set ?_ (by first | exact Nat.le_refl _ | (simp; done) | (simp; omega) | omega) _ | refine bel_trans ?_ (by assumption)))) hb_8
  clear t_
  have t_x := f_x.out
  have t_m := f_m.out
  have t_z := f_z.out
  have g_x : Blk w_8 (w.heap.size) 68 #[.int .u64 xi1, .int .u64 xi2, .int .u64 xd1, .int .u64 xd2, .int .u64 xc1, .int .u64 xc2, .int .u64 xm1, .int .u64 xm2, .int .u64 xw1, .int .u64 xw2, .int .u64 xtg, .int .u32 xto, .int .u32 xlg, .int .u16 xcd, .int .u16 xfl, .int .u64 xst, .int .u64 ss, .int .u64 yi1, .int .u64 yi2, .int .u64 yd1, .int .u64 yd2, .int .u64 yc1, .int .u64 yc2, .int .u64 ym1, .int .u64 ym2, .int .u64 yw1, .int .u64 yw2, .int .u64 ytg, .int .u32 yto, .int .u32 ylg, .int .u16 ycd, .int .u16 yfl, .int .u64 yst, .bool true, .int .u8 sv, .int .u64 ai1, .int .u64 ai2, .int .u64 ap1, .int .u64 ap2, .int .u64 aq1, .int .u64 aq2, .int .u64 ar1, .int .u64 ar2, .int .u64 as1, .int .u64 as2, .int .u64 atg, .int .u32 alg, .int .u16 acd, .int .u16 afl, .int .u64 ast, .int .u64 ei1, .int .u64 ei2, .int .u64 ep1, .int .u64 ep2, .int .u64 eq1, .int .u64 eq2, .int .u64 er1, .int .u64 er2, .int .u64 es1, .int .u64 es2, .int .u64 etg, .int .u32 elg, .int .u16 ecd, .int .u16 efl, .int .u64 est, .bool hd, .bool hc] := by
    refine Blk.kept ?_ hb_8
    (repeat (first | with_reducible assumption | (with_reducible refine Blk.new' ?_; first | with_reducible rfl | (simp; done)) | with_reducible refine Blk.alloc ?_ _ | with_reducible refine Blk.grow ?_ _ | with_reducible refine Blk.drew ?_ | with_reducible refine Blk.drewN ?_ _ | (with_reducible refine Blk.far ?_ (by first | (dsimp only; omega) | (simp; omega)) _) | (with_reducible apply Blk.two) | (with_reducible refine Blk.set' ?_ _ _ ?_) | (with_reducible rfl) | rfl))
  have g_m : Blk w_8 (w_2.heap.size) 24 #[.int .u64 m1, .int .u64 m2] := by
    refine Blk.kept ?_ hb_8
    (repeat (first | with_reducible assumption | (with_reducible refine Blk.new' ?_; first | with_reducible rfl | (simp; done)) | with_reducible refine Blk.alloc ?_ _ | with_reducible refine Blk.grow ?_ _ | with_reducible refine Blk.drew ?_ | with_reducible refine Blk.drewN ?_ _ | (with_reducible refine Blk.far ?_ (by first | (dsimp only; omega) | (simp; omega)) _) | (with_reducible apply Blk.two) | (with_reducible refine Blk.set' ?_ _ _ ?_) | (with_reducible rfl) | rfl))
  have g_z : Blk w_8 (w_6.heap.size) 32 #[.int .u64 zai1, .int .u64 zai2, .int .u64 zap1, .int .u64 zap2, .int .u64 zaq1, .int .u64 zaq2, .int .u64 zar1, .int .u64 zar2, .int .u64 zas1, .int .u64 zas2, .int .u64 zatg, .int .u32 zalg, .int .u16 zacd, .int .u16 zafl, .int .u64 zast, .int .u64 zei1, .int .u64 zei2, .int .u64 zep1, .int .u64 zep2, .int .u64 zeq1, .int .u64 zeq2, .int .u64 zer1, .int .u64 zer2, .int .u64 zes1, .int .u64 zes2, .int .u64 zetg, .int .u32 zelg, .int .u16 zecd, .int .u16 zefl, .int .u64 zest, .bool zd, .bool zc] := by
    refine Blk.kept ?_ hb_8
    (repeat (first | with_reducible assumption | (with_reducible refine Blk.new' ?_; first | with_reducible rfl | (simp; done)) | with_reducible refine Blk.alloc ?_ _ | with_reducible refine Blk.grow ?_ _ | with_reducible refine Blk.drew ?_ | with_reducible refine Blk.drewN ?_ _ | (with_reducible refine Blk.far ?_ (by first | (dsimp only; omega) | (simp; omega)) _) | (with_reducible apply Blk.two) | (with_reducible refine Blk.set' ?_ _ _ ?_) | (with_reducible rfl) | rfl))
  have g_d : Blk w_8 (w_7.heap.size) 24 #[.int .u64 dh, .int .u64 dl] := by
    refine Blk.kept ?_ hb_8
    (repeat (first | with_reducible assumption | (with_reducible refine Blk.new' ?_; first | with_reducible rfl | (simp; done)) | with_reducible refine Blk.alloc ?_ _ | with_reducible refine Blk.grow ?_ _ | with_reducible refine Blk.drew ?_ | with_reducible refine Blk.drewN ?_ _ | (with_reducible refine Blk.far ?_ (by first | (dsimp only; omega) | (simp; omega)) _) | (with_reducible apply Blk.two) | (with_reducible refine Blk.set' ?_ _ _ ?_) | (with_reducible rfl) | rfl))
  clear f_x x_l r_x x_14 x_f14 x_16 x_f16 x_23 x_f23 x_24 x_f24 x_31 x_f31 x_33 x_f33 x_34 x_f34 x_39 x_f39 x_40 x_f40 f_m m_l m_0 m_1 m_f0 m_f1 f_z z_l r_z z_2 z_f2 z_3 z_f3 z_4 z_f4 z_5 z_f5 z_21 z_f21 z_22 z_f22 z_23 z_f23 z_24 z_f24 t_x t_m t_z hB_7 hb_8
  have f_x := g_x
  clear g_x
  have f_m := g_m
  clear g_m
  have f_z := g_z
  clear g_z
  have f_d := g_d
  clear g_d
  have r_x := rowAt_blk f_x
  have x_l := f_x.lt
  have x_14 : w_8.cell? ⟨w.heap.size, 14, none⟩ = some (.int .u16 xfl) := (f_x).cell 14
  have x_f14 := (f_x).frozen 14
  have x_16 : w_8.cell? ⟨w.heap.size, 16, none⟩ = some (.int .u64 ss) := (f_x).cell 16
  have x_f16 := (f_x).frozen 16
  have x_23 : w_8.cell? ⟨w.heap.size, 23, none⟩ = some (.int .u64 ym1) := (f_x).cell 23
  have x_f23 := (f_x).frozen 23
  have x_24 : w_8.cell? ⟨w.heap.size, 24, none⟩ = some (.int .u64 ym2) := (f_x).cell 24
  have x_f24 := (f_x).frozen 24
  have x_31 : w_8.cell? ⟨w.heap.size, 31, none⟩ = some (.int .u16 yfl) := (f_x).cell 31
  have x_f31 := (f_x).frozen 31
  have x_33 : w_8.cell? ⟨w.heap.size, 33, none⟩ = some (.bool true) := (f_x).cell 33
  have x_f33 := (f_x).frozen 33
  have x_34 : w_8.cell? ⟨w.heap.size, 34, none⟩ = some (.int .u8 sv) := (f_x).cell 34
  have x_f34 := (f_x).frozen 34
  have x_39 : w_8.cell? ⟨w.heap.size, 39, none⟩ = some (.int .u64 aq1) := (f_x).cell 39
  have x_f39 := (f_x).frozen 39
  have x_40 : w_8.cell? ⟨w.heap.size, 40, none⟩ = some (.int .u64 aq2) := (f_x).cell 40
  have x_f40 := (f_x).frozen 40
  replace f_x := Lib.hid f_x
  have m_0 : w_8.cell? ⟨w_2.heap.size, 0, none⟩ = some (.int .u64 m1) := (f_m).cell 0
  have m_1 : w_8.cell? ⟨w_2.heap.size, 1, none⟩ = some (.int .u64 m2) := (f_m).cell 1
  have m_f0 := (f_m).frozen 0
  have m_f1 := (f_m).frozen 1
  have m_l := (f_m).lt
  replace f_m := Lib.hid f_m
  have r_z := rowAt_blk f_z
  have z_l := f_z.lt
  have z_2 : w_8.cell? ⟨w_6.heap.size, 2, none⟩ = some (.int .u64 zap1) := (f_z).cell 2
  have z_f2 := (f_z).frozen 2
  have z_3 : w_8.cell? ⟨w_6.heap.size, 3, none⟩ = some (.int .u64 zap2) := (f_z).cell 3
  have z_f3 := (f_z).frozen 3
  have z_4 : w_8.cell? ⟨w_6.heap.size, 4, none⟩ = some (.int .u64 zaq1) := (f_z).cell 4
  have z_f4 := (f_z).frozen 4
  have z_5 : w_8.cell? ⟨w_6.heap.size, 5, none⟩ = some (.int .u64 zaq2) := (f_z).cell 5
  have z_f5 := (f_z).frozen 5
  have z_21 : w_8.cell? ⟨w_6.heap.size, 21, none⟩ = some (.int .u64 zer1) := (f_z).cell 21
  have z_f21 := (f_z).frozen 21
  have z_22 : w_8.cell? ⟨w_6.heap.size, 22, none⟩ = some (.int .u64 zer2) := (f_z).cell 22
  have z_f22 := (f_z).frozen 22
  have z_23 : w_8.cell? ⟨w_6.heap.size, 23, none⟩ = some (.int .u64 zes1) := (f_z).cell 23
  have z_f23 := (f_z).frozen 23
  have z_24 : w_8.cell? ⟨w_6.heap.size, 24, none⟩ = some (.int .u64 zes2) := (f_z).cell 24
  have z_f24 := (f_z).frozen 24
  replace f_z := Lib.hid f_z
  have d_0 : w_8.cell? ⟨w_7.heap.size, 0, none⟩ = some (.int .u64 dh) := (f_d).cell 0
  have d_1 : w_8.cell? ⟨w_7.heap.size, 1, none⟩ = some (.int .u64 dl) := (f_d).cell 1
  have d_f0 := (f_d).frozen 0
  have d_f1 := (f_d).frozen 1
  have d_l := (f_d).lt
  replace f_d := Lib.hid f_d
  replace hB_8 := Lib.hid hB_8
  clear HM H1 H2
  go_upto_region 10 with fail
  refine abs_wp (fun Y_ => Below w.heap.size w Y_ ∧ Blk Y_ (w.heap.size) 68 #[.int .u64 xi1, .int .u64 xi2, .int .u64 xd1, .int .u64 xd2, .int .u64 xc1, .int .u64 xc2, .int .u64 xm1, .int .u64 xm2, .int .u64 xw1, .int .u64 xw2, .int .u64 xtg, .int .u32 xto, .int .u32 xlg, .int .u16 xcd, .int .u16 xfl, .int .u64 xst, .int .u64 ss, .int .u64 yi1, .int .u64 yi2, .int .u64 yd1, .int .u64 yd2, .int .u64 yc1, .int .u64 yc2, .int .u64 ym1, .int .u64 ym2, .int .u64 yw1, .int .u64 yw2, .int .u64 ytg, .int .u32 yto, .int .u32 ylg, .int .u16 ycd, .int .u16 yfl, .int .u64 yst, .bool true, .int .u8 sv, .int .u64 ai1, .int .u64 ai2, .int .u64 ap1, .int .u64 ap2, .int .u64 aq1, .int .u64 aq2, .int .u64 ar1, .int .u64 ar2, .int .u64 as1, .int .u64 as2, .int .u64 atg, .int .u32 alg, .int .u16 acd, .int .u16 afl, .int .u64 ast, .int .u64 ei1, .int .u64 ei2, .int .u64 ep1, .int .u64 ep2, .int .u64 eq1, .int .u64 eq2, .int .u64 er1, .int .u64 er2, .int .u64 es1, .int .u64 es2, .int .u64 etg, .int .u32 elg, .int .u16 ecd, .int .u16 efl, .int .u64 est, .bool hd, .bool hc] ∧ Blk Y_ (w_2.heap.size) 24 #[.int .u64 m1, .int .u64 m2] ∧ Blk Y_ (w_6.heap.size) 32 #[.int .u64 zai1, .int .u64 zai2, .int .u64 zap1, .int .u64 zap2, .int .u64 zaq1, .int .u64 zaq2, .int .u64 zar1, .int .u64 zar2, .int .u64 zas1, .int .u64 zas2, .int .u64 zatg, .int .u32 zalg, .int .u16 zacd, .int .u16 zafl, .int .u64 zast, .int .u64 zei1, .int .u64 zei2, .int .u64 zep1, .int .u64 zep2, .int .u64 zeq1, .int .u64 zeq2, .int .u64 zer1, .int .u64 zer2, .int .u64 zes1, .int .u64 zes2, .int .u64 zetg, .int .u32 zelg, .int .u16 zecd, .int .u16 zefl, .int .u64 zest, .bool zd, .bool zc] ∧ Blk Y_ (w_7.heap.size) 24 #[.int .u64 dh, .int .u64 dl] ∧ Blk Y_ (w_8.heap.size) 24 #[.int .u64 ch, .int .u64 cl]) ?_ ?_
  · have t_B := hB_8.out
    have t_x := f_x.out
    have t_m := f_m.out
    have t_z := f_z.out
    have t_d := f_d.out
    refine ⟨by (repeat (first | with_reducible exact Below.refl _ _ | with_reducible assumption | (with_reducible refine bel_set ?_ (by first | exact Nat.le_refl _ | (simp; done) | (simp; omega) | omega) _) | with_reducible refine bel_grow ?_ _ | with_reducible refine Below.drew ?_ | with_reducible refine bel_alloc ?_ _ | with_reducible refine bel_eld ?_ (by assumption))), ?_, ?_, ?_, ?_, ?_⟩
    · (repeat (first | with_reducible assumption | (with_reducible refine Blk.new' ?_; first | with_reducible rfl | (simp; done)) | with_reducible refine Blk.alloc ?_ _ | with_reducible refine Blk.grow ?_ _ | with_reducible refine Blk.drew ?_ | with_reducible refine Blk.drewN ?_ _ | (with_reducible refine Blk.far ?_ (by first | (dsimp only; omega) | (simp; omega)) _) | (with_reducible apply Blk.two) | (with_reducible refine Blk.kept ?_ (by assumption)) | (with_reducible refine Blk.setRow ?_ (by first | rfl | (simp; done))) | (with_reducible refine Blk.setRow_far ?_ (by first | omega | (simp; omega)) _) | (with_reducible refine Blk.set' ?_ _ _ (by first | rfl | (simp; done)))))
    · (repeat (first | with_reducible assumption | (with_reducible refine Blk.new' ?_; first | with_reducible rfl | (simp; done)) | with_reducible refine Blk.alloc ?_ _ | with_reducible refine Blk.grow ?_ _ | with_reducible refine Blk.drew ?_ | with_reducible refine Blk.drewN ?_ _ | (with_reducible refine Blk.far ?_ (by first | (dsimp only; omega) | (simp; omega)) _) | (with_reducible apply Blk.two) | (with_reducible refine Blk.kept ?_ (by assumption)) | (with_reducible refine Blk.setRow ?_ (by first | rfl | (simp; done))) | (with_reducible refine Blk.setRow_far ?_ (by first | omega | (simp; omega)) _) | (with_reducible refine Blk.set' ?_ _ _ (by first | rfl | (simp; done)))))
    · (repeat (first | with_reducible assumption | (with_reducible refine Blk.new' ?_; first | with_reducible rfl | (simp; done)) | with_reducible refine Blk.alloc ?_ _ | with_reducible refine Blk.grow ?_ _ | with_reducible refine Blk.drew ?_ | with_reducible refine Blk.drewN ?_ _ | (with_reducible refine Blk.far ?_ (by first | (dsimp only; omega) | (simp; omega)) _) | (with_reducible apply Blk.two) | (with_reducible refine Blk.kept ?_ (by assumption)) | (with_reducible refine Blk.setRow ?_ (by first | rfl | (simp; done))) | (with_reducible refine Blk.setRow_far ?_ (by first | omega | (simp; omega)) _) | (with_reducible refine Blk.set' ?_ _ _ (by first | rfl | (simp; done)))))
    · (repeat (first | with_reducible assumption | (with_reducible refine Blk.new' ?_; first | with_reducible rfl | (simp; done)) | with_reducible refine Blk.alloc ?_ _ | with_reducible refine Blk.grow ?_ _ | with_reducible refine Blk.drew ?_ | with_reducible refine Blk.drewN ?_ _ | (with_reducible refine Blk.far ?_ (by first | (dsimp only; omega) | (simp; omega)) _) | (with_reducible apply Blk.two) | (with_reducible refine Blk.kept ?_ (by assumption)) | (with_reducible refine Blk.setRow ?_ (by first | rfl | (simp; done))) | (with_reducible refine Blk.setRow_far ?_ (by first | omega | (simp; omega)) _) | (with_reducible refine Blk.set' ?_ _ _ (by first | rfl | (simp; done)))))
    · (repeat (first | with_reducible assumption | (with_reducible refine Blk.new' ?_; first | with_reducible rfl | (simp; done)) | with_reducible refine Blk.alloc ?_ _ | with_reducible refine Blk.grow ?_ _ | with_reducible refine Blk.drew ?_ | with_reducible refine Blk.drewN ?_ _ | (with_reducible refine Blk.far ?_ (by first | (dsimp only; omega) | (simp; omega)) _) | (with_reducible apply Blk.two) | (with_reducible refine Blk.kept ?_ (by assumption)) | (with_reducible refine Blk.setRow ?_ (by first | rfl | (simp; done))) | (with_reducible refine Blk.setRow_far ?_ (by first | omega | (simp; omega)) _) | (with_reducible refine Blk.set' ?_ _ _ (by first | rfl | (simp; done)))))
  clear f_x x_l r_x x_14 x_f14 x_16 x_f16 x_23 x_f23 x_24 x_f24 x_31 x_f31 x_33 x_f33 x_34 x_f34 x_39 x_f39 x_40 x_f40 f_m m_l m_0 m_1 m_f0 m_f1 f_z z_l r_z z_2 z_f2 z_3 z_f3 z_4 z_f4 z_5 z_f5 z_21 z_f21 z_22 z_f22 z_23 z_f23 z_24 z_f24 f_d d_l d_0 d_1 d_f0 d_f1 hB_8
  rintro X2 ⟨hB_9, f_x, f_m, f_z, f_d, f_c⟩
  have r_x := rowAt_blk f_x
  have x_l := f_x.lt
  have x_14 : X2.cell? ⟨w.heap.size, 14, none⟩ = some (.int .u16 xfl) := (f_x).cell 14
  have x_f14 := (f_x).frozen 14
  have x_16 : X2.cell? ⟨w.heap.size, 16, none⟩ = some (.int .u64 ss) := (f_x).cell 16
  have x_f16 := (f_x).frozen 16
  have x_23 : X2.cell? ⟨w.heap.size, 23, none⟩ = some (.int .u64 ym1) := (f_x).cell 23
  have x_f23 := (f_x).frozen 23
  have x_24 : X2.cell? ⟨w.heap.size, 24, none⟩ = some (.int .u64 ym2) := (f_x).cell 24
  have x_f24 := (f_x).frozen 24
  have x_31 : X2.cell? ⟨w.heap.size, 31, none⟩ = some (.int .u16 yfl) := (f_x).cell 31
  have x_f31 := (f_x).frozen 31
  have x_33 : X2.cell? ⟨w.heap.size, 33, none⟩ = some (.bool true) := (f_x).cell 33
  have x_f33 := (f_x).frozen 33
  have x_34 : X2.cell? ⟨w.heap.size, 34, none⟩ = some (.int .u8 sv) := (f_x).cell 34
  have x_f34 := (f_x).frozen 34
  have x_39 : X2.cell? ⟨w.heap.size, 39, none⟩ = some (.int .u64 aq1) := (f_x).cell 39
  have x_f39 := (f_x).frozen 39
  have x_40 : X2.cell? ⟨w.heap.size, 40, none⟩ = some (.int .u64 aq2) := (f_x).cell 40
  have x_f40 := (f_x).frozen 40
  replace f_x := Lib.hid f_x
  have m_0 : X2.cell? ⟨w_2.heap.size, 0, none⟩ = some (.int .u64 m1) := (f_m).cell 0
  have m_1 : X2.cell? ⟨w_2.heap.size, 1, none⟩ = some (.int .u64 m2) := (f_m).cell 1
  have m_f0 := (f_m).frozen 0
  have m_f1 := (f_m).frozen 1
  have m_l := (f_m).lt
  replace f_m := Lib.hid f_m
  have r_z := rowAt_blk f_z
  have z_l := f_z.lt
  have z_2 : X2.cell? ⟨w_6.heap.size, 2, none⟩ = some (.int .u64 zap1) := (f_z).cell 2
  have z_f2 := (f_z).frozen 2
  have z_3 : X2.cell? ⟨w_6.heap.size, 3, none⟩ = some (.int .u64 zap2) := (f_z).cell 3
  have z_f3 := (f_z).frozen 3
  have z_4 : X2.cell? ⟨w_6.heap.size, 4, none⟩ = some (.int .u64 zaq1) := (f_z).cell 4
  have z_f4 := (f_z).frozen 4
  have z_5 : X2.cell? ⟨w_6.heap.size, 5, none⟩ = some (.int .u64 zaq2) := (f_z).cell 5
  have z_f5 := (f_z).frozen 5
  have z_21 : X2.cell? ⟨w_6.heap.size, 21, none⟩ = some (.int .u64 zer1) := (f_z).cell 21
  have z_f21 := (f_z).frozen 21
  have z_22 : X2.cell? ⟨w_6.heap.size, 22, none⟩ = some (.int .u64 zer2) := (f_z).cell 22
  have z_f22 := (f_z).frozen 22
  have z_23 : X2.cell? ⟨w_6.heap.size, 23, none⟩ = some (.int .u64 zes1) := (f_z).cell 23
  have z_f23 := (f_z).frozen 23
  have z_24 : X2.cell? ⟨w_6.heap.size, 24, none⟩ = some (.int .u64 zes2) := (f_z).cell 24
  have z_f24 := (f_z).frozen 24
  replace f_z := Lib.hid f_z
  have d_0 : X2.cell? ⟨w_7.heap.size, 0, none⟩ = some (.int .u64 dh) := (f_d).cell 0
  have d_1 : X2.cell? ⟨w_7.heap.size, 1, none⟩ = some (.int .u64 dl) := (f_d).cell 1
  have d_f0 := (f_d).frozen 0
  have d_f1 := (f_d).frozen 1
  have d_l := (f_d).lt
  replace f_d := Lib.hid f_d
  have c_0 : X2.cell? ⟨w_8.heap.size, 0, none⟩ = some (.int .u64 ch) := (f_c).cell 0
  have c_1 : X2.cell? ⟨w_8.heap.size, 1, none⟩ = some (.int .u64 cl) := (f_c).cell 1
  have c_f0 := (f_c).frozen 0
  have c_f1 := (f_c).frozen 1
  have c_l := (f_c).lt
  replace f_c := Lib.hid f_c
  replace hB_9 := Lib.hid hB_9
  cases zb
  case false =>

    go_wp2_with fail
    refine (HX.out _).mono ?_
    rintro e w_10 ⟨rfl, hb_10⟩
    have z_10 := hb_10.size
    try simp at z_10
    have t_ := hB_9.out
    have hB_10 := bel_eld (w := w) (X := _) (by first | ((repeat (first | with_reducible exact Below.refl _ _ | with_reducible assumption | (with_reducible refine bel_set ?_ (by first | exact Nat.le_refl _ | (simp; done) | (simp; omega) | omega) _) | with_reducible refine bel_grow ?_ _ | with_reducible refine Below.drew ?_ | with_reducible refine below_drewN ?_ _ | with_reducible refine bel_alloc ?_ _ | with_reducible refine bel_trans ?_ (by assumption))); done) | (repeat (first | exact Below.refl _ _ | assumption | refine below_drewN ?_ _ | refine bel_grow ?_ _ | refine Below.drew ?_ | refine bel_alloc ?_ _ | refine bel_set ?_ (by first | exact Nat.le_refl _ | (simp; done) | (simp; omega) | omega) _ | refine bel_trans ?_ (by assumption)))) hb_10
    clear t_
    have t_x := f_x.out
    have t_m := f_m.out
    have t_z := f_z.out
    have t_d := f_d.out
    have t_c := f_c.out
    have g_x : Blk w_10 (w.heap.size) 68 #[.int .u64 xi1, .int .u64 xi2, .int .u64 xd1, .int .u64 xd2, .int .u64 xc1, .int .u64 xc2, .int .u64 xm1, .int .u64 xm2, .int .u64 xw1, .int .u64 xw2, .int .u64 xtg, .int .u32 xto, .int .u32 xlg, .int .u16 xcd, .int .u16 xfl, .int .u64 xst, .int .u64 ss, .int .u64 yi1, .int .u64 yi2, .int .u64 yd1, .int .u64 yd2, .int .u64 yc1, .int .u64 yc2, .int .u64 ym1, .int .u64 ym2, .int .u64 yw1, .int .u64 yw2, .int .u64 ytg, .int .u32 yto, .int .u32 ylg, .int .u16 ycd, .int .u16 yfl, .int .u64 yst, .bool true, .int .u8 sv, .int .u64 ai1, .int .u64 ai2, .int .u64 ap1, .int .u64 ap2, .int .u64 aq1, .int .u64 aq2, .int .u64 ar1, .int .u64 ar2, .int .u64 as1, .int .u64 as2, .int .u64 atg, .int .u32 alg, .int .u16 acd, .int .u16 afl, .int .u64 ast, .int .u64 ei1, .int .u64 ei2, .int .u64 ep1, .int .u64 ep2, .int .u64 eq1, .int .u64 eq2, .int .u64 er1, .int .u64 er2, .int .u64 es1, .int .u64 es2, .int .u64 etg, .int .u32 elg, .int .u16 ecd, .int .u16 efl, .int .u64 est, .bool hd, .bool hc] := by
      refine Blk.kept ?_ hb_10
      (repeat (first | with_reducible assumption | (with_reducible refine Blk.new' ?_; first | with_reducible rfl | (simp; done)) | with_reducible refine Blk.alloc ?_ _ | with_reducible refine Blk.grow ?_ _ | with_reducible refine Blk.drew ?_ | with_reducible refine Blk.drewN ?_ _ | (with_reducible refine Blk.far ?_ (by first | (dsimp only; omega) | (simp; omega)) _) | (with_reducible apply Blk.two) | (with_reducible refine Blk.set' ?_ _ _ ?_) | (with_reducible rfl) | rfl))
    have g_m : Blk w_10 (w_2.heap.size) 24 #[.int .u64 m1, .int .u64 m2] := by
      refine Blk.kept ?_ hb_10
      (repeat (first | with_reducible assumption | (with_reducible refine Blk.new' ?_; first | with_reducible rfl | (simp; done)) | with_reducible refine Blk.alloc ?_ _ | with_reducible refine Blk.grow ?_ _ | with_reducible refine Blk.drew ?_ | with_reducible refine Blk.drewN ?_ _ | (with_reducible refine Blk.far ?_ (by first | (dsimp only; omega) | (simp; omega)) _) | (with_reducible apply Blk.two) | (with_reducible refine Blk.set' ?_ _ _ ?_) | (with_reducible rfl) | rfl))
    have g_z : Blk w_10 (w_6.heap.size) 32 #[.int .u64 zai1, .int .u64 zai2, .int .u64 zap1, .int .u64 zap2, .int .u64 zaq1, .int .u64 zaq2, .int .u64 zar1, .int .u64 zar2, .int .u64 zas1, .int .u64 zas2, .int .u64 zatg, .int .u32 zalg, .int .u16 zacd, .int .u16 zafl, .int .u64 zast, .int .u64 zei1, .int .u64 zei2, .int .u64 zep1, .int .u64 zep2, .int .u64 zeq1, .int .u64 zeq2, .int .u64 zer1, .int .u64 zer2, .int .u64 zes1, .int .u64 zes2, .int .u64 zetg, .int .u32 zelg, .int .u16 zecd, .int .u16 zefl, .int .u64 zest, .bool zd, .bool zc] := by
      refine Blk.kept ?_ hb_10
      (repeat (first | with_reducible assumption | (with_reducible refine Blk.new' ?_; first | with_reducible rfl | (simp; done)) | with_reducible refine Blk.alloc ?_ _ | with_reducible refine Blk.grow ?_ _ | with_reducible refine Blk.drew ?_ | with_reducible refine Blk.drewN ?_ _ | (with_reducible refine Blk.far ?_ (by first | (dsimp only; omega) | (simp; omega)) _) | (with_reducible apply Blk.two) | (with_reducible refine Blk.set' ?_ _ _ ?_) | (with_reducible rfl) | rfl))
    have g_d : Blk w_10 (w_7.heap.size) 24 #[.int .u64 dh, .int .u64 dl] := by
      refine Blk.kept ?_ hb_10
      (repeat (first | with_reducible assumption | (with_reducible refine Blk.new' ?_; first | with_reducible rfl | (simp; done)) | with_reducible refine Blk.alloc ?_ _ | with_reducible refine Blk.grow ?_ _ | with_reducible refine Blk.drew ?_ | with_reducible refine Blk.drewN ?_ _ | (with_reducible refine Blk.far ?_ (by first | (dsimp only; omega) | (simp; omega)) _) | (with_reducible apply Blk.two) | (with_reducible refine Blk.set' ?_ _ _ ?_) | (with_reducible rfl) | rfl))
    have g_c : Blk w_10 (w_8.heap.size) 24 #[.int .u64 ch, .int .u64 cl] := by
      refine Blk.kept ?_ hb_10
      (repeat (first | with_reducible assumption | (with_reducible refine Blk.new' ?_; first | with_reducible rfl | (simp; done)) | with_reducible refine Blk.alloc ?_ _ | with_reducible refine Blk.grow ?_ _ | with_reducible refine Blk.drew ?_ | with_reducible refine Blk.drewN ?_ _ | (with_reducible refine Blk.far ?_ (by first | (dsimp only; omega) | (simp; omega)) _) | (with_reducible apply Blk.two) | (with_reducible refine Blk.set' ?_ _ _ ?_) | (with_reducible rfl) | rfl))
    clear f_x x_l r_x x_14 x_f14 x_16 x_f16 x_23 x_f23 x_24 x_f24 x_31 x_f31 x_33 x_f33 x_34 x_f34 x_39 x_f39 x_40 x_f40 f_m m_l m_0 m_1 m_f0 m_f1 f_z z_l r_z z_2 z_f2 z_3 z_f3 z_4 z_f4 z_5 z_f5 z_21 z_f21 z_22 z_f22 z_23 z_f23 z_24 z_f24 f_d d_l d_0 d_1 d_f0 d_f1 f_c c_l c_0 c_1 c_f0 c_f1 t_x t_m t_z t_d t_c hB_9 hb_10
    have f_x := g_x
    clear g_x
    have f_m := g_m
    clear g_m
    have f_z := g_z
    clear g_z
    have f_d := g_d
    clear g_d
    have f_c := g_c
    clear g_c
    have r_x := rowAt_blk f_x
    have x_l := f_x.lt
    have x_14 : w_10.cell? ⟨w.heap.size, 14, none⟩ = some (.int .u16 xfl) := (f_x).cell 14
    have x_f14 := (f_x).frozen 14
    have x_16 : w_10.cell? ⟨w.heap.size, 16, none⟩ = some (.int .u64 ss) := (f_x).cell 16
    have x_f16 := (f_x).frozen 16
    have x_23 : w_10.cell? ⟨w.heap.size, 23, none⟩ = some (.int .u64 ym1) := (f_x).cell 23
    have x_f23 := (f_x).frozen 23
    have x_24 : w_10.cell? ⟨w.heap.size, 24, none⟩ = some (.int .u64 ym2) := (f_x).cell 24
    have x_f24 := (f_x).frozen 24
    have x_31 : w_10.cell? ⟨w.heap.size, 31, none⟩ = some (.int .u16 yfl) := (f_x).cell 31
    have x_f31 := (f_x).frozen 31
    have x_33 : w_10.cell? ⟨w.heap.size, 33, none⟩ = some (.bool true) := (f_x).cell 33
    have x_f33 := (f_x).frozen 33
    have x_34 : w_10.cell? ⟨w.heap.size, 34, none⟩ = some (.int .u8 sv) := (f_x).cell 34
    have x_f34 := (f_x).frozen 34
    have x_39 : w_10.cell? ⟨w.heap.size, 39, none⟩ = some (.int .u64 aq1) := (f_x).cell 39
    have x_f39 := (f_x).frozen 39
    have x_40 : w_10.cell? ⟨w.heap.size, 40, none⟩ = some (.int .u64 aq2) := (f_x).cell 40
    have x_f40 := (f_x).frozen 40
    replace f_x := Lib.hid f_x
    have m_0 : w_10.cell? ⟨w_2.heap.size, 0, none⟩ = some (.int .u64 m1) := (f_m).cell 0
    have m_1 : w_10.cell? ⟨w_2.heap.size, 1, none⟩ = some (.int .u64 m2) := (f_m).cell 1
    have m_f0 := (f_m).frozen 0
    have m_f1 := (f_m).frozen 1
    have m_l := (f_m).lt
    replace f_m := Lib.hid f_m
    have r_z := rowAt_blk f_z
    have z_l := f_z.lt
    have z_2 : w_10.cell? ⟨w_6.heap.size, 2, none⟩ = some (.int .u64 zap1) := (f_z).cell 2
    have z_f2 := (f_z).frozen 2
    have z_3 : w_10.cell? ⟨w_6.heap.size, 3, none⟩ = some (.int .u64 zap2) := (f_z).cell 3
    have z_f3 := (f_z).frozen 3
    have z_4 : w_10.cell? ⟨w_6.heap.size, 4, none⟩ = some (.int .u64 zaq1) := (f_z).cell 4
    have z_f4 := (f_z).frozen 4
    have z_5 : w_10.cell? ⟨w_6.heap.size, 5, none⟩ = some (.int .u64 zaq2) := (f_z).cell 5
    have z_f5 := (f_z).frozen 5
    have z_21 : w_10.cell? ⟨w_6.heap.size, 21, none⟩ = some (.int .u64 zer1) := (f_z).cell 21
    have z_f21 := (f_z).frozen 21
    have z_22 : w_10.cell? ⟨w_6.heap.size, 22, none⟩ = some (.int .u64 zer2) := (f_z).cell 22
    have z_f22 := (f_z).frozen 22
    have z_23 : w_10.cell? ⟨w_6.heap.size, 23, none⟩ = some (.int .u64 zes1) := (f_z).cell 23
    have z_f23 := (f_z).frozen 23
    have z_24 : w_10.cell? ⟨w_6.heap.size, 24, none⟩ = some (.int .u64 zes2) := (f_z).cell 24
    have z_f24 := (f_z).frozen 24
    replace f_z := Lib.hid f_z
    have d_0 : w_10.cell? ⟨w_7.heap.size, 0, none⟩ = some (.int .u64 dh) := (f_d).cell 0
    have d_1 : w_10.cell? ⟨w_7.heap.size, 1, none⟩ = some (.int .u64 dl) := (f_d).cell 1
    have d_f0 := (f_d).frozen 0
    have d_f1 := (f_d).frozen 1
    have d_l := (f_d).lt
    replace f_d := Lib.hid f_d
    have c_0 : w_10.cell? ⟨w_8.heap.size, 0, none⟩ = some (.int .u64 ch) := (f_c).cell 0
    have c_1 : w_10.cell? ⟨w_8.heap.size, 1, none⟩ = some (.int .u64 cl) := (f_c).cell 1
    have c_f0 := (f_c).frozen 0
    have c_f1 := (f_c).frozen 1
    have c_l := (f_c).lt
    replace f_c := Lib.hid f_c
    replace hB_10 := Lib.hid hB_10
    go_wp2_with fail
    go_ret
    exact ⟨by first | rfl | simp, by have t_B := hB_10.out; (repeat (first | with_reducible exact Below.refl _ _ | with_reducible assumption | (with_reducible refine bel_set ?_ (by first | exact Nat.le_refl _ | (simp; done) | (simp; omega) | omega) _) | with_reducible refine bel_grow ?_ _ | with_reducible refine Below.drew ?_ | with_reducible refine bel_alloc ?_ _ | with_reducible refine bel_eld ?_ (by assumption)))⟩
  case true =>
  cases f1
  case false =>

    go_wp2_with fail
    refine (HX.out _).mono ?_
    rintro e w_10 ⟨rfl, hb_10⟩
    have z_10 := hb_10.size
    try simp at z_10
    have t_ := hB_9.out
    have hB_10 := bel_eld (w := w) (X := _) (by first | ((repeat (first | with_reducible exact Below.refl _ _ | with_reducible assumption | (with_reducible refine bel_set ?_ (by first | exact Nat.le_refl _ | (simp; done) | (simp; omega) | omega) _) | with_reducible refine bel_grow ?_ _ | with_reducible refine Below.drew ?_ | with_reducible refine below_drewN ?_ _ | with_reducible refine bel_alloc ?_ _ | with_reducible refine bel_trans ?_ (by assumption))); done) | (repeat (first | exact Below.refl _ _ | assumption | refine below_drewN ?_ _ | refine bel_grow ?_ _ | refine Below.drew ?_ | refine bel_alloc ?_ _ | refine bel_set ?_ (by first | exact Nat.le_refl _ | (simp; done) | (simp; omega) | omega) _ | refine bel_trans ?_ (by assumption)))) hb_10
    clear t_
    have t_x := f_x.out
    have t_m := f_m.out
    have t_z := f_z.out
    have t_d := f_d.out
    have t_c := f_c.out
    have g_x : Blk w_10 (w.heap.size) 68 #[.int .u64 xi1, .int .u64 xi2, .int .u64 xd1, .int .u64 xd2, .int .u64 xc1, .int .u64 xc2, .int .u64 xm1, .int .u64 xm2, .int .u64 xw1, .int .u64 xw2, .int .u64 xtg, .int .u32 xto, .int .u32 xlg, .int .u16 xcd, .int .u16 xfl, .int .u64 xst, .int .u64 ss, .int .u64 yi1, .int .u64 yi2, .int .u64 yd1, .int .u64 yd2, .int .u64 yc1, .int .u64 yc2, .int .u64 ym1, .int .u64 ym2, .int .u64 yw1, .int .u64 yw2, .int .u64 ytg, .int .u32 yto, .int .u32 ylg, .int .u16 ycd, .int .u16 yfl, .int .u64 yst, .bool true, .int .u8 sv, .int .u64 ai1, .int .u64 ai2, .int .u64 ap1, .int .u64 ap2, .int .u64 aq1, .int .u64 aq2, .int .u64 ar1, .int .u64 ar2, .int .u64 as1, .int .u64 as2, .int .u64 atg, .int .u32 alg, .int .u16 acd, .int .u16 afl, .int .u64 ast, .int .u64 ei1, .int .u64 ei2, .int .u64 ep1, .int .u64 ep2, .int .u64 eq1, .int .u64 eq2, .int .u64 er1, .int .u64 er2, .int .u64 es1, .int .u64 es2, .int .u64 etg, .int .u32 elg, .int .u16 ecd, .int .u16 efl, .int .u64 est, .bool hd, .bool hc] := by
      refine Blk.kept ?_ hb_10
      (repeat (first | with_reducible assumption | (with_reducible refine Blk.new' ?_; first | with_reducible rfl | (simp; done)) | with_reducible refine Blk.alloc ?_ _ | with_reducible refine Blk.grow ?_ _ | with_reducible refine Blk.drew ?_ | with_reducible refine Blk.drewN ?_ _ | (with_reducible refine Blk.far ?_ (by first | (dsimp only; omega) | (simp; omega)) _) | (with_reducible apply Blk.two) | (with_reducible refine Blk.set' ?_ _ _ ?_) | (with_reducible rfl) | rfl))
    have g_m : Blk w_10 (w_2.heap.size) 24 #[.int .u64 m1, .int .u64 m2] := by
      refine Blk.kept ?_ hb_10
      (repeat (first | with_reducible assumption | (with_reducible refine Blk.new' ?_; first | with_reducible rfl | (simp; done)) | with_reducible refine Blk.alloc ?_ _ | with_reducible refine Blk.grow ?_ _ | with_reducible refine Blk.drew ?_ | with_reducible refine Blk.drewN ?_ _ | (with_reducible refine Blk.far ?_ (by first | (dsimp only; omega) | (simp; omega)) _) | (with_reducible apply Blk.two) | (with_reducible refine Blk.set' ?_ _ _ ?_) | (with_reducible rfl) | rfl))
    have g_z : Blk w_10 (w_6.heap.size) 32 #[.int .u64 zai1, .int .u64 zai2, .int .u64 zap1, .int .u64 zap2, .int .u64 zaq1, .int .u64 zaq2, .int .u64 zar1, .int .u64 zar2, .int .u64 zas1, .int .u64 zas2, .int .u64 zatg, .int .u32 zalg, .int .u16 zacd, .int .u16 zafl, .int .u64 zast, .int .u64 zei1, .int .u64 zei2, .int .u64 zep1, .int .u64 zep2, .int .u64 zeq1, .int .u64 zeq2, .int .u64 zer1, .int .u64 zer2, .int .u64 zes1, .int .u64 zes2, .int .u64 zetg, .int .u32 zelg, .int .u16 zecd, .int .u16 zefl, .int .u64 zest, .bool zd, .bool zc] := by
      refine Blk.kept ?_ hb_10
      (repeat (first | with_reducible assumption | (with_reducible refine Blk.new' ?_; first | with_reducible rfl | (simp; done)) | with_reducible refine Blk.alloc ?_ _ | with_reducible refine Blk.grow ?_ _ | with_reducible refine Blk.drew ?_ | with_reducible refine Blk.drewN ?_ _ | (with_reducible refine Blk.far ?_ (by first | (dsimp only; omega) | (simp; omega)) _) | (with_reducible apply Blk.two) | (with_reducible refine Blk.set' ?_ _ _ ?_) | (with_reducible rfl) | rfl))
    have g_d : Blk w_10 (w_7.heap.size) 24 #[.int .u64 dh, .int .u64 dl] := by
      refine Blk.kept ?_ hb_10
      (repeat (first | with_reducible assumption | (with_reducible refine Blk.new' ?_; first | with_reducible rfl | (simp; done)) | with_reducible refine Blk.alloc ?_ _ | with_reducible refine Blk.grow ?_ _ | with_reducible refine Blk.drew ?_ | with_reducible refine Blk.drewN ?_ _ | (with_reducible refine Blk.far ?_ (by first | (dsimp only; omega) | (simp; omega)) _) | (with_reducible apply Blk.two) | (with_reducible refine Blk.set' ?_ _ _ ?_) | (with_reducible rfl) | rfl))
    have g_c : Blk w_10 (w_8.heap.size) 24 #[.int .u64 ch, .int .u64 cl] := by
      refine Blk.kept ?_ hb_10
      (repeat (first | with_reducible assumption | (with_reducible refine Blk.new' ?_; first | with_reducible rfl | (simp; done)) | with_reducible refine Blk.alloc ?_ _ | with_reducible refine Blk.grow ?_ _ | with_reducible refine Blk.drew ?_ | with_reducible refine Blk.drewN ?_ _ | (with_reducible refine Blk.far ?_ (by first | (dsimp only; omega) | (simp; omega)) _) | (with_reducible apply Blk.two) | (with_reducible refine Blk.set' ?_ _ _ ?_) | (with_reducible rfl) | rfl))
    clear f_x x_l r_x x_14 x_f14 x_16 x_f16 x_23 x_f23 x_24 x_f24 x_31 x_f31 x_33 x_f33 x_34 x_f34 x_39 x_f39 x_40 x_f40 f_m m_l m_0 m_1 m_f0 m_f1 f_z z_l r_z z_2 z_f2 z_3 z_f3 z_4 z_f4 z_5 z_f5 z_21 z_f21 z_22 z_f22 z_23 z_f23 z_24 z_f24 f_d d_l d_0 d_1 d_f0 d_f1 f_c c_l c_0 c_1 c_f0 c_f1 t_x t_m t_z t_d t_c hB_9 hb_10
    have f_x := g_x
    clear g_x
    have f_m := g_m
    clear g_m
    have f_z := g_z
    clear g_z
    have f_d := g_d
    clear g_d
    have f_c := g_c
    clear g_c
    have r_x := rowAt_blk f_x
    have x_l := f_x.lt
    have x_14 : w_10.cell? ⟨w.heap.size, 14, none⟩ = some (.int .u16 xfl) := (f_x).cell 14
    have x_f14 := (f_x).frozen 14
    have x_16 : w_10.cell? ⟨w.heap.size, 16, none⟩ = some (.int .u64 ss) := (f_x).cell 16
    have x_f16 := (f_x).frozen 16
    have x_23 : w_10.cell? ⟨w.heap.size, 23, none⟩ = some (.int .u64 ym1) := (f_x).cell 23
    have x_f23 := (f_x).frozen 23
    have x_24 : w_10.cell? ⟨w.heap.size, 24, none⟩ = some (.int .u64 ym2) := (f_x).cell 24
    have x_f24 := (f_x).frozen 24
    have x_31 : w_10.cell? ⟨w.heap.size, 31, none⟩ = some (.int .u16 yfl) := (f_x).cell 31
    have x_f31 := (f_x).frozen 31
    have x_33 : w_10.cell? ⟨w.heap.size, 33, none⟩ = some (.bool true) := (f_x).cell 33
    have x_f33 := (f_x).frozen 33
    have x_34 : w_10.cell? ⟨w.heap.size, 34, none⟩ = some (.int .u8 sv) := (f_x).cell 34
    have x_f34 := (f_x).frozen 34
    have x_39 : w_10.cell? ⟨w.heap.size, 39, none⟩ = some (.int .u64 aq1) := (f_x).cell 39
    have x_f39 := (f_x).frozen 39
    have x_40 : w_10.cell? ⟨w.heap.size, 40, none⟩ = some (.int .u64 aq2) := (f_x).cell 40
    have x_f40 := (f_x).frozen 40
    replace f_x := Lib.hid f_x
    have m_0 : w_10.cell? ⟨w_2.heap.size, 0, none⟩ = some (.int .u64 m1) := (f_m).cell 0
    have m_1 : w_10.cell? ⟨w_2.heap.size, 1, none⟩ = some (.int .u64 m2) := (f_m).cell 1
    have m_f0 := (f_m).frozen 0
    have m_f1 := (f_m).frozen 1
    have m_l := (f_m).lt
    replace f_m := Lib.hid f_m
    have r_z := rowAt_blk f_z
    have z_l := f_z.lt
    have z_2 : w_10.cell? ⟨w_6.heap.size, 2, none⟩ = some (.int .u64 zap1) := (f_z).cell 2
    have z_f2 := (f_z).frozen 2
    have z_3 : w_10.cell? ⟨w_6.heap.size, 3, none⟩ = some (.int .u64 zap2) := (f_z).cell 3
    have z_f3 := (f_z).frozen 3
    have z_4 : w_10.cell? ⟨w_6.heap.size, 4, none⟩ = some (.int .u64 zaq1) := (f_z).cell 4
    have z_f4 := (f_z).frozen 4
    have z_5 : w_10.cell? ⟨w_6.heap.size, 5, none⟩ = some (.int .u64 zaq2) := (f_z).cell 5
    have z_f5 := (f_z).frozen 5
    have z_21 : w_10.cell? ⟨w_6.heap.size, 21, none⟩ = some (.int .u64 zer1) := (f_z).cell 21
    have z_f21 := (f_z).frozen 21
    have z_22 : w_10.cell? ⟨w_6.heap.size, 22, none⟩ = some (.int .u64 zer2) := (f_z).cell 22
    have z_f22 := (f_z).frozen 22
    have z_23 : w_10.cell? ⟨w_6.heap.size, 23, none⟩ = some (.int .u64 zes1) := (f_z).cell 23
    have z_f23 := (f_z).frozen 23
    have z_24 : w_10.cell? ⟨w_6.heap.size, 24, none⟩ = some (.int .u64 zes2) := (f_z).cell 24
    have z_f24 := (f_z).frozen 24
    replace f_z := Lib.hid f_z
    have d_0 : w_10.cell? ⟨w_7.heap.size, 0, none⟩ = some (.int .u64 dh) := (f_d).cell 0
    have d_1 : w_10.cell? ⟨w_7.heap.size, 1, none⟩ = some (.int .u64 dl) := (f_d).cell 1
    have d_f0 := (f_d).frozen 0
    have d_f1 := (f_d).frozen 1
    have d_l := (f_d).lt
    replace f_d := Lib.hid f_d
    have c_0 : w_10.cell? ⟨w_8.heap.size, 0, none⟩ = some (.int .u64 ch) := (f_c).cell 0
    have c_1 : w_10.cell? ⟨w_8.heap.size, 1, none⟩ = some (.int .u64 cl) := (f_c).cell 1
    have c_f0 := (f_c).frozen 0
    have c_f1 := (f_c).frozen 1
    have c_l := (f_c).lt
    replace f_c := Lib.hid f_c
    replace hB_10 := Lib.hid hB_10
    go_wp2_with fail
    go_ret
    exact ⟨by first | rfl | simp, by have t_B := hB_10.out; (repeat (first | with_reducible exact Below.refl _ _ | with_reducible assumption | (with_reducible refine bel_set ?_ (by first | exact Nat.le_refl _ | (simp; done) | (simp; omega) | omega) _) | with_reducible refine bel_grow ?_ _ | with_reducible refine Below.drew ?_ | with_reducible refine bel_alloc ?_ _ | with_reducible refine bel_eld ?_ (by assumption)))⟩
  case true =>
  cases f2
  case false =>

    go_wp2_with fail
    refine (HX.out _).mono ?_
    rintro e w_10 ⟨rfl, hb_10⟩
    have z_10 := hb_10.size
    try simp at z_10
    have t_ := hB_9.out
    have hB_10 := bel_eld (w := w) (X := _) (by first | ((repeat (first | with_reducible exact Below.refl _ _ | with_reducible assumption | (with_reducible refine bel_set ?_ (by first | exact Nat.le_refl _ | (simp; done) | (simp; omega) | omega) _) | with_reducible refine bel_grow ?_ _ | with_reducible refine Below.drew ?_ | with_reducible refine below_drewN ?_ _ | with_reducible refine bel_alloc ?_ _ | with_reducible refine bel_trans ?_ (by assumption))); done) | (repeat (first | exact Below.refl _ _ | assumption | refine below_drewN ?_ _ | refine bel_grow ?_ _ | refine Below.drew ?_ | refine bel_alloc ?_ _ | refine bel_set ?_ (by first | exact Nat.le_refl _ | (simp; done) | (simp; omega) | omega) _ | refine bel_trans ?_ (by assumption)))) hb_10
    clear t_
    have t_x := f_x.out
    have t_m := f_m.out
    have t_z := f_z.out
    have t_d := f_d.out
    have t_c := f_c.out
    have g_x : Blk w_10 (w.heap.size) 68 #[.int .u64 xi1, .int .u64 xi2, .int .u64 xd1, .int .u64 xd2, .int .u64 xc1, .int .u64 xc2, .int .u64 xm1, .int .u64 xm2, .int .u64 xw1, .int .u64 xw2, .int .u64 xtg, .int .u32 xto, .int .u32 xlg, .int .u16 xcd, .int .u16 xfl, .int .u64 xst, .int .u64 ss, .int .u64 yi1, .int .u64 yi2, .int .u64 yd1, .int .u64 yd2, .int .u64 yc1, .int .u64 yc2, .int .u64 ym1, .int .u64 ym2, .int .u64 yw1, .int .u64 yw2, .int .u64 ytg, .int .u32 yto, .int .u32 ylg, .int .u16 ycd, .int .u16 yfl, .int .u64 yst, .bool true, .int .u8 sv, .int .u64 ai1, .int .u64 ai2, .int .u64 ap1, .int .u64 ap2, .int .u64 aq1, .int .u64 aq2, .int .u64 ar1, .int .u64 ar2, .int .u64 as1, .int .u64 as2, .int .u64 atg, .int .u32 alg, .int .u16 acd, .int .u16 afl, .int .u64 ast, .int .u64 ei1, .int .u64 ei2, .int .u64 ep1, .int .u64 ep2, .int .u64 eq1, .int .u64 eq2, .int .u64 er1, .int .u64 er2, .int .u64 es1, .int .u64 es2, .int .u64 etg, .int .u32 elg, .int .u16 ecd, .int .u16 efl, .int .u64 est, .bool hd, .bool hc] := by
      refine Blk.kept ?_ hb_10
      (repeat (first | with_reducible assumption | (with_reducible refine Blk.new' ?_; first | with_reducible rfl | (simp; done)) | with_reducible refine Blk.alloc ?_ _ | with_reducible refine Blk.grow ?_ _ | with_reducible refine Blk.drew ?_ | with_reducible refine Blk.drewN ?_ _ | (with_reducible refine Blk.far ?_ (by first | (dsimp only; omega) | (simp; omega)) _) | (with_reducible apply Blk.two) | (with_reducible refine Blk.set' ?_ _ _ ?_) | (with_reducible rfl) | rfl))
    have g_m : Blk w_10 (w_2.heap.size) 24 #[.int .u64 m1, .int .u64 m2] := by
      refine Blk.kept ?_ hb_10
      (repeat (first | with_reducible assumption | (with_reducible refine Blk.new' ?_; first | with_reducible rfl | (simp; done)) | with_reducible refine Blk.alloc ?_ _ | with_reducible refine Blk.grow ?_ _ | with_reducible refine Blk.drew ?_ | with_reducible refine Blk.drewN ?_ _ | (with_reducible refine Blk.far ?_ (by first | (dsimp only; omega) | (simp; omega)) _) | (with_reducible apply Blk.two) | (with_reducible refine Blk.set' ?_ _ _ ?_) | (with_reducible rfl) | rfl))
    have g_z : Blk w_10 (w_6.heap.size) 32 #[.int .u64 zai1, .int .u64 zai2, .int .u64 zap1, .int .u64 zap2, .int .u64 zaq1, .int .u64 zaq2, .int .u64 zar1, .int .u64 zar2, .int .u64 zas1, .int .u64 zas2, .int .u64 zatg, .int .u32 zalg, .int .u16 zacd, .int .u16 zafl, .int .u64 zast, .int .u64 zei1, .int .u64 zei2, .int .u64 zep1, .int .u64 zep2, .int .u64 zeq1, .int .u64 zeq2, .int .u64 zer1, .int .u64 zer2, .int .u64 zes1, .int .u64 zes2, .int .u64 zetg, .int .u32 zelg, .int .u16 zecd, .int .u16 zefl, .int .u64 zest, .bool zd, .bool zc] := by
      refine Blk.kept ?_ hb_10
      (repeat (first | with_reducible assumption | (with_reducible refine Blk.new' ?_; first | with_reducible rfl | (simp; done)) | with_reducible refine Blk.alloc ?_ _ | with_reducible refine Blk.grow ?_ _ | with_reducible refine Blk.drew ?_ | with_reducible refine Blk.drewN ?_ _ | (with_reducible refine Blk.far ?_ (by first | (dsimp only; omega) | (simp; omega)) _) | (with_reducible apply Blk.two) | (with_reducible refine Blk.set' ?_ _ _ ?_) | (with_reducible rfl) | rfl))
    have g_d : Blk w_10 (w_7.heap.size) 24 #[.int .u64 dh, .int .u64 dl] := by
      refine Blk.kept ?_ hb_10
      (repeat (first | with_reducible assumption | (with_reducible refine Blk.new' ?_; first | with_reducible rfl | (simp; done)) | with_reducible refine Blk.alloc ?_ _ | with_reducible refine Blk.grow ?_ _ | with_reducible refine Blk.drew ?_ | with_reducible refine Blk.drewN ?_ _ | (with_reducible refine Blk.far ?_ (by first | (dsimp only; omega) | (simp; omega)) _) | (with_reducible apply Blk.two) | (with_reducible refine Blk.set' ?_ _ _ ?_) | (with_reducible rfl) | rfl))
    have g_c : Blk w_10 (w_8.heap.size) 24 #[.int .u64 ch, .int .u64 cl] := by
      refine Blk.kept ?_ hb_10
      (repeat (first | with_reducible assumption | (with_reducible refine Blk.new' ?_; first | with_reducible rfl | (simp; done)) | with_reducible refine Blk.alloc ?_ _ | with_reducible refine Blk.grow ?_ _ | with_reducible refine Blk.drew ?_ | with_reducible refine Blk.drewN ?_ _ | (with_reducible refine Blk.far ?_ (by first | (dsimp only; omega) | (simp; omega)) _) | (with_reducible apply Blk.two) | (with_reducible refine Blk.set' ?_ _ _ ?_) | (with_reducible rfl) | rfl))
    clear f_x x_l r_x x_14 x_f14 x_16 x_f16 x_23 x_f23 x_24 x_f24 x_31 x_f31 x_33 x_f33 x_34 x_f34 x_39 x_f39 x_40 x_f40 f_m m_l m_0 m_1 m_f0 m_f1 f_z z_l r_z z_2 z_f2 z_3 z_f3 z_4 z_f4 z_5 z_f5 z_21 z_f21 z_22 z_f22 z_23 z_f23 z_24 z_f24 f_d d_l d_0 d_1 d_f0 d_f1 f_c c_l c_0 c_1 c_f0 c_f1 t_x t_m t_z t_d t_c hB_9 hb_10
    have f_x := g_x
    clear g_x
    have f_m := g_m
    clear g_m
    have f_z := g_z
    clear g_z
    have f_d := g_d
    clear g_d
    have f_c := g_c
    clear g_c
    have r_x := rowAt_blk f_x
    have x_l := f_x.lt
    have x_14 : w_10.cell? ⟨w.heap.size, 14, none⟩ = some (.int .u16 xfl) := (f_x).cell 14
    have x_f14 := (f_x).frozen 14
    have x_16 : w_10.cell? ⟨w.heap.size, 16, none⟩ = some (.int .u64 ss) := (f_x).cell 16
    have x_f16 := (f_x).frozen 16
    have x_23 : w_10.cell? ⟨w.heap.size, 23, none⟩ = some (.int .u64 ym1) := (f_x).cell 23
    have x_f23 := (f_x).frozen 23
    have x_24 : w_10.cell? ⟨w.heap.size, 24, none⟩ = some (.int .u64 ym2) := (f_x).cell 24
    have x_f24 := (f_x).frozen 24
    have x_31 : w_10.cell? ⟨w.heap.size, 31, none⟩ = some (.int .u16 yfl) := (f_x).cell 31
    have x_f31 := (f_x).frozen 31
    have x_33 : w_10.cell? ⟨w.heap.size, 33, none⟩ = some (.bool true) := (f_x).cell 33
    have x_f33 := (f_x).frozen 33
    have x_34 : w_10.cell? ⟨w.heap.size, 34, none⟩ = some (.int .u8 sv) := (f_x).cell 34
    have x_f34 := (f_x).frozen 34
    have x_39 : w_10.cell? ⟨w.heap.size, 39, none⟩ = some (.int .u64 aq1) := (f_x).cell 39
    have x_f39 := (f_x).frozen 39
    have x_40 : w_10.cell? ⟨w.heap.size, 40, none⟩ = some (.int .u64 aq2) := (f_x).cell 40
    have x_f40 := (f_x).frozen 40
    replace f_x := Lib.hid f_x
    have m_0 : w_10.cell? ⟨w_2.heap.size, 0, none⟩ = some (.int .u64 m1) := (f_m).cell 0
    have m_1 : w_10.cell? ⟨w_2.heap.size, 1, none⟩ = some (.int .u64 m2) := (f_m).cell 1
    have m_f0 := (f_m).frozen 0
    have m_f1 := (f_m).frozen 1
    have m_l := (f_m).lt
    replace f_m := Lib.hid f_m
    have r_z := rowAt_blk f_z
    have z_l := f_z.lt
    have z_2 : w_10.cell? ⟨w_6.heap.size, 2, none⟩ = some (.int .u64 zap1) := (f_z).cell 2
    have z_f2 := (f_z).frozen 2
    have z_3 : w_10.cell? ⟨w_6.heap.size, 3, none⟩ = some (.int .u64 zap2) := (f_z).cell 3
    have z_f3 := (f_z).frozen 3
    have z_4 : w_10.cell? ⟨w_6.heap.size, 4, none⟩ = some (.int .u64 zaq1) := (f_z).cell 4
    have z_f4 := (f_z).frozen 4
    have z_5 : w_10.cell? ⟨w_6.heap.size, 5, none⟩ = some (.int .u64 zaq2) := (f_z).cell 5
    have z_f5 := (f_z).frozen 5
    have z_21 : w_10.cell? ⟨w_6.heap.size, 21, none⟩ = some (.int .u64 zer1) := (f_z).cell 21
    have z_f21 := (f_z).frozen 21
    have z_22 : w_10.cell? ⟨w_6.heap.size, 22, none⟩ = some (.int .u64 zer2) := (f_z).cell 22
    have z_f22 := (f_z).frozen 22
    have z_23 : w_10.cell? ⟨w_6.heap.size, 23, none⟩ = some (.int .u64 zes1) := (f_z).cell 23
    have z_f23 := (f_z).frozen 23
    have z_24 : w_10.cell? ⟨w_6.heap.size, 24, none⟩ = some (.int .u64 zes2) := (f_z).cell 24
    have z_f24 := (f_z).frozen 24
    replace f_z := Lib.hid f_z
    have d_0 : w_10.cell? ⟨w_7.heap.size, 0, none⟩ = some (.int .u64 dh) := (f_d).cell 0
    have d_1 : w_10.cell? ⟨w_7.heap.size, 1, none⟩ = some (.int .u64 dl) := (f_d).cell 1
    have d_f0 := (f_d).frozen 0
    have d_f1 := (f_d).frozen 1
    have d_l := (f_d).lt
    replace f_d := Lib.hid f_d
    have c_0 : w_10.cell? ⟨w_8.heap.size, 0, none⟩ = some (.int .u64 ch) := (f_c).cell 0
    have c_1 : w_10.cell? ⟨w_8.heap.size, 1, none⟩ = some (.int .u64 cl) := (f_c).cell 1
    have c_f0 := (f_c).frozen 0
    have c_f1 := (f_c).frozen 1
    have c_l := (f_c).lt
    replace f_c := Lib.hid f_c
    replace hB_10 := Lib.hid hB_10
    go_wp2_with fail
    go_ret
    exact ⟨by first | rfl | simp, by have t_B := hB_10.out; (repeat (first | with_reducible exact Below.refl _ _ | with_reducible assumption | (with_reducible refine bel_set ?_ (by first | exact Nat.le_refl _ | (simp; done) | (simp; omega) | omega) _) | with_reducible refine bel_grow ?_ _ | with_reducible refine Below.drew ?_ | with_reducible refine bel_alloc ?_ _ | with_reducible refine bel_eld ?_ (by assumption)))⟩
  case true =>

  obtain ⟨rfl, rfl, rfl, g1, g2, g3⟩ := F1.out rfl rfl rfl
  replace g3 := Lib.hid g3
  clear F1
  go_wp2_with fail
  refine (HS.out _).mono ?_
  rintro e w_10 ⟨rfl, hb_10⟩
  have z_10 := hb_10.size
  try simp at z_10
  have t_ := hB_9.out
  have hB_10 := bel_eld (w := w) (X := _) (by first | ((repeat (first | with_reducible exact Below.refl _ _ | with_reducible assumption | (with_reducible refine bel_set ?_ (by first | exact Nat.le_refl _ | (simp; done) | (simp; omega) | omega) _) | with_reducible refine bel_grow ?_ _ | with_reducible refine Below.drew ?_ | with_reducible refine below_drewN ?_ _ | with_reducible refine bel_alloc ?_ _ | with_reducible refine bel_trans ?_ (by assumption))); done) | (repeat (first | exact Below.refl _ _ | assumption | refine below_drewN ?_ _ | refine bel_grow ?_ _ | refine Below.drew ?_ | refine bel_alloc ?_ _ | refine bel_set ?_ (by first | exact Nat.le_refl _ | (simp; done) | (simp; omega) | omega) _ | refine bel_trans ?_ (by assumption)))) hb_10
  clear t_
  have t_x := f_x.out
  have t_m := f_m.out
  have t_z := f_z.out
  have t_d := f_d.out
  have t_c := f_c.out
  have g_x : Blk w_10 (w.heap.size) 68 #[.int .u64 xi1, .int .u64 xi2, .int .u64 xd1, .int .u64 xd2, .int .u64 xc1, .int .u64 xc2, .int .u64 xm1, .int .u64 xm2, .int .u64 xw1, .int .u64 xw2, .int .u64 xtg, .int .u32 xto, .int .u32 xlg, .int .u16 xcd, .int .u16 xfl, .int .u64 xst, .int .u64 ss, .int .u64 yi1, .int .u64 yi2, .int .u64 yd1, .int .u64 yd2, .int .u64 yc1, .int .u64 yc2, .int .u64 ym1, .int .u64 ym2, .int .u64 yw1, .int .u64 yw2, .int .u64 ytg, .int .u32 yto, .int .u32 ylg, .int .u16 ycd, .int .u16 yfl, .int .u64 yst, .bool true, .int .u8 sv, .int .u64 ai1, .int .u64 ai2, .int .u64 ap1, .int .u64 ap2, .int .u64 aq1, .int .u64 aq2, .int .u64 ar1, .int .u64 ar2, .int .u64 as1, .int .u64 as2, .int .u64 atg, .int .u32 alg, .int .u16 acd, .int .u16 afl, .int .u64 ast, .int .u64 ei1, .int .u64 ei2, .int .u64 ep1, .int .u64 ep2, .int .u64 eq1, .int .u64 eq2, .int .u64 er1, .int .u64 er2, .int .u64 es1, .int .u64 es2, .int .u64 etg, .int .u32 elg, .int .u16 ecd, .int .u16 efl, .int .u64 est, .bool hd, .bool hc] := by
    refine Blk.kept ?_ hb_10
    (repeat (first | with_reducible assumption | (with_reducible refine Blk.new' ?_; first | with_reducible rfl | (simp; done)) | with_reducible refine Blk.alloc ?_ _ | with_reducible refine Blk.grow ?_ _ | with_reducible refine Blk.drew ?_ | with_reducible refine Blk.drewN ?_ _ | (with_reducible refine Blk.far ?_ (by first | (dsimp only; omega) | (simp; omega)) _) | (with_reducible apply Blk.two) | (with_reducible refine Blk.set' ?_ _ _ ?_) | (with_reducible rfl) | rfl))
  have g_m : Blk w_10 (w_2.heap.size) 24 #[.int .u64 m1, .int .u64 m2] := by
    refine Blk.kept ?_ hb_10
    (repeat (first | with_reducible assumption | (with_reducible refine Blk.new' ?_; first | with_reducible rfl | (simp; done)) | with_reducible refine Blk.alloc ?_ _ | with_reducible refine Blk.grow ?_ _ | with_reducible refine Blk.drew ?_ | with_reducible refine Blk.drewN ?_ _ | (with_reducible refine Blk.far ?_ (by first | (dsimp only; omega) | (simp; omega)) _) | (with_reducible apply Blk.two) | (with_reducible refine Blk.set' ?_ _ _ ?_) | (with_reducible rfl) | rfl))
  have g_z : Blk w_10 (w_6.heap.size) 32 #[.int .u64 zai1, .int .u64 zai2, .int .u64 zap1, .int .u64 zap2, .int .u64 zaq1, .int .u64 zaq2, .int .u64 zar1, .int .u64 zar2, .int .u64 zas1, .int .u64 zas2, .int .u64 zatg, .int .u32 zalg, .int .u16 zacd, .int .u16 zafl, .int .u64 zast, .int .u64 zei1, .int .u64 zei2, .int .u64 zep1, .int .u64 zep2, .int .u64 zeq1, .int .u64 zeq2, .int .u64 zer1, .int .u64 zer2, .int .u64 zes1, .int .u64 zes2, .int .u64 zetg, .int .u32 zelg, .int .u16 zecd, .int .u16 zefl, .int .u64 zest, .bool zd, .bool zc] := by
    refine Blk.kept ?_ hb_10
    (repeat (first | with_reducible assumption | (with_reducible refine Blk.new' ?_; first | with_reducible rfl | (simp; done)) | with_reducible refine Blk.alloc ?_ _ | with_reducible refine Blk.grow ?_ _ | with_reducible refine Blk.drew ?_ | with_reducible refine Blk.drewN ?_ _ | (with_reducible refine Blk.far ?_ (by first | (dsimp only; omega) | (simp; omega)) _) | (with_reducible apply Blk.two) | (with_reducible refine Blk.set' ?_ _ _ ?_) | (with_reducible rfl) | rfl))
  have g_d : Blk w_10 (w_7.heap.size) 24 #[.int .u64 dh, .int .u64 dl] := by
    refine Blk.kept ?_ hb_10
    (repeat (first | with_reducible assumption | (with_reducible refine Blk.new' ?_; first | with_reducible rfl | (simp; done)) | with_reducible refine Blk.alloc ?_ _ | with_reducible refine Blk.grow ?_ _ | with_reducible refine Blk.drew ?_ | with_reducible refine Blk.drewN ?_ _ | (with_reducible refine Blk.far ?_ (by first | (dsimp only; omega) | (simp; omega)) _) | (with_reducible apply Blk.two) | (with_reducible refine Blk.set' ?_ _ _ ?_) | (with_reducible rfl) | rfl))
  have g_c : Blk w_10 (w_8.heap.size) 24 #[.int .u64 ch, .int .u64 cl] := by
    refine Blk.kept ?_ hb_10
    (repeat (first | with_reducible assumption | (with_reducible refine Blk.new' ?_; first | with_reducible rfl | (simp; done)) | with_reducible refine Blk.alloc ?_ _ | with_reducible refine Blk.grow ?_ _ | with_reducible refine Blk.drew ?_ | with_reducible refine Blk.drewN ?_ _ | (with_reducible refine Blk.far ?_ (by first | (dsimp only; omega) | (simp; omega)) _) | (with_reducible apply Blk.two) | (with_reducible refine Blk.set' ?_ _ _ ?_) | (with_reducible rfl) | rfl))
  clear f_x x_l r_x x_14 x_f14 x_16 x_f16 x_23 x_f23 x_24 x_f24 x_31 x_f31 x_33 x_f33 x_34 x_f34 x_39 x_f39 x_40 x_f40 f_m m_l m_0 m_1 m_f0 m_f1 f_z z_l r_z z_2 z_f2 z_3 z_f3 z_4 z_f4 z_5 z_f5 z_21 z_f21 z_22 z_f22 z_23 z_f23 z_24 z_f24 f_d d_l d_0 d_1 d_f0 d_f1 f_c c_l c_0 c_1 c_f0 c_f1 t_x t_m t_z t_d t_c hB_9 hb_10
  have f_x := g_x
  clear g_x
  have f_m := g_m
  clear g_m
  have f_z := g_z
  clear g_z
  have f_d := g_d
  clear g_d
  have f_c := g_c
  clear g_c
  have r_x := rowAt_blk f_x
  have x_l := f_x.lt
  have x_14 : w_10.cell? ⟨w.heap.size, 14, none⟩ = some (.int .u16 xfl) := (f_x).cell 14
  have x_f14 := (f_x).frozen 14
  have x_16 : w_10.cell? ⟨w.heap.size, 16, none⟩ = some (.int .u64 ss) := (f_x).cell 16
  have x_f16 := (f_x).frozen 16
  have x_23 : w_10.cell? ⟨w.heap.size, 23, none⟩ = some (.int .u64 ym1) := (f_x).cell 23
  have x_f23 := (f_x).frozen 23
  have x_24 : w_10.cell? ⟨w.heap.size, 24, none⟩ = some (.int .u64 ym2) := (f_x).cell 24
  have x_f24 := (f_x).frozen 24
  have x_31 : w_10.cell? ⟨w.heap.size, 31, none⟩ = some (.int .u16 yfl) := (f_x).cell 31
  have x_f31 := (f_x).frozen 31
  have x_33 : w_10.cell? ⟨w.heap.size, 33, none⟩ = some (.bool true) := (f_x).cell 33
  have x_f33 := (f_x).frozen 33
  have x_34 : w_10.cell? ⟨w.heap.size, 34, none⟩ = some (.int .u8 sv) := (f_x).cell 34
  have x_f34 := (f_x).frozen 34
  have x_39 : w_10.cell? ⟨w.heap.size, 39, none⟩ = some (.int .u64 aq1) := (f_x).cell 39
  have x_f39 := (f_x).frozen 39
  have x_40 : w_10.cell? ⟨w.heap.size, 40, none⟩ = some (.int .u64 aq2) := (f_x).cell 40
  have x_f40 := (f_x).frozen 40
  replace f_x := Lib.hid f_x
  have m_0 : w_10.cell? ⟨w_2.heap.size, 0, none⟩ = some (.int .u64 m1) := (f_m).cell 0
  have m_1 : w_10.cell? ⟨w_2.heap.size, 1, none⟩ = some (.int .u64 m2) := (f_m).cell 1
  have m_f0 := (f_m).frozen 0
  have m_f1 := (f_m).frozen 1
  have m_l := (f_m).lt
  replace f_m := Lib.hid f_m
  have r_z := rowAt_blk f_z
  have z_l := f_z.lt
  have z_2 : w_10.cell? ⟨w_6.heap.size, 2, none⟩ = some (.int .u64 zap1) := (f_z).cell 2
  have z_f2 := (f_z).frozen 2
  have z_3 : w_10.cell? ⟨w_6.heap.size, 3, none⟩ = some (.int .u64 zap2) := (f_z).cell 3
  have z_f3 := (f_z).frozen 3
  have z_4 : w_10.cell? ⟨w_6.heap.size, 4, none⟩ = some (.int .u64 zaq1) := (f_z).cell 4
  have z_f4 := (f_z).frozen 4
  have z_5 : w_10.cell? ⟨w_6.heap.size, 5, none⟩ = some (.int .u64 zaq2) := (f_z).cell 5
  have z_f5 := (f_z).frozen 5
  have z_21 : w_10.cell? ⟨w_6.heap.size, 21, none⟩ = some (.int .u64 zer1) := (f_z).cell 21
  have z_f21 := (f_z).frozen 21
  have z_22 : w_10.cell? ⟨w_6.heap.size, 22, none⟩ = some (.int .u64 zer2) := (f_z).cell 22
  have z_f22 := (f_z).frozen 22
  have z_23 : w_10.cell? ⟨w_6.heap.size, 23, none⟩ = some (.int .u64 zes1) := (f_z).cell 23
  have z_f23 := (f_z).frozen 23
  have z_24 : w_10.cell? ⟨w_6.heap.size, 24, none⟩ = some (.int .u64 zes2) := (f_z).cell 24
  have z_f24 := (f_z).frozen 24
  replace f_z := Lib.hid f_z
  have d_0 : w_10.cell? ⟨w_7.heap.size, 0, none⟩ = some (.int .u64 dh) := (f_d).cell 0
  have d_1 : w_10.cell? ⟨w_7.heap.size, 1, none⟩ = some (.int .u64 dl) := (f_d).cell 1
  have d_f0 := (f_d).frozen 0
  have d_f1 := (f_d).frozen 1
  have d_l := (f_d).lt
  replace f_d := Lib.hid f_d
  have c_0 : w_10.cell? ⟨w_8.heap.size, 0, none⟩ = some (.int .u64 ch) := (f_c).cell 0
  have c_1 : w_10.cell? ⟨w_8.heap.size, 1, none⟩ = some (.int .u64 cl) := (f_c).cell 1
  have c_f0 := (f_c).frozen 0
  have c_f1 := (f_c).frozen 1
  have c_l := (f_c).lt
  replace f_c := Lib.hid f_c
  replace hB_10 := Lib.hid hB_10
  go_wp2_with fail
  refine (H3.out _).mono ?_
  rintro e w_11 ⟨rfl, hb_11⟩
  have z_11 := hb_11.size
  try simp at z_11
  have t_ := hB_10.out
  have hB_11 := bel_eld (w := w) (X := _) (by first | ((repeat (first | with_reducible exact Below.refl _ _ | with_reducible assumption | (with_reducible refine bel_set ?_ (by first | exact Nat.le_refl _ | (simp; done) | (simp; omega) | omega) _) | with_reducible refine bel_grow ?_ _ | with_reducible refine Below.drew ?_ | with_reducible refine below_drewN ?_ _ | with_reducible refine bel_alloc ?_ _ | with_reducible refine bel_trans ?_ (by assumption))); done) | (repeat (first | exact Below.refl _ _ | assumption | refine below_drewN ?_ _ | refine bel_grow ?_ _ | refine Below.drew ?_ | refine bel_alloc ?_ _ | refine bel_set ?_ (by first | exact Nat.le_refl _ | (simp; done) | (simp; omega) | omega) _ | refine bel_trans ?_ (by assumption)))) hb_11
  clear t_
  have t_x := f_x.out
  have t_m := f_m.out
  have t_d := f_d.out
  have t_c := f_c.out
  have g_x : Blk w_11 (w.heap.size) 68 #[.int .u64 xi1, .int .u64 xi2, .int .u64 xd1, .int .u64 xd2, .int .u64 xc1, .int .u64 xc2, .int .u64 xm1, .int .u64 xm2, .int .u64 xw1, .int .u64 xw2, .int .u64 xtg, .int .u32 xto, .int .u32 xlg, .int .u16 xcd, .int .u16 xfl, .int .u64 xst, .int .u64 ss, .int .u64 yi1, .int .u64 yi2, .int .u64 yd1, .int .u64 yd2, .int .u64 yc1, .int .u64 yc2, .int .u64 ym1, .int .u64 ym2, .int .u64 yw1, .int .u64 yw2, .int .u64 ytg, .int .u32 yto, .int .u32 ylg, .int .u16 ycd, .int .u16 yfl, .int .u64 yst, .bool true, .int .u8 sv, .int .u64 ai1, .int .u64 ai2, .int .u64 ap1, .int .u64 ap2, .int .u64 aq1, .int .u64 aq2, .int .u64 ar1, .int .u64 ar2, .int .u64 as1, .int .u64 as2, .int .u64 atg, .int .u32 alg, .int .u16 acd, .int .u16 afl, .int .u64 ast, .int .u64 ei1, .int .u64 ei2, .int .u64 ep1, .int .u64 ep2, .int .u64 eq1, .int .u64 eq2, .int .u64 er1, .int .u64 er2, .int .u64 es1, .int .u64 es2, .int .u64 etg, .int .u32 elg, .int .u16 ecd, .int .u16 efl, .int .u64 est, .bool hd, .bool hc] := by
    refine Blk.kept ?_ hb_11
    (repeat (first | with_reducible assumption | (with_reducible refine Blk.new' ?_; first | with_reducible rfl | (simp; done)) | with_reducible refine Blk.alloc ?_ _ | with_reducible refine Blk.grow ?_ _ | with_reducible refine Blk.drew ?_ | with_reducible refine Blk.drewN ?_ _ | (with_reducible refine Blk.far ?_ (by first | (dsimp only; omega) | (simp; omega)) _) | (with_reducible apply Blk.two) | (with_reducible refine Blk.set' ?_ _ _ ?_) | (with_reducible rfl) | rfl))
  have g_m : Blk w_11 (w_2.heap.size) 24 #[.int .u64 m1, .int .u64 m2] := by
    refine Blk.kept ?_ hb_11
    (repeat (first | with_reducible assumption | (with_reducible refine Blk.new' ?_; first | with_reducible rfl | (simp; done)) | with_reducible refine Blk.alloc ?_ _ | with_reducible refine Blk.grow ?_ _ | with_reducible refine Blk.drew ?_ | with_reducible refine Blk.drewN ?_ _ | (with_reducible refine Blk.far ?_ (by first | (dsimp only; omega) | (simp; omega)) _) | (with_reducible apply Blk.two) | (with_reducible refine Blk.set' ?_ _ _ ?_) | (with_reducible rfl) | rfl))
  have g_d : Blk w_11 (w_7.heap.size) 24 #[.int .u64 dh, .int .u64 dl] := by
    refine Blk.kept ?_ hb_11
    (repeat (first | with_reducible assumption | (with_reducible refine Blk.new' ?_; first | with_reducible rfl | (simp; done)) | with_reducible refine Blk.alloc ?_ _ | with_reducible refine Blk.grow ?_ _ | with_reducible refine Blk.drew ?_ | with_reducible refine Blk.drewN ?_ _ | (with_reducible refine Blk.far ?_ (by first | (dsimp only; omega) | (simp; omega)) _) | (with_reducible apply Blk.two) | (with_reducible refine Blk.set' ?_ _ _ ?_) | (with_reducible rfl) | rfl))
  have g_c : Blk w_11 (w_8.heap.size) 24 #[.int .u64 ch, .int .u64 cl] := by
    refine Blk.kept ?_ hb_11
    (repeat (first | with_reducible assumption | (with_reducible refine Blk.new' ?_; first | with_reducible rfl | (simp; done)) | with_reducible refine Blk.alloc ?_ _ | with_reducible refine Blk.grow ?_ _ | with_reducible refine Blk.drew ?_ | with_reducible refine Blk.drewN ?_ _ | (with_reducible refine Blk.far ?_ (by first | (dsimp only; omega) | (simp; omega)) _) | (with_reducible apply Blk.two) | (with_reducible refine Blk.set' ?_ _ _ ?_) | (with_reducible rfl) | rfl))
  have g_q : Blk w_11 (w_10.heap.size) 32 #[.int .u64 uai1, .int .u64 uai2, .int .u64 uap1, .int .u64 uap2, .int .u64 uaq1, .int .u64 uaq2, .int .u64 uar1, .int .u64 uar2, .int .u64 uas1, .int .u64 uas2, .int .u64 uatg, .int .u32 ualg, .int .u16 uacd, .int .u16 uafl, .int .u64 uast, .int .u64 uei1, .int .u64 uei2, .int .u64 uep1, .int .u64 uep2, .int .u64 ueq1, .int .u64 ueq2, .int .u64 uer1, .int .u64 uer2, .int .u64 ues1, .int .u64 ues2, .int .u64 uetg, .int .u32 uelg, .int .u16 uecd, .int .u16 uefl, .int .u64 uest, .bool ud, .bool uc] := by
    refine Blk.kept ?_ hb_11
    (repeat (first | with_reducible assumption | (with_reducible refine Blk.new' ?_; first | with_reducible rfl | (simp; done)) | with_reducible refine Blk.alloc ?_ _ | with_reducible refine Blk.grow ?_ _ | with_reducible refine Blk.drew ?_ | with_reducible refine Blk.drewN ?_ _ | (with_reducible refine Blk.far ?_ (by first | (dsimp only; omega) | (simp; omega)) _) | (with_reducible apply Blk.two) | (with_reducible refine Blk.set' ?_ _ _ ?_) | (with_reducible rfl) | rfl))
  clear f_x x_l r_x x_14 x_f14 x_16 x_f16 x_23 x_f23 x_24 x_f24 x_31 x_f31 x_33 x_f33 x_34 x_f34 x_39 x_f39 x_40 x_f40 f_m m_l m_0 m_1 m_f0 m_f1 f_z z_l r_z z_2 z_f2 z_3 z_f3 z_4 z_f4 z_5 z_f5 z_21 z_f21 z_22 z_f22 z_23 z_f23 z_24 z_f24 f_d d_l d_0 d_1 d_f0 d_f1 f_c c_l c_0 c_1 c_f0 c_f1 t_x t_m t_d t_c hB_10 hb_11
  have f_x := g_x
  clear g_x
  have f_m := g_m
  clear g_m
  have f_d := g_d
  clear g_d
  have f_c := g_c
  clear g_c
  have f_q := g_q
  clear g_q
  have r_x := rowAt_blk f_x
  have x_l := f_x.lt
  have x_14 : w_11.cell? ⟨w.heap.size, 14, none⟩ = some (.int .u16 xfl) := (f_x).cell 14
  have x_f14 := (f_x).frozen 14
  have x_16 : w_11.cell? ⟨w.heap.size, 16, none⟩ = some (.int .u64 ss) := (f_x).cell 16
  have x_f16 := (f_x).frozen 16
  have x_23 : w_11.cell? ⟨w.heap.size, 23, none⟩ = some (.int .u64 ym1) := (f_x).cell 23
  have x_f23 := (f_x).frozen 23
  have x_24 : w_11.cell? ⟨w.heap.size, 24, none⟩ = some (.int .u64 ym2) := (f_x).cell 24
  have x_f24 := (f_x).frozen 24
  have x_31 : w_11.cell? ⟨w.heap.size, 31, none⟩ = some (.int .u16 yfl) := (f_x).cell 31
  have x_f31 := (f_x).frozen 31
  have x_33 : w_11.cell? ⟨w.heap.size, 33, none⟩ = some (.bool true) := (f_x).cell 33
  have x_f33 := (f_x).frozen 33
  have x_34 : w_11.cell? ⟨w.heap.size, 34, none⟩ = some (.int .u8 sv) := (f_x).cell 34
  have x_f34 := (f_x).frozen 34
  have x_39 : w_11.cell? ⟨w.heap.size, 39, none⟩ = some (.int .u64 aq1) := (f_x).cell 39
  have x_f39 := (f_x).frozen 39
  have x_40 : w_11.cell? ⟨w.heap.size, 40, none⟩ = some (.int .u64 aq2) := (f_x).cell 40
  have x_f40 := (f_x).frozen 40
  replace f_x := Lib.hid f_x
  have m_0 : w_11.cell? ⟨w_2.heap.size, 0, none⟩ = some (.int .u64 m1) := (f_m).cell 0
  have m_1 : w_11.cell? ⟨w_2.heap.size, 1, none⟩ = some (.int .u64 m2) := (f_m).cell 1
  have m_f0 := (f_m).frozen 0
  have m_f1 := (f_m).frozen 1
  have m_l := (f_m).lt
  replace f_m := Lib.hid f_m
  have d_0 : w_11.cell? ⟨w_7.heap.size, 0, none⟩ = some (.int .u64 dh) := (f_d).cell 0
  have d_1 : w_11.cell? ⟨w_7.heap.size, 1, none⟩ = some (.int .u64 dl) := (f_d).cell 1
  have d_f0 := (f_d).frozen 0
  have d_f1 := (f_d).frozen 1
  have d_l := (f_d).lt
  replace f_d := Lib.hid f_d
  have c_0 : w_11.cell? ⟨w_8.heap.size, 0, none⟩ = some (.int .u64 ch) := (f_c).cell 0
  have c_1 : w_11.cell? ⟨w_8.heap.size, 1, none⟩ = some (.int .u64 cl) := (f_c).cell 1
  have c_f0 := (f_c).frozen 0
  have c_f1 := (f_c).frozen 1
  have c_l := (f_c).lt
  replace f_c := Lib.hid f_c
  have r_q := rowAt_blk f_q
  have q_l := f_q.lt
  have q_2 : w_11.cell? ⟨w_10.heap.size, 2, none⟩ = some (.int .u64 uap1) := (f_q).cell 2
  have q_f2 := (f_q).frozen 2
  have q_3 : w_11.cell? ⟨w_10.heap.size, 3, none⟩ = some (.int .u64 uap2) := (f_q).cell 3
  have q_f3 := (f_q).frozen 3
  have q_4 : w_11.cell? ⟨w_10.heap.size, 4, none⟩ = some (.int .u64 uaq1) := (f_q).cell 4
  have q_f4 := (f_q).frozen 4
  have q_5 : w_11.cell? ⟨w_10.heap.size, 5, none⟩ = some (.int .u64 uaq2) := (f_q).cell 5
  have q_f5 := (f_q).frozen 5
  have q_21 : w_11.cell? ⟨w_10.heap.size, 21, none⟩ = some (.int .u64 uer1) := (f_q).cell 21
  have q_f21 := (f_q).frozen 21
  have q_22 : w_11.cell? ⟨w_10.heap.size, 22, none⟩ = some (.int .u64 uer2) := (f_q).cell 22
  have q_f22 := (f_q).frozen 22
  have q_23 : w_11.cell? ⟨w_10.heap.size, 23, none⟩ = some (.int .u64 ues1) := (f_q).cell 23
  have q_f23 := (f_q).frozen 23
  have q_24 : w_11.cell? ⟨w_10.heap.size, 24, none⟩ = some (.int .u64 ues2) := (f_q).cell 24
  have q_f24 := (f_q).frozen 24
  replace f_q := Lib.hid f_q
  replace hB_11 := Lib.hid hB_11
  go_wp2_with fail
  refine (H4.out _).mono ?_
  rintro e w_12 ⟨rfl, hb_12⟩
  have z_12 := hb_12.size
  try simp at z_12
  have t_ := hB_11.out
  have hB_12 := bel_eld (w := w) (X := _) (by first | ((repeat (first | with_reducible exact Below.refl _ _ | with_reducible assumption | (with_reducible refine bel_set ?_ (by first | exact Nat.le_refl _ | (simp; done) | (simp; omega) | omega) _) | with_reducible refine bel_grow ?_ _ | with_reducible refine Below.drew ?_ | with_reducible refine below_drewN ?_ _ | with_reducible refine bel_alloc ?_ _ | with_reducible refine bel_trans ?_ (by assumption))); done) | (repeat (first | exact Below.refl _ _ | assumption | refine below_drewN ?_ _ | refine bel_grow ?_ _ | refine Below.drew ?_ | refine bel_alloc ?_ _ | refine bel_set ?_ (by first | exact Nat.le_refl _ | (simp; done) | (simp; omega) | omega) _ | refine bel_trans ?_ (by assumption)))) hb_12
  clear t_
  have t_x := f_x.out
  have t_m := f_m.out
  have t_d := f_d.out
  have t_c := f_c.out
  have t_q := f_q.out
  have g_x : Blk w_12 (w.heap.size) 68 #[.int .u64 xi1, .int .u64 xi2, .int .u64 xd1, .int .u64 xd2, .int .u64 xc1, .int .u64 xc2, .int .u64 xm1, .int .u64 xm2, .int .u64 xw1, .int .u64 xw2, .int .u64 xtg, .int .u32 xto, .int .u32 xlg, .int .u16 xcd, .int .u16 xfl, .int .u64 xst, .int .u64 ss, .int .u64 yi1, .int .u64 yi2, .int .u64 yd1, .int .u64 yd2, .int .u64 yc1, .int .u64 yc2, .int .u64 ym1, .int .u64 ym2, .int .u64 yw1, .int .u64 yw2, .int .u64 ytg, .int .u32 yto, .int .u32 ylg, .int .u16 ycd, .int .u16 yfl, .int .u64 yst, .bool true, .int .u8 sv, .int .u64 ai1, .int .u64 ai2, .int .u64 ap1, .int .u64 ap2, .int .u64 aq1, .int .u64 aq2, .int .u64 ar1, .int .u64 ar2, .int .u64 as1, .int .u64 as2, .int .u64 atg, .int .u32 alg, .int .u16 acd, .int .u16 afl, .int .u64 ast, .int .u64 ei1, .int .u64 ei2, .int .u64 ep1, .int .u64 ep2, .int .u64 eq1, .int .u64 eq2, .int .u64 er1, .int .u64 er2, .int .u64 es1, .int .u64 es2, .int .u64 etg, .int .u32 elg, .int .u16 ecd, .int .u16 efl, .int .u64 est, .bool hd, .bool hc] := by
    refine Blk.kept ?_ hb_12
    (repeat (first | with_reducible assumption | (with_reducible refine Blk.new' ?_; first | with_reducible rfl | (simp; done)) | with_reducible refine Blk.alloc ?_ _ | with_reducible refine Blk.grow ?_ _ | with_reducible refine Blk.drew ?_ | with_reducible refine Blk.drewN ?_ _ | (with_reducible refine Blk.far ?_ (by first | (dsimp only; omega) | (simp; omega)) _) | (with_reducible apply Blk.two) | (with_reducible refine Blk.set' ?_ _ _ ?_) | (with_reducible rfl) | rfl))
  have g_m : Blk w_12 (w_2.heap.size) 24 #[.int .u64 m1, .int .u64 m2] := by
    refine Blk.kept ?_ hb_12
    (repeat (first | with_reducible assumption | (with_reducible refine Blk.new' ?_; first | with_reducible rfl | (simp; done)) | with_reducible refine Blk.alloc ?_ _ | with_reducible refine Blk.grow ?_ _ | with_reducible refine Blk.drew ?_ | with_reducible refine Blk.drewN ?_ _ | (with_reducible refine Blk.far ?_ (by first | (dsimp only; omega) | (simp; omega)) _) | (with_reducible apply Blk.two) | (with_reducible refine Blk.set' ?_ _ _ ?_) | (with_reducible rfl) | rfl))
  have g_d : Blk w_12 (w_7.heap.size) 24 #[.int .u64 dh, .int .u64 dl] := by
    refine Blk.kept ?_ hb_12
    (repeat (first | with_reducible assumption | (with_reducible refine Blk.new' ?_; first | with_reducible rfl | (simp; done)) | with_reducible refine Blk.alloc ?_ _ | with_reducible refine Blk.grow ?_ _ | with_reducible refine Blk.drew ?_ | with_reducible refine Blk.drewN ?_ _ | (with_reducible refine Blk.far ?_ (by first | (dsimp only; omega) | (simp; omega)) _) | (with_reducible apply Blk.two) | (with_reducible refine Blk.set' ?_ _ _ ?_) | (with_reducible rfl) | rfl))
  have g_c : Blk w_12 (w_8.heap.size) 24 #[.int .u64 ch, .int .u64 cl] := by
    refine Blk.kept ?_ hb_12
    (repeat (first | with_reducible assumption | (with_reducible refine Blk.new' ?_; first | with_reducible rfl | (simp; done)) | with_reducible refine Blk.alloc ?_ _ | with_reducible refine Blk.grow ?_ _ | with_reducible refine Blk.drew ?_ | with_reducible refine Blk.drewN ?_ _ | (with_reducible refine Blk.far ?_ (by first | (dsimp only; omega) | (simp; omega)) _) | (with_reducible apply Blk.two) | (with_reducible refine Blk.set' ?_ _ _ ?_) | (with_reducible rfl) | rfl))
  have g_q : Blk w_12 (w_10.heap.size) 32 #[.int .u64 uai1, .int .u64 uai2, .int .u64 uap1, .int .u64 uap2, .int .u64 uaq1, .int .u64 uaq2, .int .u64 uar1, .int .u64 uar2, .int .u64 uas1, .int .u64 uas2, .int .u64 uatg, .int .u32 ualg, .int .u16 uacd, .int .u16 uafl, .int .u64 uast, .int .u64 uei1, .int .u64 uei2, .int .u64 uep1, .int .u64 uep2, .int .u64 ueq1, .int .u64 ueq2, .int .u64 uer1, .int .u64 uer2, .int .u64 ues1, .int .u64 ues2, .int .u64 uetg, .int .u32 uelg, .int .u16 uecd, .int .u16 uefl, .int .u64 uest, .bool ud, .bool uc] := by
    refine Blk.kept ?_ hb_12
    (repeat (first | with_reducible assumption | (with_reducible refine Blk.new' ?_; first | with_reducible rfl | (simp; done)) | with_reducible refine Blk.alloc ?_ _ | with_reducible refine Blk.grow ?_ _ | with_reducible refine Blk.drew ?_ | with_reducible refine Blk.drewN ?_ _ | (with_reducible refine Blk.far ?_ (by first | (dsimp only; omega) | (simp; omega)) _) | (with_reducible apply Blk.two) | (with_reducible refine Blk.set' ?_ _ _ ?_) | (with_reducible rfl) | rfl))
  have g_e : Blk w_12 (w_11.heap.size) 24 #[.int .u64 eh, .int .u64 el] := by
    refine Blk.kept ?_ hb_12
    (repeat (first | with_reducible assumption | (with_reducible refine Blk.new' ?_; first | with_reducible rfl | (simp; done)) | with_reducible refine Blk.alloc ?_ _ | with_reducible refine Blk.grow ?_ _ | with_reducible refine Blk.drew ?_ | with_reducible refine Blk.drewN ?_ _ | (with_reducible refine Blk.far ?_ (by first | (dsimp only; omega) | (simp; omega)) _) | (with_reducible apply Blk.two) | (with_reducible refine Blk.set' ?_ _ _ ?_) | (with_reducible rfl) | rfl))
  clear f_x x_l r_x x_14 x_f14 x_16 x_f16 x_23 x_f23 x_24 x_f24 x_31 x_f31 x_33 x_f33 x_34 x_f34 x_39 x_f39 x_40 x_f40 f_m m_l m_0 m_1 m_f0 m_f1 f_d d_l d_0 d_1 d_f0 d_f1 f_c c_l c_0 c_1 c_f0 c_f1 f_q q_l r_q q_2 q_f2 q_3 q_f3 q_4 q_f4 q_5 q_f5 q_21 q_f21 q_22 q_f22 q_23 q_f23 q_24 q_f24 t_x t_m t_d t_c t_q hB_11 hb_12
  have f_x := g_x
  clear g_x
  have f_m := g_m
  clear g_m
  have f_d := g_d
  clear g_d
  have f_c := g_c
  clear g_c
  have f_q := g_q
  clear g_q
  have f_e := g_e
  clear g_e
  have r_x := rowAt_blk f_x
  have x_l := f_x.lt
  have x_14 : w_12.cell? ⟨w.heap.size, 14, none⟩ = some (.int .u16 xfl) := (f_x).cell 14
  have x_f14 := (f_x).frozen 14
  have x_16 : w_12.cell? ⟨w.heap.size, 16, none⟩ = some (.int .u64 ss) := (f_x).cell 16
  have x_f16 := (f_x).frozen 16
  have x_23 : w_12.cell? ⟨w.heap.size, 23, none⟩ = some (.int .u64 ym1) := (f_x).cell 23
  have x_f23 := (f_x).frozen 23
  have x_24 : w_12.cell? ⟨w.heap.size, 24, none⟩ = some (.int .u64 ym2) := (f_x).cell 24
  have x_f24 := (f_x).frozen 24
  have x_31 : w_12.cell? ⟨w.heap.size, 31, none⟩ = some (.int .u16 yfl) := (f_x).cell 31
  have x_f31 := (f_x).frozen 31
  have x_33 : w_12.cell? ⟨w.heap.size, 33, none⟩ = some (.bool true) := (f_x).cell 33
  have x_f33 := (f_x).frozen 33
  have x_34 : w_12.cell? ⟨w.heap.size, 34, none⟩ = some (.int .u8 sv) := (f_x).cell 34
  have x_f34 := (f_x).frozen 34
  have x_39 : w_12.cell? ⟨w.heap.size, 39, none⟩ = some (.int .u64 aq1) := (f_x).cell 39
  have x_f39 := (f_x).frozen 39
  have x_40 : w_12.cell? ⟨w.heap.size, 40, none⟩ = some (.int .u64 aq2) := (f_x).cell 40
  have x_f40 := (f_x).frozen 40
  replace f_x := Lib.hid f_x
  have m_0 : w_12.cell? ⟨w_2.heap.size, 0, none⟩ = some (.int .u64 m1) := (f_m).cell 0
  have m_1 : w_12.cell? ⟨w_2.heap.size, 1, none⟩ = some (.int .u64 m2) := (f_m).cell 1
  have m_f0 := (f_m).frozen 0
  have m_f1 := (f_m).frozen 1
  have m_l := (f_m).lt
  replace f_m := Lib.hid f_m
  have d_0 : w_12.cell? ⟨w_7.heap.size, 0, none⟩ = some (.int .u64 dh) := (f_d).cell 0
  have d_1 : w_12.cell? ⟨w_7.heap.size, 1, none⟩ = some (.int .u64 dl) := (f_d).cell 1
  have d_f0 := (f_d).frozen 0
  have d_f1 := (f_d).frozen 1
  have d_l := (f_d).lt
  replace f_d := Lib.hid f_d
  have c_0 : w_12.cell? ⟨w_8.heap.size, 0, none⟩ = some (.int .u64 ch) := (f_c).cell 0
  have c_1 : w_12.cell? ⟨w_8.heap.size, 1, none⟩ = some (.int .u64 cl) := (f_c).cell 1
  have c_f0 := (f_c).frozen 0
  have c_f1 := (f_c).frozen 1
  have c_l := (f_c).lt
  replace f_c := Lib.hid f_c
  have r_q := rowAt_blk f_q
  have q_l := f_q.lt
  have q_2 : w_12.cell? ⟨w_10.heap.size, 2, none⟩ = some (.int .u64 uap1) := (f_q).cell 2
  have q_f2 := (f_q).frozen 2
  have q_3 : w_12.cell? ⟨w_10.heap.size, 3, none⟩ = some (.int .u64 uap2) := (f_q).cell 3
  have q_f3 := (f_q).frozen 3
  have q_4 : w_12.cell? ⟨w_10.heap.size, 4, none⟩ = some (.int .u64 uaq1) := (f_q).cell 4
  have q_f4 := (f_q).frozen 4
  have q_5 : w_12.cell? ⟨w_10.heap.size, 5, none⟩ = some (.int .u64 uaq2) := (f_q).cell 5
  have q_f5 := (f_q).frozen 5
  have q_21 : w_12.cell? ⟨w_10.heap.size, 21, none⟩ = some (.int .u64 uer1) := (f_q).cell 21
  have q_f21 := (f_q).frozen 21
  have q_22 : w_12.cell? ⟨w_10.heap.size, 22, none⟩ = some (.int .u64 uer2) := (f_q).cell 22
  have q_f22 := (f_q).frozen 22
  have q_23 : w_12.cell? ⟨w_10.heap.size, 23, none⟩ = some (.int .u64 ues1) := (f_q).cell 23
  have q_f23 := (f_q).frozen 23
  have q_24 : w_12.cell? ⟨w_10.heap.size, 24, none⟩ = some (.int .u64 ues2) := (f_q).cell 24
  have q_f24 := (f_q).frozen 24
  replace f_q := Lib.hid f_q
  have e_0 : w_12.cell? ⟨w_11.heap.size, 0, none⟩ = some (.int .u64 eh) := (f_e).cell 0
  have e_1 : w_12.cell? ⟨w_11.heap.size, 1, none⟩ = some (.int .u64 el) := (f_e).cell 1
  have e_f0 := (f_e).frozen 0
  have e_f1 := (f_e).frozen 1
  have e_l := (f_e).lt
  replace f_e := Lib.hid f_e
  replace hB_12 := Lib.hid hB_12
  go_wp2_with fail
  refine (HX.out _).mono ?_
  rintro e w_13 ⟨rfl, hb_13⟩
  have z_13 := hb_13.size
  try simp at z_13
  have t_ := hB_12.out
  have hB_13 := bel_eld (w := w) (X := _) (by first | ((repeat (first | with_reducible exact Below.refl _ _ | with_reducible assumption | (with_reducible refine bel_set ?_ (by first | exact Nat.le_refl _ | (simp; done) | (simp; omega) | omega) _) | with_reducible refine bel_grow ?_ _ | with_reducible refine Below.drew ?_ | with_reducible refine below_drewN ?_ _ | with_reducible refine bel_alloc ?_ _ | with_reducible refine bel_trans ?_ (by assumption))); done) | (repeat (first | exact Below.refl _ _ | assumption | refine below_drewN ?_ _ | refine bel_grow ?_ _ | refine Below.drew ?_ | refine bel_alloc ?_ _ | refine bel_set ?_ (by first | exact Nat.le_refl _ | (simp; done) | (simp; omega) | omega) _ | refine bel_trans ?_ (by assumption)))) hb_13
  clear t_
  have t_x := f_x.out
  have t_d := f_d.out
  have t_c := f_c.out
  have t_q := f_q.out
  have t_e := f_e.out
  have g_x : Blk w_13 (w.heap.size) 68 #[.int .u64 xi1, .int .u64 xi2, .int .u64 xd1, .int .u64 xd2, .int .u64 xc1, .int .u64 xc2, .int .u64 xm1, .int .u64 xm2, .int .u64 xw1, .int .u64 xw2, .int .u64 xtg, .int .u32 xto, .int .u32 xlg, .int .u16 xcd, .int .u16 xfl, .int .u64 xst, .int .u64 ss, .int .u64 yi1, .int .u64 yi2, .int .u64 yd1, .int .u64 yd2, .int .u64 yc1, .int .u64 yc2, .int .u64 ym1, .int .u64 ym2, .int .u64 yw1, .int .u64 yw2, .int .u64 ytg, .int .u32 yto, .int .u32 ylg, .int .u16 ycd, .int .u16 yfl, .int .u64 yst, .bool true, .int .u8 sv, .int .u64 ai1, .int .u64 ai2, .int .u64 ap1, .int .u64 ap2, .int .u64 aq1, .int .u64 aq2, .int .u64 ar1, .int .u64 ar2, .int .u64 as1, .int .u64 as2, .int .u64 atg, .int .u32 alg, .int .u16 acd, .int .u16 afl, .int .u64 ast, .int .u64 ei1, .int .u64 ei2, .int .u64 ep1, .int .u64 ep2, .int .u64 eq1, .int .u64 eq2, .int .u64 er1, .int .u64 er2, .int .u64 es1, .int .u64 es2, .int .u64 etg, .int .u32 elg, .int .u16 ecd, .int .u16 efl, .int .u64 est, .bool hd, .bool hc] := by
    refine Blk.kept ?_ hb_13
    (repeat (first | with_reducible assumption | (with_reducible refine Blk.new' ?_; first | with_reducible rfl | (simp; done)) | with_reducible refine Blk.alloc ?_ _ | with_reducible refine Blk.grow ?_ _ | with_reducible refine Blk.drew ?_ | with_reducible refine Blk.drewN ?_ _ | (with_reducible refine Blk.far ?_ (by first | (dsimp only; omega) | (simp; omega)) _) | (with_reducible apply Blk.two) | (with_reducible refine Blk.set' ?_ _ _ ?_) | (with_reducible rfl) | rfl))
  have g_d : Blk w_13 (w_7.heap.size) 24 #[.int .u64 dh, .int .u64 dl] := by
    refine Blk.kept ?_ hb_13
    (repeat (first | with_reducible assumption | (with_reducible refine Blk.new' ?_; first | with_reducible rfl | (simp; done)) | with_reducible refine Blk.alloc ?_ _ | with_reducible refine Blk.grow ?_ _ | with_reducible refine Blk.drew ?_ | with_reducible refine Blk.drewN ?_ _ | (with_reducible refine Blk.far ?_ (by first | (dsimp only; omega) | (simp; omega)) _) | (with_reducible apply Blk.two) | (with_reducible refine Blk.set' ?_ _ _ ?_) | (with_reducible rfl) | rfl))
  have g_c : Blk w_13 (w_8.heap.size) 24 #[.int .u64 ch, .int .u64 cl] := by
    refine Blk.kept ?_ hb_13
    (repeat (first | with_reducible assumption | (with_reducible refine Blk.new' ?_; first | with_reducible rfl | (simp; done)) | with_reducible refine Blk.alloc ?_ _ | with_reducible refine Blk.grow ?_ _ | with_reducible refine Blk.drew ?_ | with_reducible refine Blk.drewN ?_ _ | (with_reducible refine Blk.far ?_ (by first | (dsimp only; omega) | (simp; omega)) _) | (with_reducible apply Blk.two) | (with_reducible refine Blk.set' ?_ _ _ ?_) | (with_reducible rfl) | rfl))
  have g_q : Blk w_13 (w_10.heap.size) 32 #[.int .u64 uai1, .int .u64 uai2, .int .u64 uap1, .int .u64 uap2, .int .u64 uaq1, .int .u64 uaq2, .int .u64 uar1, .int .u64 uar2, .int .u64 uas1, .int .u64 uas2, .int .u64 uatg, .int .u32 ualg, .int .u16 uacd, .int .u16 uafl, .int .u64 uast, .int .u64 uei1, .int .u64 uei2, .int .u64 uep1, .int .u64 uep2, .int .u64 ueq1, .int .u64 ueq2, .int .u64 uer1, .int .u64 uer2, .int .u64 ues1, .int .u64 ues2, .int .u64 uetg, .int .u32 uelg, .int .u16 uecd, .int .u16 uefl, .int .u64 uest, .bool ud, .bool uc] := by
    refine Blk.kept ?_ hb_13
    (repeat (first | with_reducible assumption | (with_reducible refine Blk.new' ?_; first | with_reducible rfl | (simp; done)) | with_reducible refine Blk.alloc ?_ _ | with_reducible refine Blk.grow ?_ _ | with_reducible refine Blk.drew ?_ | with_reducible refine Blk.drewN ?_ _ | (with_reducible refine Blk.far ?_ (by first | (dsimp only; omega) | (simp; omega)) _) | (with_reducible apply Blk.two) | (with_reducible refine Blk.set' ?_ _ _ ?_) | (with_reducible rfl) | rfl))
  have g_e : Blk w_13 (w_11.heap.size) 24 #[.int .u64 eh, .int .u64 el] := by
    refine Blk.kept ?_ hb_13
    (repeat (first | with_reducible assumption | (with_reducible refine Blk.new' ?_; first | with_reducible rfl | (simp; done)) | with_reducible refine Blk.alloc ?_ _ | with_reducible refine Blk.grow ?_ _ | with_reducible refine Blk.drew ?_ | with_reducible refine Blk.drewN ?_ _ | (with_reducible refine Blk.far ?_ (by first | (dsimp only; omega) | (simp; omega)) _) | (with_reducible apply Blk.two) | (with_reducible refine Blk.set' ?_ _ _ ?_) | (with_reducible rfl) | rfl))
  have g_g : Blk w_13 (w_12.heap.size) 24 #[.int .u64 gh, .int .u64 gl] := by
    refine Blk.kept ?_ hb_13
    (repeat (first | with_reducible assumption | (with_reducible refine Blk.new' ?_; first | with_reducible rfl | (simp; done)) | with_reducible refine Blk.alloc ?_ _ | with_reducible refine Blk.grow ?_ _ | with_reducible refine Blk.drew ?_ | with_reducible refine Blk.drewN ?_ _ | (with_reducible refine Blk.far ?_ (by first | (dsimp only; omega) | (simp; omega)) _) | (with_reducible apply Blk.two) | (with_reducible refine Blk.set' ?_ _ _ ?_) | (with_reducible rfl) | rfl))
  clear f_x x_l r_x x_14 x_f14 x_16 x_f16 x_23 x_f23 x_24 x_f24 x_31 x_f31 x_33 x_f33 x_34 x_f34 x_39 x_f39 x_40 x_f40 f_m m_l m_0 m_1 m_f0 m_f1 f_d d_l d_0 d_1 d_f0 d_f1 f_c c_l c_0 c_1 c_f0 c_f1 f_q q_l r_q q_2 q_f2 q_3 q_f3 q_4 q_f4 q_5 q_f5 q_21 q_f21 q_22 q_f22 q_23 q_f23 q_24 q_f24 f_e e_l e_0 e_1 e_f0 e_f1 t_x t_d t_c t_q t_e hB_12 hb_13
  have f_x := g_x
  clear g_x
  have f_d := g_d
  clear g_d
  have f_c := g_c
  clear g_c
  have f_q := g_q
  clear g_q
  have f_e := g_e
  clear g_e
  have f_g := g_g
  clear g_g
  have r_x := rowAt_blk f_x
  have x_l := f_x.lt
  have x_14 : w_13.cell? ⟨w.heap.size, 14, none⟩ = some (.int .u16 xfl) := (f_x).cell 14
  have x_f14 := (f_x).frozen 14
  have x_16 : w_13.cell? ⟨w.heap.size, 16, none⟩ = some (.int .u64 ss) := (f_x).cell 16
  have x_f16 := (f_x).frozen 16
  have x_23 : w_13.cell? ⟨w.heap.size, 23, none⟩ = some (.int .u64 ym1) := (f_x).cell 23
  have x_f23 := (f_x).frozen 23
  have x_24 : w_13.cell? ⟨w.heap.size, 24, none⟩ = some (.int .u64 ym2) := (f_x).cell 24
  have x_f24 := (f_x).frozen 24
  have x_31 : w_13.cell? ⟨w.heap.size, 31, none⟩ = some (.int .u16 yfl) := (f_x).cell 31
  have x_f31 := (f_x).frozen 31
  have x_33 : w_13.cell? ⟨w.heap.size, 33, none⟩ = some (.bool true) := (f_x).cell 33
  have x_f33 := (f_x).frozen 33
  have x_34 : w_13.cell? ⟨w.heap.size, 34, none⟩ = some (.int .u8 sv) := (f_x).cell 34
  have x_f34 := (f_x).frozen 34
  have x_39 : w_13.cell? ⟨w.heap.size, 39, none⟩ = some (.int .u64 aq1) := (f_x).cell 39
  have x_f39 := (f_x).frozen 39
  have x_40 : w_13.cell? ⟨w.heap.size, 40, none⟩ = some (.int .u64 aq2) := (f_x).cell 40
  have x_f40 := (f_x).frozen 40
  replace f_x := Lib.hid f_x
  have d_0 : w_13.cell? ⟨w_7.heap.size, 0, none⟩ = some (.int .u64 dh) := (f_d).cell 0
  have d_1 : w_13.cell? ⟨w_7.heap.size, 1, none⟩ = some (.int .u64 dl) := (f_d).cell 1
  have d_f0 := (f_d).frozen 0
  have d_f1 := (f_d).frozen 1
  have d_l := (f_d).lt
  replace f_d := Lib.hid f_d
  have c_0 : w_13.cell? ⟨w_8.heap.size, 0, none⟩ = some (.int .u64 ch) := (f_c).cell 0
  have c_1 : w_13.cell? ⟨w_8.heap.size, 1, none⟩ = some (.int .u64 cl) := (f_c).cell 1
  have c_f0 := (f_c).frozen 0
  have c_f1 := (f_c).frozen 1
  have c_l := (f_c).lt
  replace f_c := Lib.hid f_c
  have r_q := rowAt_blk f_q
  have q_l := f_q.lt
  have q_2 : w_13.cell? ⟨w_10.heap.size, 2, none⟩ = some (.int .u64 uap1) := (f_q).cell 2
  have q_f2 := (f_q).frozen 2
  have q_3 : w_13.cell? ⟨w_10.heap.size, 3, none⟩ = some (.int .u64 uap2) := (f_q).cell 3
  have q_f3 := (f_q).frozen 3
  have q_4 : w_13.cell? ⟨w_10.heap.size, 4, none⟩ = some (.int .u64 uaq1) := (f_q).cell 4
  have q_f4 := (f_q).frozen 4
  have q_5 : w_13.cell? ⟨w_10.heap.size, 5, none⟩ = some (.int .u64 uaq2) := (f_q).cell 5
  have q_f5 := (f_q).frozen 5
  have q_21 : w_13.cell? ⟨w_10.heap.size, 21, none⟩ = some (.int .u64 uer1) := (f_q).cell 21
  have q_f21 := (f_q).frozen 21
  have q_22 : w_13.cell? ⟨w_10.heap.size, 22, none⟩ = some (.int .u64 uer2) := (f_q).cell 22
  have q_f22 := (f_q).frozen 22
  have q_23 : w_13.cell? ⟨w_10.heap.size, 23, none⟩ = some (.int .u64 ues1) := (f_q).cell 23
  have q_f23 := (f_q).frozen 23
  have q_24 : w_13.cell? ⟨w_10.heap.size, 24, none⟩ = some (.int .u64 ues2) := (f_q).cell 24
  have q_f24 := (f_q).frozen 24
  replace f_q := Lib.hid f_q
  have e_0 : w_13.cell? ⟨w_11.heap.size, 0, none⟩ = some (.int .u64 eh) := (f_e).cell 0
  have e_1 : w_13.cell? ⟨w_11.heap.size, 1, none⟩ = some (.int .u64 el) := (f_e).cell 1
  have e_f0 := (f_e).frozen 0
  have e_f1 := (f_e).frozen 1
  have e_l := (f_e).lt
  replace f_e := Lib.hid f_e
  have g_0 : w_13.cell? ⟨w_12.heap.size, 0, none⟩ = some (.int .u64 gh) := (f_g).cell 0
  have g_1 : w_13.cell? ⟨w_12.heap.size, 1, none⟩ = some (.int .u64 gl) := (f_g).cell 1
  have g_f0 := (f_g).frozen 0
  have g_f1 := (f_g).frozen 1
  have g_l := (f_g).lt
  replace f_g := Lib.hid f_g
  replace hB_13 := Lib.hid hB_13
  go_wp2_with fail
  refine (K1.out _).mono ?_
  rintro e w_14 ⟨rfl, hb_14⟩
  have z_14 := hb_14.size
  try simp at z_14
  have t_ := hB_13.out
  have hB_14 := bel_eld (w := w) (X := _) (by first | ((repeat (first | with_reducible exact Below.refl _ _ | with_reducible assumption | (with_reducible refine bel_set ?_ (by first | exact Nat.le_refl _ | (simp; done) | (simp; omega) | omega) _) | with_reducible refine bel_grow ?_ _ | with_reducible refine Below.drew ?_ | with_reducible refine below_drewN ?_ _ | with_reducible refine bel_alloc ?_ _ | with_reducible refine bel_trans ?_ (by assumption))); done) | (repeat (first | exact Below.refl _ _ | assumption | refine below_drewN ?_ _ | refine bel_grow ?_ _ | refine Below.drew ?_ | refine bel_alloc ?_ _ | refine bel_set ?_ (by first | exact Nat.le_refl _ | (simp; done) | (simp; omega) | omega) _ | refine bel_trans ?_ (by assumption)))) hb_14
  clear t_
  have t_x := f_x.out
  have t_d := f_d.out
  have t_c := f_c.out
  have t_q := f_q.out
  have t_e := f_e.out
  have t_g := f_g.out
  have g_x : Blk w_14 (w.heap.size) 68 #[.int .u64 xi1, .int .u64 xi2, .int .u64 xd1, .int .u64 xd2, .int .u64 xc1, .int .u64 xc2, .int .u64 xm1, .int .u64 xm2, .int .u64 xw1, .int .u64 xw2, .int .u64 xtg, .int .u32 xto, .int .u32 xlg, .int .u16 xcd, .int .u16 xfl, .int .u64 xst, .int .u64 ss, .int .u64 yi1, .int .u64 yi2, .int .u64 yd1, .int .u64 yd2, .int .u64 yc1, .int .u64 yc2, .int .u64 ym1, .int .u64 ym2, .int .u64 yw1, .int .u64 yw2, .int .u64 ytg, .int .u32 yto, .int .u32 ylg, .int .u16 ycd, .int .u16 yfl, .int .u64 yst, .bool true, .int .u8 sv, .int .u64 ai1, .int .u64 ai2, .int .u64 ap1, .int .u64 ap2, .int .u64 aq1, .int .u64 aq2, .int .u64 ar1, .int .u64 ar2, .int .u64 as1, .int .u64 as2, .int .u64 atg, .int .u32 alg, .int .u16 acd, .int .u16 afl, .int .u64 ast, .int .u64 ei1, .int .u64 ei2, .int .u64 ep1, .int .u64 ep2, .int .u64 eq1, .int .u64 eq2, .int .u64 er1, .int .u64 er2, .int .u64 es1, .int .u64 es2, .int .u64 etg, .int .u32 elg, .int .u16 ecd, .int .u16 efl, .int .u64 est, .bool hd, .bool hc] := by
    refine Blk.kept ?_ hb_14
    (repeat (first | with_reducible assumption | (with_reducible refine Blk.new' ?_; first | with_reducible rfl | (simp; done)) | with_reducible refine Blk.alloc ?_ _ | with_reducible refine Blk.grow ?_ _ | with_reducible refine Blk.drew ?_ | with_reducible refine Blk.drewN ?_ _ | (with_reducible refine Blk.far ?_ (by first | (dsimp only; omega) | (simp; omega)) _) | (with_reducible apply Blk.two) | (with_reducible refine Blk.set' ?_ _ _ ?_) | (with_reducible rfl) | rfl))
  have g_d : Blk w_14 (w_7.heap.size) 24 #[.int .u64 dh, .int .u64 dl] := by
    refine Blk.kept ?_ hb_14
    (repeat (first | with_reducible assumption | (with_reducible refine Blk.new' ?_; first | with_reducible rfl | (simp; done)) | with_reducible refine Blk.alloc ?_ _ | with_reducible refine Blk.grow ?_ _ | with_reducible refine Blk.drew ?_ | with_reducible refine Blk.drewN ?_ _ | (with_reducible refine Blk.far ?_ (by first | (dsimp only; omega) | (simp; omega)) _) | (with_reducible apply Blk.two) | (with_reducible refine Blk.set' ?_ _ _ ?_) | (with_reducible rfl) | rfl))
  have g_c : Blk w_14 (w_8.heap.size) 24 #[.int .u64 ch, .int .u64 cl] := by
    refine Blk.kept ?_ hb_14
    (repeat (first | with_reducible assumption | (with_reducible refine Blk.new' ?_; first | with_reducible rfl | (simp; done)) | with_reducible refine Blk.alloc ?_ _ | with_reducible refine Blk.grow ?_ _ | with_reducible refine Blk.drew ?_ | with_reducible refine Blk.drewN ?_ _ | (with_reducible refine Blk.far ?_ (by first | (dsimp only; omega) | (simp; omega)) _) | (with_reducible apply Blk.two) | (with_reducible refine Blk.set' ?_ _ _ ?_) | (with_reducible rfl) | rfl))
  have g_q : Blk w_14 (w_10.heap.size) 32 #[.int .u64 uai1, .int .u64 uai2, .int .u64 uap1, .int .u64 uap2, .int .u64 uaq1, .int .u64 uaq2, .int .u64 uar1, .int .u64 uar2, .int .u64 uas1, .int .u64 uas2, .int .u64 uatg, .int .u32 ualg, .int .u16 uacd, .int .u16 uafl, .int .u64 uast, .int .u64 uei1, .int .u64 uei2, .int .u64 uep1, .int .u64 uep2, .int .u64 ueq1, .int .u64 ueq2, .int .u64 uer1, .int .u64 uer2, .int .u64 ues1, .int .u64 ues2, .int .u64 uetg, .int .u32 uelg, .int .u16 uecd, .int .u16 uefl, .int .u64 uest, .bool ud, .bool uc] := by
    refine Blk.kept ?_ hb_14
    (repeat (first | with_reducible assumption | (with_reducible refine Blk.new' ?_; first | with_reducible rfl | (simp; done)) | with_reducible refine Blk.alloc ?_ _ | with_reducible refine Blk.grow ?_ _ | with_reducible refine Blk.drew ?_ | with_reducible refine Blk.drewN ?_ _ | (with_reducible refine Blk.far ?_ (by first | (dsimp only; omega) | (simp; omega)) _) | (with_reducible apply Blk.two) | (with_reducible refine Blk.set' ?_ _ _ ?_) | (with_reducible rfl) | rfl))
  have g_e : Blk w_14 (w_11.heap.size) 24 #[.int .u64 eh, .int .u64 el] := by
    refine Blk.kept ?_ hb_14
    (repeat (first | with_reducible assumption | (with_reducible refine Blk.new' ?_; first | with_reducible rfl | (simp; done)) | with_reducible refine Blk.alloc ?_ _ | with_reducible refine Blk.grow ?_ _ | with_reducible refine Blk.drew ?_ | with_reducible refine Blk.drewN ?_ _ | (with_reducible refine Blk.far ?_ (by first | (dsimp only; omega) | (simp; omega)) _) | (with_reducible apply Blk.two) | (with_reducible refine Blk.set' ?_ _ _ ?_) | (with_reducible rfl) | rfl))
  have g_g : Blk w_14 (w_12.heap.size) 24 #[.int .u64 gh, .int .u64 gl] := by
    refine Blk.kept ?_ hb_14
    (repeat (first | with_reducible assumption | (with_reducible refine Blk.new' ?_; first | with_reducible rfl | (simp; done)) | with_reducible refine Blk.alloc ?_ _ | with_reducible refine Blk.grow ?_ _ | with_reducible refine Blk.drew ?_ | with_reducible refine Blk.drewN ?_ _ | (with_reducible refine Blk.far ?_ (by first | (dsimp only; omega) | (simp; omega)) _) | (with_reducible apply Blk.two) | (with_reducible refine Blk.set' ?_ _ _ ?_) | (with_reducible rfl) | rfl))
  clear f_x x_l r_x x_14 x_f14 x_16 x_f16 x_23 x_f23 x_24 x_f24 x_31 x_f31 x_33 x_f33 x_34 x_f34 x_39 x_f39 x_40 x_f40 f_d d_l d_0 d_1 d_f0 d_f1 f_c c_l c_0 c_1 c_f0 c_f1 f_q q_l r_q q_2 q_f2 q_3 q_f3 q_4 q_f4 q_5 q_f5 q_21 q_f21 q_22 q_f22 q_23 q_f23 q_24 q_f24 f_e e_l e_0 e_1 e_f0 e_f1 f_g g_l g_0 g_1 g_f0 g_f1 t_x t_d t_c t_q t_e t_g hB_13 hb_14
  have f_x := g_x
  clear g_x
  have f_d := g_d
  clear g_d
  have f_c := g_c
  clear g_c
  have f_q := g_q
  clear g_q
  have f_e := g_e
  clear g_e
  have f_g := g_g
  clear g_g
  have r_x := rowAt_blk f_x
  have x_l := f_x.lt
  have x_14 : w_14.cell? ⟨w.heap.size, 14, none⟩ = some (.int .u16 xfl) := (f_x).cell 14
  have x_f14 := (f_x).frozen 14
  have x_16 : w_14.cell? ⟨w.heap.size, 16, none⟩ = some (.int .u64 ss) := (f_x).cell 16
  have x_f16 := (f_x).frozen 16
  have x_23 : w_14.cell? ⟨w.heap.size, 23, none⟩ = some (.int .u64 ym1) := (f_x).cell 23
  have x_f23 := (f_x).frozen 23
  have x_24 : w_14.cell? ⟨w.heap.size, 24, none⟩ = some (.int .u64 ym2) := (f_x).cell 24
  have x_f24 := (f_x).frozen 24
  have x_31 : w_14.cell? ⟨w.heap.size, 31, none⟩ = some (.int .u16 yfl) := (f_x).cell 31
  have x_f31 := (f_x).frozen 31
  have x_33 : w_14.cell? ⟨w.heap.size, 33, none⟩ = some (.bool true) := (f_x).cell 33
  have x_f33 := (f_x).frozen 33
  have x_34 : w_14.cell? ⟨w.heap.size, 34, none⟩ = some (.int .u8 sv) := (f_x).cell 34
  have x_f34 := (f_x).frozen 34
  have x_39 : w_14.cell? ⟨w.heap.size, 39, none⟩ = some (.int .u64 aq1) := (f_x).cell 39
  have x_f39 := (f_x).frozen 39
  have x_40 : w_14.cell? ⟨w.heap.size, 40, none⟩ = some (.int .u64 aq2) := (f_x).cell 40
  have x_f40 := (f_x).frozen 40
  replace f_x := Lib.hid f_x
  have d_0 : w_14.cell? ⟨w_7.heap.size, 0, none⟩ = some (.int .u64 dh) := (f_d).cell 0
  have d_1 : w_14.cell? ⟨w_7.heap.size, 1, none⟩ = some (.int .u64 dl) := (f_d).cell 1
  have d_f0 := (f_d).frozen 0
  have d_f1 := (f_d).frozen 1
  have d_l := (f_d).lt
  replace f_d := Lib.hid f_d
  have c_0 : w_14.cell? ⟨w_8.heap.size, 0, none⟩ = some (.int .u64 ch) := (f_c).cell 0
  have c_1 : w_14.cell? ⟨w_8.heap.size, 1, none⟩ = some (.int .u64 cl) := (f_c).cell 1
  have c_f0 := (f_c).frozen 0
  have c_f1 := (f_c).frozen 1
  have c_l := (f_c).lt
  replace f_c := Lib.hid f_c
  have r_q := rowAt_blk f_q
  have q_l := f_q.lt
  have q_2 : w_14.cell? ⟨w_10.heap.size, 2, none⟩ = some (.int .u64 uap1) := (f_q).cell 2
  have q_f2 := (f_q).frozen 2
  have q_3 : w_14.cell? ⟨w_10.heap.size, 3, none⟩ = some (.int .u64 uap2) := (f_q).cell 3
  have q_f3 := (f_q).frozen 3
  have q_4 : w_14.cell? ⟨w_10.heap.size, 4, none⟩ = some (.int .u64 uaq1) := (f_q).cell 4
  have q_f4 := (f_q).frozen 4
  have q_5 : w_14.cell? ⟨w_10.heap.size, 5, none⟩ = some (.int .u64 uaq2) := (f_q).cell 5
  have q_f5 := (f_q).frozen 5
  have q_21 : w_14.cell? ⟨w_10.heap.size, 21, none⟩ = some (.int .u64 uer1) := (f_q).cell 21
  have q_f21 := (f_q).frozen 21
  have q_22 : w_14.cell? ⟨w_10.heap.size, 22, none⟩ = some (.int .u64 uer2) := (f_q).cell 22
  have q_f22 := (f_q).frozen 22
  have q_23 : w_14.cell? ⟨w_10.heap.size, 23, none⟩ = some (.int .u64 ues1) := (f_q).cell 23
  have q_f23 := (f_q).frozen 23
  have q_24 : w_14.cell? ⟨w_10.heap.size, 24, none⟩ = some (.int .u64 ues2) := (f_q).cell 24
  have q_f24 := (f_q).frozen 24
  replace f_q := Lib.hid f_q
  have e_0 : w_14.cell? ⟨w_11.heap.size, 0, none⟩ = some (.int .u64 eh) := (f_e).cell 0
  have e_1 : w_14.cell? ⟨w_11.heap.size, 1, none⟩ = some (.int .u64 el) := (f_e).cell 1
  have e_f0 := (f_e).frozen 0
  have e_f1 := (f_e).frozen 1
  have e_l := (f_e).lt
  replace f_e := Lib.hid f_e
  have g_0 : w_14.cell? ⟨w_12.heap.size, 0, none⟩ = some (.int .u64 gh) := (f_g).cell 0
  have g_1 : w_14.cell? ⟨w_12.heap.size, 1, none⟩ = some (.int .u64 gl) := (f_g).cell 1
  have g_f0 := (f_g).frozen 0
  have g_f1 := (f_g).frozen 1
  have g_l := (f_g).lt
  replace f_g := Lib.hid f_g
  replace hB_14 := Lib.hid hB_14
  go_wp2_with fail
  refine (K2.out _).mono ?_
  rintro e w_15 ⟨rfl, hb_15⟩
  have z_15 := hb_15.size
  try simp at z_15
  have t_ := hB_14.out
  have hB_15 := bel_eld (w := w) (X := _) (by first | ((repeat (first | with_reducible exact Below.refl _ _ | with_reducible assumption | (with_reducible refine bel_set ?_ (by first | exact Nat.le_refl _ | (simp; done) | (simp; omega) | omega) _) | with_reducible refine bel_grow ?_ _ | with_reducible refine Below.drew ?_ | with_reducible refine below_drewN ?_ _ | with_reducible refine bel_alloc ?_ _ | with_reducible refine bel_trans ?_ (by assumption))); done) | (repeat (first | exact Below.refl _ _ | assumption | refine below_drewN ?_ _ | refine bel_grow ?_ _ | refine Below.drew ?_ | refine bel_alloc ?_ _ | refine bel_set ?_ (by first | exact Nat.le_refl _ | (simp; done) | (simp; omega) | omega) _ | refine bel_trans ?_ (by assumption)))) hb_15
  clear t_
  have t_x := f_x.out
  have t_d := f_d.out
  have t_c := f_c.out
  have t_q := f_q.out
  have t_e := f_e.out
  have t_g := f_g.out
  have g_x : Blk w_15 (w.heap.size) 68 #[.int .u64 xi1, .int .u64 xi2, .int .u64 xd1, .int .u64 xd2, .int .u64 xc1, .int .u64 xc2, .int .u64 xm1, .int .u64 xm2, .int .u64 xw1, .int .u64 xw2, .int .u64 xtg, .int .u32 xto, .int .u32 xlg, .int .u16 xcd, .int .u16 xfl, .int .u64 xst, .int .u64 ss, .int .u64 yi1, .int .u64 yi2, .int .u64 yd1, .int .u64 yd2, .int .u64 yc1, .int .u64 yc2, .int .u64 ym1, .int .u64 ym2, .int .u64 yw1, .int .u64 yw2, .int .u64 ytg, .int .u32 yto, .int .u32 ylg, .int .u16 ycd, .int .u16 yfl, .int .u64 yst, .bool true, .int .u8 sv, .int .u64 ai1, .int .u64 ai2, .int .u64 ap1, .int .u64 ap2, .int .u64 aq1, .int .u64 aq2, .int .u64 ar1, .int .u64 ar2, .int .u64 as1, .int .u64 as2, .int .u64 atg, .int .u32 alg, .int .u16 acd, .int .u16 afl, .int .u64 ast, .int .u64 ei1, .int .u64 ei2, .int .u64 ep1, .int .u64 ep2, .int .u64 eq1, .int .u64 eq2, .int .u64 er1, .int .u64 er2, .int .u64 es1, .int .u64 es2, .int .u64 etg, .int .u32 elg, .int .u16 ecd, .int .u16 efl, .int .u64 est, .bool hd, .bool hc] := by
    refine Blk.kept ?_ hb_15
    (repeat (first | with_reducible assumption | (with_reducible refine Blk.new' ?_; first | with_reducible rfl | (simp; done)) | with_reducible refine Blk.alloc ?_ _ | with_reducible refine Blk.grow ?_ _ | with_reducible refine Blk.drew ?_ | with_reducible refine Blk.drewN ?_ _ | (with_reducible refine Blk.far ?_ (by first | (dsimp only; omega) | (simp; omega)) _) | (with_reducible apply Blk.two) | (with_reducible refine Blk.set' ?_ _ _ ?_) | (with_reducible rfl) | rfl))
  have g_d : Blk w_15 (w_7.heap.size) 24 #[.int .u64 dh, .int .u64 dl] := by
    refine Blk.kept ?_ hb_15
    (repeat (first | with_reducible assumption | (with_reducible refine Blk.new' ?_; first | with_reducible rfl | (simp; done)) | with_reducible refine Blk.alloc ?_ _ | with_reducible refine Blk.grow ?_ _ | with_reducible refine Blk.drew ?_ | with_reducible refine Blk.drewN ?_ _ | (with_reducible refine Blk.far ?_ (by first | (dsimp only; omega) | (simp; omega)) _) | (with_reducible apply Blk.two) | (with_reducible refine Blk.set' ?_ _ _ ?_) | (with_reducible rfl) | rfl))
  have g_c : Blk w_15 (w_8.heap.size) 24 #[.int .u64 ch, .int .u64 cl] := by
    refine Blk.kept ?_ hb_15
    (repeat (first | with_reducible assumption | (with_reducible refine Blk.new' ?_; first | with_reducible rfl | (simp; done)) | with_reducible refine Blk.alloc ?_ _ | with_reducible refine Blk.grow ?_ _ | with_reducible refine Blk.drew ?_ | with_reducible refine Blk.drewN ?_ _ | (with_reducible refine Blk.far ?_ (by first | (dsimp only; omega) | (simp; omega)) _) | (with_reducible apply Blk.two) | (with_reducible refine Blk.set' ?_ _ _ ?_) | (with_reducible rfl) | rfl))
  have g_q : Blk w_15 (w_10.heap.size) 32 #[.int .u64 uai1, .int .u64 uai2, .int .u64 uap1, .int .u64 uap2, .int .u64 uaq1, .int .u64 uaq2, .int .u64 uar1, .int .u64 uar2, .int .u64 uas1, .int .u64 uas2, .int .u64 uatg, .int .u32 ualg, .int .u16 uacd, .int .u16 uafl, .int .u64 uast, .int .u64 uei1, .int .u64 uei2, .int .u64 uep1, .int .u64 uep2, .int .u64 ueq1, .int .u64 ueq2, .int .u64 uer1, .int .u64 uer2, .int .u64 ues1, .int .u64 ues2, .int .u64 uetg, .int .u32 uelg, .int .u16 uecd, .int .u16 uefl, .int .u64 uest, .bool ud, .bool uc] := by
    refine Blk.kept ?_ hb_15
    (repeat (first | with_reducible assumption | (with_reducible refine Blk.new' ?_; first | with_reducible rfl | (simp; done)) | with_reducible refine Blk.alloc ?_ _ | with_reducible refine Blk.grow ?_ _ | with_reducible refine Blk.drew ?_ | with_reducible refine Blk.drewN ?_ _ | (with_reducible refine Blk.far ?_ (by first | (dsimp only; omega) | (simp; omega)) _) | (with_reducible apply Blk.two) | (with_reducible refine Blk.set' ?_ _ _ ?_) | (with_reducible rfl) | rfl))
  have g_e : Blk w_15 (w_11.heap.size) 24 #[.int .u64 eh, .int .u64 el] := by
    refine Blk.kept ?_ hb_15
    (repeat (first | with_reducible assumption | (with_reducible refine Blk.new' ?_; first | with_reducible rfl | (simp; done)) | with_reducible refine Blk.alloc ?_ _ | with_reducible refine Blk.grow ?_ _ | with_reducible refine Blk.drew ?_ | with_reducible refine Blk.drewN ?_ _ | (with_reducible refine Blk.far ?_ (by first | (dsimp only; omega) | (simp; omega)) _) | (with_reducible apply Blk.two) | (with_reducible refine Blk.set' ?_ _ _ ?_) | (with_reducible rfl) | rfl))
  have g_g : Blk w_15 (w_12.heap.size) 24 #[.int .u64 gh, .int .u64 gl] := by
    refine Blk.kept ?_ hb_15
    (repeat (first | with_reducible assumption | (with_reducible refine Blk.new' ?_; first | with_reducible rfl | (simp; done)) | with_reducible refine Blk.alloc ?_ _ | with_reducible refine Blk.grow ?_ _ | with_reducible refine Blk.drew ?_ | with_reducible refine Blk.drewN ?_ _ | (with_reducible refine Blk.far ?_ (by first | (dsimp only; omega) | (simp; omega)) _) | (with_reducible apply Blk.two) | (with_reducible refine Blk.set' ?_ _ _ ?_) | (with_reducible rfl) | rfl))
  clear f_x x_l r_x x_14 x_f14 x_16 x_f16 x_23 x_f23 x_24 x_f24 x_31 x_f31 x_33 x_f33 x_34 x_f34 x_39 x_f39 x_40 x_f40 f_d d_l d_0 d_1 d_f0 d_f1 f_c c_l c_0 c_1 c_f0 c_f1 f_q q_l r_q q_2 q_f2 q_3 q_f3 q_4 q_f4 q_5 q_f5 q_21 q_f21 q_22 q_f22 q_23 q_f23 q_24 q_f24 f_e e_l e_0 e_1 e_f0 e_f1 f_g g_l g_0 g_1 g_f0 g_f1 t_x t_d t_c t_q t_e t_g hB_14 hb_15
  have f_x := g_x
  clear g_x
  have f_d := g_d
  clear g_d
  have f_c := g_c
  clear g_c
  have f_q := g_q
  clear g_q
  have f_e := g_e
  clear g_e
  have f_g := g_g
  clear g_g
  have r_x := rowAt_blk f_x
  have x_l := f_x.lt
  have x_14 : w_15.cell? ⟨w.heap.size, 14, none⟩ = some (.int .u16 xfl) := (f_x).cell 14
  have x_f14 := (f_x).frozen 14
  have x_16 : w_15.cell? ⟨w.heap.size, 16, none⟩ = some (.int .u64 ss) := (f_x).cell 16
  have x_f16 := (f_x).frozen 16
  have x_23 : w_15.cell? ⟨w.heap.size, 23, none⟩ = some (.int .u64 ym1) := (f_x).cell 23
  have x_f23 := (f_x).frozen 23
  have x_24 : w_15.cell? ⟨w.heap.size, 24, none⟩ = some (.int .u64 ym2) := (f_x).cell 24
  have x_f24 := (f_x).frozen 24
  have x_31 : w_15.cell? ⟨w.heap.size, 31, none⟩ = some (.int .u16 yfl) := (f_x).cell 31
  have x_f31 := (f_x).frozen 31
  have x_33 : w_15.cell? ⟨w.heap.size, 33, none⟩ = some (.bool true) := (f_x).cell 33
  have x_f33 := (f_x).frozen 33
  have x_34 : w_15.cell? ⟨w.heap.size, 34, none⟩ = some (.int .u8 sv) := (f_x).cell 34
  have x_f34 := (f_x).frozen 34
  have x_39 : w_15.cell? ⟨w.heap.size, 39, none⟩ = some (.int .u64 aq1) := (f_x).cell 39
  have x_f39 := (f_x).frozen 39
  have x_40 : w_15.cell? ⟨w.heap.size, 40, none⟩ = some (.int .u64 aq2) := (f_x).cell 40
  have x_f40 := (f_x).frozen 40
  replace f_x := Lib.hid f_x
  have d_0 : w_15.cell? ⟨w_7.heap.size, 0, none⟩ = some (.int .u64 dh) := (f_d).cell 0
  have d_1 : w_15.cell? ⟨w_7.heap.size, 1, none⟩ = some (.int .u64 dl) := (f_d).cell 1
  have d_f0 := (f_d).frozen 0
  have d_f1 := (f_d).frozen 1
  have d_l := (f_d).lt
  replace f_d := Lib.hid f_d
  have c_0 : w_15.cell? ⟨w_8.heap.size, 0, none⟩ = some (.int .u64 ch) := (f_c).cell 0
  have c_1 : w_15.cell? ⟨w_8.heap.size, 1, none⟩ = some (.int .u64 cl) := (f_c).cell 1
  have c_f0 := (f_c).frozen 0
  have c_f1 := (f_c).frozen 1
  have c_l := (f_c).lt
  replace f_c := Lib.hid f_c
  have r_q := rowAt_blk f_q
  have q_l := f_q.lt
  have q_2 : w_15.cell? ⟨w_10.heap.size, 2, none⟩ = some (.int .u64 uap1) := (f_q).cell 2
  have q_f2 := (f_q).frozen 2
  have q_3 : w_15.cell? ⟨w_10.heap.size, 3, none⟩ = some (.int .u64 uap2) := (f_q).cell 3
  have q_f3 := (f_q).frozen 3
  have q_4 : w_15.cell? ⟨w_10.heap.size, 4, none⟩ = some (.int .u64 uaq1) := (f_q).cell 4
  have q_f4 := (f_q).frozen 4
  have q_5 : w_15.cell? ⟨w_10.heap.size, 5, none⟩ = some (.int .u64 uaq2) := (f_q).cell 5
  have q_f5 := (f_q).frozen 5
  have q_21 : w_15.cell? ⟨w_10.heap.size, 21, none⟩ = some (.int .u64 uer1) := (f_q).cell 21
  have q_f21 := (f_q).frozen 21
  have q_22 : w_15.cell? ⟨w_10.heap.size, 22, none⟩ = some (.int .u64 uer2) := (f_q).cell 22
  have q_f22 := (f_q).frozen 22
  have q_23 : w_15.cell? ⟨w_10.heap.size, 23, none⟩ = some (.int .u64 ues1) := (f_q).cell 23
  have q_f23 := (f_q).frozen 23
  have q_24 : w_15.cell? ⟨w_10.heap.size, 24, none⟩ = some (.int .u64 ues2) := (f_q).cell 24
  have q_f24 := (f_q).frozen 24
  replace f_q := Lib.hid f_q
  have e_0 : w_15.cell? ⟨w_11.heap.size, 0, none⟩ = some (.int .u64 eh) := (f_e).cell 0
  have e_1 : w_15.cell? ⟨w_11.heap.size, 1, none⟩ = some (.int .u64 el) := (f_e).cell 1
  have e_f0 := (f_e).frozen 0
  have e_f1 := (f_e).frozen 1
  have e_l := (f_e).lt
  replace f_e := Lib.hid f_e
  have g_0 : w_15.cell? ⟨w_12.heap.size, 0, none⟩ = some (.int .u64 gh) := (f_g).cell 0
  have g_1 : w_15.cell? ⟨w_12.heap.size, 1, none⟩ = some (.int .u64 gl) := (f_g).cell 1
  have g_f0 := (f_g).frozen 0
  have g_f1 := (f_g).frozen 1
  have g_l := (f_g).lt
  replace f_g := Lib.hid f_g
  replace hB_15 := Lib.hid hB_15
  cases pb
  case true =>
    go_wp2_with fail
    go_ret
    exact ⟨by first | rfl | simp, by have t_B := hB_15.out; (repeat (first | with_reducible exact Below.refl _ _ | with_reducible assumption | (with_reducible refine bel_set ?_ (by first | exact Nat.le_refl _ | (simp; done) | (simp; omega) | omega) _) | with_reducible refine bel_grow ?_ _ | with_reducible refine Below.drew ?_ | with_reducible refine bel_alloc ?_ _ | with_reducible refine bel_eld ?_ (by assumption)))⟩
  case false =>
    have g4 := g3.out rfl
    go_wp2_with fail
    go_ret
    exact ⟨by first | rfl | simp, by have t_B := hB_15.out; (repeat (first | with_reducible exact Below.refl _ _ | with_reducible assumption | (with_reducible refine bel_set ?_ (by first | exact Nat.le_refl _ | (simp; done) | (simp; omega) | omega) _) | with_reducible refine bel_grow ?_ _ | with_reducible refine Below.drew ?_ | with_reducible refine bel_alloc ?_ _ | with_reducible refine bel_eld ?_ (by assumption)))⟩
end Go.Proofs.Ytpbnakoimlmhnaa
