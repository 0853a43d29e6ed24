/-
  PhaseMakes, walked.
-/
import Derived.Test.YtogipdmhfmjecaaPhJ
namespace Go.Proofs.Ytogipdmhfmjecaa
set_option linter.unusedVariables false
set_option linter.unusedSimpArgs false
open Go.RowKit

attribute [local go_sem] bK_is loadV_ptr storeV_ptr
attribute [local go_sem ↓] load_Transfer store_Transfer load_Kept store_Kept build_Kept
set_option maxRecDepth 8000 in
set_option maxHeartbeats 4000000 in
theorem phaseMakes_any (xi1 xi2 xd1 xd2 xc1 xc2 xm1 xm2 xw1 xw2 xtg xto xlg xcd xfl xst yi1 yi2 yd1 yd2 yc1 yc2 ym1 ym2 yw1 yw2 ytg yto ylg ycd yfl yst n1 n2 : Int) (w : World) : Calls Try.prog 4 #[.agg #[.int .u64 xi1, .int .u64 xi2, .int .u64 xd1, .int .u64 xd2, .int .u64 xc1, .int .u64 xc2, .int .u64 xm1, .int .u64 xm2, .int .u64 xw1, .int .u64 xw2, .int .u64 xtg, .int .u32 xto, .int .u32 xlg, .int .u16 xcd, .int .u16 xfl, .int .u64 xst], .agg #[.int .u64 yi1, .int .u64 yi2, .int .u64 yd1, .int .u64 yd2, .int .u64 yc1, .int .u64 yc2, .int .u64 ym1, .int .u64 ym2, .int .u64 yw1, .int .u64 yw2, .int .u64 ytg, .int .u32 yto, .int .u32 ylg, .int .u16 ycd, .int .u16 yfl, .int .u64 yst], .agg #[.int .u64 n1, .int .u64 n2]] w fun r w' => r = .returned (.bool true) ∧ Below w.heap.size w w' := by
  have HM := Lib.hid (fun w => made_any xi1 xi2 xd1 xd2 xc1 xc2 xm1 xm2 xw1 xw2 xtg xto xlg xcd xfl xst yi1 yi2 yd1 yd2 yc1 yc2 ym1 ym2 yw1 yw2 ytg yto ylg ycd yfl yst n1 n2 yst w)
  have HR := Lib.hid (fun w => refmade_any xi1 xi2 xd1 xd2 xc1 xc2 xm1 xm2 xw1 xw2 xtg xto xlg xcd xfl xst yi1 yi2 yd1 yd2 yc1 yc2 ym1 ym2 yw1 yw2 ytg yto ylg ycd yfl yst n1 n2 yst w)
  have HA := Lib.hid (fun w => again_same xi1 xi2 yd1 yd2 yc1 yc2 xm1 xm2 xw1 xw2 xtg xto ylg ycd xfl xst n1 n2 yst w)
  have HX := Lib.hid fixed20_any
  have hb0 := bel_alloc (bel_alloc (bel_alloc (Below.refl w.heap.size w) (.cells #[.int .u64 xi1, .int .u64 xi2, .int .u64 xd1, .int .u64 xd2, .int .u64 xc1, .int .u64 xc2, .int .u64 xm1, .int .u64 xm2, .int .u64 xw1, .int .u64 xw2, .int .u64 xtg, .int .u32 xto, .int .u32 xlg, .int .u16 xcd, .int .u16 xfl, .int .u64 xst] 28)) (.cells #[.int .u64 yi1, .int .u64 yi2, .int .u64 yd1, .int .u64 yd2, .int .u64 yc1, .int .u64 yc2, .int .u64 ym1, .int .u64 ym2, .int .u64 yw1, .int .u64 yw2, .int .u64 ytg, .int .u32 yto, .int .u32 ylg, .int .u16 ycd, .int .u16 yfl, .int .u64 yst] 28)) (.cells #[.int .u64 n1, .int .u64 n2] 24)
  have f_x : Blk (((w.alloc (.cells #[.int .u64 xi1, .int .u64 xi2, .int .u64 xd1, .int .u64 xd2, .int .u64 xc1, .int .u64 xc2, .int .u64 xm1, .int .u64 xm2, .int .u64 xw1, .int .u64 xw2, .int .u64 xtg, .int .u32 xto, .int .u32 xlg, .int .u16 xcd, .int .u16 xfl, .int .u64 xst] 28)).alloc (.cells #[.int .u64 yi1, .int .u64 yi2, .int .u64 yd1, .int .u64 yd2, .int .u64 yc1, .int .u64 yc2, .int .u64 ym1, .int .u64 ym2, .int .u64 yw1, .int .u64 yw2, .int .u64 ytg, .int .u32 yto, .int .u32 ylg, .int .u16 ycd, .int .u16 yfl, .int .u64 yst] 28)).alloc (.cells #[.int .u64 n1, .int .u64 n2] 24)) w.heap.size 28 #[.int .u64 xi1, .int .u64 xi2, .int .u64 xd1, .int .u64 xd2, .int .u64 xc1, .int .u64 xc2, .int .u64 xm1, .int .u64 xm2, .int .u64 xw1, .int .u64 xw2, .int .u64 xtg, .int .u32 xto, .int .u32 xlg, .int .u16 xcd, .int .u16 xfl, .int .u64 xst] := ((Blk.new _ _ _).alloc _).alloc _
  have f_y : Blk (((w.alloc (.cells #[.int .u64 xi1, .int .u64 xi2, .int .u64 xd1, .int .u64 xd2, .int .u64 xc1, .int .u64 xc2, .int .u64 xm1, .int .u64 xm2, .int .u64 xw1, .int .u64 xw2, .int .u64 xtg, .int .u32 xto, .int .u32 xlg, .int .u16 xcd, .int .u16 xfl, .int .u64 xst] 28)).alloc (.cells #[.int .u64 yi1, .int .u64 yi2, .int .u64 yd1, .int .u64 yd2, .int .u64 yc1, .int .u64 yc2, .int .u64 ym1, .int .u64 ym2, .int .u64 yw1, .int .u64 yw2, .int .u64 ytg, .int .u32 yto, .int .u32 ylg, .int .u16 ycd, .int .u16 yfl, .int .u64 yst] 28)).alloc (.cells #[.int .u64 n1, .int .u64 n2] 24)) (w.heap.size + 1) 28 #[.int .u64 yi1, .int .u64 yi2, .int .u64 yd1, .int .u64 yd2, .int .u64 yc1, .int .u64 yc2, .int .u64 ym1, .int .u64 ym2, .int .u64 yw1, .int .u64 yw2, .int .u64 ytg, .int .u32 yto, .int .u32 ylg, .int .u16 ycd, .int .u16 yfl, .int .u64 yst] := (Blk.new' (by simp)).alloc _
  have f_n : Blk (((w.alloc (.cells #[.int .u64 xi1, .int .u64 xi2, .int .u64 xd1, .int .u64 xd2, .int .u64 xc1, .int .u64 xc2, .int .u64 xm1, .int .u64 xm2, .int .u64 xw1, .int .u64 xw2, .int .u64 xtg, .int .u32 xto, .int .u32 xlg, .int .u16 xcd, .int .u16 xfl, .int .u64 xst] 28)).alloc (.cells #[.int .u64 yi1, .int .u64 yi2, .int .u64 yd1, .int .u64 yd2, .int .u64 yc1, .int .u64 yc2, .int .u64 ym1, .int .u64 ym2, .int .u64 yw1, .int .u64 yw2, .int .u64 ytg, .int .u32 yto, .int .u32 ylg, .int .u16 ycd, .int .u16 yfl, .int .u64 yst] 28)).alloc (.cells #[.int .u64 n1, .int .u64 n2] 24)) (w.heap.size + 2) 24 #[.int .u64 n1, .int .u64 n2] := Blk.new' (by simp)
  go_enter Try.func4, Try.ntmps4
  go_upto_region 1 with fail
  refine abs_wp (fun X => Below w.heap.size w X ∧ Blk X w.heap.size 28 #[.int .u64 xi1, .int .u64 xi2, .int .u64 xd1, .int .u64 xd2, .int .u64 xc1, .int .u64 xc2, .int .u64 xm1, .int .u64 xm2, .int .u64 xw1, .int .u64 xw2, .int .u64 xtg, .int .u32 xto, .int .u32 xlg, .int .u16 xcd, .int .u16 xfl, .int .u64 xst] ∧ Blk X (w.heap.size + 1) 28 #[.int .u64 yi1, .int .u64 yi2, .int .u64 yd1, .int .u64 yd2, .int .u64 yc1, .int .u64 yc2, .int .u64 ym1, .int .u64 ym2, .int .u64 yw1, .int .u64 yw2, .int .u64 ytg, .int .u32 yto, .int .u32 ylg, .int .u16 ycd, .int .u16 yfl, .int .u64 yst] ∧ Blk X (w.heap.size + 2) 24 #[.int .u64 n1, .int .u64 n2]) ⟨hb0, f_x, f_y, f_n⟩ ?_
  clear hb0 f_x f_y f_n
  rintro w0 ⟨hb0, f_x, f_y, f_n⟩
  have y15 : w0.cell? ⟨w.heap.size + 1, 15, none⟩ = some (.int .u64 yst) := f_y.cell 15
  have r_x := rowAt_blk f_x
  have x_l := f_x.lt
  replace f_x := Lib.hid f_x
  have r_y := rowAt_blk f_y
  have y_l := f_y.lt
  replace f_y := Lib.hid f_y
  have n_0 := (f_n).cell 0
  have n_1 := (f_n).cell 1
  have n_f0 := (f_n).frozen 0
  have n_f1 := (f_n).frozen 1
  have n_l := (f_n).lt
  replace f_n := Lib.hid f_n
  replace hb0 := Lib.hid hb0
  go_wp2_with fail
  refine (HM.out _).mono ?_
  rintro e w_1 ⟨rfl, hb_1⟩
  have z_1 := hb_1.size
  try simp at z_1
  have t_ := hb0.out
  have hB_1 := bel_eld (w := w) (X := _) (by repeat (first | exact Below.refl _ _ | assumption | refine below_drewN ?_ _ | refine bel_grow ?_ _ | refine Below.drew ?_ | refine bel_alloc ?_ _ | refine bel_set ?_ (by first | exact Nat.le_refl _ | (simp; done) | (simp; omega) | omega) _ | refine bel_trans ?_ (by assumption))) hb_1
  clear t_
  have t_x := f_x.out
  have t_y := f_y.out
  have t_n := f_n.out
  have g_x : Blk w_1 (w.heap.size) 28 #[.int .u64 xi1, .int .u64 xi2, .int .u64 xd1, .int .u64 xd2, .int .u64 xc1, .int .u64 xc2, .int .u64 xm1, .int .u64 xm2, .int .u64 xw1, .int .u64 xw2, .int .u64 xtg, .int .u32 xto, .int .u32 xlg, .int .u16 xcd, .int .u16 xfl, .int .u64 xst] := by
    refine Blk.kept ?_ hb_1
    (repeat (first | with_reducible assumption | (with_reducible refine Blk.new' ?_; first | with_reducible rfl | (simp; done)) | with_reducible refine Blk.alloc ?_ _ | with_reducible refine Blk.grow ?_ _ | with_reducible refine Blk.drew ?_ | with_reducible refine Blk.drewN ?_ _ | (with_reducible refine Blk.far ?_ (by first | (dsimp only; omega) | (simp; omega)) _) | (with_reducible apply Blk.two) | (with_reducible refine Blk.set' ?_ _ _ ?_) | (with_reducible rfl) | rfl))
  have g_y : Blk w_1 (w.heap.size + 1) 28 #[.int .u64 yi1, .int .u64 yi2, .int .u64 yd1, .int .u64 yd2, .int .u64 yc1, .int .u64 yc2, .int .u64 ym1, .int .u64 ym2, .int .u64 yw1, .int .u64 yw2, .int .u64 ytg, .int .u32 yto, .int .u32 ylg, .int .u16 ycd, .int .u16 yfl, .int .u64 yst] := by
    refine Blk.kept ?_ hb_1
    (repeat (first | with_reducible assumption | (with_reducible refine Blk.new' ?_; first | with_reducible rfl | (simp; done)) | with_reducible refine Blk.alloc ?_ _ | with_reducible refine Blk.grow ?_ _ | with_reducible refine Blk.drew ?_ | with_reducible refine Blk.drewN ?_ _ | (with_reducible refine Blk.far ?_ (by first | (dsimp only; omega) | (simp; omega)) _) | (with_reducible apply Blk.two) | (with_reducible refine Blk.set' ?_ _ _ ?_) | (with_reducible rfl) | rfl))
  have g_n : Blk w_1 (w.heap.size + 2) 24 #[.int .u64 n1, .int .u64 n2] := by
    refine Blk.kept ?_ hb_1
    (repeat (first | with_reducible assumption | (with_reducible refine Blk.new' ?_; first | with_reducible rfl | (simp; done)) | with_reducible refine Blk.alloc ?_ _ | with_reducible refine Blk.grow ?_ _ | with_reducible refine Blk.drew ?_ | with_reducible refine Blk.drewN ?_ _ | (with_reducible refine Blk.far ?_ (by first | (dsimp only; omega) | (simp; omega)) _) | (with_reducible apply Blk.two) | (with_reducible refine Blk.set' ?_ _ _ ?_) | (with_reducible rfl) | rfl))
  clear f_x x_l r_x f_y y_l r_y f_n n_l n_0 n_1 n_f0 n_f1 t_x t_y t_n hb0 hb_1
  have f_x := g_x
  clear g_x
  have f_y := g_y
  clear g_y
  have f_n := g_n
  clear g_n
  have r_x := rowAt_blk f_x
  have x_l := f_x.lt
  replace f_x := Lib.hid f_x
  have r_y := rowAt_blk f_y
  have y_l := f_y.lt
  replace f_y := Lib.hid f_y
  have n_0 := (f_n).cell 0
  have n_1 := (f_n).cell 1
  have n_f0 := (f_n).frozen 0
  have n_f1 := (f_n).frozen 1
  have n_l := (f_n).lt
  replace f_n := Lib.hid f_n
  replace hB_1 := Lib.hid hB_1
  clear y15
  go_upto_region 2 with fail
  refine abs_wp (fun X => Below w_1.heap.size w_1 X ∧ Blk X w_1.heap.size 45 #[.int .u64 xi1, .int .u64 xi2, .int .u64 yd1, .int .u64 yd2, .int .u64 yc1, .int .u64 yc2, .int .u64 n1, .int .u64 n2, .int .u64 xw1, .int .u64 xw2, .int .u64 xtg, .int .u32 xto, .int .u32 ylg, .int .u16 ycd, .int .u16 xfl, .int .u64 yst, .int .u64 xm1, .int .u64 xm2]) ?_ ?_
  · refine ⟨by (repeat (first | with_reducible exact Below.refl _ _ | with_reducible assumption | (with_reducible refine bel_set ?_ (by first | exact Nat.le_refl _ | (simp; done) | (simp; omega) | omega) _) | with_reducible refine bel_grow ?_ _ | with_reducible refine Below.drew ?_ | with_reducible refine below_drewN ?_ _ | with_reducible refine bel_alloc ?_ _ | with_reducible refine bel_trans ?_ (by assumption))), ?_⟩
    exact Blk.new _ _ _
  rintro X ⟨b2, gk⟩
  have gx := f_x.out.kept b2
  have gy := f_y.out.kept b2
  have gn := f_n.out.kept b2
  have bX := bel_eld hB_1.out b2
  clear hB_1 f_x f_y f_n r_x r_y x_l y_l n_0 n_1 n_f0 n_f1 n_l b2
  have kl := gk.lt
  have xl := gx.lt
  have yl := gy.lt
  have rk := rowAt_blk gk
  have rx := rowAt_blk gx
  have ry := rowAt_blk gy
  have y15 : X.cell? ⟨w.heap.size + 1, 15, none⟩ = some (.int .u64 yst) := gy.cell 15
  have g0 := (gn).cell 0
  have g1 := (gn).cell 1
  have gf0 := (gn).frozen 0
  have gf1 := (gn).frozen 1
  have gl := (gn).lt
  go_cut [22] (fun u1 wx => u1 = .bool false ∧ Below X.heap.size X wx)
  case first =>
    first | (with_reducible refine rgrow2 (by kernel_rfl) (by kernel_rfl) ?_) | (refine rgrow (by kernel_rfl) (by kernel_rfl) ?_)
    repeat (go_big_quiet_step (((first | (go_at_call 10; exact grow_call (HR.out _))))))
    refine wpQuiet_nil ?_
    intro dr
    go_wp2_with fail
    go_meet
    exact ⟨by first | rfl | simp, by first | exact grow_below _ _ | exact Below.drew (grow_below _ _)⟩
  case rest =>
  obtain ⟨rfl, hw⟩ := hcut
  rename World => Wd
  have hk := gk.kept hw
  have hx := gx.kept hw
  have hy := gy.kept hw
  have hb := bel_eld bX hw
  clear gk gx gy gn bX hw kl xl yl rk rx ry y15 g0 g1 gf0 gf1 gl
  have rx := rowAt_blk hx
  have xl := hx.lt
  go_upto_region 5 with fail
  refine abs_wp (fun X2 => Below Wd.heap.size Wd X2 ∧ Blk X2 Wd.heap.size 28 #[.int .u64 xi1, .int .u64 xi2, .int .u64 xd1, .int .u64 xd2, .int .u64 xc1, .int .u64 xc2, .int .u64 xm1, .int .u64 xm2, .int .u64 xw1, .int .u64 xw2, .int .u64 xtg, .int .u32 xto, .int .u32 xlg, .int .u16 xcd, .int .u16 xfl, .int .u64 xst]) ?_ ?_
  · refine ⟨by (repeat (first | with_reducible exact Below.refl _ _ | with_reducible assumption | (with_reducible refine bel_set ?_ (by first | exact Nat.le_refl _ | (simp; done) | (simp; omega) | omega) _) | with_reducible refine bel_grow ?_ _ | with_reducible refine Below.drew ?_ | with_reducible refine below_drewN ?_ _ | with_reducible refine bel_alloc ?_ _ | with_reducible refine bel_trans ?_ (by assumption))), ?_⟩
    exact Blk.new _ _ _
  rintro X2 ⟨b3, gp⟩
  have gk := hk.kept b3
  have gy := hy.kept b3
  have bX := bel_eld hb b3
  have z3 := b3.size
  have yl2 := hy.lt
  have kl2 := hk.lt
  clear hk hx hb rx xl b3
  have pl := gp.lt
  have yl := gy.lt
  have nn1 : ¬ w.heap.size + 1 = Wd.heap.size := by omega
  go_cut [32] (fun u1 wx => Below w.heap.size w wx ∧ Blk wx w_1.heap.size 45 #[.int .u64 xi1, .int .u64 xi2, .int .u64 yd1, .int .u64 yd2, .int .u64 yc1, .int .u64 yc2, .int .u64 n1, .int .u64 n2, .int .u64 xw1, .int .u64 xw2, .int .u64 xtg, .int .u32 xto, .int .u32 ylg, .int .u16 ycd, .int .u16 xfl, .int .u64 yst, .int .u64 xm1, .int .u64 xm2] ∧ Blk wx Wd.heap.size 28 #[.int .u64 xi1, .int .u64 xi2, .int .u64 yd1, .int .u64 yd2, .int .u64 yc1, .int .u64 yc2, .int .u64 xm1, .int .u64 xm2, .int .u64 xw1, .int .u64 xw2, .int .u64 xtg, .int .u32 xto, .int .u32 ylg, .int .u16 ycd, .int .u16 xfl, .int .u64 xst])
  case first =>
    have yy2 : X2.cell? ⟨w.heap.size + 1, 2, none⟩ = some (.int .u64 yd1) := gy.cell 2
    have y3 : X2.cell? ⟨w.heap.size + 1, 3, none⟩ = some (.int .u64 yd2) := gy.cell 3
    have y4 : X2.cell? ⟨w.heap.size + 1, 4, none⟩ = some (.int .u64 yc1) := gy.cell 4
    have y5 : X2.cell? ⟨w.heap.size + 1, 5, none⟩ = some (.int .u64 yc2) := gy.cell 5
    have y12 : X2.cell? ⟨w.heap.size + 1, 12, none⟩ = some (.int .u32 ylg) := gy.cell 12
    have y13 : X2.cell? ⟨w.heap.size + 1, 13, none⟩ = some (.int .u16 ycd) := gy.cell 13
    have p0 := (gp).cell 0
    have p1 := (gp).cell 1
    have p2 := (gp).cell 2
    have p3 := (gp).cell 3
    have p4 := (gp).cell 4
    have p5 := (gp).cell 5
    have p6 := (gp).cell 6
    have p7 := (gp).cell 7
    have p8 := (gp).cell 8
    have p9 := (gp).cell 9
    have p10 := (gp).cell 10
    have p11 := (gp).cell 11
    have p12 := (gp).cell 12
    have p13 := (gp).cell 13
    have p14 := (gp).cell 14
    have p15 := (gp).cell 15
    have pf0 := (gp).frozen 0
    have pf1 := (gp).frozen 1
    have pf2 := (gp).frozen 2
    have pf3 := (gp).frozen 3
    have pf4 := (gp).frozen 4
    have pf5 := (gp).frozen 5
    have pf6 := (gp).frozen 6
    have pf7 := (gp).frozen 7
    have pf8 := (gp).frozen 8
    have pf9 := (gp).frozen 9
    have pf10 := (gp).frozen 10
    have pf11 := (gp).frozen 11
    have pf12 := (gp).frozen 12
    have pf13 := (gp).frozen 13
    have pf14 := (gp).frozen 14
    have pf15 := (gp).frozen 15
    have pl := (gp).lt
    replace gp := Lib.hid gp
    replace gk := Lib.hid gk
    replace bX := Lib.hid bX
    clear gy
    go_region_held3 (fun w' => w'.cell? ⟨w.heap.size + 1, 2, none⟩ = some (.int .u64 yd1) ∧ w'.cell? ⟨w.heap.size + 1, 3, none⟩ = some (.int .u64 yd2) ∧ w'.cell? ⟨w.heap.size + 1, 4, none⟩ = some (.int .u64 yc1) ∧ w'.cell? ⟨w.heap.size + 1, 5, none⟩ = some (.int .u64 yc2) ∧ w'.cell? ⟨w.heap.size + 1, 12, none⟩ = some (.int .u32 ylg) ∧ w'.cell? ⟨w.heap.size + 1, 13, none⟩ = some (.int .u16 ycd))
      ((repeat' apply And.intro) <;> (first | with_reducible assumption | ((repeat (first | with_reducible refine keepd ?_ | with_reducible refine keeps (by dsimp only; omega) ?_)); with_reducible assumption) | assumption))
      (fail)
    all_goals (
      go_wp2_with fail
      go_meet
      refine ⟨?_, ?_, ?_⟩
      · have t := bX.out
        (repeat (first | with_reducible exact Below.refl _ _ | with_reducible assumption | (with_reducible refine bel_set ?_ (by first | exact Nat.le_refl _ | (simp; done) | (simp; omega) | omega) _) | with_reducible refine bel_grow ?_ _ | with_reducible refine Below.drew ?_ | with_reducible refine below_drewN ?_ _ | with_reducible refine bel_alloc ?_ _ | with_reducible refine bel_trans ?_ (by assumption)))
      · repeat (first | with_reducible refine Blk.drew ?_ | with_reducible refine Blk.far ?_ (by dsimp only; omega) _)
        exact gk.out
      · repeat (with_reducible refine Blk.drew ?_)
        with_reducible refine Blk.eqv ((((((gp.out.set_ 2 _).set_ 3 _).set_ 4 _).set_ 5 _).set_ 12 _).set_ 13 _) ?_
        simp)
  case rest =>
  obtain ⟨bW, f_k, f_p⟩ := hcut
  clear gk gp gy bX pl yl
  have r_k := rowAt_blk f_k
  have k_l := f_k.lt
  replace f_k := Lib.hid f_k
  have r_p := rowAt_blk f_p
  have p_l := f_p.lt
  replace f_p := Lib.hid f_p
  replace bW := Lib.hid bW
  go_wp2_with fail
  refine (HX.out _).mono ?_
  rintro e w_5 ⟨rfl, hb_5⟩
  have z_5 := hb_5.size
  try simp at z_5
  have t_ := bW.out
  have hB_5 := bel_eld (w := w) (X := _) (by repeat (first | exact Below.refl _ _ | assumption | refine below_drewN ?_ _ | refine bel_grow ?_ _ | refine Below.drew ?_ | refine bel_alloc ?_ _ | refine bel_set ?_ (by first | exact Nat.le_refl _ | (simp; done) | (simp; omega) | omega) _ | refine bel_trans ?_ (by assumption))) hb_5
  clear t_
  have t_k := f_k.out
  have t_p := f_p.out
  have g_k : Blk w_5 (w_1.heap.size) 45 #[.int .u64 xi1, .int .u64 xi2, .int .u64 yd1, .int .u64 yd2, .int .u64 yc1, .int .u64 yc2, .int .u64 n1, .int .u64 n2, .int .u64 xw1, .int .u64 xw2, .int .u64 xtg, .int .u32 xto, .int .u32 ylg, .int .u16 ycd, .int .u16 xfl, .int .u64 yst, .int .u64 xm1, .int .u64 xm2] := by
    refine Blk.kept ?_ hb_5
    (repeat (first | with_reducible assumption | (with_reducible refine Blk.new' ?_; first | with_reducible rfl | (simp; done)) | with_reducible refine Blk.alloc ?_ _ | with_reducible refine Blk.grow ?_ _ | with_reducible refine Blk.drew ?_ | with_reducible refine Blk.drewN ?_ _ | (with_reducible refine Blk.far ?_ (by first | (dsimp only; omega) | (simp; omega)) _) | (with_reducible apply Blk.two) | (with_reducible refine Blk.set' ?_ _ _ ?_) | (with_reducible rfl) | rfl))
  have g_p : Blk w_5 (Wd.heap.size) 28 #[.int .u64 xi1, .int .u64 xi2, .int .u64 yd1, .int .u64 yd2, .int .u64 yc1, .int .u64 yc2, .int .u64 xm1, .int .u64 xm2, .int .u64 xw1, .int .u64 xw2, .int .u64 xtg, .int .u32 xto, .int .u32 ylg, .int .u16 ycd, .int .u16 xfl, .int .u64 xst] := by
    refine Blk.kept ?_ hb_5
    (repeat (first | with_reducible assumption | (with_reducible refine Blk.new' ?_; first | with_reducible rfl | (simp; done)) | with_reducible refine Blk.alloc ?_ _ | with_reducible refine Blk.grow ?_ _ | with_reducible refine Blk.drew ?_ | with_reducible refine Blk.drewN ?_ _ | (with_reducible refine Blk.far ?_ (by first | (dsimp only; omega) | (simp; omega)) _) | (with_reducible apply Blk.two) | (with_reducible refine Blk.set' ?_ _ _ ?_) | (with_reducible rfl) | rfl))
  clear f_k k_l r_k f_p p_l r_p t_k t_p bW hb_5
  have f_k := g_k
  clear g_k
  have f_p := g_p
  clear g_p
  have r_k := rowAt_blk f_k
  have k_l := f_k.lt
  replace f_k := Lib.hid f_k
  have r_p := rowAt_blk f_p
  have p_l := f_p.lt
  replace f_p := Lib.hid f_p
  replace hB_5 := Lib.hid hB_5
  go_wp2_with fail
  refine (HA.out _).mono ?_
  rintro e w_6 ⟨rfl, hb_6⟩
  have z_6 := hb_6.size
  try simp at z_6
  have t_ := hB_5.out
  have hB_6 := bel_eld (w := w) (X := _) (by repeat (first | exact Below.refl _ _ | assumption | refine below_drewN ?_ _ | refine bel_grow ?_ _ | refine Below.drew ?_ | refine bel_alloc ?_ _ | refine bel_set ?_ (by first | exact Nat.le_refl _ | (simp; done) | (simp; omega) | omega) _ | refine bel_trans ?_ (by assumption))) hb_6
  clear t_
  have t_k := f_k.out
  have t_p := f_p.out
  have g_k : Blk w_6 (w_1.heap.size) 45 #[.int .u64 xi1, .int .u64 xi2, .int .u64 yd1, .int .u64 yd2, .int .u64 yc1, .int .u64 yc2, .int .u64 n1, .int .u64 n2, .int .u64 xw1, .int .u64 xw2, .int .u64 xtg, .int .u32 xto, .int .u32 ylg, .int .u16 ycd, .int .u16 xfl, .int .u64 yst, .int .u64 xm1, .int .u64 xm2] := by
    refine Blk.kept ?_ hb_6
    (repeat (first | with_reducible assumption | (with_reducible refine Blk.new' ?_; first | with_reducible rfl | (simp; done)) | with_reducible refine Blk.alloc ?_ _ | with_reducible refine Blk.grow ?_ _ | with_reducible refine Blk.drew ?_ | with_reducible refine Blk.drewN ?_ _ | (with_reducible refine Blk.far ?_ (by first | (dsimp only; omega) | (simp; omega)) _) | (with_reducible apply Blk.two) | (with_reducible refine Blk.set' ?_ _ _ ?_) | (with_reducible rfl) | rfl))
  have g_p : Blk w_6 (Wd.heap.size) 28 #[.int .u64 xi1, .int .u64 xi2, .int .u64 yd1, .int .u64 yd2, .int .u64 yc1, .int .u64 yc2, .int .u64 xm1, .int .u64 xm2, .int .u64 xw1, .int .u64 xw2, .int .u64 xtg, .int .u32 xto, .int .u32 ylg, .int .u16 ycd, .int .u16 xfl, .int .u64 xst] := by
    refine Blk.kept ?_ hb_6
    (repeat (first | with_reducible assumption | (with_reducible refine Blk.new' ?_; first | with_reducible rfl | (simp; done)) | with_reducible refine Blk.alloc ?_ _ | with_reducible refine Blk.grow ?_ _ | with_reducible refine Blk.drew ?_ | with_reducible refine Blk.drewN ?_ _ | (with_reducible refine Blk.far ?_ (by first | (dsimp only; omega) | (simp; omega)) _) | (with_reducible apply Blk.two) | (with_reducible refine Blk.set' ?_ _ _ ?_) | (with_reducible rfl) | rfl))
  clear f_k k_l r_k f_p p_l r_p t_k t_p hB_5 hb_6
  have f_k := g_k
  clear g_k
  have f_p := g_p
  clear g_p
  have r_k := rowAt_blk f_k
  have k_l := f_k.lt
  replace f_k := Lib.hid f_k
  have r_p := rowAt_blk f_p
  have p_l := f_p.lt
  replace f_p := Lib.hid f_p
  replace hB_6 := Lib.hid hB_6
  go_wp2_with fail
  go_ret
  exact ⟨rfl, by have t := hB_6.out; (repeat (first | with_reducible exact Below.refl _ _ | with_reducible assumption | (with_reducible refine bel_set ?_ (by first | exact Nat.le_refl _ | (simp; done) | (simp; omega) | omega) _) | with_reducible refine bel_grow ?_ _ | with_reducible refine Below.drew ?_ | with_reducible refine below_drewN ?_ _ | with_reducible refine bel_alloc ?_ _ | with_reducible refine bel_trans ?_ (by assumption)))⟩
end Go.Proofs.Ytogipdmhfmjecaa
