/-
  The walk of the statement RecordOrder.
-/
import Derived.Test.YtflaeljjalpnkaaKeepB
import Derived.Test.YtflaeljjalpnkaaRecE
import Derived.Test.YtflaeljjalpnkaaKeyL
import Derived.Test.YtflaeljjalpnkaaWideCmp
namespace Go.Proofs.Ytflaeljjalpnkaa
set_option linter.unusedVariables false
set_option linter.unusedSimpArgs false
open Go.RowKit

set_option maxRecDepth 16000 in
set_option maxHeartbeats 8000000 in
theorem recordOrder_any (ae as_ ah al be bs bh bl xp1 xp2 xq1 xq2 xr1 xr2 xs1 xs2 xst xsd yp1 yp2 yq1 yq2 yr1 yr2 ys1 ys2 yst ysd : Int) (hae : Wd ae) (has_ : Wd as_) (hah : Wd ah) (hal : Wd al) (hbe : Wd be) (hbs : Wd bs) (hbh : Wd bh) (hbl : Wd bl) (hxp1 : Wd xp1) (hxp2 : Wd xp2) (hxq1 : Wd xq1) (hxq2 : Wd xq2) (hxr1 : Wd xr1) (hxr2 : Wd xr2) (hxs1 : Wd xs1) (hxs2 : Wd xs2) (hxst : Wd xst) (hyp1 : Wd yp1) (hyp2 : Wd yp2) (hyq1 : Wd yq1) (hyq2 : Wd yq2) (hyr1 : Wd yr1) (hyr2 : Wd yr2) (hys1 : Wd ys1) (hys2 : Wd ys2) (hyst : Wd yst) (w : World) :
    Calls Try.prog 3 #[.agg #[.int .u64 ae, .int .u64 as_, .int .u64 ah, .int .u64 al], .agg #[.int .u64 be, .int .u64 bs, .int .u64 bh, .int .u64 bl], .agg #[.int .u64 xp1, .int .u64 xp2, .int .u64 xq1, .int .u64 xq2, .int .u64 xr1, .int .u64 xr2, .int .u64 xs1, .int .u64 xs2, .int .u64 xst, .int .u8 xsd, .int .u64 yp1, .int .u64 yp2, .int .u64 yq1, .int .u64 yq2, .int .u64 yr1, .int .u64 yr2, .int .u64 ys1, .int .u64 ys2, .int .u64 yst, .int .u8 ysd]] w fun r w' => r = .returned (.bool true) ∧ Below w.heap.size w w' := by
  have H1 := Lib.hid (fun w => keepDue_any ae as_ ah al hae has_ hah hal w)
  have H2 := Lib.hid (fun w => keepDue_any be bs bh bl hbe hbs hbh hbl w)
  have H3 := Lib.hid (fun w => keepRow_any ah al xp1 xp2 xq1 xq2 xr1 xr2 xs1 xs2 xst xsd hah hal hxp1 hxp2 hxq1 hxq2 hxr1 hxr2 hxs1 hxs2 hxst w)
  have H4 := Lib.hid (fun w => keepRow_any bh bl yp1 yp2 yq1 yq2 yr1 yr2 ys1 ys2 yst ysd hbh hbl hyp1 hyp2 hyq1 hyq2 hyr1 hyr2 hys1 hys2 hyst w)
  have H5 := Lib.hid (fun w => refcmp_any ah al bh bl hah hal hbh hbl w)
  have k1 := Lib.hid (two_less hae has_ hbe hbs)
  have k2 := Lib.hid (pair_less hah hal hxst hbh hbl hyst)
  clear hae has_ hah hal hbe hbs hbh hbl hxp1 hxp2 hxq1 hxq2 hxr1 hxr2 hxs1 hxs2 hxst hyp1 hyp2 hyq1 hyq2 hyr1 hyr2 hys1 hys2 hyst
  generalize hcc : cmpV ah al bh bl = cc at *
  clear hcc
  generalize rowD xsd xp1 xp2 xq1 xq2 xr1 xr2 xs1 xs2 xst = VX at *
  generalize rowD ysd yp1 yp2 yq1 yq2 yr1 yr2 ys1 ys2 yst = VY at *
  have hb0 := Below.refl w.heap.size w
  go_enter Try.func3, Try.ntmps3
  go_upto_region 1 with fail
  go_cut [7, 8] (fun s7 s8 wx => ∃ g1 g2, s7 = .pointer (some ⟨g1, 0, none⟩) ∧ s8 = .pointer (some ⟨g2, 0, none⟩) ∧ Below w.heap.size w wx ∧ Blk wx w.heap.size 26 #[.int .u64 ae, .int .u64 as_, .int .u64 ah, .int .u64 al] ∧ Blk wx (w.heap.size + 1) 26 #[.int .u64 be, .int .u64 bs, .int .u64 bh, .int .u64 bl] ∧ Blk wx g1 30 #[.int .u64 xp1, .int .u64 xp2, .int .u64 xq1, .int .u64 xq2, .int .u64 xr1, .int .u64 xr2, .int .u64 xs1, .int .u64 xs2, .int .u64 xst, .int .u8 xsd] ∧ Blk wx g2 30 #[.int .u64 yp1, .int .u64 yp2, .int .u64 yq1, .int .u64 yq2, .int .u64 yr1, .int .u64 yr2, .int .u64 ys1, .int .u64 ys2, .int .u64 yst, .int .u8 ysd])
  case first =>
    go_region
    all_goals (
      go_wp2_with fail
      go_meet
      first
        | (refine ⟨w.heap.size + 1 + 1 + 1, w.heap.size + 1 + 1 + 1 + 1, rfl, rfl, ?_, ?_, ?_, ?_, ?_⟩
           · ((repeat (first | exact Below.refl _ _ | assumption | refine below_drewN ?_ _ | refine bel_grow ?_ _ | refine Below.drew ?_ | refine bel_alloc ?_ _ | refine bel_set ?_ (by first | exact Nat.le_refl _ | (simp; done) | (simp; omega) | omega) _ | refine bel_trans ?_ (by assumption))); done)
           · ((repeat (first | with_reducible assumption | (with_reducible refine Blk.new' ?_; first | with_reducible rfl | (simp; done)) | with_reducible refine Blk.alloc ?_ _ | with_reducible refine Blk.grow ?_ _ | with_reducible refine Blk.drew ?_ | with_reducible refine Blk.drewN ?_ _ | (with_reducible refine Blk.far ?_ (by first | (dsimp only; omega) | (simp; omega)) _) | (with_reducible apply Blk.two))); done)
           · ((repeat (first | with_reducible assumption | (with_reducible refine Blk.new' ?_; first | with_reducible rfl | (simp; done)) | with_reducible refine Blk.alloc ?_ _ | with_reducible refine Blk.grow ?_ _ | with_reducible refine Blk.drew ?_ | with_reducible refine Blk.drewN ?_ _ | (with_reducible refine Blk.far ?_ (by first | (dsimp only; omega) | (simp; omega)) _) | (with_reducible apply Blk.two))); done)
           · ((repeat (first | with_reducible assumption | (with_reducible refine Blk.new' ?_; first | with_reducible rfl | (simp; done)) | with_reducible refine Blk.alloc ?_ _ | with_reducible refine Blk.grow ?_ _ | with_reducible refine Blk.drew ?_ | with_reducible refine Blk.drewN ?_ _ | (with_reducible refine Blk.far ?_ (by first | (dsimp only; omega) | (simp; omega)) _) | (with_reducible apply Blk.two))); done)
           · ((repeat (first | with_reducible assumption | (with_reducible refine Blk.new' ?_; first | with_reducible rfl | (simp; done)) | with_reducible refine Blk.alloc ?_ _ | with_reducible refine Blk.grow ?_ _ | with_reducible refine Blk.drew ?_ | with_reducible refine Blk.drewN ?_ _ | (with_reducible refine Blk.far ?_ (by first | (dsimp only; omega) | (simp; omega)) _) | (with_reducible apply Blk.two))); done))
        | (refine ⟨w.heap.size + 1 + 1 + 1 + 1, w.heap.size + 1 + 1 + 1, rfl, rfl, ?_, ?_, ?_, ?_, ?_⟩
           · ((repeat (first | exact Below.refl _ _ | assumption | refine below_drewN ?_ _ | refine bel_grow ?_ _ | refine Below.drew ?_ | refine bel_alloc ?_ _ | refine bel_set ?_ (by first | exact Nat.le_refl _ | (simp; done) | (simp; omega) | omega) _ | refine bel_trans ?_ (by assumption))); done)
           · ((repeat (first | with_reducible assumption | (with_reducible refine Blk.new' ?_; first | with_reducible rfl | (simp; done)) | with_reducible refine Blk.alloc ?_ _ | with_reducible refine Blk.grow ?_ _ | with_reducible refine Blk.drew ?_ | with_reducible refine Blk.drewN ?_ _ | (with_reducible refine Blk.far ?_ (by first | (dsimp only; omega) | (simp; omega)) _) | (with_reducible apply Blk.two))); done)
           · ((repeat (first | with_reducible assumption | (with_reducible refine Blk.new' ?_; first | with_reducible rfl | (simp; done)) | with_reducible refine Blk.alloc ?_ _ | with_reducible refine Blk.grow ?_ _ | with_reducible refine Blk.drew ?_ | with_reducible refine Blk.drewN ?_ _ | (with_reducible refine Blk.far ?_ (by first | (dsimp only; omega) | (simp; omega)) _) | (with_reducible apply Blk.two))); done)
           · ((repeat (first | with_reducible assumption | (with_reducible refine Blk.new' ?_; first | with_reducible rfl | (simp; done)) | with_reducible refine Blk.alloc ?_ _ | with_reducible refine Blk.grow ?_ _ | with_reducible refine Blk.drew ?_ | with_reducible refine Blk.drewN ?_ _ | (with_reducible refine Blk.far ?_ (by first | (dsimp only; omega) | (simp; omega)) _) | (with_reducible apply Blk.two))); done)
           · ((repeat (first | with_reducible assumption | (with_reducible refine Blk.new' ?_; first | with_reducible rfl | (simp; done)) | with_reducible refine Blk.alloc ?_ _ | with_reducible refine Blk.grow ?_ _ | with_reducible refine Blk.drew ?_ | with_reducible refine Blk.drewN ?_ _ | (with_reducible refine Blk.far ?_ (by first | (dsimp only; omega) | (simp; omega)) _) | (with_reducible apply Blk.two))); done)))
  case rest =>
    clear hb0
    obtain ⟨g1, g2, rfl, rfl, hb0, f_a, f_b, f_x, f_y⟩ := hcut
    have hsz := hb0.size
    have a_0 := (f_a).cell 0
    have a_1 := (f_a).cell 1
    have a_2 := (f_a).cell 2
    have a_3 := (f_a).cell 3
    have a_f0 := (f_a).frozen 0
    have a_f1 := (f_a).frozen 1
    have a_f2 := (f_a).frozen 2
    have a_f3 := (f_a).frozen 3
    have a_l := (f_a).lt
    replace f_a := Lib.hid f_a
    have b_0 := (f_b).cell 0
    have b_1 := (f_b).cell 1
    have b_2 := (f_b).cell 2
    have b_3 := (f_b).cell 3
    have b_f0 := (f_b).frozen 0
    have b_f1 := (f_b).frozen 1
    have b_f2 := (f_b).frozen 2
    have b_f3 := (f_b).frozen 3
    have b_l := (f_b).lt
    replace f_b := Lib.hid f_b
    have x_0 := (f_x).cell 0
    have x_1 := (f_x).cell 1
    have x_2 := (f_x).cell 2
    have x_3 := (f_x).cell 3
    have x_4 := (f_x).cell 4
    have x_5 := (f_x).cell 5
    have x_6 := (f_x).cell 6
    have x_7 := (f_x).cell 7
    have x_8 := (f_x).cell 8
    have x_9 := (f_x).cell 9
    have x_f0 := (f_x).frozen 0
    have x_f1 := (f_x).frozen 1
    have x_f2 := (f_x).frozen 2
    have x_f3 := (f_x).frozen 3
    have x_f4 := (f_x).frozen 4
    have x_f5 := (f_x).frozen 5
    have x_f6 := (f_x).frozen 6
    have x_f7 := (f_x).frozen 7
    have x_f8 := (f_x).frozen 8
    have x_f9 := (f_x).frozen 9
    have x_l := (f_x).lt
    replace f_x := Lib.hid f_x
    have y_0 := (f_y).cell 0
    have y_1 := (f_y).cell 1
    have y_2 := (f_y).cell 2
    have y_3 := (f_y).cell 3
    have y_4 := (f_y).cell 4
    have y_5 := (f_y).cell 5
    have y_6 := (f_y).cell 6
    have y_7 := (f_y).cell 7
    have y_8 := (f_y).cell 8
    have y_9 := (f_y).cell 9
    have y_f0 := (f_y).frozen 0
    have y_f1 := (f_y).frozen 1
    have y_f2 := (f_y).frozen 2
    have y_f3 := (f_y).frozen 3
    have y_f4 := (f_y).frozen 4
    have y_f5 := (f_y).frozen 5
    have y_f6 := (f_y).frozen 6
    have y_f7 := (f_y).frozen 7
    have y_f8 := (f_y).frozen 8
    have y_f9 := (f_y).frozen 9
    have y_l := (f_y).lt
    replace f_y := Lib.hid f_y
    replace hb0 := Lib.hid hb0
    go_wp2_with fail
    refine (H1.out _).mono ?_
    rintro e w_1 ⟨_, _, rfl, ⟨A1, c1, rfl, e1, _, s_1⟩, ⟨A2, c2, rfl, e2, _, s_2⟩, hb_1⟩
    have z_1 := hb_1.size
    try simp at z_1
    have t_ := hb0.out
    have hB_1 := bel_eld (w := w) (X := _) (by repeat (first | exact Below.refl _ _ | assumption | refine below_drewN ?_ _ | refine bel_grow ?_ _ | refine Below.drew ?_ | refine bel_alloc ?_ _ | refine bel_set ?_ (by first | exact Nat.le_refl _ | (simp; done) | (simp; omega) | omega) _ | refine bel_trans ?_ (by assumption))) hb_1
    clear t_
    replace s_1 := Lib.hid s_1
    have t_a := f_a.out
    have t_b := f_b.out
    have t_x := f_x.out
    have t_y := f_y.out
    have g_a : Blk w_1 (w.heap.size) 26 #[.int .u64 ae, .int .u64 as_, .int .u64 ah, .int .u64 al] := by
      refine Blk.kept ?_ hb_1
      (repeat (first | with_reducible assumption | (with_reducible refine Blk.new' ?_; first | with_reducible rfl | (simp; done)) | with_reducible refine Blk.alloc ?_ _ | with_reducible refine Blk.grow ?_ _ | with_reducible refine Blk.drew ?_ | with_reducible refine Blk.drewN ?_ _ | (with_reducible refine Blk.far ?_ (by first | (dsimp only; omega) | (simp; omega)) _) | (with_reducible apply Blk.two)))
    have g_b : Blk w_1 (w.heap.size + 1) 26 #[.int .u64 be, .int .u64 bs, .int .u64 bh, .int .u64 bl] := by
      refine Blk.kept ?_ hb_1
      (repeat (first | with_reducible assumption | (with_reducible refine Blk.new' ?_; first | with_reducible rfl | (simp; done)) | with_reducible refine Blk.alloc ?_ _ | with_reducible refine Blk.grow ?_ _ | with_reducible refine Blk.drew ?_ | with_reducible refine Blk.drewN ?_ _ | (with_reducible refine Blk.far ?_ (by first | (dsimp only; omega) | (simp; omega)) _) | (with_reducible apply Blk.two)))
    have g_x : Blk w_1 (g1) 30 #[.int .u64 xp1, .int .u64 xp2, .int .u64 xq1, .int .u64 xq2, .int .u64 xr1, .int .u64 xr2, .int .u64 xs1, .int .u64 xs2, .int .u64 xst, .int .u8 xsd] := by
      refine Blk.kept ?_ hb_1
      (repeat (first | with_reducible assumption | (with_reducible refine Blk.new' ?_; first | with_reducible rfl | (simp; done)) | with_reducible refine Blk.alloc ?_ _ | with_reducible refine Blk.grow ?_ _ | with_reducible refine Blk.drew ?_ | with_reducible refine Blk.drewN ?_ _ | (with_reducible refine Blk.far ?_ (by first | (dsimp only; omega) | (simp; omega)) _) | (with_reducible apply Blk.two)))
    have g_y : Blk w_1 (g2) 30 #[.int .u64 yp1, .int .u64 yp2, .int .u64 yq1, .int .u64 yq2, .int .u64 yr1, .int .u64 yr2, .int .u64 ys1, .int .u64 ys2, .int .u64 yst, .int .u8 ysd] := by
      refine Blk.kept ?_ hb_1
      (repeat (first | with_reducible assumption | (with_reducible refine Blk.new' ?_; first | with_reducible rfl | (simp; done)) | with_reducible refine Blk.alloc ?_ _ | with_reducible refine Blk.grow ?_ _ | with_reducible refine Blk.drew ?_ | with_reducible refine Blk.drewN ?_ _ | (with_reducible refine Blk.far ?_ (by first | (dsimp only; omega) | (simp; omega)) _) | (with_reducible apply Blk.two)))
    clear f_a a_l a_0 a_1 a_2 a_3 a_f0 a_f1 a_f2 a_f3 f_b b_l b_0 b_1 b_2 b_3 b_f0 b_f1 b_f2 b_f3 f_x x_l x_0 x_1 x_2 x_3 x_4 x_5 x_6 x_7 x_8 x_9 x_f0 x_f1 x_f2 x_f3 x_f4 x_f5 x_f6 x_f7 x_f8 x_f9 f_y y_l y_0 y_1 y_2 y_3 y_4 y_5 y_6 y_7 y_8 y_9 y_f0 y_f1 y_f2 y_f3 y_f4 y_f5 y_f6 y_f7 y_f8 y_f9 t_a t_b t_x t_y hb0 hb_1
    have f_a := g_a
    clear g_a
    have f_b := g_b
    clear g_b
    have f_x := g_x
    clear g_x
    have f_y := g_y
    clear g_y
    have a_0 := (f_a).cell 0
    have a_1 := (f_a).cell 1
    have a_2 := (f_a).cell 2
    have a_3 := (f_a).cell 3
    have a_f0 := (f_a).frozen 0
    have a_f1 := (f_a).frozen 1
    have a_f2 := (f_a).frozen 2
    have a_f3 := (f_a).frozen 3
    have a_l := (f_a).lt
    replace f_a := Lib.hid f_a
    have b_0 := (f_b).cell 0
    have b_1 := (f_b).cell 1
    have b_2 := (f_b).cell 2
    have b_3 := (f_b).cell 3
    have b_f0 := (f_b).frozen 0
    have b_f1 := (f_b).frozen 1
    have b_f2 := (f_b).frozen 2
    have b_f3 := (f_b).frozen 3
    have b_l := (f_b).lt
    replace f_b := Lib.hid f_b
    have x_0 := (f_x).cell 0
    have x_1 := (f_x).cell 1
    have x_2 := (f_x).cell 2
    have x_3 := (f_x).cell 3
    have x_4 := (f_x).cell 4
    have x_5 := (f_x).cell 5
    have x_6 := (f_x).cell 6
    have x_7 := (f_x).cell 7
    have x_8 := (f_x).cell 8
    have x_9 := (f_x).cell 9
    have x_f0 := (f_x).frozen 0
    have x_f1 := (f_x).frozen 1
    have x_f2 := (f_x).frozen 2
    have x_f3 := (f_x).frozen 3
    have x_f4 := (f_x).frozen 4
    have x_f5 := (f_x).frozen 5
    have x_f6 := (f_x).frozen 6
    have x_f7 := (f_x).frozen 7
    have x_f8 := (f_x).frozen 8
    have x_f9 := (f_x).frozen 9
    have x_l := (f_x).lt
    replace f_x := Lib.hid f_x
    have y_0 := (f_y).cell 0
    have y_1 := (f_y).cell 1
    have y_2 := (f_y).cell 2
    have y_3 := (f_y).cell 3
    have y_4 := (f_y).cell 4
    have y_5 := (f_y).cell 5
    have y_6 := (f_y).cell 6
    have y_7 := (f_y).cell 7
    have y_8 := (f_y).cell 8
    have y_9 := (f_y).cell 9
    have y_f0 := (f_y).frozen 0
    have y_f1 := (f_y).frozen 1
    have y_f2 := (f_y).frozen 2
    have y_f3 := (f_y).frozen 3
    have y_f4 := (f_y).frozen 4
    have y_f5 := (f_y).frozen 5
    have y_f6 := (f_y).frozen 6
    have y_f7 := (f_y).frozen 7
    have y_f8 := (f_y).frozen 8
    have y_f9 := (f_y).frozen 9
    have y_l := (f_y).lt
    replace f_y := Lib.hid f_y
    replace hB_1 := Lib.hid hB_1
    clear s_2 e2
    go_wp2_with fail
    refine (H2.out _).mono ?_
    rintro e w_2 ⟨_, _, rfl, ⟨A3, c3, rfl, e3, _, s_3⟩, ⟨A4, c4, rfl, e4, _, s_4⟩, hb_2⟩
    have z_2 := hb_2.size
    try simp at z_2
    have t_ := hB_1.out
    have hB_2 := bel_eld (w := w) (X := _) (by repeat (first | exact Below.refl _ _ | assumption | refine below_drewN ?_ _ | refine bel_grow ?_ _ | refine Below.drew ?_ | refine bel_alloc ?_ _ | refine bel_set ?_ (by first | exact Nat.le_refl _ | (simp; done) | (simp; omega) | omega) _ | refine bel_trans ?_ (by assumption))) hb_2
    clear t_
    have hP_ := bel_eld (w := w_1) (X := _) (by repeat (first | exact Below.refl _ _ | assumption | refine below_drewN ?_ _ | refine bel_grow ?_ _ | refine Below.drew ?_ | refine bel_alloc ?_ _ | refine bel_set ?_ (by first | exact Nat.le_refl _ | (simp; done) | (simp; omega) | omega) _ | refine bel_trans ?_ (by assumption))) hb_2
    have k_s_1 := Lib.hid (s_1.out.below hP_)
    clear s_1
    have s_1 := k_s_1
    clear k_s_1
    clear hP_
    replace s_3 := Lib.hid s_3
    have t_a := f_a.out
    have t_b := f_b.out
    have t_x := f_x.out
    have t_y := f_y.out
    have g_a : Blk w_2 (w.heap.size) 26 #[.int .u64 ae, .int .u64 as_, .int .u64 ah, .int .u64 al] := by
      refine Blk.kept ?_ hb_2
      (repeat (first | with_reducible assumption | (with_reducible refine Blk.new' ?_; first | with_reducible rfl | (simp; done)) | with_reducible refine Blk.alloc ?_ _ | with_reducible refine Blk.grow ?_ _ | with_reducible refine Blk.drew ?_ | with_reducible refine Blk.drewN ?_ _ | (with_reducible refine Blk.far ?_ (by first | (dsimp only; omega) | (simp; omega)) _) | (with_reducible apply Blk.two)))
    have g_b : Blk w_2 (w.heap.size + 1) 26 #[.int .u64 be, .int .u64 bs, .int .u64 bh, .int .u64 bl] := by
      refine Blk.kept ?_ hb_2
      (repeat (first | with_reducible assumption | (with_reducible refine Blk.new' ?_; first | with_reducible rfl | (simp; done)) | with_reducible refine Blk.alloc ?_ _ | with_reducible refine Blk.grow ?_ _ | with_reducible refine Blk.drew ?_ | with_reducible refine Blk.drewN ?_ _ | (with_reducible refine Blk.far ?_ (by first | (dsimp only; omega) | (simp; omega)) _) | (with_reducible apply Blk.two)))
    have g_x : Blk w_2 (g1) 30 #[.int .u64 xp1, .int .u64 xp2, .int .u64 xq1, .int .u64 xq2, .int .u64 xr1, .int .u64 xr2, .int .u64 xs1, .int .u64 xs2, .int .u64 xst, .int .u8 xsd] := by
      refine Blk.kept ?_ hb_2
      (repeat (first | with_reducible assumption | (with_reducible refine Blk.new' ?_; first | with_reducible rfl | (simp; done)) | with_reducible refine Blk.alloc ?_ _ | with_reducible refine Blk.grow ?_ _ | with_reducible refine Blk.drew ?_ | with_reducible refine Blk.drewN ?_ _ | (with_reducible refine Blk.far ?_ (by first | (dsimp only; omega) | (simp; omega)) _) | (with_reducible apply Blk.two)))
    have g_y : Blk w_2 (g2) 30 #[.int .u64 yp1, .int .u64 yp2, .int .u64 yq1, .int .u64 yq2, .int .u64 yr1, .int .u64 yr2, .int .u64 ys1, .int .u64 ys2, .int .u64 yst, .int .u8 ysd] := by
      refine Blk.kept ?_ hb_2
      (repeat (first | with_reducible assumption | (with_reducible refine Blk.new' ?_; first | with_reducible rfl | (simp; done)) | with_reducible refine Blk.alloc ?_ _ | with_reducible refine Blk.grow ?_ _ | with_reducible refine Blk.drew ?_ | with_reducible refine Blk.drewN ?_ _ | (with_reducible refine Blk.far ?_ (by first | (dsimp only; omega) | (simp; omega)) _) | (with_reducible apply Blk.two)))
    clear f_a a_l a_0 a_1 a_2 a_3 a_f0 a_f1 a_f2 a_f3 f_b b_l b_0 b_1 b_2 b_3 b_f0 b_f1 b_f2 b_f3 f_x x_l x_0 x_1 x_2 x_3 x_4 x_5 x_6 x_7 x_8 x_9 x_f0 x_f1 x_f2 x_f3 x_f4 x_f5 x_f6 x_f7 x_f8 x_f9 f_y y_l y_0 y_1 y_2 y_3 y_4 y_5 y_6 y_7 y_8 y_9 y_f0 y_f1 y_f2 y_f3 y_f4 y_f5 y_f6 y_f7 y_f8 y_f9 t_a t_b t_x t_y hB_1 hb_2
    have f_a := g_a
    clear g_a
    have f_b := g_b
    clear g_b
    have f_x := g_x
    clear g_x
    have f_y := g_y
    clear g_y
    have a_0 := (f_a).cell 0
    have a_1 := (f_a).cell 1
    have a_2 := (f_a).cell 2
    have a_3 := (f_a).cell 3
    have a_f0 := (f_a).frozen 0
    have a_f1 := (f_a).frozen 1
    have a_f2 := (f_a).frozen 2
    have a_f3 := (f_a).frozen 3
    have a_l := (f_a).lt
    replace f_a := Lib.hid f_a
    have b_0 := (f_b).cell 0
    have b_1 := (f_b).cell 1
    have b_2 := (f_b).cell 2
    have b_3 := (f_b).cell 3
    have b_f0 := (f_b).frozen 0
    have b_f1 := (f_b).frozen 1
    have b_f2 := (f_b).frozen 2
    have b_f3 := (f_b).frozen 3
    have b_l := (f_b).lt
    replace f_b := Lib.hid f_b
    have x_0 := (f_x).cell 0
    have x_1 := (f_x).cell 1
    have x_2 := (f_x).cell 2
    have x_3 := (f_x).cell 3
    have x_4 := (f_x).cell 4
    have x_5 := (f_x).cell 5
    have x_6 := (f_x).cell 6
    have x_7 := (f_x).cell 7
    have x_8 := (f_x).cell 8
    have x_9 := (f_x).cell 9
    have x_f0 := (f_x).frozen 0
    have x_f1 := (f_x).frozen 1
    have x_f2 := (f_x).frozen 2
    have x_f3 := (f_x).frozen 3
    have x_f4 := (f_x).frozen 4
    have x_f5 := (f_x).frozen 5
    have x_f6 := (f_x).frozen 6
    have x_f7 := (f_x).frozen 7
    have x_f8 := (f_x).frozen 8
    have x_f9 := (f_x).frozen 9
    have x_l := (f_x).lt
    replace f_x := Lib.hid f_x
    have y_0 := (f_y).cell 0
    have y_1 := (f_y).cell 1
    have y_2 := (f_y).cell 2
    have y_3 := (f_y).cell 3
    have y_4 := (f_y).cell 4
    have y_5 := (f_y).cell 5
    have y_6 := (f_y).cell 6
    have y_7 := (f_y).cell 7
    have y_8 := (f_y).cell 8
    have y_9 := (f_y).cell 9
    have y_f0 := (f_y).frozen 0
    have y_f1 := (f_y).frozen 1
    have y_f2 := (f_y).frozen 2
    have y_f3 := (f_y).frozen 3
    have y_f4 := (f_y).frozen 4
    have y_f5 := (f_y).frozen 5
    have y_f6 := (f_y).frozen 6
    have y_f7 := (f_y).frozen 7
    have y_f8 := (f_y).frozen 8
    have y_f9 := (f_y).frozen 9
    have y_l := (f_y).lt
    replace f_y := Lib.hid f_y
    replace hB_2 := Lib.hid hB_2
    clear s_4 e4
    go_upto_region 4 with fail
    go_cut [13] (fun s13 wx => s13 = .bool (lexB ae as_ be bs) ∧ wx = w_2)
    case first =>
      by_cases q1 : ae < be
      · have q1' : decide (ae < be) = true := by simpa using q1
        go_wp2_with fail
        go_meet
        exact ⟨by simp [lexB, q1'], rfl⟩
      · have q1' : decide (ae < be) = false := by simpa using q1
        by_cases q2 : ae = be
        · have q2' : (ae == be) = true := by simpa using q2
          replace q2 := Lib.hid q2
          go_wp2_with fail
          go_meet
          exact ⟨by simp [lexB, q1', q2'], rfl⟩
        · have q2' : (ae == be) = false := by simpa using q2
          replace q2 := Lib.hid q2
          go_wp2_with fail
          go_meet
          exact ⟨by simp [lexB, q1', q2'], rfl⟩
    case rest =>
      obtain ⟨rfl, ew⟩ := hcut
      obtain rfl := ew.symm
      have k1' := k1.out
      generalize lexB ae as_ be bs = L1 at *
      replace k1' := Lib.hid k1'
      go_wp2_with fail
      refine (H3.out _).mono ?_
      rintro e w_3 ⟨_, _, rfl, ⟨A5, c5, rfl, e5, _, s_5⟩, ⟨A6, c6, rfl, e6, _, s_6⟩, hb_3⟩
      have z_3 := hb_3.size
      try simp at z_3
      have t_ := hB_2.out
      have hB_3 := bel_eld (w := w) (X := _) (by repeat (first | exact Below.refl _ _ | assumption | refine below_drewN ?_ _ | refine bel_grow ?_ _ | refine Below.drew ?_ | refine bel_alloc ?_ _ | refine bel_set ?_ (by first | exact Nat.le_refl _ | (simp; done) | (simp; omega) | omega) _ | refine bel_trans ?_ (by assumption))) hb_3
      clear t_
      have hP_ := bel_eld (w := w_2) (X := _) (by repeat (first | exact Below.refl _ _ | assumption | refine below_drewN ?_ _ | refine bel_grow ?_ _ | refine Below.drew ?_ | refine bel_alloc ?_ _ | refine bel_set ?_ (by first | exact Nat.le_refl _ | (simp; done) | (simp; omega) | omega) _ | refine bel_trans ?_ (by assumption))) hb_3
      have k_s_1 := Lib.hid (s_1.out.below hP_)
      clear s_1
      have s_1 := k_s_1
      clear k_s_1
      have k_s_3 := Lib.hid (s_3.out.below hP_)
      clear s_3
      have s_3 := k_s_3
      clear k_s_3
      clear hP_
      replace s_5 := Lib.hid s_5
      have t_a := f_a.out
      have t_b := f_b.out
      have t_x := f_x.out
      have t_y := f_y.out
      have g_a : Blk w_3 (w.heap.size) 26 #[.int .u64 ae, .int .u64 as_, .int .u64 ah, .int .u64 al] := by
        refine Blk.kept ?_ hb_3
        (repeat (first | with_reducible assumption | (with_reducible refine Blk.new' ?_; first | with_reducible rfl | (simp; done)) | with_reducible refine Blk.alloc ?_ _ | with_reducible refine Blk.grow ?_ _ | with_reducible refine Blk.drew ?_ | with_reducible refine Blk.drewN ?_ _ | (with_reducible refine Blk.far ?_ (by first | (dsimp only; omega) | (simp; omega)) _) | (with_reducible apply Blk.two)))
      have g_b : Blk w_3 (w.heap.size + 1) 26 #[.int .u64 be, .int .u64 bs, .int .u64 bh, .int .u64 bl] := by
        refine Blk.kept ?_ hb_3
        (repeat (first | with_reducible assumption | (with_reducible refine Blk.new' ?_; first | with_reducible rfl | (simp; done)) | with_reducible refine Blk.alloc ?_ _ | with_reducible refine Blk.grow ?_ _ | with_reducible refine Blk.drew ?_ | with_reducible refine Blk.drewN ?_ _ | (with_reducible refine Blk.far ?_ (by first | (dsimp only; omega) | (simp; omega)) _) | (with_reducible apply Blk.two)))
      have g_x : Blk w_3 (g1) 30 #[.int .u64 xp1, .int .u64 xp2, .int .u64 xq1, .int .u64 xq2, .int .u64 xr1, .int .u64 xr2, .int .u64 xs1, .int .u64 xs2, .int .u64 xst, .int .u8 xsd] := by
        refine Blk.kept ?_ hb_3
        (repeat (first | with_reducible assumption | (with_reducible refine Blk.new' ?_; first | with_reducible rfl | (simp; done)) | with_reducible refine Blk.alloc ?_ _ | with_reducible refine Blk.grow ?_ _ | with_reducible refine Blk.drew ?_ | with_reducible refine Blk.drewN ?_ _ | (with_reducible refine Blk.far ?_ (by first | (dsimp only; omega) | (simp; omega)) _) | (with_reducible apply Blk.two)))
      have g_y : Blk w_3 (g2) 30 #[.int .u64 yp1, .int .u64 yp2, .int .u64 yq1, .int .u64 yq2, .int .u64 yr1, .int .u64 yr2, .int .u64 ys1, .int .u64 ys2, .int .u64 yst, .int .u8 ysd] := by
        refine Blk.kept ?_ hb_3
        (repeat (first | with_reducible assumption | (with_reducible refine Blk.new' ?_; first | with_reducible rfl | (simp; done)) | with_reducible refine Blk.alloc ?_ _ | with_reducible refine Blk.grow ?_ _ | with_reducible refine Blk.drew ?_ | with_reducible refine Blk.drewN ?_ _ | (with_reducible refine Blk.far ?_ (by first | (dsimp only; omega) | (simp; omega)) _) | (with_reducible apply Blk.two)))
      clear f_a a_l a_0 a_1 a_2 a_3 a_f0 a_f1 a_f2 a_f3 f_b b_l b_0 b_1 b_2 b_3 b_f0 b_f1 b_f2 b_f3 f_x x_l x_0 x_1 x_2 x_3 x_4 x_5 x_6 x_7 x_8 x_9 x_f0 x_f1 x_f2 x_f3 x_f4 x_f5 x_f6 x_f7 x_f8 x_f9 f_y y_l y_0 y_1 y_2 y_3 y_4 y_5 y_6 y_7 y_8 y_9 y_f0 y_f1 y_f2 y_f3 y_f4 y_f5 y_f6 y_f7 y_f8 y_f9 t_a t_b t_x t_y hB_2 hb_3
      have f_a := g_a
      clear g_a
      have f_b := g_b
      clear g_b
      have f_x := g_x
      clear g_x
      have f_y := g_y
      clear g_y
      have a_0 := (f_a).cell 0
      have a_1 := (f_a).cell 1
      have a_2 := (f_a).cell 2
      have a_3 := (f_a).cell 3
      have a_f0 := (f_a).frozen 0
      have a_f1 := (f_a).frozen 1
      have a_f2 := (f_a).frozen 2
      have a_f3 := (f_a).frozen 3
      have a_l := (f_a).lt
      replace f_a := Lib.hid f_a
      have b_0 := (f_b).cell 0
      have b_1 := (f_b).cell 1
      have b_2 := (f_b).cell 2
      have b_3 := (f_b).cell 3
      have b_f0 := (f_b).frozen 0
      have b_f1 := (f_b).frozen 1
      have b_f2 := (f_b).frozen 2
      have b_f3 := (f_b).frozen 3
      have b_l := (f_b).lt
      replace f_b := Lib.hid f_b
      have x_0 := (f_x).cell 0
      have x_1 := (f_x).cell 1
      have x_2 := (f_x).cell 2
      have x_3 := (f_x).cell 3
      have x_4 := (f_x).cell 4
      have x_5 := (f_x).cell 5
      have x_6 := (f_x).cell 6
      have x_7 := (f_x).cell 7
      have x_8 := (f_x).cell 8
      have x_9 := (f_x).cell 9
      have x_f0 := (f_x).frozen 0
      have x_f1 := (f_x).frozen 1
      have x_f2 := (f_x).frozen 2
      have x_f3 := (f_x).frozen 3
      have x_f4 := (f_x).frozen 4
      have x_f5 := (f_x).frozen 5
      have x_f6 := (f_x).frozen 6
      have x_f7 := (f_x).frozen 7
      have x_f8 := (f_x).frozen 8
      have x_f9 := (f_x).frozen 9
      have x_l := (f_x).lt
      replace f_x := Lib.hid f_x
      have y_0 := (f_y).cell 0
      have y_1 := (f_y).cell 1
      have y_2 := (f_y).cell 2
      have y_3 := (f_y).cell 3
      have y_4 := (f_y).cell 4
      have y_5 := (f_y).cell 5
      have y_6 := (f_y).cell 6
      have y_7 := (f_y).cell 7
      have y_8 := (f_y).cell 8
      have y_9 := (f_y).cell 9
      have y_f0 := (f_y).frozen 0
      have y_f1 := (f_y).frozen 1
      have y_f2 := (f_y).frozen 2
      have y_f3 := (f_y).frozen 3
      have y_f4 := (f_y).frozen 4
      have y_f5 := (f_y).frozen 5
      have y_f6 := (f_y).frozen 6
      have y_f7 := (f_y).frozen 7
      have y_f8 := (f_y).frozen 8
      have y_f9 := (f_y).frozen 9
      have y_l := (f_y).lt
      replace f_y := Lib.hid f_y
      replace hB_3 := Lib.hid hB_3
      clear s_6 e6
      go_wp2_with fail
      refine (H4.out _).mono ?_
      rintro e w_4 ⟨_, _, rfl, ⟨A7, c7, rfl, e7, _, s_7⟩, ⟨A8, c8, rfl, e8, _, s_8⟩, hb_4⟩
      have z_4 := hb_4.size
      try simp at z_4
      have t_ := hB_3.out
      have hB_4 := bel_eld (w := w) (X := _) (by repeat (first | exact Below.refl _ _ | assumption | refine below_drewN ?_ _ | refine bel_grow ?_ _ | refine Below.drew ?_ | refine bel_alloc ?_ _ | refine bel_set ?_ (by first | exact Nat.le_refl _ | (simp; done) | (simp; omega) | omega) _ | refine bel_trans ?_ (by assumption))) hb_4
      clear t_
      have hP_ := bel_eld (w := w_3) (X := _) (by repeat (first | exact Below.refl _ _ | assumption | refine below_drewN ?_ _ | refine bel_grow ?_ _ | refine Below.drew ?_ | refine bel_alloc ?_ _ | refine bel_set ?_ (by first | exact Nat.le_refl _ | (simp; done) | (simp; omega) | omega) _ | refine bel_trans ?_ (by assumption))) hb_4
      have k_s_1 := Lib.hid (s_1.out.below hP_)
      clear s_1
      have s_1 := k_s_1
      clear k_s_1
      have k_s_3 := Lib.hid (s_3.out.below hP_)
      clear s_3
      have s_3 := k_s_3
      clear k_s_3
      have k_s_5 := Lib.hid (s_5.out.below hP_)
      clear s_5
      have s_5 := k_s_5
      clear k_s_5
      clear hP_
      replace s_7 := Lib.hid s_7
      have t_a := f_a.out
      have t_b := f_b.out
      have t_x := f_x.out
      have t_y := f_y.out
      have g_a : Blk w_4 (w.heap.size) 26 #[.int .u64 ae, .int .u64 as_, .int .u64 ah, .int .u64 al] := by
        refine Blk.kept ?_ hb_4
        (repeat (first | with_reducible assumption | (with_reducible refine Blk.new' ?_; first | with_reducible rfl | (simp; done)) | with_reducible refine Blk.alloc ?_ _ | with_reducible refine Blk.grow ?_ _ | with_reducible refine Blk.drew ?_ | with_reducible refine Blk.drewN ?_ _ | (with_reducible refine Blk.far ?_ (by first | (dsimp only; omega) | (simp; omega)) _) | (with_reducible apply Blk.two)))
      have g_b : Blk w_4 (w.heap.size + 1) 26 #[.int .u64 be, .int .u64 bs, .int .u64 bh, .int .u64 bl] := by
        refine Blk.kept ?_ hb_4
        (repeat (first | with_reducible assumption | (with_reducible refine Blk.new' ?_; first | with_reducible rfl | (simp; done)) | with_reducible refine Blk.alloc ?_ _ | with_reducible refine Blk.grow ?_ _ | with_reducible refine Blk.drew ?_ | with_reducible refine Blk.drewN ?_ _ | (with_reducible refine Blk.far ?_ (by first | (dsimp only; omega) | (simp; omega)) _) | (with_reducible apply Blk.two)))
      have g_x : Blk w_4 (g1) 30 #[.int .u64 xp1, .int .u64 xp2, .int .u64 xq1, .int .u64 xq2, .int .u64 xr1, .int .u64 xr2, .int .u64 xs1, .int .u64 xs2, .int .u64 xst, .int .u8 xsd] := by
        refine Blk.kept ?_ hb_4
        (repeat (first | with_reducible assumption | (with_reducible refine Blk.new' ?_; first | with_reducible rfl | (simp; done)) | with_reducible refine Blk.alloc ?_ _ | with_reducible refine Blk.grow ?_ _ | with_reducible refine Blk.drew ?_ | with_reducible refine Blk.drewN ?_ _ | (with_reducible refine Blk.far ?_ (by first | (dsimp only; omega) | (simp; omega)) _) | (with_reducible apply Blk.two)))
      have g_y : Blk w_4 (g2) 30 #[.int .u64 yp1, .int .u64 yp2, .int .u64 yq1, .int .u64 yq2, .int .u64 yr1, .int .u64 yr2, .int .u64 ys1, .int .u64 ys2, .int .u64 yst, .int .u8 ysd] := by
        refine Blk.kept ?_ hb_4
        (repeat (first | with_reducible assumption | (with_reducible refine Blk.new' ?_; first | with_reducible rfl | (simp; done)) | with_reducible refine Blk.alloc ?_ _ | with_reducible refine Blk.grow ?_ _ | with_reducible refine Blk.drew ?_ | with_reducible refine Blk.drewN ?_ _ | (with_reducible refine Blk.far ?_ (by first | (dsimp only; omega) | (simp; omega)) _) | (with_reducible apply Blk.two)))
      clear f_a a_l a_0 a_1 a_2 a_3 a_f0 a_f1 a_f2 a_f3 f_b b_l b_0 b_1 b_2 b_3 b_f0 b_f1 b_f2 b_f3 f_x x_l x_0 x_1 x_2 x_3 x_4 x_5 x_6 x_7 x_8 x_9 x_f0 x_f1 x_f2 x_f3 x_f4 x_f5 x_f6 x_f7 x_f8 x_f9 f_y y_l y_0 y_1 y_2 y_3 y_4 y_5 y_6 y_7 y_8 y_9 y_f0 y_f1 y_f2 y_f3 y_f4 y_f5 y_f6 y_f7 y_f8 y_f9 t_a t_b t_x t_y hB_3 hb_4
      have f_a := g_a
      clear g_a
      have f_b := g_b
      clear g_b
      have f_x := g_x
      clear g_x
      have f_y := g_y
      clear g_y
      have a_0 := (f_a).cell 0
      have a_1 := (f_a).cell 1
      have a_2 := (f_a).cell 2
      have a_3 := (f_a).cell 3
      have a_f0 := (f_a).frozen 0
      have a_f1 := (f_a).frozen 1
      have a_f2 := (f_a).frozen 2
      have a_f3 := (f_a).frozen 3
      have a_l := (f_a).lt
      replace f_a := Lib.hid f_a
      have b_0 := (f_b).cell 0
      have b_1 := (f_b).cell 1
      have b_2 := (f_b).cell 2
      have b_3 := (f_b).cell 3
      have b_f0 := (f_b).frozen 0
      have b_f1 := (f_b).frozen 1
      have b_f2 := (f_b).frozen 2
      have b_f3 := (f_b).frozen 3
      have b_l := (f_b).lt
      replace f_b := Lib.hid f_b
      have x_0 := (f_x).cell 0
      have x_1 := (f_x).cell 1
      have x_2 := (f_x).cell 2
      have x_3 := (f_x).cell 3
      have x_4 := (f_x).cell 4
      have x_5 := (f_x).cell 5
      have x_6 := (f_x).cell 6
      have x_7 := (f_x).cell 7
      have x_8 := (f_x).cell 8
      have x_9 := (f_x).cell 9
      have x_f0 := (f_x).frozen 0
      have x_f1 := (f_x).frozen 1
      have x_f2 := (f_x).frozen 2
      have x_f3 := (f_x).frozen 3
      have x_f4 := (f_x).frozen 4
      have x_f5 := (f_x).frozen 5
      have x_f6 := (f_x).frozen 6
      have x_f7 := (f_x).frozen 7
      have x_f8 := (f_x).frozen 8
      have x_f9 := (f_x).frozen 9
      have x_l := (f_x).lt
      replace f_x := Lib.hid f_x
      have y_0 := (f_y).cell 0
      have y_1 := (f_y).cell 1
      have y_2 := (f_y).cell 2
      have y_3 := (f_y).cell 3
      have y_4 := (f_y).cell 4
      have y_5 := (f_y).cell 5
      have y_6 := (f_y).cell 6
      have y_7 := (f_y).cell 7
      have y_8 := (f_y).cell 8
      have y_9 := (f_y).cell 9
      have y_f0 := (f_y).frozen 0
      have y_f1 := (f_y).frozen 1
      have y_f2 := (f_y).frozen 2
      have y_f3 := (f_y).frozen 3
      have y_f4 := (f_y).frozen 4
      have y_f5 := (f_y).frozen 5
      have y_f6 := (f_y).frozen 6
      have y_f7 := (f_y).frozen 7
      have y_f8 := (f_y).frozen 8
      have y_f9 := (f_y).frozen 9
      have y_l := (f_y).lt
      replace f_y := Lib.hid f_y
      replace hB_4 := Lib.hid hB_4
      clear s_8 e8
      go_wp2_with fail
      refine (H5.out _).mono ?_
      rintro e w_5 ⟨rfl, hb_5⟩
      have z_5 := hb_5.size
      try simp at z_5
      have t_ := hB_4.out
      have hB_5 := bel_eld (w := w) (X := _) (by repeat (first | exact Below.refl _ _ | assumption | refine below_drewN ?_ _ | refine bel_grow ?_ _ | refine Below.drew ?_ | refine bel_alloc ?_ _ | refine bel_set ?_ (by first | exact Nat.le_refl _ | (simp; done) | (simp; omega) | omega) _ | refine bel_trans ?_ (by assumption))) hb_5
      clear t_
      have hP_ := bel_eld (w := w_4) (X := _) (by repeat (first | exact Below.refl _ _ | assumption | refine below_drewN ?_ _ | refine bel_grow ?_ _ | refine Below.drew ?_ | refine bel_alloc ?_ _ | refine bel_set ?_ (by first | exact Nat.le_refl _ | (simp; done) | (simp; omega) | omega) _ | refine bel_trans ?_ (by assumption))) hb_5
      have k_s_1 := Lib.hid (s_1.out.below hP_)
      clear s_1
      have s_1 := k_s_1
      clear k_s_1
      have k_s_3 := Lib.hid (s_3.out.below hP_)
      clear s_3
      have s_3 := k_s_3
      clear k_s_3
      have k_s_5 := Lib.hid (s_5.out.below hP_)
      clear s_5
      have s_5 := k_s_5
      clear k_s_5
      have k_s_7 := Lib.hid (s_7.out.below hP_)
      clear s_7
      have s_7 := k_s_7
      clear k_s_7
      clear hP_
      have t_a := f_a.out
      have t_b := f_b.out
      have t_x := f_x.out
      have t_y := f_y.out
      have g_a : Blk w_5 (w.heap.size) 26 #[.int .u64 ae, .int .u64 as_, .int .u64 ah, .int .u64 al] := by
        refine Blk.kept ?_ hb_5
        (repeat (first | with_reducible assumption | (with_reducible refine Blk.new' ?_; first | with_reducible rfl | (simp; done)) | with_reducible refine Blk.alloc ?_ _ | with_reducible refine Blk.grow ?_ _ | with_reducible refine Blk.drew ?_ | with_reducible refine Blk.drewN ?_ _ | (with_reducible refine Blk.far ?_ (by first | (dsimp only; omega) | (simp; omega)) _) | (with_reducible apply Blk.two)))
      have g_b : Blk w_5 (w.heap.size + 1) 26 #[.int .u64 be, .int .u64 bs, .int .u64 bh, .int .u64 bl] := by
        refine Blk.kept ?_ hb_5
        (repeat (first | with_reducible assumption | (with_reducible refine Blk.new' ?_; first | with_reducible rfl | (simp; done)) | with_reducible refine Blk.alloc ?_ _ | with_reducible refine Blk.grow ?_ _ | with_reducible refine Blk.drew ?_ | with_reducible refine Blk.drewN ?_ _ | (with_reducible refine Blk.far ?_ (by first | (dsimp only; omega) | (simp; omega)) _) | (with_reducible apply Blk.two)))
      have g_x : Blk w_5 (g1) 30 #[.int .u64 xp1, .int .u64 xp2, .int .u64 xq1, .int .u64 xq2, .int .u64 xr1, .int .u64 xr2, .int .u64 xs1, .int .u64 xs2, .int .u64 xst, .int .u8 xsd] := by
        refine Blk.kept ?_ hb_5
        (repeat (first | with_reducible assumption | (with_reducible refine Blk.new' ?_; first | with_reducible rfl | (simp; done)) | with_reducible refine Blk.alloc ?_ _ | with_reducible refine Blk.grow ?_ _ | with_reducible refine Blk.drew ?_ | with_reducible refine Blk.drewN ?_ _ | (with_reducible refine Blk.far ?_ (by first | (dsimp only; omega) | (simp; omega)) _) | (with_reducible apply Blk.two)))
      have g_y : Blk w_5 (g2) 30 #[.int .u64 yp1, .int .u64 yp2, .int .u64 yq1, .int .u64 yq2, .int .u64 yr1, .int .u64 yr2, .int .u64 ys1, .int .u64 ys2, .int .u64 yst, .int .u8 ysd] := by
        refine Blk.kept ?_ hb_5
        (repeat (first | with_reducible assumption | (with_reducible refine Blk.new' ?_; first | with_reducible rfl | (simp; done)) | with_reducible refine Blk.alloc ?_ _ | with_reducible refine Blk.grow ?_ _ | with_reducible refine Blk.drew ?_ | with_reducible refine Blk.drewN ?_ _ | (with_reducible refine Blk.far ?_ (by first | (dsimp only; omega) | (simp; omega)) _) | (with_reducible apply Blk.two)))
      clear f_a a_l a_0 a_1 a_2 a_3 a_f0 a_f1 a_f2 a_f3 f_b b_l b_0 b_1 b_2 b_3 b_f0 b_f1 b_f2 b_f3 f_x x_l x_0 x_1 x_2 x_3 x_4 x_5 x_6 x_7 x_8 x_9 x_f0 x_f1 x_f2 x_f3 x_f4 x_f5 x_f6 x_f7 x_f8 x_f9 f_y y_l y_0 y_1 y_2 y_3 y_4 y_5 y_6 y_7 y_8 y_9 y_f0 y_f1 y_f2 y_f3 y_f4 y_f5 y_f6 y_f7 y_f8 y_f9 t_a t_b t_x t_y hB_4 hb_5
      have f_a := g_a
      clear g_a
      have f_b := g_b
      clear g_b
      have f_x := g_x
      clear g_x
      have f_y := g_y
      clear g_y
      have a_0 := (f_a).cell 0
      have a_1 := (f_a).cell 1
      have a_2 := (f_a).cell 2
      have a_3 := (f_a).cell 3
      have a_f0 := (f_a).frozen 0
      have a_f1 := (f_a).frozen 1
      have a_f2 := (f_a).frozen 2
      have a_f3 := (f_a).frozen 3
      have a_l := (f_a).lt
      replace f_a := Lib.hid f_a
      have b_0 := (f_b).cell 0
      have b_1 := (f_b).cell 1
      have b_2 := (f_b).cell 2
      have b_3 := (f_b).cell 3
      have b_f0 := (f_b).frozen 0
      have b_f1 := (f_b).frozen 1
      have b_f2 := (f_b).frozen 2
      have b_f3 := (f_b).frozen 3
      have b_l := (f_b).lt
      replace f_b := Lib.hid f_b
      have x_0 := (f_x).cell 0
      have x_1 := (f_x).cell 1
      have x_2 := (f_x).cell 2
      have x_3 := (f_x).cell 3
      have x_4 := (f_x).cell 4
      have x_5 := (f_x).cell 5
      have x_6 := (f_x).cell 6
      have x_7 := (f_x).cell 7
      have x_8 := (f_x).cell 8
      have x_9 := (f_x).cell 9
      have x_f0 := (f_x).frozen 0
      have x_f1 := (f_x).frozen 1
      have x_f2 := (f_x).frozen 2
      have x_f3 := (f_x).frozen 3
      have x_f4 := (f_x).frozen 4
      have x_f5 := (f_x).frozen 5
      have x_f6 := (f_x).frozen 6
      have x_f7 := (f_x).frozen 7
      have x_f8 := (f_x).frozen 8
      have x_f9 := (f_x).frozen 9
      have x_l := (f_x).lt
      replace f_x := Lib.hid f_x
      have y_0 := (f_y).cell 0
      have y_1 := (f_y).cell 1
      have y_2 := (f_y).cell 2
      have y_3 := (f_y).cell 3
      have y_4 := (f_y).cell 4
      have y_5 := (f_y).cell 5
      have y_6 := (f_y).cell 6
      have y_7 := (f_y).cell 7
      have y_8 := (f_y).cell 8
      have y_9 := (f_y).cell 9
      have y_f0 := (f_y).frozen 0
      have y_f1 := (f_y).frozen 1
      have y_f2 := (f_y).frozen 2
      have y_f3 := (f_y).frozen 3
      have y_f4 := (f_y).frozen 4
      have y_f5 := (f_y).frozen 5
      have y_f6 := (f_y).frozen 6
      have y_f7 := (f_y).frozen 7
      have y_f8 := (f_y).frozen 8
      have y_f9 := (f_y).frozen 9
      have y_l := (f_y).lt
      replace f_y := Lib.hid f_y
      replace hB_5 := Lib.hid hB_5
      go_upto_region 8 with fail
      go_cut [19] (fun s19 wx => s19 = .bool (decide (cc < 0) || (cc == 0 && decide (xst < yst))) ∧ wx = w_5)
      case first =>
        by_cases q1 : cc < 0
        · have q1' : decide (cc < 0) = true := by simpa using q1
          go_wp2_with fail
          go_meet
          exact ⟨by simp [lexB, q1'], rfl⟩
        · have q1' : decide (cc < 0) = false := by simpa using q1
          by_cases q2 : cc = 0
          · have q2' : (cc == 0) = true := by simpa using q2
            replace q2 := Lib.hid q2
            go_wp2_with fail
            go_meet
            exact ⟨by simp [lexB, q1', q2'], rfl⟩
          · have q2' : (cc == 0) = false := by simpa using q2
            replace q2 := Lib.hid q2
            go_wp2_with fail
            go_meet
            exact ⟨by simp [lexB, q1', q2'], rfl⟩
      case rest =>
        obtain ⟨rfl, ew⟩ := hcut
        obtain rfl := ew.symm
        have k2' := k2.out
        generalize (decide (cc < 0) || (cc == 0 && decide (xst < yst))) = L2 at *
        replace k2' := Lib.hid k2'
        clear k1 k2
        go_wp2_with fail
        refine (rfixed_any _).mono ?_
        rintro e w_6 ⟨rfl, hb_6⟩
        have z_6 := hb_6.size
        try simp at z_6
        have t_ := hB_5.out
        have hB_6 := bel_eld (w := w) (X := _) (by repeat (first | exact Below.refl _ _ | assumption | refine below_drewN ?_ _ | refine bel_grow ?_ _ | refine Below.drew ?_ | refine bel_alloc ?_ _ | refine bel_set ?_ (by first | exact Nat.le_refl _ | (simp; done) | (simp; omega) | omega) _ | refine bel_trans ?_ (by assumption))) hb_6
        clear t_
        have hP_ := bel_eld (w := w_5) (X := _) (by repeat (first | exact Below.refl _ _ | assumption | refine below_drewN ?_ _ | refine bel_grow ?_ _ | refine Below.drew ?_ | refine bel_alloc ?_ _ | refine bel_set ?_ (by first | exact Nat.le_refl _ | (simp; done) | (simp; omega) | omega) _ | refine bel_trans ?_ (by assumption))) hb_6
        have k_s_1 := Lib.hid (s_1.out.below hP_)
        clear s_1
        have s_1 := k_s_1
        clear k_s_1
        have k_s_3 := Lib.hid (s_3.out.below hP_)
        clear s_3
        have s_3 := k_s_3
        clear k_s_3
        have k_s_5 := Lib.hid (s_5.out.below hP_)
        clear s_5
        have s_5 := k_s_5
        clear k_s_5
        have k_s_7 := Lib.hid (s_7.out.below hP_)
        clear s_7
        have s_7 := k_s_7
        clear k_s_7
        clear hP_
        clear f_a a_l a_0 a_1 a_2 a_3 a_f0 a_f1 a_f2 a_f3 f_b b_l b_0 b_1 b_2 b_3 b_f0 b_f1 b_f2 b_f3 f_x x_l x_0 x_1 x_2 x_3 x_4 x_5 x_6 x_7 x_8 x_9 x_f0 x_f1 x_f2 x_f3 x_f4 x_f5 x_f6 x_f7 x_f8 x_f9 f_y y_l y_0 y_1 y_2 y_3 y_4 y_5 y_6 y_7 y_8 y_9 y_f0 y_f1 y_f2 y_f3 y_f4 y_f5 y_f6 y_f7 y_f8 y_f9 hB_5 hb_6
        replace hB_6 := Lib.hid hB_6
        have q1 := conv8 s_1.out c1
        have q2 := conv8 s_3.out c3
        have q3 := conv8 s_5.out c5
        have q4 := conv8 s_7.out c7
        have k1'' := k1'.out
        have k2'' := k2'.out
        go_wp2_with fail
        go_ret
        exact ⟨rfl, by have t := hB_6.out; exact t⟩
end Go.Proofs.Ytflaeljjalpnkaa
