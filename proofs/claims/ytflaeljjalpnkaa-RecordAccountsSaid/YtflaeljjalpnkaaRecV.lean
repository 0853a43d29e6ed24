/-
  RecordAccounts, walked.
-/
import Derived.Test.YtflaeljjalpnkaaKeepC
import Derived.Test.YtflaeljjalpnkaaRecQ
import Derived.Test.YtflaeljjalpnkaaRecE
namespace Go.Proofs.Ytflaeljjalpnkaa
set_option linter.unusedVariables false
set_option linter.unusedSimpArgs false
open Go.RowKit

set_option maxRecDepth 8000 in
set_option maxHeartbeats 8000000 in
theorem recordAccounts_any (xi1 xi2 xp1 xp2 xq1 xq2 xr1 xr2 xs1 xs2 xtg xlg xcd xfl xst : Int) (hi1 : 0 ≤ xi1 ∧ xi1 < 18446744073709551616) (hi2 : 0 ≤ xi2 ∧ xi2 < 18446744073709551616) (hp1 : 0 ≤ xp1 ∧ xp1 < 18446744073709551616) (hp2 : 0 ≤ xp2 ∧ xp2 < 18446744073709551616) (hq1 : 0 ≤ xq1 ∧ xq1 < 18446744073709551616) (hq2 : 0 ≤ xq2 ∧ xq2 < 18446744073709551616) (hr1 : 0 ≤ xr1 ∧ xr1 < 18446744073709551616) (hr2 : 0 ≤ xr2 ∧ xr2 < 18446744073709551616) (hs1 : 0 ≤ xs1 ∧ xs1 < 18446744073709551616) (hs2 : 0 ≤ xs2 ∧ xs2 < 18446744073709551616) (htg : 0 ≤ xtg ∧ xtg < 18446744073709551616) (hlg : 0 ≤ xlg ∧ xlg < 4294967296) (hcd : 0 ≤ xcd ∧ xcd < 65536) (hfl : 0 ≤ xfl ∧ xfl < 65536) (hst : 0 ≤ xst ∧ xst < 18446744073709551616) (w : World) : Calls Try.prog 5 #[.agg #[.int .u64 xi1, .int .u64 xi2, .int .u64 xp1, .int .u64 xp2, .int .u64 xq1, .int .u64 xq2, .int .u64 xr1, .int .u64 xr2, .int .u64 xs1, .int .u64 xs2, .int .u64 xtg, .int .u32 xlg, .int .u16 xcd, .int .u16 xfl, .int .u64 xst]] w fun r w' => r = .returned (.bool true) ∧ Below w.heap.size w w' := by
  have HP := Lib.hid (fun w => putAccount_sl xi1 xi2 xp1 xp2 xq1 xq2 xr1 xr2 xs1 xs2 xtg xlg xcd xfl xst hi1 hi2 hp1 hp2 hq1 hq2 hr1 hr2 hs1 hs2 htg hlg hcd hfl hst w)
  have HK := Lib.hid (fun w => keepAccount_any xi1 xi2 xp1 xp2 xq1 xq2 xr1 xr2 xs1 xs2 xtg xlg xcd xfl xst hi1 hi2 hp1 hp2 hq1 hq2 hr1 hr2 hs1 hs2 htg hlg hcd hfl hst w)
  have HG := Lib.hid (fun A c h1 h2 w hs => getAccount_at xi1 xi2 xp1 xp2 xq1 xq2 xr1 xr2 xs1 xs2 xtg xlg xcd xfl xst hi1 hi2 hp1 hp2 hq1 hq2 hr1 hr2 hs1 hs2 htg hlg hcd hfl hst A c h1 h2 w hs)
  have HT := Lib.hid (fun A B c k hC hk w hs ht => keptAccount_at xi1 xi2 xp1 xp2 xq1 xq2 xr1 xr2 xs1 xs2 xtg xlg xcd xfl xst hi1 hi2 hp1 hp2 hq1 hq2 hr1 hr2 hs1 hs2 htg hlg hcd hfl hst A B c k hC hk w hs ht)
  have RA := Lib.hid (fun w => refAccount_any xi1 xi2 xp1 xp2 xq1 xq2 xr1 xr2 xs1 xs2 xtg xlg xcd xfl xst hi1 hi2 hp1 hp2 hq1 hq2 hr1 hr2 hs1 hs2 htg hlg hcd hfl hst w)
  have RX := Lib.hid (fun w => rfixed_any w)
  clear hi1 hi2 hp1 hp2 hq1 hq2 hr1 hr2 hs1 hs2 htg hlg hcd hfl hst
  generalize (putAccountD xi1 xi2 xp1 xp2 xq1 xq2 xr1 xr2 xs1 xs2 xtg xlg xcd xfl xst) = D at *
  have hcd := cat_shf D 16
  have hb0 := bel_alloc (Below.refl w.heap.size w) (.cells #[.int .u64 xi1, .int .u64 xi2, .int .u64 xp1, .int .u64 xp2, .int .u64 xq1, .int .u64 xq2, .int .u64 xr1, .int .u64 xr2, .int .u64 xs1, .int .u64 xs2, .int .u64 xtg, .int .u32 xlg, .int .u16 xcd, .int .u16 xfl, .int .u64 xst] 56)
  have f_a : Blk (w.alloc (.cells #[.int .u64 xi1, .int .u64 xi2, .int .u64 xp1, .int .u64 xp2, .int .u64 xq1, .int .u64 xq2, .int .u64 xr1, .int .u64 xr2, .int .u64 xs1, .int .u64 xs2, .int .u64 xtg, .int .u32 xlg, .int .u16 xcd, .int .u16 xfl, .int .u64 xst] 56)) w.heap.size 56 #[.int .u64 xi1, .int .u64 xi2, .int .u64 xp1, .int .u64 xp2, .int .u64 xq1, .int .u64 xq2, .int .u64 xr1, .int .u64 xr2, .int .u64 xs1, .int .u64 xs2, .int .u64 xtg, .int .u32 xlg, .int .u16 xcd, .int .u16 xfl, .int .u64 xst] := Blk.new _ _ _
  go_enter Try.func5, Try.ntmps5
  go_upto_region 1 with fail
  refine abs_wp (fun X => Below w.heap.size w X ∧ Blk X w.heap.size 56 #[.int .u64 xi1, .int .u64 xi2, .int .u64 xp1, .int .u64 xp2, .int .u64 xq1, .int .u64 xq2, .int .u64 xr1, .int .u64 xr2, .int .u64 xs1, .int .u64 xs2, .int .u64 xtg, .int .u32 xlg, .int .u16 xcd, .int .u16 xfl, .int .u64 xst]) ⟨hb0, f_a⟩ ?_
  clear hb0 f_a
  rintro w0 ⟨hb0, f_a⟩
  have a_0 := (f_a).cell 0
  have a_1 := (f_a).cell 1
  have a_2 := (f_a).cell 2
  have a_3 := (f_a).cell 3
  have a_4 := (f_a).cell 4
  have a_5 := (f_a).cell 5
  have a_6 := (f_a).cell 6
  have a_7 := (f_a).cell 7
  have a_8 := (f_a).cell 8
  have a_9 := (f_a).cell 9
  have a_10 := (f_a).cell 10
  have a_11 := (f_a).cell 11
  have a_12 := (f_a).cell 12
  have a_13 := (f_a).cell 13
  have a_14 := (f_a).cell 14
  have a_f0 := (f_a).frozen 0
  have a_f1 := (f_a).frozen 1
  have a_f2 := (f_a).frozen 2
  have a_f3 := (f_a).frozen 3
  have a_f4 := (f_a).frozen 4
  have a_f5 := (f_a).frozen 5
  have a_f6 := (f_a).frozen 6
  have a_f7 := (f_a).frozen 7
  have a_f8 := (f_a).frozen 8
  have a_f9 := (f_a).frozen 9
  have a_f10 := (f_a).frozen 10
  have a_f11 := (f_a).frozen 11
  have a_f12 := (f_a).frozen 12
  have a_f13 := (f_a).frozen 13
  have a_f14 := (f_a).frozen 14
  have a_l := (f_a).lt
  replace f_a := Lib.hid f_a
  replace hb0 := Lib.hid hb0
  go_wp2_with fail
  refine (HP.out _).mono ?_
  rintro e w_1 ⟨A1, c1, rfl, e1, m1, s_1, hb_1⟩
  have z_1 := hb_1.size
  try simp at z_1
  have t_ := hb0.out
  have hB_1 := bel_eld (w := w) (X := _) (by repeat (first | exact Below.refl _ _ | assumption | refine below_drewN ?_ _ | refine bel_grow ?_ _ | refine Below.drew ?_ | refine bel_alloc ?_ _ | refine bel_set ?_ (by first | exact Nat.le_refl _ | (simp; done) | (simp; omega) | omega) _ | refine bel_trans ?_ (by assumption))) hb_1
  clear t_
  replace s_1 := Lib.hid s_1
  have t_a := f_a.out
  have g_a : Blk w_1 (w.heap.size) 56 #[.int .u64 xi1, .int .u64 xi2, .int .u64 xp1, .int .u64 xp2, .int .u64 xq1, .int .u64 xq2, .int .u64 xr1, .int .u64 xr2, .int .u64 xs1, .int .u64 xs2, .int .u64 xtg, .int .u32 xlg, .int .u16 xcd, .int .u16 xfl, .int .u64 xst] := by
    refine Blk.kept ?_ hb_1
    (repeat (first | with_reducible assumption | (with_reducible refine Blk.new' ?_; first | with_reducible rfl | (simp; done)) | with_reducible refine Blk.alloc ?_ _ | with_reducible refine Blk.grow ?_ _ | with_reducible refine Blk.drew ?_ | with_reducible refine Blk.drewN ?_ _ | (with_reducible refine Blk.far ?_ (by first | (dsimp only; omega) | (simp; omega)) _) | (with_reducible apply Blk.two) | (with_reducible refine Blk.set' ?_ _ _ ?_) | (with_reducible rfl) | rfl))
  clear f_a a_l a_0 a_1 a_2 a_3 a_4 a_5 a_6 a_7 a_8 a_9 a_10 a_11 a_12 a_13 a_14 a_f0 a_f1 a_f2 a_f3 a_f4 a_f5 a_f6 a_f7 a_f8 a_f9 a_f10 a_f11 a_f12 a_f13 a_f14 t_a hb0 hb_1
  have f_a := g_a
  clear g_a
  have a_0 := (f_a).cell 0
  have a_1 := (f_a).cell 1
  have a_2 := (f_a).cell 2
  have a_3 := (f_a).cell 3
  have a_4 := (f_a).cell 4
  have a_5 := (f_a).cell 5
  have a_6 := (f_a).cell 6
  have a_7 := (f_a).cell 7
  have a_8 := (f_a).cell 8
  have a_9 := (f_a).cell 9
  have a_10 := (f_a).cell 10
  have a_11 := (f_a).cell 11
  have a_12 := (f_a).cell 12
  have a_13 := (f_a).cell 13
  have a_14 := (f_a).cell 14
  have a_f0 := (f_a).frozen 0
  have a_f1 := (f_a).frozen 1
  have a_f2 := (f_a).frozen 2
  have a_f3 := (f_a).frozen 3
  have a_f4 := (f_a).frozen 4
  have a_f5 := (f_a).frozen 5
  have a_f6 := (f_a).frozen 6
  have a_f7 := (f_a).frozen 7
  have a_f8 := (f_a).frozen 8
  have a_f9 := (f_a).frozen 9
  have a_f10 := (f_a).frozen 10
  have a_f11 := (f_a).frozen 11
  have a_f12 := (f_a).frozen 12
  have a_f13 := (f_a).frozen 13
  have a_f14 := (f_a).frozen 14
  have a_l := (f_a).lt
  replace f_a := Lib.hid f_a
  replace hB_1 := Lib.hid hB_1
  go_wp2_with fail
  refine (HK.out _).mono ?_
  rintro e w_2 ⟨A2, c2, B2, k2, rfl, j2, j3, s_2, s_3, hb_2⟩
  have z_2 := hb_2.size
  try simp at z_2
  have t_ := hB_1.out
  have hB_2 := bel_eld (w := w) (X := _) (by repeat (first | exact Below.refl _ _ | assumption | refine below_drewN ?_ _ | refine bel_grow ?_ _ | refine Below.drew ?_ | refine bel_alloc ?_ _ | refine bel_set ?_ (by first | exact Nat.le_refl _ | (simp; done) | (simp; omega) | omega) _ | refine bel_trans ?_ (by assumption))) hb_2
  clear t_
  have hP_ := bel_eld (w := w_1) (X := _) (by first | ((repeat (first | with_reducible exact Below.refl _ _ | with_reducible assumption | (with_reducible refine bel_set ?_ (by first | exact Nat.le_refl _ | (simp; done) | (simp; omega) | omega) _) | with_reducible refine bel_grow ?_ _ | with_reducible refine Below.drew ?_ | with_reducible refine below_drewN ?_ _ | with_reducible refine bel_alloc ?_ _ | with_reducible refine bel_trans ?_ (by assumption))); done) | (repeat (first | exact Below.refl _ _ | assumption | refine below_drewN ?_ _ | refine bel_grow ?_ _ | refine Below.drew ?_ | refine bel_alloc ?_ _ | refine bel_set ?_ (by first | exact Nat.le_refl _ | (simp; done) | (simp; omega) | omega) _ | refine bel_trans ?_ (by assumption)))) hb_2
  have k_s_1 := Lib.hid (s_1.out.below hP_)
  clear s_1
  have s_1 := k_s_1
  clear k_s_1
  replace s_2 := Lib.hid s_2
  replace s_3 := Lib.hid s_3
  have t_a := f_a.out
  have g_a : Blk w_2 (w.heap.size) 56 #[.int .u64 xi1, .int .u64 xi2, .int .u64 xp1, .int .u64 xp2, .int .u64 xq1, .int .u64 xq2, .int .u64 xr1, .int .u64 xr2, .int .u64 xs1, .int .u64 xs2, .int .u64 xtg, .int .u32 xlg, .int .u16 xcd, .int .u16 xfl, .int .u64 xst] := Blk.kept t_a hP_
  clear hP_
  clear f_a a_l a_0 a_1 a_2 a_3 a_4 a_5 a_6 a_7 a_8 a_9 a_10 a_11 a_12 a_13 a_14 a_f0 a_f1 a_f2 a_f3 a_f4 a_f5 a_f6 a_f7 a_f8 a_f9 a_f10 a_f11 a_f12 a_f13 a_f14 t_a hB_1 hb_2
  have f_a := g_a
  clear g_a
  have a_0 := (f_a).cell 0
  have a_1 := (f_a).cell 1
  have a_2 := (f_a).cell 2
  have a_3 := (f_a).cell 3
  have a_4 := (f_a).cell 4
  have a_5 := (f_a).cell 5
  have a_6 := (f_a).cell 6
  have a_7 := (f_a).cell 7
  have a_8 := (f_a).cell 8
  have a_9 := (f_a).cell 9
  have a_10 := (f_a).cell 10
  have a_11 := (f_a).cell 11
  have a_12 := (f_a).cell 12
  have a_13 := (f_a).cell 13
  have a_14 := (f_a).cell 14
  have a_f0 := (f_a).frozen 0
  have a_f1 := (f_a).frozen 1
  have a_f2 := (f_a).frozen 2
  have a_f3 := (f_a).frozen 3
  have a_f4 := (f_a).frozen 4
  have a_f5 := (f_a).frozen 5
  have a_f6 := (f_a).frozen 6
  have a_f7 := (f_a).frozen 7
  have a_f8 := (f_a).frozen 8
  have a_f9 := (f_a).frozen 9
  have a_f10 := (f_a).frozen 10
  have a_f11 := (f_a).frozen 11
  have a_f12 := (f_a).frozen 12
  have a_f13 := (f_a).frozen 13
  have a_f14 := (f_a).frozen 14
  have a_l := (f_a).lt
  replace f_a := Lib.hid f_a
  replace hB_2 := Lib.hid hB_2
  go_wp2_with fail
  refine (HG.out A1 c1 e1 m1 _ s_1.out).mono ?_
  rintro e w_3 ⟨rfl, hb_3⟩
  have z_3 := hb_3.size
  try simp at z_3
  have t_ := hB_2.out
  have hB_3 := bel_eld (w := w) (X := _) (by repeat (first | exact Below.refl _ _ | assumption | refine below_drewN ?_ _ | refine bel_grow ?_ _ | refine Below.drew ?_ | refine bel_alloc ?_ _ | refine bel_set ?_ (by first | exact Nat.le_refl _ | (simp; done) | (simp; omega) | omega) _ | refine bel_trans ?_ (by assumption))) hb_3
  clear t_
  have hP_ := bel_eld (w := w_2) (X := _) (by first | ((repeat (first | with_reducible exact Below.refl _ _ | with_reducible assumption | (with_reducible refine bel_set ?_ (by first | exact Nat.le_refl _ | (simp; done) | (simp; omega) | omega) _) | with_reducible refine bel_grow ?_ _ | with_reducible refine Below.drew ?_ | with_reducible refine below_drewN ?_ _ | with_reducible refine bel_alloc ?_ _ | with_reducible refine bel_trans ?_ (by assumption))); done) | (repeat (first | exact Below.refl _ _ | assumption | refine below_drewN ?_ _ | refine bel_grow ?_ _ | refine Below.drew ?_ | refine bel_alloc ?_ _ | refine bel_set ?_ (by first | exact Nat.le_refl _ | (simp; done) | (simp; omega) | omega) _ | refine bel_trans ?_ (by assumption)))) hb_3
  have k_s_1 := Lib.hid (s_1.out.below hP_)
  clear s_1
  have s_1 := k_s_1
  clear k_s_1
  have k_s_2 := Lib.hid (s_2.out.below hP_)
  clear s_2
  have s_2 := k_s_2
  clear k_s_2
  have k_s_3 := Lib.hid (s_3.out.below hP_)
  clear s_3
  have s_3 := k_s_3
  clear k_s_3
  have t_a := f_a.out
  have g_a : Blk w_3 (w.heap.size) 56 #[.int .u64 xi1, .int .u64 xi2, .int .u64 xp1, .int .u64 xp2, .int .u64 xq1, .int .u64 xq2, .int .u64 xr1, .int .u64 xr2, .int .u64 xs1, .int .u64 xs2, .int .u64 xtg, .int .u32 xlg, .int .u16 xcd, .int .u16 xfl, .int .u64 xst] := Blk.kept t_a hP_
  clear hP_
  clear f_a a_l a_0 a_1 a_2 a_3 a_4 a_5 a_6 a_7 a_8 a_9 a_10 a_11 a_12 a_13 a_14 a_f0 a_f1 a_f2 a_f3 a_f4 a_f5 a_f6 a_f7 a_f8 a_f9 a_f10 a_f11 a_f12 a_f13 a_f14 t_a hB_2 hb_3
  have f_a := g_a
  clear g_a
  have a_0 := (f_a).cell 0
  have a_1 := (f_a).cell 1
  have a_2 := (f_a).cell 2
  have a_3 := (f_a).cell 3
  have a_4 := (f_a).cell 4
  have a_5 := (f_a).cell 5
  have a_6 := (f_a).cell 6
  have a_7 := (f_a).cell 7
  have a_8 := (f_a).cell 8
  have a_9 := (f_a).cell 9
  have a_10 := (f_a).cell 10
  have a_11 := (f_a).cell 11
  have a_12 := (f_a).cell 12
  have a_13 := (f_a).cell 13
  have a_14 := (f_a).cell 14
  have a_f0 := (f_a).frozen 0
  have a_f1 := (f_a).frozen 1
  have a_f2 := (f_a).frozen 2
  have a_f3 := (f_a).frozen 3
  have a_f4 := (f_a).frozen 4
  have a_f5 := (f_a).frozen 5
  have a_f6 := (f_a).frozen 6
  have a_f7 := (f_a).frozen 7
  have a_f8 := (f_a).frozen 8
  have a_f9 := (f_a).frozen 9
  have a_f10 := (f_a).frozen 10
  have a_f11 := (f_a).frozen 11
  have a_f12 := (f_a).frozen 12
  have a_f13 := (f_a).frozen 13
  have a_f14 := (f_a).frozen 14
  have a_l := (f_a).lt
  replace f_a := Lib.hid f_a
  replace hB_3 := Lib.hid hB_3
  as_aux_lemma =>
    go_wp2_with fail
    refine (HT.out A2 B2 c2 k2 j2 j3 _ (s_2.out.below (by (repeat (first | with_reducible exact Below.refl _ _ | with_reducible assumption | (with_reducible refine bel_set ?_ (by first | exact Nat.le_refl _ | (simp; done) | (simp; omega) | omega) _) | with_reducible refine bel_grow ?_ _ | with_reducible refine Below.drew ?_ | with_reducible refine below_drewN ?_ _ | with_reducible refine bel_alloc ?_ _ | with_reducible refine bel_trans ?_ (by assumption))))) (s_3.out.below (by (repeat (first | with_reducible exact Below.refl _ _ | with_reducible assumption | (with_reducible refine bel_set ?_ (by first | exact Nat.le_refl _ | (simp; done) | (simp; omega) | omega) _) | with_reducible refine bel_grow ?_ _ | with_reducible refine Below.drew ?_ | with_reducible refine below_drewN ?_ _ | with_reducible refine bel_alloc ?_ _ | with_reducible refine bel_trans ?_ (by assumption)))))).mono ?_
    rintro e w_4 ⟨rfl, hb_4⟩
    have z_4 := hb_4.size
    try simp at z_4
    have t_ := hB_3.out
    have hB_4 := bel_eld (w := w) (X := _) (by repeat (first | exact Below.refl _ _ | assumption | refine below_drewN ?_ _ | refine bel_grow ?_ _ | refine Below.drew ?_ | refine bel_alloc ?_ _ | refine bel_set ?_ (by first | exact Nat.le_refl _ | (simp; done) | (simp; omega) | omega) _ | refine bel_trans ?_ (by assumption))) hb_4
    clear t_
    have hP_ := bel_eld (w := w_3) (X := _) (by first | ((repeat (first | with_reducible exact Below.refl _ _ | with_reducible assumption | (with_reducible refine bel_set ?_ (by first | exact Nat.le_refl _ | (simp; done) | (simp; omega) | omega) _) | with_reducible refine bel_grow ?_ _ | with_reducible refine Below.drew ?_ | with_reducible refine below_drewN ?_ _ | with_reducible refine bel_alloc ?_ _ | with_reducible refine bel_trans ?_ (by assumption))); done) | (repeat (first | exact Below.refl _ _ | assumption | refine below_drewN ?_ _ | refine bel_grow ?_ _ | refine Below.drew ?_ | refine bel_alloc ?_ _ | refine bel_set ?_ (by first | exact Nat.le_refl _ | (simp; done) | (simp; omega) | omega) _ | refine bel_trans ?_ (by assumption)))) hb_4
    have k_s_1 := Lib.hid (s_1.out.below hP_)
    clear s_1
    have s_1 := k_s_1
    clear k_s_1
    have k_s_2 := Lib.hid (s_2.out.below hP_)
    clear s_2
    have s_2 := k_s_2
    clear k_s_2
    have k_s_3 := Lib.hid (s_3.out.below hP_)
    clear s_3
    have s_3 := k_s_3
    clear k_s_3
    have t_a := f_a.out
    have g_a : Blk w_4 (w.heap.size) 56 #[.int .u64 xi1, .int .u64 xi2, .int .u64 xp1, .int .u64 xp2, .int .u64 xq1, .int .u64 xq2, .int .u64 xr1, .int .u64 xr2, .int .u64 xs1, .int .u64 xs2, .int .u64 xtg, .int .u32 xlg, .int .u16 xcd, .int .u16 xfl, .int .u64 xst] := Blk.kept t_a hP_
    have g_x : Blk w_4 (w_3.heap.size) 56 #[.int .u64 xi1, .int .u64 xi2, .int .u64 xp1, .int .u64 xp2, .int .u64 xq1, .int .u64 xq2, .int .u64 xr1, .int .u64 xr2, .int .u64 xs1, .int .u64 xs2, .int .u64 xtg, .int .u32 xlg, .int .u16 xcd, .int .u16 xfl, .int .u64 xst] := by
      refine Blk.kept ?_ hb_4
      (repeat (first | with_reducible assumption | (with_reducible refine Blk.new' ?_; first | with_reducible rfl | (simp; done)) | with_reducible refine Blk.alloc ?_ _ | with_reducible refine Blk.grow ?_ _ | with_reducible refine Blk.drew ?_ | with_reducible refine Blk.drewN ?_ _ | (with_reducible refine Blk.far ?_ (by first | (dsimp only; omega) | (simp; omega)) _) | (with_reducible apply Blk.two) | (with_reducible refine Blk.set' ?_ _ _ ?_) | (with_reducible rfl) | rfl))
    clear hP_
    clear f_a a_l a_0 a_1 a_2 a_3 a_4 a_5 a_6 a_7 a_8 a_9 a_10 a_11 a_12 a_13 a_14 a_f0 a_f1 a_f2 a_f3 a_f4 a_f5 a_f6 a_f7 a_f8 a_f9 a_f10 a_f11 a_f12 a_f13 a_f14 t_a hB_3 hb_4
    have f_a := g_a
    clear g_a
    have f_x := g_x
    clear g_x
    have a_0 := (f_a).cell 0
    have a_1 := (f_a).cell 1
    have a_2 := (f_a).cell 2
    have a_3 := (f_a).cell 3
    have a_4 := (f_a).cell 4
    have a_5 := (f_a).cell 5
    have a_6 := (f_a).cell 6
    have a_7 := (f_a).cell 7
    have a_8 := (f_a).cell 8
    have a_9 := (f_a).cell 9
    have a_10 := (f_a).cell 10
    have a_11 := (f_a).cell 11
    have a_12 := (f_a).cell 12
    have a_13 := (f_a).cell 13
    have a_14 := (f_a).cell 14
    have a_f0 := (f_a).frozen 0
    have a_f1 := (f_a).frozen 1
    have a_f2 := (f_a).frozen 2
    have a_f3 := (f_a).frozen 3
    have a_f4 := (f_a).frozen 4
    have a_f5 := (f_a).frozen 5
    have a_f6 := (f_a).frozen 6
    have a_f7 := (f_a).frozen 7
    have a_f8 := (f_a).frozen 8
    have a_f9 := (f_a).frozen 9
    have a_f10 := (f_a).frozen 10
    have a_f11 := (f_a).frozen 11
    have a_f12 := (f_a).frozen 12
    have a_f13 := (f_a).frozen 13
    have a_f14 := (f_a).frozen 14
    have a_l := (f_a).lt
    replace f_a := Lib.hid f_a
    have x_0 := (f_x).cell 0
    have x_1 := (f_x).cell 1
    have x_2 := (f_x).cell 2
    have x_3 := (f_x).cell 3
    have x_4 := (f_x).cell 4
    have x_5 := (f_x).cell 5
    have x_6 := (f_x).cell 6
    have x_7 := (f_x).cell 7
    have x_8 := (f_x).cell 8
    have x_9 := (f_x).cell 9
    have x_10 := (f_x).cell 10
    have x_11 := (f_x).cell 11
    have x_12 := (f_x).cell 12
    have x_13 := (f_x).cell 13
    have x_14 := (f_x).cell 14
    have x_f0 := (f_x).frozen 0
    have x_f1 := (f_x).frozen 1
    have x_f2 := (f_x).frozen 2
    have x_f3 := (f_x).frozen 3
    have x_f4 := (f_x).frozen 4
    have x_f5 := (f_x).frozen 5
    have x_f6 := (f_x).frozen 6
    have x_f7 := (f_x).frozen 7
    have x_f8 := (f_x).frozen 8
    have x_f9 := (f_x).frozen 9
    have x_f10 := (f_x).frozen 10
    have x_f11 := (f_x).frozen 11
    have x_f12 := (f_x).frozen 12
    have x_f13 := (f_x).frozen 13
    have x_f14 := (f_x).frozen 14
    have x_l := (f_x).lt
    replace f_x := Lib.hid f_x
    replace hB_4 := Lib.hid hB_4
    go_upto_region 5 with fail
    refine abs_wp (fun X => Below w_4.heap.size w_4 X ∧ Blk X w_4.heap.size 56 #[.int .u64 xi1, .int .u64 xi2, .int .u64 xp1, .int .u64 xp2, .int .u64 xq1, .int .u64 xq2, .int .u64 xr1, .int .u64 xr2, .int .u64 xs1, .int .u64 xs2, .int .u64 xtg, .int .u32 xlg, .int .u16 xcd, .int .u16 xfl, .int .u64 xst]) ?_ ?_
    · refine ⟨?_, ?_⟩
      · (repeat (first | with_reducible exact Below.refl _ _ | with_reducible assumption | (with_reducible refine bel_set ?_ (by first | exact Nat.le_refl _ | (simp; done) | (simp; omega) | omega) _) | with_reducible refine bel_grow ?_ _ | with_reducible refine Below.drew ?_ | with_reducible refine below_drewN ?_ _ | with_reducible refine bel_alloc ?_ _ | with_reducible refine bel_trans ?_ (by assumption)))
      · (repeat (first | with_reducible assumption | (with_reducible refine Blk.new' ?_; first | with_reducible rfl | (simp; done)) | with_reducible refine Blk.alloc ?_ _ | with_reducible refine Blk.grow ?_ _ | with_reducible refine Blk.drew ?_ | with_reducible refine Blk.drewN ?_ _ | (with_reducible refine Blk.far ?_ (by first | (dsimp only; omega) | (simp; omega)) _) | (with_reducible apply Blk.two) | (with_reducible refine Blk.set' ?_ _ _ ?_) | (with_reducible rfl) | rfl))
    rintro X ⟨b2, gy⟩
    have bX := bel_eld hB_4.out b2
    have ga := f_a.out.kept b2
    have gx := f_x.out.kept b2
    clear f_a f_x hB_4 a_l x_l a_0 a_f0 a_1 a_f1 a_2 a_f2 a_3 a_f3 a_4 a_f4 a_5 a_f5 a_6 a_f6 a_7 a_f7 a_8 a_f8 a_9 a_f9 a_10 a_f10 a_11 a_f11 a_12 a_f12 a_13 a_f13 a_14 a_f14 x_0 x_f0 x_1 x_f1 x_2 x_f2 x_3 x_f3 x_4 x_f4 x_5 x_f5 x_6 x_f6 x_7 x_f7 x_8 x_f8 x_9 x_f9 x_10 x_f10 x_11 x_f11 x_12 x_f12 x_13 x_f13 x_14 x_f14
    as_aux_lemma =>
      have a0 := (ga).cell 0
      have a1 := (ga).cell 1
      have a2 := (ga).cell 2
      have a3 := (ga).cell 3
      have a4 := (ga).cell 4
      have a5 := (ga).cell 5
      have a6 := (ga).cell 6
      have a7 := (ga).cell 7
      have a8 := (ga).cell 8
      have a9 := (ga).cell 9
      have a10 := (ga).cell 10
      have a11 := (ga).cell 11
      have a12 := (ga).cell 12
      have a13 := (ga).cell 13
      have a14 := (ga).cell 14
      have af0 := (ga).frozen 0
      have af1 := (ga).frozen 1
      have af2 := (ga).frozen 2
      have af3 := (ga).frozen 3
      have af4 := (ga).frozen 4
      have af5 := (ga).frozen 5
      have af6 := (ga).frozen 6
      have af7 := (ga).frozen 7
      have af8 := (ga).frozen 8
      have af9 := (ga).frozen 9
      have af10 := (ga).frozen 10
      have af11 := (ga).frozen 11
      have af12 := (ga).frozen 12
      have af13 := (ga).frozen 13
      have af14 := (ga).frozen 14
      have al := (ga).lt
      have x0 := (gx).cell 0
      have x1 := (gx).cell 1
      have x2 := (gx).cell 2
      have x3 := (gx).cell 3
      have x4 := (gx).cell 4
      have x5 := (gx).cell 5
      have x6 := (gx).cell 6
      have x7 := (gx).cell 7
      have x8 := (gx).cell 8
      have x9 := (gx).cell 9
      have x10 := (gx).cell 10
      have x11 := (gx).cell 11
      have x12 := (gx).cell 12
      have x13 := (gx).cell 13
      have x14 := (gx).cell 14
      have xf0 := (gx).frozen 0
      have xf1 := (gx).frozen 1
      have xf2 := (gx).frozen 2
      have xf3 := (gx).frozen 3
      have xf4 := (gx).frozen 4
      have xf5 := (gx).frozen 5
      have xf6 := (gx).frozen 6
      have xf7 := (gx).frozen 7
      have xf8 := (gx).frozen 8
      have xf9 := (gx).frozen 9
      have xf10 := (gx).frozen 10
      have xf11 := (gx).frozen 11
      have xf12 := (gx).frozen 12
      have xf13 := (gx).frozen 13
      have xf14 := (gx).frozen 14
      have xl := (gx).lt
      have y0 := (gy).cell 0
      have y1 := (gy).cell 1
      have y2 := (gy).cell 2
      have y3 := (gy).cell 3
      have y4 := (gy).cell 4
      have y5 := (gy).cell 5
      have y6 := (gy).cell 6
      have y7 := (gy).cell 7
      have y8 := (gy).cell 8
      have y9 := (gy).cell 9
      have y10 := (gy).cell 10
      have y11 := (gy).cell 11
      have y12 := (gy).cell 12
      have y13 := (gy).cell 13
      have y14 := (gy).cell 14
      have yf0 := (gy).frozen 0
      have yf1 := (gy).frozen 1
      have yf2 := (gy).frozen 2
      have yf3 := (gy).frozen 3
      have yf4 := (gy).frozen 4
      have yf5 := (gy).frozen 5
      have yf6 := (gy).frozen 6
      have yf7 := (gy).frozen 7
      have yf8 := (gy).frozen 8
      have yf9 := (gy).frozen 9
      have yf10 := (gy).frozen 10
      have yf11 := (gy).frozen 11
      have yf12 := (gy).frozen 12
      have yf13 := (gy).frozen 13
      have yf14 := (gy).frozen 14
      have yl := (gy).lt
      have q1 := fun d => conv8 ((s_1.out.below b2).below (grow_below X d)) c1
      have q2 := fun d => conv8 ((s_2.out.below b2).below (grow_below X d)) c2
      have q3 := fun d => conv8 ((s_3.out.below b2).below (grow_below X d)) k2
      replace bX := Lib.hid bX
      clear ga gx gy b2
      first | (with_reducible refine rgrow2 (by kernel_rfl) (by kernel_rfl) ?_) | (refine rgrow (by kernel_rfl) (by kernel_rfl) ?_)
      repeat (go_big_quiet_step (((first | (go_at_call 13; exact grow_call (RX.out _)) | (go_at_call 24; exact grow_call (RA.out _))))))
      refine wpQuiet_nil ?_
      intro dr
      go_wp2_with fail
      go_ret
      exact ⟨rfl, by have t := bX.out; (repeat (first | exact Below.refl _ _ | assumption | refine below_drewN ?_ _ | refine bel_grow ?_ _ | refine Below.drew ?_ | refine bel_alloc ?_ _ | refine bel_set ?_ (by first | exact Nat.le_refl _ | (simp; done) | (simp; omega) | omega) _ | refine bel_trans ?_ (by assumption)))⟩
end Go.Proofs.Ytflaeljjalpnkaa
