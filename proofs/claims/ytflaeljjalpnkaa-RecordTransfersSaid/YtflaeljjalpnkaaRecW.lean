/-
  RecordTransfers, walked.
-/
import Derived.Test.YtflaeljjalpnkaaKeepD
import Derived.Test.YtflaeljjalpnkaaKeepE
import Derived.Test.YtflaeljjalpnkaaRecQ
import Derived.Test.YtflaeljjalpnkaaRecE
import Derived.Test.YtflaeljjalpnkaaRefB
import Derived.Test.YtflaeljjalpnkaaRefC
namespace Go.Proofs.Ytflaeljjalpnkaa
set_option linter.unusedVariables false
set_option linter.unusedSimpArgs false
open Go.RowKit

theorem putTransfer_sl (xi1 xi2 xd1 xd2 xc1 xc2 xm1 xm2 xw1 xw2 xtg xto xlg xcd xfl xst : Int) (hi1 : 0 ≤ xi1 ∧ xi1 < 18446744073709551616) (hi2 : 0 ≤ xi2 ∧ xi2 < 18446744073709551616) (hd1 : 0 ≤ xd1 ∧ xd1 < 18446744073709551616) (hd2 : 0 ≤ xd2 ∧ xd2 < 18446744073709551616) (hc1 : 0 ≤ xc1 ∧ xc1 < 18446744073709551616) (hc2 : 0 ≤ xc2 ∧ xc2 < 18446744073709551616) (hm1 : 0 ≤ xm1 ∧ xm1 < 18446744073709551616) (hm2 : 0 ≤ xm2 ∧ xm2 < 18446744073709551616) (hw1 : 0 ≤ xw1 ∧ xw1 < 18446744073709551616) (hw2 : 0 ≤ xw2 ∧ xw2 < 18446744073709551616) (htg : 0 ≤ xtg ∧ xtg < 18446744073709551616) (hto : 0 ≤ xto ∧ xto < 4294967296) (hlg : 0 ≤ xlg ∧ xlg < 4294967296) (hcd : 0 ≤ xcd ∧ xcd < 65536) (hfl : 0 ≤ xfl ∧ xfl < 65536) (hst : 0 ≤ xst ∧ xst < 18446744073709551616) (w : World) : Calls Try.prog 32 #[.agg #[.int .u64 xi1, .int .u64 xi2, .int .u64 xd1, .int .u64 xd2, .int .u64 xc1, .int .u64 xc2, .int .u64 xm1, .int .u64 xm2, .int .u64 xw1, .int .u64 xw2, .int .u64 xtg, .int .u32 xto, .int .u32 xlg, .int .u16 xcd, .int .u16 xfl, .int .u64 xst]] w fun r w' => ∃ A c, r = .returned (.slice A 108 c) ∧ 108 ≤ c ∧ c ≤ maxLen ∧ SlIs w' A 108 (yV (putTransferD xi1 xi2 xd1 xd2 xc1 xc2 xm1 xm2 xw1 xw2 xtg xto xlg xcd xfl xst)) ∧ Below w.heap.size w w' := by
  refine (putTransfer_any xi1 xi2 xd1 xd2 xc1 xc2 xm1 xm2 xw1 xw2 xtg xto xlg xcd xfl xst hi1 hi2 hd1 hd2 hc1 hc2 hm1 hm2 hw1 hw2 htg hto hlg hcd hfl hst w).mono ?_
  rintro e w' ⟨v, rfl, ho, hb⟩
  obtain ⟨A, c, rfl, e1, m1, s1⟩ := ho.byS
  exact ⟨A, c, rfl, e1, m1, s1, hb⟩
attribute [local go_sem] bK_is loadV_ptr storeV_ptr
attribute [local go_sem ↓] load_Transfer store_Transfer load_Kept store_Kept build_Kept
set_option maxRecDepth 8000 in
set_option maxHeartbeats 8000000 in
theorem recordTransfers_any (xi1 xi2 xd1 xd2 xc1 xc2 xm1 xm2 xw1 xw2 xtg xto xlg xcd xfl xst kh kl : Int) (hi1 : 0 ≤ xi1 ∧ xi1 < 18446744073709551616) (hi2 : 0 ≤ xi2 ∧ xi2 < 18446744073709551616) (hd1 : 0 ≤ xd1 ∧ xd1 < 18446744073709551616) (hd2 : 0 ≤ xd2 ∧ xd2 < 18446744073709551616) (hc1 : 0 ≤ xc1 ∧ xc1 < 18446744073709551616) (hc2 : 0 ≤ xc2 ∧ xc2 < 18446744073709551616) (hm1 : 0 ≤ xm1 ∧ xm1 < 18446744073709551616) (hm2 : 0 ≤ xm2 ∧ xm2 < 18446744073709551616) (hw1 : 0 ≤ xw1 ∧ xw1 < 18446744073709551616) (hw2 : 0 ≤ xw2 ∧ xw2 < 18446744073709551616) (htg : 0 ≤ xtg ∧ xtg < 18446744073709551616) (hto : 0 ≤ xto ∧ xto < 4294967296) (hlg : 0 ≤ xlg ∧ xlg < 4294967296) (hcd : 0 ≤ xcd ∧ xcd < 65536) (hfl : 0 ≤ xfl ∧ xfl < 65536) (hst : 0 ≤ xst ∧ xst < 18446744073709551616) (hkh : Wd kh) (hkl : Wd kl) (w : World) : Calls Try.prog 7 #[.agg #[.int .u64 xi1, .int .u64 xi2, .int .u64 xd1, .int .u64 xd2, .int .u64 xc1, .int .u64 xc2, .int .u64 xm1, .int .u64 xm2, .int .u64 xw1, .int .u64 xw2, .int .u64 xtg, .int .u32 xto, .int .u32 xlg, .int .u16 xcd, .int .u16 xfl, .int .u64 xst], .agg #[.int .u64 kh, .int .u64 kl]] w fun r w' => r = .returned (.bool true) ∧ Below w.heap.size w w' := by
  have HP := Lib.hid (fun w => putTransfer_sl xi1 xi2 xd1 xd2 xc1 xc2 xm1 xm2 xw1 xw2 xtg xto xlg xcd xfl xst hi1 hi2 hd1 hd2 hc1 hc2 hm1 hm2 hw1 hw2 htg hto hlg hcd hfl hst w)
  have HK := Lib.hid (fun w => keepTransfer_any xi1 xi2 xd1 xd2 xc1 xc2 xm1 xm2 xw1 xw2 xtg xto xlg xcd xfl xst kh kl hi1 hi2 hd1 hd2 hc1 hc2 hm1 hm2 hw1 hw2 htg hto hlg hcd hfl hst hkh hkl w)
  have HG := Lib.hid (fun A c h1 h2 w hs => getTransfer_at xi1 xi2 xd1 xd2 xc1 xc2 xm1 xm2 xw1 xw2 xtg xto xlg xcd xfl xst hi1 hi2 hd1 hd2 hc1 hc2 hm1 hm2 hw1 hw2 htg hto hlg hcd hfl hst A c h1 h2 w hs)
  have HT := Lib.hid (fun A B c k hC hk w hs ht => keptTransfer_at xi1 xi2 xd1 xd2 xc1 xc2 xm1 xm2 xw1 xw2 xtg xto xlg xcd xfl xst kh kl hi1 hi2 hd1 hd2 hc1 hc2 hm1 hm2 hw1 hw2 htg hto hlg hcd hfl hst hkh hkl A B c k hC hk w hs ht)
  have RA := Lib.hid (fun w => refTransfer_any xi1 xi2 xd1 xd2 xc1 xc2 xm1 xm2 xw1 xw2 xtg xto xlg xcd xfl xst hi1 hi2 hd1 hd2 hc1 hc2 hm1 hm2 hw1 hw2 htg hto hlg hcd hfl hst w)
  have RB := Lib.hid (fun w => refbytes_any kh kl hkh hkl w)
  have RX := Lib.hid (fun w => rfixed_any w)
  clear hi1 hi2 hd1 hd2 hc1 hc2 hm1 hm2 hw1 hw2 htg hto hlg hcd hfl hst hkh hkl
  generalize (putTransferD xi1 xi2 xd1 xd2 xc1 xc2 xm1 xm2 xw1 xw2 xtg xto xlg xcd xfl xst) = D at *
  generalize dgt kh kl = E at *
  have es : (strF D 108).size = 108 := strF_size D 108
  have e1 : (strF D 108).extract 0 16 = strF D 16 := strF_ext (by omega) (by omega)
  have e2 : (strF D 108).extract 16 108 = strF (shf D 16) 92 := strF_ext (by omega) (by omega)
  have hb0 := bel_alloc (bel_alloc (Below.refl w.heap.size w) (.cells #[.int .u64 xi1, .int .u64 xi2, .int .u64 xd1, .int .u64 xd2, .int .u64 xc1, .int .u64 xc2, .int .u64 xm1, .int .u64 xm2, .int .u64 xw1, .int .u64 xw2, .int .u64 xtg, .int .u32 xto, .int .u32 xlg, .int .u16 xcd, .int .u16 xfl, .int .u64 xst] 66)) (.cells #[.int .u64 kh, .int .u64 kl] 24)
  have f_a : Blk ((w.alloc (.cells #[.int .u64 xi1, .int .u64 xi2, .int .u64 xd1, .int .u64 xd2, .int .u64 xc1, .int .u64 xc2, .int .u64 xm1, .int .u64 xm2, .int .u64 xw1, .int .u64 xw2, .int .u64 xtg, .int .u32 xto, .int .u32 xlg, .int .u16 xcd, .int .u16 xfl, .int .u64 xst] 66)).alloc (.cells #[.int .u64 kh, .int .u64 kl] 24)) w.heap.size 66 #[.int .u64 xi1, .int .u64 xi2, .int .u64 xd1, .int .u64 xd2, .int .u64 xc1, .int .u64 xc2, .int .u64 xm1, .int .u64 xm2, .int .u64 xw1, .int .u64 xw2, .int .u64 xtg, .int .u32 xto, .int .u32 xlg, .int .u16 xcd, .int .u16 xfl, .int .u64 xst] := (Blk.new _ _ _).alloc _
  have f_u : Blk ((w.alloc (.cells #[.int .u64 xi1, .int .u64 xi2, .int .u64 xd1, .int .u64 xd2, .int .u64 xc1, .int .u64 xc2, .int .u64 xm1, .int .u64 xm2, .int .u64 xw1, .int .u64 xw2, .int .u64 xtg, .int .u32 xto, .int .u32 xlg, .int .u16 xcd, .int .u16 xfl, .int .u64 xst] 66)).alloc (.cells #[.int .u64 kh, .int .u64 kl] 24)) (w.heap.size + 1) 24 #[.int .u64 kh, .int .u64 kl] := Blk.new' (by simp)
  go_enter Try.func7, Try.ntmps7
  go_upto_region 1 with fail
  refine abs_wp (fun X => Below w.heap.size w X ∧ Blk X w.heap.size 66 #[.int .u64 xi1, .int .u64 xi2, .int .u64 xd1, .int .u64 xd2, .int .u64 xc1, .int .u64 xc2, .int .u64 xm1, .int .u64 xm2, .int .u64 xw1, .int .u64 xw2, .int .u64 xtg, .int .u32 xto, .int .u32 xlg, .int .u16 xcd, .int .u16 xfl, .int .u64 xst] ∧ Blk X (w.heap.size + 1) 24 #[.int .u64 kh, .int .u64 kl]) ⟨hb0, f_a, f_u⟩ ?_
  clear hb0 f_a f_u
  rintro w0 ⟨hb0, f_a, f_u⟩
  have r_a := rowAt_blk f_a
  have a_l := f_a.lt
  replace f_a := Lib.hid f_a
  have u_0 := (f_u).cell 0
  have u_1 := (f_u).cell 1
  have u_f0 := (f_u).frozen 0
  have u_f1 := (f_u).frozen 1
  have u_l := (f_u).lt
  replace f_u := Lib.hid f_u
  replace hb0 := Lib.hid hb0
  go_wp2_with fail
  refine (HP.out _).mono ?_
  rintro e w_1 ⟨A1, c1, rfl, j1, m1, s_1, hb_1⟩
  have z_1 := hb_1.size
  try simp at z_1
  have t_ := hb0.out
  have hB_1 := bel_eld (w := w) (X := _) (by repeat (first | exact Below.refl _ _ | assumption | refine below_drewN ?_ _ | refine bel_grow ?_ _ | refine Below.drew ?_ | refine bel_alloc ?_ _ | refine bel_set ?_ (by first | exact Nat.le_refl _ | (simp; done) | (simp; omega) | omega) _ | refine bel_trans ?_ (by assumption))) hb_1
  clear t_
  replace s_1 := Lib.hid s_1
  have t_a := f_a.out
  have t_u := f_u.out
  have g_a : Blk w_1 (w.heap.size) 66 #[.int .u64 xi1, .int .u64 xi2, .int .u64 xd1, .int .u64 xd2, .int .u64 xc1, .int .u64 xc2, .int .u64 xm1, .int .u64 xm2, .int .u64 xw1, .int .u64 xw2, .int .u64 xtg, .int .u32 xto, .int .u32 xlg, .int .u16 xcd, .int .u16 xfl, .int .u64 xst] := by
    refine Blk.kept ?_ hb_1
    (repeat (first | with_reducible assumption | (with_reducible refine Blk.new' ?_; first | with_reducible rfl | (simp; done)) | with_reducible refine Blk.alloc ?_ _ | with_reducible refine Blk.grow ?_ _ | with_reducible refine Blk.drew ?_ | with_reducible refine Blk.drewN ?_ _ | (with_reducible refine Blk.far ?_ (by first | (dsimp only; omega) | (simp; omega)) _) | (with_reducible apply Blk.two) | (with_reducible refine Blk.set' ?_ _ _ ?_) | (with_reducible rfl) | rfl))
  have g_u : Blk w_1 (w.heap.size + 1) 24 #[.int .u64 kh, .int .u64 kl] := by
    refine Blk.kept ?_ hb_1
    (repeat (first | with_reducible assumption | (with_reducible refine Blk.new' ?_; first | with_reducible rfl | (simp; done)) | with_reducible refine Blk.alloc ?_ _ | with_reducible refine Blk.grow ?_ _ | with_reducible refine Blk.drew ?_ | with_reducible refine Blk.drewN ?_ _ | (with_reducible refine Blk.far ?_ (by first | (dsimp only; omega) | (simp; omega)) _) | (with_reducible apply Blk.two) | (with_reducible refine Blk.set' ?_ _ _ ?_) | (with_reducible rfl) | rfl))
  clear f_a a_l r_a f_u u_l u_0 u_1 u_f0 u_f1 t_a t_u hb0 hb_1
  have f_a := g_a
  clear g_a
  have f_u := g_u
  clear g_u
  have r_a := rowAt_blk f_a
  have a_l := f_a.lt
  replace f_a := Lib.hid f_a
  have u_0 := (f_u).cell 0
  have u_1 := (f_u).cell 1
  have u_f0 := (f_u).frozen 0
  have u_f1 := (f_u).frozen 1
  have u_l := (f_u).lt
  replace f_u := Lib.hid f_u
  replace hB_1 := Lib.hid hB_1
  as_aux_lemma =>
    go_wp2_with fail
    refine (HG.out A1 c1 j1 m1 _ s_1.out).mono ?_
    rintro e w_2 ⟨rfl, hb_2⟩
    have z_2 := hb_2.size
    try simp at z_2
    have t_ := hB_1.out
    have hB_2 := bel_eld (w := w) (X := _) (by repeat (first | exact Below.refl _ _ | assumption | refine below_drewN ?_ _ | refine bel_grow ?_ _ | refine Below.drew ?_ | refine bel_alloc ?_ _ | refine bel_set ?_ (by first | exact Nat.le_refl _ | (simp; done) | (simp; omega) | omega) _ | refine bel_trans ?_ (by assumption))) hb_2
    clear t_
    have hP_ := bel_eld (w := w_1) (X := _) (by first | ((repeat (first | with_reducible exact Below.refl _ _ | with_reducible assumption | (with_reducible refine bel_set ?_ (by first | exact Nat.le_refl _ | (simp; done) | (simp; omega) | omega) _) | with_reducible refine bel_grow ?_ _ | with_reducible refine Below.drew ?_ | with_reducible refine below_drewN ?_ _ | with_reducible refine bel_alloc ?_ _ | with_reducible refine bel_trans ?_ (by assumption))); done) | (repeat (first | exact Below.refl _ _ | assumption | refine below_drewN ?_ _ | refine bel_grow ?_ _ | refine Below.drew ?_ | refine bel_alloc ?_ _ | refine bel_set ?_ (by first | exact Nat.le_refl _ | (simp; done) | (simp; omega) | omega) _ | refine bel_trans ?_ (by assumption)))) hb_2
    have k_s_1 := Lib.hid (s_1.out.below hP_)
    clear s_1
    have s_1 := k_s_1
    clear k_s_1
    have t_a := f_a.out
    have t_u := f_u.out
    have g_a : Blk w_2 (w.heap.size) 66 #[.int .u64 xi1, .int .u64 xi2, .int .u64 xd1, .int .u64 xd2, .int .u64 xc1, .int .u64 xc2, .int .u64 xm1, .int .u64 xm2, .int .u64 xw1, .int .u64 xw2, .int .u64 xtg, .int .u32 xto, .int .u32 xlg, .int .u16 xcd, .int .u16 xfl, .int .u64 xst] := Blk.kept t_a hP_
    have g_u : Blk w_2 (w.heap.size + 1) 24 #[.int .u64 kh, .int .u64 kl] := Blk.kept t_u hP_
    clear hP_
    clear f_a a_l r_a f_u u_l u_0 u_1 u_f0 u_f1 t_a t_u hB_1 hb_2
    have f_a := g_a
    clear g_a
    have f_u := g_u
    clear g_u
    have r_a := rowAt_blk f_a
    have a_l := f_a.lt
    replace f_a := Lib.hid f_a
    have u_0 := (f_u).cell 0
    have u_1 := (f_u).cell 1
    have u_f0 := (f_u).frozen 0
    have u_f1 := (f_u).frozen 1
    have u_l := (f_u).lt
    replace f_u := Lib.hid f_u
    replace hB_2 := Lib.hid hB_2
    as_aux_lemma =>
      go_wp2_with fail
      refine (HK.out _).mono ?_
      rintro e w_3 ⟨A2, c2, B2, k2, rfl, j2, j3, s_2, s_3, hb_3⟩
      have z_3 := hb_3.size
      try simp at z_3
      have t_ := hB_2.out
      have hB_3 := bel_eld (w := w) (X := _) (by repeat (first | exact Below.refl _ _ | assumption | refine below_drewN ?_ _ | refine bel_grow ?_ _ | refine Below.drew ?_ | refine bel_alloc ?_ _ | refine bel_set ?_ (by first | exact Nat.le_refl _ | (simp; done) | (simp; omega) | omega) _ | refine bel_trans ?_ (by assumption))) hb_3
      clear t_
      have hP_ := bel_eld (w := w_2) (X := _) (by first | ((repeat (first | with_reducible exact Below.refl _ _ | with_reducible assumption | (with_reducible refine bel_set ?_ (by first | exact Nat.le_refl _ | (simp; done) | (simp; omega) | omega) _) | with_reducible refine bel_grow ?_ _ | with_reducible refine Below.drew ?_ | with_reducible refine below_drewN ?_ _ | with_reducible refine bel_alloc ?_ _ | with_reducible refine bel_trans ?_ (by assumption))); done) | (repeat (first | exact Below.refl _ _ | assumption | refine below_drewN ?_ _ | refine bel_grow ?_ _ | refine Below.drew ?_ | refine bel_alloc ?_ _ | refine bel_set ?_ (by first | exact Nat.le_refl _ | (simp; done) | (simp; omega) | omega) _ | refine bel_trans ?_ (by assumption)))) hb_3
      have k_s_1 := Lib.hid (s_1.out.below hP_)
      clear s_1
      have s_1 := k_s_1
      clear k_s_1
      replace s_2 := Lib.hid s_2
      replace s_3 := Lib.hid s_3
      have t_a := f_a.out
      have t_u := f_u.out
      have g_a : Blk w_3 (w.heap.size) 66 #[.int .u64 xi1, .int .u64 xi2, .int .u64 xd1, .int .u64 xd2, .int .u64 xc1, .int .u64 xc2, .int .u64 xm1, .int .u64 xm2, .int .u64 xw1, .int .u64 xw2, .int .u64 xtg, .int .u32 xto, .int .u32 xlg, .int .u16 xcd, .int .u16 xfl, .int .u64 xst] := Blk.kept t_a hP_
      have g_u : Blk w_3 (w.heap.size + 1) 24 #[.int .u64 kh, .int .u64 kl] := Blk.kept t_u hP_
      have g_x : Blk w_3 (w_2.heap.size) 66 #[.int .u64 xi1, .int .u64 xi2, .int .u64 xd1, .int .u64 xd2, .int .u64 xc1, .int .u64 xc2, .int .u64 xm1, .int .u64 xm2, .int .u64 xw1, .int .u64 xw2, .int .u64 xtg, .int .u32 xto, .int .u32 xlg, .int .u16 xcd, .int .u16 xfl, .int .u64 xst] := by
        refine Blk.kept ?_ hb_3
        (repeat (first | with_reducible assumption | (with_reducible refine Blk.new' ?_; first | with_reducible rfl | (simp; done)) | with_reducible refine Blk.alloc ?_ _ | with_reducible refine Blk.grow ?_ _ | with_reducible refine Blk.drew ?_ | with_reducible refine Blk.drewN ?_ _ | (with_reducible refine Blk.far ?_ (by first | (dsimp only; omega) | (simp; omega)) _) | (with_reducible apply Blk.two) | (with_reducible refine Blk.set' ?_ _ _ ?_) | (with_reducible rfl) | rfl))
      have g_y : Blk w_3 (w_2.heap.size + 1) 78 #[.int .u64 xi1, .int .u64 xi2, .int .u64 xd1, .int .u64 xd2, .int .u64 xc1, .int .u64 xc2, .int .u64 xm1, .int .u64 xm2, .int .u64 xw1, .int .u64 xw2, .int .u64 xtg, .int .u32 xto, .int .u32 xlg, .int .u16 xcd, .int .u16 xfl, .int .u64 xst, .int .u64 kh, .int .u64 kl] := by
        refine Blk.kept ?_ hb_3
        (repeat (first | with_reducible assumption | (with_reducible refine Blk.new' ?_; first | with_reducible rfl | (simp; done)) | with_reducible refine Blk.alloc ?_ _ | with_reducible refine Blk.grow ?_ _ | with_reducible refine Blk.drew ?_ | with_reducible refine Blk.drewN ?_ _ | (with_reducible refine Blk.far ?_ (by first | (dsimp only; omega) | (simp; omega)) _) | (with_reducible apply Blk.two) | (with_reducible refine Blk.set' ?_ _ _ ?_) | (with_reducible rfl) | rfl))
      clear hP_
      clear f_a a_l r_a f_u u_l u_0 u_1 u_f0 u_f1 t_a t_u hB_2 hb_3
      have f_a := g_a
      clear g_a
      have f_u := g_u
      clear g_u
      have f_x := g_x
      clear g_x
      have f_y := g_y
      clear g_y
      have r_a := rowAt_blk f_a
      have a_l := f_a.lt
      replace f_a := Lib.hid f_a
      have u_0 := (f_u).cell 0
      have u_1 := (f_u).cell 1
      have u_f0 := (f_u).frozen 0
      have u_f1 := (f_u).frozen 1
      have u_l := (f_u).lt
      replace f_u := Lib.hid f_u
      have r_x := rowAt_blk f_x
      have x_l := f_x.lt
      replace f_x := Lib.hid f_x
      have r_y := rowAt_blk f_y
      have y_l := f_y.lt
      replace f_y := Lib.hid f_y
      replace hB_3 := Lib.hid hB_3
      as_aux_lemma =>
        go_wp2_with fail
        refine (HT.out A2 B2 c2 k2 j2 j3 _ s_2.out s_3.out).mono ?_
        rintro e w_4 ⟨rfl, hb_4⟩
        have z_4 := hb_4.size
        try simp at z_4
        have t_ := hB_3.out
        have hB_4 := bel_eld (w := w) (X := _) (by repeat (first | exact Below.refl _ _ | assumption | refine below_drewN ?_ _ | refine bel_grow ?_ _ | refine Below.drew ?_ | refine bel_alloc ?_ _ | refine bel_set ?_ (by first | exact Nat.le_refl _ | (simp; done) | (simp; omega) | omega) _ | refine bel_trans ?_ (by assumption))) hb_4
        clear t_
        have hP_ := bel_eld (w := w_3) (X := _) (by first | ((repeat (first | with_reducible exact Below.refl _ _ | with_reducible assumption | (with_reducible refine bel_set ?_ (by first | exact Nat.le_refl _ | (simp; done) | (simp; omega) | omega) _) | with_reducible refine bel_grow ?_ _ | with_reducible refine Below.drew ?_ | with_reducible refine below_drewN ?_ _ | with_reducible refine bel_alloc ?_ _ | with_reducible refine bel_trans ?_ (by assumption))); done) | (repeat (first | exact Below.refl _ _ | assumption | refine below_drewN ?_ _ | refine bel_grow ?_ _ | refine Below.drew ?_ | refine bel_alloc ?_ _ | refine bel_set ?_ (by first | exact Nat.le_refl _ | (simp; done) | (simp; omega) | omega) _ | refine bel_trans ?_ (by assumption)))) hb_4
        have k_s_1 := Lib.hid (s_1.out.below hP_)
        clear s_1
        have s_1 := k_s_1
        clear k_s_1
        have k_s_2 := Lib.hid (s_2.out.below hP_)
        clear s_2
        have s_2 := k_s_2
        clear k_s_2
        have k_s_3 := Lib.hid (s_3.out.below hP_)
        clear s_3
        have s_3 := k_s_3
        clear k_s_3
        have t_a := f_a.out
        have t_u := f_u.out
        have t_x := f_x.out
        have t_y := f_y.out
        have g_a : Blk w_4 (w.heap.size) 66 #[.int .u64 xi1, .int .u64 xi2, .int .u64 xd1, .int .u64 xd2, .int .u64 xc1, .int .u64 xc2, .int .u64 xm1, .int .u64 xm2, .int .u64 xw1, .int .u64 xw2, .int .u64 xtg, .int .u32 xto, .int .u32 xlg, .int .u16 xcd, .int .u16 xfl, .int .u64 xst] := Blk.kept t_a hP_
        have g_u : Blk w_4 (w.heap.size + 1) 24 #[.int .u64 kh, .int .u64 kl] := Blk.kept t_u hP_
        have g_x : Blk w_4 (w_2.heap.size) 66 #[.int .u64 xi1, .int .u64 xi2, .int .u64 xd1, .int .u64 xd2, .int .u64 xc1, .int .u64 xc2, .int .u64 xm1, .int .u64 xm2, .int .u64 xw1, .int .u64 xw2, .int .u64 xtg, .int .u32 xto, .int .u32 xlg, .int .u16 xcd, .int .u16 xfl, .int .u64 xst] := Blk.kept t_x hP_
        have g_y : Blk w_4 (w_2.heap.size + 1) 78 #[.int .u64 xi1, .int .u64 xi2, .int .u64 xd1, .int .u64 xd2, .int .u64 xc1, .int .u64 xc2, .int .u64 xm1, .int .u64 xm2, .int .u64 xw1, .int .u64 xw2, .int .u64 xtg, .int .u32 xto, .int .u32 xlg, .int .u16 xcd, .int .u16 xfl, .int .u64 xst, .int .u64 kh, .int .u64 kl] := Blk.kept t_y hP_
        clear hP_
        clear f_a a_l r_a f_u u_l u_0 u_1 u_f0 u_f1 f_x x_l r_x f_y y_l r_y t_a t_u t_x t_y hB_3 hb_4
        have f_a := g_a
        clear g_a
        have f_u := g_u
        clear g_u
        have f_x := g_x
        clear g_x
        have f_y := g_y
        clear g_y
        have r_a := rowAt_blk f_a
        have a_l := f_a.lt
        replace f_a := Lib.hid f_a
        have u_0 := (f_u).cell 0
        have u_1 := (f_u).cell 1
        have u_f0 := (f_u).frozen 0
        have u_f1 := (f_u).frozen 1
        have u_l := (f_u).lt
        replace f_u := Lib.hid f_u
        have r_x := rowAt_blk f_x
        have x_l := f_x.lt
        replace f_x := Lib.hid f_x
        have r_y := rowAt_blk f_y
        have y_l := f_y.lt
        replace f_y := Lib.hid f_y
        replace hB_4 := Lib.hid hB_4
        as_aux_lemma =>
          go_wp2_with fail
          refine (RA.out _).mono ?_
          rintro e w_5 ⟨rfl, hb_5⟩
          have z_5 := hb_5.size
          try simp at z_5
          have t_ := hB_4.out
          have hB_5 := bel_eld (w := w) (X := _) (by repeat (first | exact Below.refl _ _ | assumption | refine below_drewN ?_ _ | refine bel_grow ?_ _ | refine Below.drew ?_ | refine bel_alloc ?_ _ | refine bel_set ?_ (by first | exact Nat.le_refl _ | (simp; done) | (simp; omega) | omega) _ | refine bel_trans ?_ (by assumption))) hb_5
          clear t_
          have hP_ := bel_eld (w := w_4) (X := _) (by first | ((repeat (first | with_reducible exact Below.refl _ _ | with_reducible assumption | (with_reducible refine bel_set ?_ (by first | exact Nat.le_refl _ | (simp; done) | (simp; omega) | omega) _) | with_reducible refine bel_grow ?_ _ | with_reducible refine Below.drew ?_ | with_reducible refine below_drewN ?_ _ | with_reducible refine bel_alloc ?_ _ | with_reducible refine bel_trans ?_ (by assumption))); done) | (repeat (first | exact Below.refl _ _ | assumption | refine below_drewN ?_ _ | refine bel_grow ?_ _ | refine Below.drew ?_ | refine bel_alloc ?_ _ | refine bel_set ?_ (by first | exact Nat.le_refl _ | (simp; done) | (simp; omega) | omega) _ | refine bel_trans ?_ (by assumption)))) hb_5
          have k_s_1 := Lib.hid (s_1.out.below hP_)
          clear s_1
          have s_1 := k_s_1
          clear k_s_1
          have k_s_2 := Lib.hid (s_2.out.below hP_)
          clear s_2
          have s_2 := k_s_2
          clear k_s_2
          have k_s_3 := Lib.hid (s_3.out.below hP_)
          clear s_3
          have s_3 := k_s_3
          clear k_s_3
          have t_a := f_a.out
          have t_u := f_u.out
          have t_x := f_x.out
          have t_y := f_y.out
          have g_a : Blk w_5 (w.heap.size) 66 #[.int .u64 xi1, .int .u64 xi2, .int .u64 xd1, .int .u64 xd2, .int .u64 xc1, .int .u64 xc2, .int .u64 xm1, .int .u64 xm2, .int .u64 xw1, .int .u64 xw2, .int .u64 xtg, .int .u32 xto, .int .u32 xlg, .int .u16 xcd, .int .u16 xfl, .int .u64 xst] := Blk.kept t_a hP_
          have g_u : Blk w_5 (w.heap.size + 1) 24 #[.int .u64 kh, .int .u64 kl] := Blk.kept t_u hP_
          have g_x : Blk w_5 (w_2.heap.size) 66 #[.int .u64 xi1, .int .u64 xi2, .int .u64 xd1, .int .u64 xd2, .int .u64 xc1, .int .u64 xc2, .int .u64 xm1, .int .u64 xm2, .int .u64 xw1, .int .u64 xw2, .int .u64 xtg, .int .u32 xto, .int .u32 xlg, .int .u16 xcd, .int .u16 xfl, .int .u64 xst] := Blk.kept t_x hP_
          have g_y : Blk w_5 (w_2.heap.size + 1) 78 #[.int .u64 xi1, .int .u64 xi2, .int .u64 xd1, .int .u64 xd2, .int .u64 xc1, .int .u64 xc2, .int .u64 xm1, .int .u64 xm2, .int .u64 xw1, .int .u64 xw2, .int .u64 xtg, .int .u32 xto, .int .u32 xlg, .int .u16 xcd, .int .u16 xfl, .int .u64 xst, .int .u64 kh, .int .u64 kl] := Blk.kept t_y hP_
          have g_v : Blk w_5 (w_4.heap.size) 78 #[.int .u64 xi1, .int .u64 xi2, .int .u64 xd1, .int .u64 xd2, .int .u64 xc1, .int .u64 xc2, .int .u64 xm1, .int .u64 xm2, .int .u64 xw1, .int .u64 xw2, .int .u64 xtg, .int .u32 xto, .int .u32 xlg, .int .u16 xcd, .int .u16 xfl, .int .u64 xst, .int .u64 kh, .int .u64 kl] := by
            refine Blk.kept ?_ hb_5
            (repeat (first | with_reducible assumption | (with_reducible refine Blk.new' ?_; first | with_reducible rfl | (simp; done)) | with_reducible refine Blk.alloc ?_ _ | with_reducible refine Blk.grow ?_ _ | with_reducible refine Blk.drew ?_ | with_reducible refine Blk.drewN ?_ _ | (with_reducible refine Blk.far ?_ (by first | (dsimp only; omega) | (simp; omega)) _) | (with_reducible apply Blk.two) | (with_reducible refine Blk.set' ?_ _ _ ?_) | (with_reducible rfl) | rfl))
          clear hP_
          clear f_a a_l r_a f_u u_l u_0 u_1 u_f0 u_f1 f_x x_l r_x f_y y_l r_y t_a t_u t_x t_y hB_4 hb_5
          have f_a := g_a
          clear g_a
          have f_u := g_u
          clear g_u
          have f_x := g_x
          clear g_x
          have f_y := g_y
          clear g_y
          have f_v := g_v
          clear g_v
          have r_a := rowAt_blk f_a
          have a_l := f_a.lt
          replace f_a := Lib.hid f_a
          have u_0 := (f_u).cell 0
          have u_1 := (f_u).cell 1
          have u_f0 := (f_u).frozen 0
          have u_f1 := (f_u).frozen 1
          have u_l := (f_u).lt
          replace f_u := Lib.hid f_u
          have r_x := rowAt_blk f_x
          have x_l := f_x.lt
          replace f_x := Lib.hid f_x
          have r_y := rowAt_blk f_y
          have y_l := f_y.lt
          replace f_y := Lib.hid f_y
          have r_v := rowAt_blk f_v
          have v_l := f_v.lt
          replace f_v := Lib.hid f_v
          replace hB_5 := Lib.hid hB_5
          as_aux_lemma =>
            go_upto_region 7 with fail
            have q1 := fun d => conv8 (s_1.out.below (grow_below w_5 d)) c1
            have q2 := fun d => conv8 (s_2.out.below (grow_below w_5 d)) c2
            have q3 := fun d => conv8 (s_3.out.below (grow_below w_5 d)) k2
            first | (with_reducible refine rgrow2 (by kernel_rfl) (by kernel_rfl) ?_) | (refine rgrow (by kernel_rfl) (by kernel_rfl) ?_)
            repeat (go_big_quiet_step (((first | (go_at_call 13; exact grow_call (RX.out _)) | (go_at_call 36; exact grow_call (RB.out _))))))
            refine wpQuiet_nil ?_
            intro dr
            go_wp2_with fail
            go_ret
            exact ⟨rfl, by have t := hB_5.out; (repeat (first | exact Below.refl _ _ | assumption | refine below_drewN ?_ _ | refine bel_grow ?_ _ | refine Below.drew ?_ | refine bel_alloc ?_ _ | refine bel_set ?_ (by first | exact Nat.le_refl _ | (simp; done) | (simp; omega) | omega) _ | refine bel_trans ?_ (by assumption)))⟩
end Go.Proofs.Ytflaeljjalpnkaa
