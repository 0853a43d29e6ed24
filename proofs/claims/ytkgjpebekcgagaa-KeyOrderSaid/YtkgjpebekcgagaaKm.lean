/-
  KeyOrder, walked.
-/
import Derived.Test.YtkgjpebekcgagaaKl
import Derived.Deep.RegionHeld
namespace Go.Proofs.Ytkgjpebekcgagaa
set_option linter.unusedVariables false
set_option linter.unusedSimpArgs false
open Go.RowKit

theorem low_sl (A : Option Addr) (n c : Nat) (d : Nat → Int) (N : Int) (hn : n ≤ 1000000) (w : World) (hs : SlIs w A n (yV d)) : Calls Try.prog 12 #[.slice A n c, .int .i64 N] w fun r w' =>
      ∃ g, r = .returned (.slice (some ⟨g, 0, none⟩) (clampK N) (clampK N)) ∧ SlIs w' (some ⟨g, 0, none⟩) (clampK N) (yV (fil d n 0)) ∧ Below w.heap.size w w' := by
  refine (low_any A n c d N hn w hs).mono ?_
  rintro r w' ⟨g, cap, f, rfl, _, hcap, hr, hf, hb⟩
  exact ⟨g, rfl, (SlIs.row hr hcap).congr hf, hb⟩
theorem high_sl (A : Option Addr) (n c : Nat) (d : Nat → Int) (N : Int) (hn : n ≤ 1000000) (w : World) (hs : SlIs w A n (yV d)) : Calls Try.prog 14 #[.slice A n c, .int .i64 N] w fun r w' =>
      ∃ g, r = .returned (.slice (some ⟨g, 0, none⟩) (clampK N) (clampK N)) ∧ SlIs w' (some ⟨g, 0, none⟩) (clampK N) (yV (fil d n 255)) ∧ Below w.heap.size w w' := by
  refine (high_any A n c d N hn w hs).mono ?_
  rintro r w' ⟨g, cap, f, rfl, _, hcap, hr, hf, hb⟩
  exact ⟨g, rfl, (SlIs.row hr hcap).congr hf, hb⟩

set_option maxRecDepth 8000 in
set_option maxHeartbeats 4000000 in
theorem keyOrder_any (ah al n bh bl m : Int) (hah : Wd ah) (hal : Wd al) (hn : Wd n) (hbh : Wd bh) (hbl : Wd bl) (hm : Wd m) (w : World) :
    Calls Try.prog 5 #[.agg #[.int .u64 ah, .int .u64 al, .int .u64 n], .agg #[.int .u64 bh, .int .u64 bl, .int .u64 m]] w fun r w' => r = .returned (.bool true) ∧ Below w.heap.size w w' := by
  have HX := Lib.hid (fun w => fixed03_any w)
  have HP := Lib.hid (fun w => pair_any ah al n hah hal hn w)
  have HQ := Lib.hid (fun w => pair_any bh bl m hbh hbl hm w)
  have HI := Lib.hid (fun w => id_any ah al hah hal w)
  have HR := Lib.hid (fun w => refcmp_any ah al bh bl hah hal hbh hbl w)
  have k1 := Lib.hid (pair_cmp hah hal hn hbh hbl hm)
  have k2 := Lib.hid (order_in hah hal hbh hbl hm)
  clear hah hal hn hbh hbl hm
  generalize cat (dgt ah al) 16 (nb 8 n) = X at *
  generalize cat (dgt bh bl) 16 (nb 8 m) = Y at *
  have HL := Lib.hid (fun W g (h : W.rowIs g 5 16 (yV (dgt ah al))) => low_sl (some ⟨g, 0, none⟩) 16 16 (dgt ah al) 24 (by omega) W (SlIs.row h (Nat.le_refl _)))
  have HH := Lib.hid (fun W g (h : W.rowIs g 5 16 (yV (dgt ah al))) => high_sl (some ⟨g, 0, none⟩) 16 16 (dgt ah al) 24 (by omega) W (SlIs.row h (Nat.le_refl _)))
  rw [show clampK 24 = 24 from rfl] at HL HH
  generalize fil (dgt ah al) 16 0 = FL at *
  generalize fil (dgt ah al) 16 255 = FH at *
  generalize dgt ah al = D at *
  have HC1 := Lib.hid (fun W A c B k (h : SlIs W A 24 (yV FL)) (h2 : SlIs W B 24 (yV Y)) => kcmp_any A B 24 c 24 k FL Y W h h2)
  have HC2 := Lib.hid (fun W A c B k (h : SlIs W A 24 (yV Y)) (h2 : SlIs W B 24 (yV FH)) => kcmp_any A B 24 c 24 k Y FH W h h2)
  have HC3 := Lib.hid (fun W A c B k (h : SlIs W A 24 (yV X)) (h2 : SlIs W B 24 (yV Y)) => kcmp_any A B 24 c 24 k X Y W h h2)
  rw [k1.out] at HC3
  clear k1
  generalize cmpB FL 24 Y 24 = v1 at *
  generalize cmpB Y 24 FH 24 = v2 at *
  generalize cmpV ah al bh bl = cc at *
  have hb0 := Below.refl w.heap.size w
  go_enter Try.func5, Try.ntmps5
  go_upto_region 1 with fail
  go_cut [5, 6, 7, 8] (fun s5 s6 s7 s8 wx => ∃ g1 g2, s5 = .pointer (some ⟨g1, 0, none⟩) ∧ s6 = .pointer (some ⟨g2, 0, none⟩) ∧ s7 = .int .u64 n ∧ s8 = .int .u64 m ∧ Below w.heap.size w wx ∧ Blk wx g1 36 #[.int .u64 ah, .int .u64 al] ∧ Blk wx g2 36 #[.int .u64 bh, .int .u64 bl])
  case first =>
    go_region
    all_goals (
      go_wp2_with fail
      go_meet
      first
        | (refine ⟨w.heap.size + 1 + 1, w.heap.size + 1 + 1 + 1, rfl, rfl, rfl, rfl, ?_, ?_, ?_⟩
           · ((repeat (first | exact Below.refl _ _ | assumption | refine below_drewN ?_ _ | refine bel_grow ?_ _ | refine Below.drew ?_ | refine bel_alloc ?_ _ | refine bel_set ?_ (by first | exact Nat.le_refl _ | (simp; done) | (simp; omega) | omega) _ | refine bel_trans ?_ (by assumption))); done)
           · ((repeat (first | with_reducible assumption | (with_reducible refine Blk.new' ?_; first | with_reducible rfl | (simp; done)) | with_reducible refine Blk.alloc ?_ _ | with_reducible refine Blk.grow ?_ _ | with_reducible refine Blk.drew ?_ | with_reducible refine Blk.drewN ?_ _ | (with_reducible refine Blk.far ?_ (by first | (dsimp only; omega) | (simp; omega)) _) | (with_reducible apply Blk.two) | (with_reducible refine Blk.set' ?_ _ _ ?_) | (with_reducible rfl) | rfl)); done)
           · ((repeat (first | with_reducible assumption | (with_reducible refine Blk.new' ?_; first | with_reducible rfl | (simp; done)) | with_reducible refine Blk.alloc ?_ _ | with_reducible refine Blk.grow ?_ _ | with_reducible refine Blk.drew ?_ | with_reducible refine Blk.drewN ?_ _ | (with_reducible refine Blk.far ?_ (by first | (dsimp only; omega) | (simp; omega)) _) | (with_reducible apply Blk.two) | (with_reducible refine Blk.set' ?_ _ _ ?_) | (with_reducible rfl) | rfl)); done))
        | (refine ⟨w.heap.size + 1 + 1 + 1, w.heap.size + 1 + 1, rfl, rfl, rfl, rfl, ?_, ?_, ?_⟩
           · ((repeat (first | exact Below.refl _ _ | assumption | refine below_drewN ?_ _ | refine bel_grow ?_ _ | refine Below.drew ?_ | refine bel_alloc ?_ _ | refine bel_set ?_ (by first | exact Nat.le_refl _ | (simp; done) | (simp; omega) | omega) _ | refine bel_trans ?_ (by assumption))); done)
           · ((repeat (first | with_reducible assumption | (with_reducible refine Blk.new' ?_; first | with_reducible rfl | (simp; done)) | with_reducible refine Blk.alloc ?_ _ | with_reducible refine Blk.grow ?_ _ | with_reducible refine Blk.drew ?_ | with_reducible refine Blk.drewN ?_ _ | (with_reducible refine Blk.far ?_ (by first | (dsimp only; omega) | (simp; omega)) _) | (with_reducible apply Blk.two) | (with_reducible refine Blk.set' ?_ _ _ ?_) | (with_reducible rfl) | rfl)); done)
           · ((repeat (first | with_reducible assumption | (with_reducible refine Blk.new' ?_; first | with_reducible rfl | (simp; done)) | with_reducible refine Blk.alloc ?_ _ | with_reducible refine Blk.grow ?_ _ | with_reducible refine Blk.drew ?_ | with_reducible refine Blk.drewN ?_ _ | (with_reducible refine Blk.far ?_ (by first | (dsimp only; omega) | (simp; omega)) _) | (with_reducible apply Blk.two) | (with_reducible refine Blk.set' ?_ _ _ ?_) | (with_reducible rfl) | rfl)); done)))
  case rest =>
    clear hb0
    obtain ⟨g1, g2, rfl, rfl, rfl, rfl, hb0, f_a, f_b⟩ := hcut
    obtain ⟨w_a, rfl⟩ : ∃ X, X = wc := ⟨_, rfl⟩
    have a_0 : w_a.cell? ⟨g1, 0, none⟩ = some (.int .u64 ah) := (f_a).cell 0
    have a_1 : w_a.cell? ⟨g1, 1, none⟩ = some (.int .u64 al) := (f_a).cell 1
    have a_f0 := (f_a).frozen 0
    have a_f1 := (f_a).frozen 1
    have a_l := (f_a).lt
    replace f_a := Lib.hid f_a
    have b_0 : w_a.cell? ⟨g2, 0, none⟩ = some (.int .u64 bh) := (f_b).cell 0
    have b_1 : w_a.cell? ⟨g2, 1, none⟩ = some (.int .u64 bl) := (f_b).cell 1
    have b_f0 := (f_b).frozen 0
    have b_f1 := (f_b).frozen 1
    have b_l := (f_b).lt
    replace f_b := Lib.hid f_b
    replace hb0 := Lib.hid hb0
    go_upto_region 2 with fail
    go_cut [9, 10] (fun s9 s10 wx => ∃ A c B k, s9 = .slice A 24 c ∧ s10 = .slice B 24 k ∧ SlIs wx A 24 (yV X) ∧ SlIs wx B 24 (yV Y) ∧ Below w_a.heap.size w_a wx)
    case first =>
      have HSS := Lib.hid (fun w' (B : Below w_a.heap.size w_a w') => (show Below w_a.heap.size w_a w' ∧ w'.cell? ⟨g1, 0, none⟩ = some (.int .u64 ah) ∧ w'.cell? ⟨g1, 1, none⟩ = some (.int .u64 al) ∧ w'.cell? ⟨g2, 0, none⟩ = some (.int .u64 bh) ∧ w'.cell? ⟨g2, 1, none⟩ = some (.int .u64 bl) from ⟨B, keepc B a_0, keepc B a_1, keepc B b_0, keepc B b_1⟩))
      go_region_held (fun w' => Below w_a.heap.size w_a w' ∧ w'.cell? ⟨g1, 0, none⟩ = some (.int .u64 ah) ∧ w'.cell? ⟨g1, 1, none⟩ = some (.int .u64 al) ∧ w'.cell? ⟨g2, 0, none⟩ = some (.int .u64 bh) ∧ w'.cell? ⟨g2, 1, none⟩ = some (.int .u64 bl))
        (first | ((try go_split_ands); refine HSS.out _ ?_; (repeat (first | with_reducible exact Below.refl _ _ | with_reducible assumption | (with_reducible refine bel_set ?_ (by first | exact Nat.le_refl _ | (simp; done) | (simp; omega) | omega) _) | with_reducible refine bel_grow ?_ _ | with_reducible refine Below.drew ?_ | with_reducible refine below_drewN ?_ _ | with_reducible refine bel_alloc ?_ _ | with_reducible refine bel_trans ?_ (by assumption)))))
        (first | (go_at_call 15; first | ((with_reducible refine (HP.out _).mono ?_); rintro e2 wX ⟨vX, rfl, hoX, hbX⟩; obtain ⟨AX, cX, rfl, hsX⟩ := hoX.slis) | ((with_reducible refine (HQ.out _).mono ?_); rintro e2 wY ⟨vY, rfl, hoY, hbY⟩; obtain ⟨AY, cY, rfl, hsY⟩ := hoY.slis)))
      all_goals (
        go_wp2_with fail
        go_meet
        first
          | exact ⟨AX, cX, AY, cY, rfl, rfl, hsX.below hbY, hsY, by (repeat (first | with_reducible exact Below.refl _ _ | with_reducible assumption | (with_reducible refine bel_set ?_ (by first | exact Nat.le_refl _ | (simp; done) | (simp; omega) | omega) _) | with_reducible refine bel_grow ?_ _ | with_reducible refine Below.drew ?_ | with_reducible refine below_drewN ?_ _ | with_reducible refine bel_alloc ?_ _ | with_reducible refine bel_trans ?_ (by assumption)))⟩
          | exact ⟨AX, cX, AY, cY, rfl, rfl, hsX, hsY.below hbX, by (repeat (first | with_reducible exact Below.refl _ _ | with_reducible assumption | (with_reducible refine bel_set ?_ (by first | exact Nat.le_refl _ | (simp; done) | (simp; omega) | omega) _) | with_reducible refine bel_grow ?_ _ | with_reducible refine Below.drew ?_ | with_reducible refine below_drewN ?_ _ | with_reducible refine bel_alloc ?_ _ | with_reducible refine bel_trans ?_ (by assumption)))⟩)
    case rest =>
      clear HP HQ
      obtain ⟨A, c, B, k, rfl, rfl, s_x, s_y, hb_1⟩ := hcut
      obtain ⟨w_1, rfl⟩ : ∃ X, X = wc := ⟨_, rfl⟩
      have z_1 := hb_1.size
      try simp at z_1
      have t_ := hb0.out
      have hB_1 := bel_eld (w := w) (X := _) (by first | ((repeat (first | with_reducible exact Below.refl _ _ | with_reducible assumption | (with_reducible refine bel_set ?_ (by first | exact Nat.le_refl _ | (simp; done) | (simp; omega) | omega) _) | with_reducible refine bel_grow ?_ _ | with_reducible refine Below.drew ?_ | with_reducible refine below_drewN ?_ _ | with_reducible refine bel_alloc ?_ _ | with_reducible refine bel_trans ?_ (by assumption))); done) | (repeat (first | exact Below.refl _ _ | assumption | refine below_drewN ?_ _ | refine bel_grow ?_ _ | refine Below.drew ?_ | refine bel_alloc ?_ _ | refine bel_set ?_ (by first | exact Nat.le_refl _ | (simp; done) | (simp; omega) | omega) _ | refine bel_trans ?_ (by assumption)))) hb_1
      clear t_
      replace s_x := Lib.hid s_x
      replace s_y := Lib.hid s_y
      have t_a := f_a.out
      have t_b := f_b.out
      have g_a : Blk w_1 (g1) 36 #[.int .u64 ah, .int .u64 al] := by
        refine Blk.kept ?_ hb_1
        (repeat (first | with_reducible assumption | (with_reducible refine Blk.new' ?_; first | with_reducible rfl | (simp; done)) | with_reducible refine Blk.alloc ?_ _ | with_reducible refine Blk.grow ?_ _ | with_reducible refine Blk.drew ?_ | with_reducible refine Blk.drewN ?_ _ | (with_reducible refine Blk.far ?_ (by first | (dsimp only; omega) | (simp; omega)) _) | (with_reducible apply Blk.two) | (with_reducible refine Blk.set' ?_ _ _ ?_) | (with_reducible rfl) | rfl))
      have g_b : Blk w_1 (g2) 36 #[.int .u64 bh, .int .u64 bl] := by
        refine Blk.kept ?_ hb_1
        (repeat (first | with_reducible assumption | (with_reducible refine Blk.new' ?_; first | with_reducible rfl | (simp; done)) | with_reducible refine Blk.alloc ?_ _ | with_reducible refine Blk.grow ?_ _ | with_reducible refine Blk.drew ?_ | with_reducible refine Blk.drewN ?_ _ | (with_reducible refine Blk.far ?_ (by first | (dsimp only; omega) | (simp; omega)) _) | (with_reducible apply Blk.two) | (with_reducible refine Blk.set' ?_ _ _ ?_) | (with_reducible rfl) | rfl))
      clear f_a a_l a_0 a_1 a_f0 a_f1 f_b b_l b_0 b_1 b_f0 b_f1 t_a t_b hb0 hb_1
      have f_a := g_a
      clear g_a
      have f_b := g_b
      clear g_b
      have a_0 : w_1.cell? ⟨g1, 0, none⟩ = some (.int .u64 ah) := (f_a).cell 0
      have a_1 : w_1.cell? ⟨g1, 1, none⟩ = some (.int .u64 al) := (f_a).cell 1
      have a_f0 := (f_a).frozen 0
      have a_f1 := (f_a).frozen 1
      have a_l := (f_a).lt
      replace f_a := Lib.hid f_a
      have b_0 : w_1.cell? ⟨g2, 0, none⟩ = some (.int .u64 bh) := (f_b).cell 0
      have b_1 : w_1.cell? ⟨g2, 1, none⟩ = some (.int .u64 bl) := (f_b).cell 1
      have b_f0 := (f_b).frozen 0
      have b_f1 := (f_b).frozen 1
      have b_l := (f_b).lt
      replace f_b := Lib.hid f_b
      replace hB_1 := Lib.hid hB_1
      go_wp2_with fail
      refine (HR.out _).mono ?_
      rintro e w_2 ⟨rfl, hb_2⟩
      have z_2 := hb_2.size
      try simp at z_2
      have t_ := hB_1.out
      have hB_2 := bel_eld (w := w) (X := _) (by first | ((repeat (first | with_reducible exact Below.refl _ _ | with_reducible assumption | (with_reducible refine bel_set ?_ (by first | exact Nat.le_refl _ | (simp; done) | (simp; omega) | omega) _) | with_reducible refine bel_grow ?_ _ | with_reducible refine Below.drew ?_ | with_reducible refine below_drewN ?_ _ | with_reducible refine bel_alloc ?_ _ | with_reducible refine bel_trans ?_ (by assumption))); done) | (repeat (first | exact Below.refl _ _ | assumption | refine below_drewN ?_ _ | refine bel_grow ?_ _ | refine Below.drew ?_ | refine bel_alloc ?_ _ | refine bel_set ?_ (by first | exact Nat.le_refl _ | (simp; done) | (simp; omega) | omega) _ | refine bel_trans ?_ (by assumption)))) hb_2
      clear t_
      have hP_ := bel_eld (w := w_1) (X := _) (by first | ((repeat (first | with_reducible exact Below.refl _ _ | with_reducible assumption | (with_reducible refine bel_set ?_ (by first | exact Nat.le_refl _ | (simp; done) | (simp; omega) | omega) _) | with_reducible refine bel_grow ?_ _ | with_reducible refine Below.drew ?_ | with_reducible refine below_drewN ?_ _ | with_reducible refine bel_alloc ?_ _ | with_reducible refine bel_trans ?_ (by assumption))); done) | (repeat (first | exact Below.refl _ _ | assumption | refine below_drewN ?_ _ | refine bel_grow ?_ _ | refine Below.drew ?_ | refine bel_alloc ?_ _ | refine bel_set ?_ (by first | exact Nat.le_refl _ | (simp; done) | (simp; omega) | omega) _ | refine bel_trans ?_ (by assumption)))) hb_2
      have k_s_x := Lib.hid (s_x.out.below hP_)
      clear s_x
      have s_x := k_s_x
      clear k_s_x
      have k_s_y := Lib.hid (s_y.out.below hP_)
      clear s_y
      have s_y := k_s_y
      clear k_s_y
      have t_a := f_a.out
      have t_b := f_b.out
      have g_a : Blk w_2 (g1) 36 #[.int .u64 ah, .int .u64 al] := Blk.kept t_a hP_
      have g_b : Blk w_2 (g2) 36 #[.int .u64 bh, .int .u64 bl] := Blk.kept t_b hP_
      clear hP_
      clear f_a a_l a_0 a_1 a_f0 a_f1 f_b b_l b_0 b_1 b_f0 b_f1 t_a t_b hB_1 hb_2
      have f_a := g_a
      clear g_a
      have f_b := g_b
      clear g_b
      have a_0 : w_2.cell? ⟨g1, 0, none⟩ = some (.int .u64 ah) := (f_a).cell 0
      have a_1 : w_2.cell? ⟨g1, 1, none⟩ = some (.int .u64 al) := (f_a).cell 1
      have a_f0 := (f_a).frozen 0
      have a_f1 := (f_a).frozen 1
      have a_l := (f_a).lt
      replace f_a := Lib.hid f_a
      have b_0 : w_2.cell? ⟨g2, 0, none⟩ = some (.int .u64 bh) := (f_b).cell 0
      have b_1 : w_2.cell? ⟨g2, 1, none⟩ = some (.int .u64 bl) := (f_b).cell 1
      have b_f0 := (f_b).frozen 0
      have b_f1 := (f_b).frozen 1
      have b_l := (f_b).lt
      replace f_b := Lib.hid f_b
      replace hB_2 := Lib.hid hB_2
      clear HR

      by_cases q : cc = 0
      · subst q
        rcases Int.lt_trichotomy n m with q1 | q1 | q1
        · have q2 : decide (n < m) = true := by simpa using q1
          have q3 : wantV 0 n m = -1 := by unfold wantV; rw [if_pos ⟨rfl, q1⟩]
          rw [q3] at HC3
          replace q1 := Lib.hid q1
          clear q3
          go_wp2_with fail
          refine (HI.out _).mono ?_
          rintro e w_3 ⟨g5, rfl, j5, s_5, hb_3⟩
          have z_3 := hb_3.size
          try simp at z_3
          have t_ := hB_2.out
          have hB_3 := bel_eld (w := w) (X := _) (by first | ((repeat (first | with_reducible exact Below.refl _ _ | with_reducible assumption | (with_reducible refine bel_set ?_ (by first | exact Nat.le_refl _ | (simp; done) | (simp; omega) | omega) _) | with_reducible refine bel_grow ?_ _ | with_reducible refine Below.drew ?_ | with_reducible refine below_drewN ?_ _ | with_reducible refine bel_alloc ?_ _ | with_reducible refine bel_trans ?_ (by assumption))); done) | (repeat (first | exact Below.refl _ _ | assumption | refine below_drewN ?_ _ | refine bel_grow ?_ _ | refine Below.drew ?_ | refine bel_alloc ?_ _ | refine bel_set ?_ (by first | exact Nat.le_refl _ | (simp; done) | (simp; omega) | omega) _ | refine bel_trans ?_ (by assumption)))) hb_3
          clear t_
          have hP_ := bel_eld (w := w_2) (X := _) (by first | ((repeat (first | with_reducible exact Below.refl _ _ | with_reducible assumption | (with_reducible refine bel_set ?_ (by first | exact Nat.le_refl _ | (simp; done) | (simp; omega) | omega) _) | with_reducible refine bel_grow ?_ _ | with_reducible refine Below.drew ?_ | with_reducible refine below_drewN ?_ _ | with_reducible refine bel_alloc ?_ _ | with_reducible refine bel_trans ?_ (by assumption))); done) | (repeat (first | exact Below.refl _ _ | assumption | refine below_drewN ?_ _ | refine bel_grow ?_ _ | refine Below.drew ?_ | refine bel_alloc ?_ _ | refine bel_set ?_ (by first | exact Nat.le_refl _ | (simp; done) | (simp; omega) | omega) _ | refine bel_trans ?_ (by assumption)))) hb_3
          have k_s_x := Lib.hid (s_x.out.below hP_)
          clear s_x
          have s_x := k_s_x
          clear k_s_x
          have k_s_y := Lib.hid (s_y.out.below hP_)
          clear s_y
          have s_y := k_s_y
          clear k_s_y
          have t_a := f_a.out
          have t_b := f_b.out
          have g_a : Blk w_3 (g1) 36 #[.int .u64 ah, .int .u64 al] := Blk.kept t_a hP_
          have g_b : Blk w_3 (g2) 36 #[.int .u64 bh, .int .u64 bl] := Blk.kept t_b hP_
          clear hP_
          clear f_a a_l a_0 a_1 a_f0 a_f1 f_b b_l b_0 b_1 b_f0 b_f1 t_a t_b hB_2 hb_3
          have f_a := g_a
          clear g_a
          have f_b := g_b
          clear g_b
          have a_0 : w_3.cell? ⟨g1, 0, none⟩ = some (.int .u64 ah) := (f_a).cell 0
          have a_1 : w_3.cell? ⟨g1, 1, none⟩ = some (.int .u64 al) := (f_a).cell 1
          have a_f0 := (f_a).frozen 0
          have a_f1 := (f_a).frozen 1
          have a_l := (f_a).lt
          replace f_a := Lib.hid f_a
          have b_0 : w_3.cell? ⟨g2, 0, none⟩ = some (.int .u64 bh) := (f_b).cell 0
          have b_1 : w_3.cell? ⟨g2, 1, none⟩ = some (.int .u64 bl) := (f_b).cell 1
          have b_f0 := (f_b).frozen 0
          have b_f1 := (f_b).frozen 1
          have b_l := (f_b).lt
          replace f_b := Lib.hid f_b
          replace hB_3 := Lib.hid hB_3
          go_wp2_with fail
          refine (HL.out _ _ s_5).mono ?_
          rintro e w_4 ⟨g6, rfl, s_l, hb_4⟩
          have z_4 := hb_4.size
          try simp at z_4
          have t_ := hB_3.out
          have hB_4 := bel_eld (w := w) (X := _) (by first | ((repeat (first | with_reducible exact Below.refl _ _ | with_reducible assumption | (with_reducible refine bel_set ?_ (by first | exact Nat.le_refl _ | (simp; done) | (simp; omega) | omega) _) | with_reducible refine bel_grow ?_ _ | with_reducible refine Below.drew ?_ | with_reducible refine below_drewN ?_ _ | with_reducible refine bel_alloc ?_ _ | with_reducible refine bel_trans ?_ (by assumption))); done) | (repeat (first | exact Below.refl _ _ | assumption | refine below_drewN ?_ _ | refine bel_grow ?_ _ | refine Below.drew ?_ | refine bel_alloc ?_ _ | refine bel_set ?_ (by first | exact Nat.le_refl _ | (simp; done) | (simp; omega) | omega) _ | refine bel_trans ?_ (by assumption)))) hb_4
          clear t_
          have hP_ := bel_eld (w := w_3) (X := _) (by first | ((repeat (first | with_reducible exact Below.refl _ _ | with_reducible assumption | (with_reducible refine bel_set ?_ (by first | exact Nat.le_refl _ | (simp; done) | (simp; omega) | omega) _) | with_reducible refine bel_grow ?_ _ | with_reducible refine Below.drew ?_ | with_reducible refine below_drewN ?_ _ | with_reducible refine bel_alloc ?_ _ | with_reducible refine bel_trans ?_ (by assumption))); done) | (repeat (first | exact Below.refl _ _ | assumption | refine below_drewN ?_ _ | refine bel_grow ?_ _ | refine Below.drew ?_ | refine bel_alloc ?_ _ | refine bel_set ?_ (by first | exact Nat.le_refl _ | (simp; done) | (simp; omega) | omega) _ | refine bel_trans ?_ (by assumption)))) hb_4
          have k_s_x := Lib.hid (s_x.out.below hP_)
          clear s_x
          have s_x := k_s_x
          clear k_s_x
          have k_s_y := Lib.hid (s_y.out.below hP_)
          clear s_y
          have s_y := k_s_y
          clear k_s_y
          replace s_l := Lib.hid s_l
          have t_a := f_a.out
          have t_b := f_b.out
          have g_a : Blk w_4 (g1) 36 #[.int .u64 ah, .int .u64 al] := Blk.kept t_a hP_
          have g_b : Blk w_4 (g2) 36 #[.int .u64 bh, .int .u64 bl] := Blk.kept t_b hP_
          clear hP_
          clear f_a a_l a_0 a_1 a_f0 a_f1 f_b b_l b_0 b_1 b_f0 b_f1 t_a t_b hB_3 hb_4
          have f_a := g_a
          clear g_a
          have f_b := g_b
          clear g_b
          have a_0 : w_4.cell? ⟨g1, 0, none⟩ = some (.int .u64 ah) := (f_a).cell 0
          have a_1 : w_4.cell? ⟨g1, 1, none⟩ = some (.int .u64 al) := (f_a).cell 1
          have a_f0 := (f_a).frozen 0
          have a_f1 := (f_a).frozen 1
          have a_l := (f_a).lt
          replace f_a := Lib.hid f_a
          have b_0 : w_4.cell? ⟨g2, 0, none⟩ = some (.int .u64 bh) := (f_b).cell 0
          have b_1 : w_4.cell? ⟨g2, 1, none⟩ = some (.int .u64 bl) := (f_b).cell 1
          have b_f0 := (f_b).frozen 0
          have b_f1 := (f_b).frozen 1
          have b_l := (f_b).lt
          replace f_b := Lib.hid f_b
          replace hB_4 := Lib.hid hB_4
          go_wp2_with fail
          refine (HC1.out _ _ _ _ _ s_l.out s_y.out).mono ?_
          rintro e w_5 ⟨rfl, hb_5⟩
          have z_5 := hb_5.size
          try simp at z_5
          have t_ := hB_4.out
          have hB_5 := bel_eld (w := w) (X := _) (by first | ((repeat (first | with_reducible exact Below.refl _ _ | with_reducible assumption | (with_reducible refine bel_set ?_ (by first | exact Nat.le_refl _ | (simp; done) | (simp; omega) | omega) _) | with_reducible refine bel_grow ?_ _ | with_reducible refine Below.drew ?_ | with_reducible refine below_drewN ?_ _ | with_reducible refine bel_alloc ?_ _ | with_reducible refine bel_trans ?_ (by assumption))); done) | (repeat (first | exact Below.refl _ _ | assumption | refine below_drewN ?_ _ | refine bel_grow ?_ _ | refine Below.drew ?_ | refine bel_alloc ?_ _ | refine bel_set ?_ (by first | exact Nat.le_refl _ | (simp; done) | (simp; omega) | omega) _ | refine bel_trans ?_ (by assumption)))) hb_5
          clear t_
          have hP_ := bel_eld (w := w_4) (X := _) (by first | ((repeat (first | with_reducible exact Below.refl _ _ | with_reducible assumption | (with_reducible refine bel_set ?_ (by first | exact Nat.le_refl _ | (simp; done) | (simp; omega) | omega) _) | with_reducible refine bel_grow ?_ _ | with_reducible refine Below.drew ?_ | with_reducible refine below_drewN ?_ _ | with_reducible refine bel_alloc ?_ _ | with_reducible refine bel_trans ?_ (by assumption))); done) | (repeat (first | exact Below.refl _ _ | assumption | refine below_drewN ?_ _ | refine bel_grow ?_ _ | refine Below.drew ?_ | refine bel_alloc ?_ _ | refine bel_set ?_ (by first | exact Nat.le_refl _ | (simp; done) | (simp; omega) | omega) _ | refine bel_trans ?_ (by assumption)))) hb_5
          have k_s_x := Lib.hid (s_x.out.below hP_)
          clear s_x
          have s_x := k_s_x
          clear k_s_x
          have k_s_y := Lib.hid (s_y.out.below hP_)
          clear s_y
          have s_y := k_s_y
          clear k_s_y
          clear s_l
          have t_a := f_a.out
          have t_b := f_b.out
          have g_a : Blk w_5 (g1) 36 #[.int .u64 ah, .int .u64 al] := Blk.kept t_a hP_
          have g_b : Blk w_5 (g2) 36 #[.int .u64 bh, .int .u64 bl] := Blk.kept t_b hP_
          clear hP_
          clear f_a a_l a_0 a_1 a_f0 a_f1 f_b b_l b_0 b_1 b_f0 b_f1 t_a t_b hB_4 hb_5
          have f_a := g_a
          clear g_a
          have f_b := g_b
          clear g_b
          have a_0 : w_5.cell? ⟨g1, 0, none⟩ = some (.int .u64 ah) := (f_a).cell 0
          have a_1 : w_5.cell? ⟨g1, 1, none⟩ = some (.int .u64 al) := (f_a).cell 1
          have a_f0 := (f_a).frozen 0
          have a_f1 := (f_a).frozen 1
          have a_l := (f_a).lt
          replace f_a := Lib.hid f_a
          have b_0 : w_5.cell? ⟨g2, 0, none⟩ = some (.int .u64 bh) := (f_b).cell 0
          have b_1 : w_5.cell? ⟨g2, 1, none⟩ = some (.int .u64 bl) := (f_b).cell 1
          have b_f0 := (f_b).frozen 0
          have b_f1 := (f_b).frozen 1
          have b_l := (f_b).lt
          replace f_b := Lib.hid f_b
          replace hB_5 := Lib.hid hB_5
          clear HL HC1
          cases q : decide (v1 ≤ 0)
          case false =>
            have hE := Lib.hid (show (ah == bh && al == bl) = false by rw [← k2.out, q]; rfl)

            go_wp2_with fail
            refine (HX.out _).mono ?_
            rintro e w_6 ⟨rfl, hb_6⟩
            have z_6 := hb_6.size
            try simp at z_6
            have t_ := hB_5.out
            have hB_6 := bel_eld (w := w) (X := _) (by first | ((repeat (first | with_reducible exact Below.refl _ _ | with_reducible assumption | (with_reducible refine bel_set ?_ (by first | exact Nat.le_refl _ | (simp; done) | (simp; omega) | omega) _) | with_reducible refine bel_grow ?_ _ | with_reducible refine Below.drew ?_ | with_reducible refine below_drewN ?_ _ | with_reducible refine bel_alloc ?_ _ | with_reducible refine bel_trans ?_ (by assumption))); done) | (repeat (first | exact Below.refl _ _ | assumption | refine below_drewN ?_ _ | refine bel_grow ?_ _ | refine Below.drew ?_ | refine bel_alloc ?_ _ | refine bel_set ?_ (by first | exact Nat.le_refl _ | (simp; done) | (simp; omega) | omega) _ | refine bel_trans ?_ (by assumption)))) hb_6
            clear t_
            have hP_ := bel_eld (w := w_5) (X := _) (by first | ((repeat (first | with_reducible exact Below.refl _ _ | with_reducible assumption | (with_reducible refine bel_set ?_ (by first | exact Nat.le_refl _ | (simp; done) | (simp; omega) | omega) _) | with_reducible refine bel_grow ?_ _ | with_reducible refine Below.drew ?_ | with_reducible refine below_drewN ?_ _ | with_reducible refine bel_alloc ?_ _ | with_reducible refine bel_trans ?_ (by assumption))); done) | (repeat (first | exact Below.refl _ _ | assumption | refine below_drewN ?_ _ | refine bel_grow ?_ _ | refine Below.drew ?_ | refine bel_alloc ?_ _ | refine bel_set ?_ (by first | exact Nat.le_refl _ | (simp; done) | (simp; omega) | omega) _ | refine bel_trans ?_ (by assumption)))) hb_6
            have k_s_x := Lib.hid (s_x.out.below hP_)
            clear s_x
            have s_x := k_s_x
            clear k_s_x
            have k_s_y := Lib.hid (s_y.out.below hP_)
            clear s_y
            have s_y := k_s_y
            clear k_s_y
            have t_a := f_a.out
            have t_b := f_b.out
            have g_a : Blk w_6 (g1) 36 #[.int .u64 ah, .int .u64 al] := Blk.kept t_a hP_
            have g_b : Blk w_6 (g2) 36 #[.int .u64 bh, .int .u64 bl] := Blk.kept t_b hP_
            clear hP_
            clear f_a a_l a_0 a_1 a_f0 a_f1 f_b b_l b_0 b_1 b_f0 b_f1 t_a t_b hB_5 hb_6
            have f_a := g_a
            clear g_a
            have f_b := g_b
            clear g_b
            have a_0 : w_6.cell? ⟨g1, 0, none⟩ = some (.int .u64 ah) := (f_a).cell 0
            have a_1 : w_6.cell? ⟨g1, 1, none⟩ = some (.int .u64 al) := (f_a).cell 1
            have a_f0 := (f_a).frozen 0
            have a_f1 := (f_a).frozen 1
            have a_l := (f_a).lt
            replace f_a := Lib.hid f_a
            have b_0 : w_6.cell? ⟨g2, 0, none⟩ = some (.int .u64 bh) := (f_b).cell 0
            have b_1 : w_6.cell? ⟨g2, 1, none⟩ = some (.int .u64 bl) := (f_b).cell 1
            have b_f0 := (f_b).frozen 0
            have b_f1 := (f_b).frozen 1
            have b_l := (f_b).lt
            replace f_b := Lib.hid f_b
            replace hB_6 := Lib.hid hB_6
            go_wp2_with fail
            refine (HC3.out _ _ _ _ _ s_x.out s_y.out).mono ?_
            rintro e w_7 ⟨rfl, hb_7⟩
            have z_7 := hb_7.size
            try simp at z_7
            have t_ := hB_6.out
            have hB_7 := bel_eld (w := w) (X := _) (by first | ((repeat (first | with_reducible exact Below.refl _ _ | with_reducible assumption | (with_reducible refine bel_set ?_ (by first | exact Nat.le_refl _ | (simp; done) | (simp; omega) | omega) _) | with_reducible refine bel_grow ?_ _ | with_reducible refine Below.drew ?_ | with_reducible refine below_drewN ?_ _ | with_reducible refine bel_alloc ?_ _ | with_reducible refine bel_trans ?_ (by assumption))); done) | (repeat (first | exact Below.refl _ _ | assumption | refine below_drewN ?_ _ | refine bel_grow ?_ _ | refine Below.drew ?_ | refine bel_alloc ?_ _ | refine bel_set ?_ (by first | exact Nat.le_refl _ | (simp; done) | (simp; omega) | omega) _ | refine bel_trans ?_ (by assumption)))) hb_7
            clear t_
            have hP_ := bel_eld (w := w_6) (X := _) (by first | ((repeat (first | with_reducible exact Below.refl _ _ | with_reducible assumption | (with_reducible refine bel_set ?_ (by first | exact Nat.le_refl _ | (simp; done) | (simp; omega) | omega) _) | with_reducible refine bel_grow ?_ _ | with_reducible refine Below.drew ?_ | with_reducible refine below_drewN ?_ _ | with_reducible refine bel_alloc ?_ _ | with_reducible refine bel_trans ?_ (by assumption))); done) | (repeat (first | exact Below.refl _ _ | assumption | refine below_drewN ?_ _ | refine bel_grow ?_ _ | refine Below.drew ?_ | refine bel_alloc ?_ _ | refine bel_set ?_ (by first | exact Nat.le_refl _ | (simp; done) | (simp; omega) | omega) _ | refine bel_trans ?_ (by assumption)))) hb_7
            have k_s_x := Lib.hid (s_x.out.below hP_)
            clear s_x
            have s_x := k_s_x
            clear k_s_x
            have k_s_y := Lib.hid (s_y.out.below hP_)
            clear s_y
            have s_y := k_s_y
            clear k_s_y
            have t_a := f_a.out
            have t_b := f_b.out
            have g_a : Blk w_7 (g1) 36 #[.int .u64 ah, .int .u64 al] := Blk.kept t_a hP_
            have g_b : Blk w_7 (g2) 36 #[.int .u64 bh, .int .u64 bl] := Blk.kept t_b hP_
            clear hP_
            clear f_a a_l a_0 a_1 a_f0 a_f1 f_b b_l b_0 b_1 b_f0 b_f1 t_a t_b hB_6 hb_7
            have f_a := g_a
            clear g_a
            have f_b := g_b
            clear g_b
            have a_0 : w_7.cell? ⟨g1, 0, none⟩ = some (.int .u64 ah) := (f_a).cell 0
            have a_1 : w_7.cell? ⟨g1, 1, none⟩ = some (.int .u64 al) := (f_a).cell 1
            have a_f0 := (f_a).frozen 0
            have a_f1 := (f_a).frozen 1
            have a_l := (f_a).lt
            replace f_a := Lib.hid f_a
            have b_0 : w_7.cell? ⟨g2, 0, none⟩ = some (.int .u64 bh) := (f_b).cell 0
            have b_1 : w_7.cell? ⟨g2, 1, none⟩ = some (.int .u64 bl) := (f_b).cell 1
            have b_f0 := (f_b).frozen 0
            have b_f1 := (f_b).frozen 1
            have b_l := (f_b).lt
            replace f_b := Lib.hid f_b
            replace hB_7 := Lib.hid hB_7
            go_wp2_with fail
            go_ret
            exact ⟨by have hE2 := hE.out; first | rfl | (simp; done) | (simp; exact hE2) | (simp at hE2 ⊢; by_cases g : ah = bh; exact Or.inr (hE2 g); exact Or.inl g), by have t_B := hB_7.out; (repeat (first | with_reducible exact Below.refl _ _ | with_reducible assumption | (with_reducible refine bel_set ?_ (by first | exact Nat.le_refl _ | (simp; done) | (simp; omega) | omega) _) | with_reducible refine bel_grow ?_ _ | with_reducible refine Below.drew ?_ | with_reducible refine below_drewN ?_ _ | with_reducible refine bel_alloc ?_ _ | with_reducible refine bel_trans ?_ (by assumption)))⟩
          case true =>
            have hE := Lib.hid (show decide (v2 ≤ 0) = (ah == bh && al == bl) by rw [← k2.out, q]; rfl)

            go_wp2_with fail
            refine (HI.out _).mono ?_
            rintro e w_6 ⟨g8, rfl, j8, s_8, hb_6⟩
            have z_6 := hb_6.size
            try simp at z_6
            have t_ := hB_5.out
            have hB_6 := bel_eld (w := w) (X := _) (by first | ((repeat (first | with_reducible exact Below.refl _ _ | with_reducible assumption | (with_reducible refine bel_set ?_ (by first | exact Nat.le_refl _ | (simp; done) | (simp; omega) | omega) _) | with_reducible refine bel_grow ?_ _ | with_reducible refine Below.drew ?_ | with_reducible refine below_drewN ?_ _ | with_reducible refine bel_alloc ?_ _ | with_reducible refine bel_trans ?_ (by assumption))); done) | (repeat (first | exact Below.refl _ _ | assumption | refine below_drewN ?_ _ | refine bel_grow ?_ _ | refine Below.drew ?_ | refine bel_alloc ?_ _ | refine bel_set ?_ (by first | exact Nat.le_refl _ | (simp; done) | (simp; omega) | omega) _ | refine bel_trans ?_ (by assumption)))) hb_6
            clear t_
            have hP_ := bel_eld (w := w_5) (X := _) (by first | ((repeat (first | with_reducible exact Below.refl _ _ | with_reducible assumption | (with_reducible refine bel_set ?_ (by first | exact Nat.le_refl _ | (simp; done) | (simp; omega) | omega) _) | with_reducible refine bel_grow ?_ _ | with_reducible refine Below.drew ?_ | with_reducible refine below_drewN ?_ _ | with_reducible refine bel_alloc ?_ _ | with_reducible refine bel_trans ?_ (by assumption))); done) | (repeat (first | exact Below.refl _ _ | assumption | refine below_drewN ?_ _ | refine bel_grow ?_ _ | refine Below.drew ?_ | refine bel_alloc ?_ _ | refine bel_set ?_ (by first | exact Nat.le_refl _ | (simp; done) | (simp; omega) | omega) _ | refine bel_trans ?_ (by assumption)))) hb_6
            have k_s_x := Lib.hid (s_x.out.below hP_)
            clear s_x
            have s_x := k_s_x
            clear k_s_x
            have k_s_y := Lib.hid (s_y.out.below hP_)
            clear s_y
            have s_y := k_s_y
            clear k_s_y
            have t_a := f_a.out
            have t_b := f_b.out
            have g_a : Blk w_6 (g1) 36 #[.int .u64 ah, .int .u64 al] := Blk.kept t_a hP_
            have g_b : Blk w_6 (g2) 36 #[.int .u64 bh, .int .u64 bl] := Blk.kept t_b hP_
            clear hP_
            clear f_a a_l a_0 a_1 a_f0 a_f1 f_b b_l b_0 b_1 b_f0 b_f1 t_a t_b hB_5 hb_6
            have f_a := g_a
            clear g_a
            have f_b := g_b
            clear g_b
            have a_0 : w_6.cell? ⟨g1, 0, none⟩ = some (.int .u64 ah) := (f_a).cell 0
            have a_1 : w_6.cell? ⟨g1, 1, none⟩ = some (.int .u64 al) := (f_a).cell 1
            have a_f0 := (f_a).frozen 0
            have a_f1 := (f_a).frozen 1
            have a_l := (f_a).lt
            replace f_a := Lib.hid f_a
            have b_0 : w_6.cell? ⟨g2, 0, none⟩ = some (.int .u64 bh) := (f_b).cell 0
            have b_1 : w_6.cell? ⟨g2, 1, none⟩ = some (.int .u64 bl) := (f_b).cell 1
            have b_f0 := (f_b).frozen 0
            have b_f1 := (f_b).frozen 1
            have b_l := (f_b).lt
            replace f_b := Lib.hid f_b
            replace hB_6 := Lib.hid hB_6
            go_wp2_with fail
            refine (HH.out _ _ s_8).mono ?_
            rintro e w_7 ⟨g9, rfl, s_h, hb_7⟩
            have z_7 := hb_7.size
            try simp at z_7
            have t_ := hB_6.out
            have hB_7 := bel_eld (w := w) (X := _) (by first | ((repeat (first | with_reducible exact Below.refl _ _ | with_reducible assumption | (with_reducible refine bel_set ?_ (by first | exact Nat.le_refl _ | (simp; done) | (simp; omega) | omega) _) | with_reducible refine bel_grow ?_ _ | with_reducible refine Below.drew ?_ | with_reducible refine below_drewN ?_ _ | with_reducible refine bel_alloc ?_ _ | with_reducible refine bel_trans ?_ (by assumption))); done) | (repeat (first | exact Below.refl _ _ | assumption | refine below_drewN ?_ _ | refine bel_grow ?_ _ | refine Below.drew ?_ | refine bel_alloc ?_ _ | refine bel_set ?_ (by first | exact Nat.le_refl _ | (simp; done) | (simp; omega) | omega) _ | refine bel_trans ?_ (by assumption)))) hb_7
            clear t_
            have hP_ := bel_eld (w := w_6) (X := _) (by first | ((repeat (first | with_reducible exact Below.refl _ _ | with_reducible assumption | (with_reducible refine bel_set ?_ (by first | exact Nat.le_refl _ | (simp; done) | (simp; omega) | omega) _) | with_reducible refine bel_grow ?_ _ | with_reducible refine Below.drew ?_ | with_reducible refine below_drewN ?_ _ | with_reducible refine bel_alloc ?_ _ | with_reducible refine bel_trans ?_ (by assumption))); done) | (repeat (first | exact Below.refl _ _ | assumption | refine below_drewN ?_ _ | refine bel_grow ?_ _ | refine Below.drew ?_ | refine bel_alloc ?_ _ | refine bel_set ?_ (by first | exact Nat.le_refl _ | (simp; done) | (simp; omega) | omega) _ | refine bel_trans ?_ (by assumption)))) hb_7
            have k_s_x := Lib.hid (s_x.out.below hP_)
            clear s_x
            have s_x := k_s_x
            clear k_s_x
            have k_s_y := Lib.hid (s_y.out.below hP_)
            clear s_y
            have s_y := k_s_y
            clear k_s_y
            replace s_h := Lib.hid s_h
            have t_a := f_a.out
            have t_b := f_b.out
            have g_a : Blk w_7 (g1) 36 #[.int .u64 ah, .int .u64 al] := Blk.kept t_a hP_
            have g_b : Blk w_7 (g2) 36 #[.int .u64 bh, .int .u64 bl] := Blk.kept t_b hP_
            clear hP_
            clear f_a a_l a_0 a_1 a_f0 a_f1 f_b b_l b_0 b_1 b_f0 b_f1 t_a t_b hB_6 hb_7
            have f_a := g_a
            clear g_a
            have f_b := g_b
            clear g_b
            have a_0 : w_7.cell? ⟨g1, 0, none⟩ = some (.int .u64 ah) := (f_a).cell 0
            have a_1 : w_7.cell? ⟨g1, 1, none⟩ = some (.int .u64 al) := (f_a).cell 1
            have a_f0 := (f_a).frozen 0
            have a_f1 := (f_a).frozen 1
            have a_l := (f_a).lt
            replace f_a := Lib.hid f_a
            have b_0 : w_7.cell? ⟨g2, 0, none⟩ = some (.int .u64 bh) := (f_b).cell 0
            have b_1 : w_7.cell? ⟨g2, 1, none⟩ = some (.int .u64 bl) := (f_b).cell 1
            have b_f0 := (f_b).frozen 0
            have b_f1 := (f_b).frozen 1
            have b_l := (f_b).lt
            replace f_b := Lib.hid f_b
            replace hB_7 := Lib.hid hB_7
            go_wp2_with fail
            refine (HC2.out _ _ _ _ _ s_y.out s_h.out).mono ?_
            rintro e w_8 ⟨rfl, hb_8⟩
            have z_8 := hb_8.size
            try simp at z_8
            have t_ := hB_7.out
            have hB_8 := bel_eld (w := w) (X := _) (by first | ((repeat (first | with_reducible exact Below.refl _ _ | with_reducible assumption | (with_reducible refine bel_set ?_ (by first | exact Nat.le_refl _ | (simp; done) | (simp; omega) | omega) _) | with_reducible refine bel_grow ?_ _ | with_reducible refine Below.drew ?_ | with_reducible refine below_drewN ?_ _ | with_reducible refine bel_alloc ?_ _ | with_reducible refine bel_trans ?_ (by assumption))); done) | (repeat (first | exact Below.refl _ _ | assumption | refine below_drewN ?_ _ | refine bel_grow ?_ _ | refine Below.drew ?_ | refine bel_alloc ?_ _ | refine bel_set ?_ (by first | exact Nat.le_refl _ | (simp; done) | (simp; omega) | omega) _ | refine bel_trans ?_ (by assumption)))) hb_8
            clear t_
            have hP_ := bel_eld (w := w_7) (X := _) (by first | ((repeat (first | with_reducible exact Below.refl _ _ | with_reducible assumption | (with_reducible refine bel_set ?_ (by first | exact Nat.le_refl _ | (simp; done) | (simp; omega) | omega) _) | with_reducible refine bel_grow ?_ _ | with_reducible refine Below.drew ?_ | with_reducible refine below_drewN ?_ _ | with_reducible refine bel_alloc ?_ _ | with_reducible refine bel_trans ?_ (by assumption))); done) | (repeat (first | exact Below.refl _ _ | assumption | refine below_drewN ?_ _ | refine bel_grow ?_ _ | refine Below.drew ?_ | refine bel_alloc ?_ _ | refine bel_set ?_ (by first | exact Nat.le_refl _ | (simp; done) | (simp; omega) | omega) _ | refine bel_trans ?_ (by assumption)))) hb_8
            have k_s_x := Lib.hid (s_x.out.below hP_)
            clear s_x
            have s_x := k_s_x
            clear k_s_x
            have k_s_y := Lib.hid (s_y.out.below hP_)
            clear s_y
            have s_y := k_s_y
            clear k_s_y
            clear s_h
            have t_a := f_a.out
            have t_b := f_b.out
            have g_a : Blk w_8 (g1) 36 #[.int .u64 ah, .int .u64 al] := Blk.kept t_a hP_
            have g_b : Blk w_8 (g2) 36 #[.int .u64 bh, .int .u64 bl] := Blk.kept t_b hP_
            clear hP_
            clear f_a a_l a_0 a_1 a_f0 a_f1 f_b b_l b_0 b_1 b_f0 b_f1 t_a t_b hB_7 hb_8
            have f_a := g_a
            clear g_a
            have f_b := g_b
            clear g_b
            have a_0 : w_8.cell? ⟨g1, 0, none⟩ = some (.int .u64 ah) := (f_a).cell 0
            have a_1 : w_8.cell? ⟨g1, 1, none⟩ = some (.int .u64 al) := (f_a).cell 1
            have a_f0 := (f_a).frozen 0
            have a_f1 := (f_a).frozen 1
            have a_l := (f_a).lt
            replace f_a := Lib.hid f_a
            have b_0 : w_8.cell? ⟨g2, 0, none⟩ = some (.int .u64 bh) := (f_b).cell 0
            have b_1 : w_8.cell? ⟨g2, 1, none⟩ = some (.int .u64 bl) := (f_b).cell 1
            have b_f0 := (f_b).frozen 0
            have b_f1 := (f_b).frozen 1
            have b_l := (f_b).lt
            replace f_b := Lib.hid f_b
            replace hB_8 := Lib.hid hB_8
            go_wp2_with fail
            refine (HX.out _).mono ?_
            rintro e w_9 ⟨rfl, hb_9⟩
            have z_9 := hb_9.size
            try simp at z_9
            have t_ := hB_8.out
            have hB_9 := bel_eld (w := w) (X := _) (by first | ((repeat (first | with_reducible exact Below.refl _ _ | with_reducible assumption | (with_reducible refine bel_set ?_ (by first | exact Nat.le_refl _ | (simp; done) | (simp; omega) | omega) _) | with_reducible refine bel_grow ?_ _ | with_reducible refine Below.drew ?_ | with_reducible refine below_drewN ?_ _ | with_reducible refine bel_alloc ?_ _ | with_reducible refine bel_trans ?_ (by assumption))); done) | (repeat (first | exact Below.refl _ _ | assumption | refine below_drewN ?_ _ | refine bel_grow ?_ _ | refine Below.drew ?_ | refine bel_alloc ?_ _ | refine bel_set ?_ (by first | exact Nat.le_refl _ | (simp; done) | (simp; omega) | omega) _ | refine bel_trans ?_ (by assumption)))) hb_9
            clear t_
            have hP_ := bel_eld (w := w_8) (X := _) (by first | ((repeat (first | with_reducible exact Below.refl _ _ | with_reducible assumption | (with_reducible refine bel_set ?_ (by first | exact Nat.le_refl _ | (simp; done) | (simp; omega) | omega) _) | with_reducible refine bel_grow ?_ _ | with_reducible refine Below.drew ?_ | with_reducible refine below_drewN ?_ _ | with_reducible refine bel_alloc ?_ _ | with_reducible refine bel_trans ?_ (by assumption))); done) | (repeat (first | exact Below.refl _ _ | assumption | refine below_drewN ?_ _ | refine bel_grow ?_ _ | refine Below.drew ?_ | refine bel_alloc ?_ _ | refine bel_set ?_ (by first | exact Nat.le_refl _ | (simp; done) | (simp; omega) | omega) _ | refine bel_trans ?_ (by assumption)))) hb_9
            have k_s_x := Lib.hid (s_x.out.below hP_)
            clear s_x
            have s_x := k_s_x
            clear k_s_x
            have k_s_y := Lib.hid (s_y.out.below hP_)
            clear s_y
            have s_y := k_s_y
            clear k_s_y
            have t_a := f_a.out
            have t_b := f_b.out
            have g_a : Blk w_9 (g1) 36 #[.int .u64 ah, .int .u64 al] := Blk.kept t_a hP_
            have g_b : Blk w_9 (g2) 36 #[.int .u64 bh, .int .u64 bl] := Blk.kept t_b hP_
            clear hP_
            clear f_a a_l a_0 a_1 a_f0 a_f1 f_b b_l b_0 b_1 b_f0 b_f1 t_a t_b hB_8 hb_9
            have f_a := g_a
            clear g_a
            have f_b := g_b
            clear g_b
            have a_0 : w_9.cell? ⟨g1, 0, none⟩ = some (.int .u64 ah) := (f_a).cell 0
            have a_1 : w_9.cell? ⟨g1, 1, none⟩ = some (.int .u64 al) := (f_a).cell 1
            have a_f0 := (f_a).frozen 0
            have a_f1 := (f_a).frozen 1
            have a_l := (f_a).lt
            replace f_a := Lib.hid f_a
            have b_0 : w_9.cell? ⟨g2, 0, none⟩ = some (.int .u64 bh) := (f_b).cell 0
            have b_1 : w_9.cell? ⟨g2, 1, none⟩ = some (.int .u64 bl) := (f_b).cell 1
            have b_f0 := (f_b).frozen 0
            have b_f1 := (f_b).frozen 1
            have b_l := (f_b).lt
            replace f_b := Lib.hid f_b
            replace hB_9 := Lib.hid hB_9
            go_wp2_with fail
            refine (HC3.out _ _ _ _ _ s_x.out s_y.out).mono ?_
            rintro e w_10 ⟨rfl, hb_10⟩
            have z_10 := hb_10.size
            try simp at z_10
            have t_ := hB_9.out
            have hB_10 := bel_eld (w := w) (X := _) (by first | ((repeat (first | with_reducible exact Below.refl _ _ | with_reducible assumption | (with_reducible refine bel_set ?_ (by first | exact Nat.le_refl _ | (simp; done) | (simp; omega) | omega) _) | with_reducible refine bel_grow ?_ _ | with_reducible refine Below.drew ?_ | with_reducible refine below_drewN ?_ _ | with_reducible refine bel_alloc ?_ _ | with_reducible refine bel_trans ?_ (by assumption))); done) | (repeat (first | exact Below.refl _ _ | assumption | refine below_drewN ?_ _ | refine bel_grow ?_ _ | refine Below.drew ?_ | refine bel_alloc ?_ _ | refine bel_set ?_ (by first | exact Nat.le_refl _ | (simp; done) | (simp; omega) | omega) _ | refine bel_trans ?_ (by assumption)))) hb_10
            clear t_
            have hP_ := bel_eld (w := w_9) (X := _) (by first | ((repeat (first | with_reducible exact Below.refl _ _ | with_reducible assumption | (with_reducible refine bel_set ?_ (by first | exact Nat.le_refl _ | (simp; done) | (simp; omega) | omega) _) | with_reducible refine bel_grow ?_ _ | with_reducible refine Below.drew ?_ | with_reducible refine below_drewN ?_ _ | with_reducible refine bel_alloc ?_ _ | with_reducible refine bel_trans ?_ (by assumption))); done) | (repeat (first | exact Below.refl _ _ | assumption | refine below_drewN ?_ _ | refine bel_grow ?_ _ | refine Below.drew ?_ | refine bel_alloc ?_ _ | refine bel_set ?_ (by first | exact Nat.le_refl _ | (simp; done) | (simp; omega) | omega) _ | refine bel_trans ?_ (by assumption)))) hb_10
            have k_s_x := Lib.hid (s_x.out.below hP_)
            clear s_x
            have s_x := k_s_x
            clear k_s_x
            have k_s_y := Lib.hid (s_y.out.below hP_)
            clear s_y
            have s_y := k_s_y
            clear k_s_y
            have t_a := f_a.out
            have t_b := f_b.out
            have g_a : Blk w_10 (g1) 36 #[.int .u64 ah, .int .u64 al] := Blk.kept t_a hP_
            have g_b : Blk w_10 (g2) 36 #[.int .u64 bh, .int .u64 bl] := Blk.kept t_b hP_
            clear hP_
            clear f_a a_l a_0 a_1 a_f0 a_f1 f_b b_l b_0 b_1 b_f0 b_f1 t_a t_b hB_9 hb_10
            have f_a := g_a
            clear g_a
            have f_b := g_b
            clear g_b
            have a_0 : w_10.cell? ⟨g1, 0, none⟩ = some (.int .u64 ah) := (f_a).cell 0
            have a_1 : w_10.cell? ⟨g1, 1, none⟩ = some (.int .u64 al) := (f_a).cell 1
            have a_f0 := (f_a).frozen 0
            have a_f1 := (f_a).frozen 1
            have a_l := (f_a).lt
            replace f_a := Lib.hid f_a
            have b_0 : w_10.cell? ⟨g2, 0, none⟩ = some (.int .u64 bh) := (f_b).cell 0
            have b_1 : w_10.cell? ⟨g2, 1, none⟩ = some (.int .u64 bl) := (f_b).cell 1
            have b_f0 := (f_b).frozen 0
            have b_f1 := (f_b).frozen 1
            have b_l := (f_b).lt
            replace f_b := Lib.hid f_b
            replace hB_10 := Lib.hid hB_10
            go_wp2_with fail
            go_ret
            exact ⟨by have hE2 := hE.out; first | rfl | (simp; done) | (simp; exact hE2) | (simp at hE2 ⊢; by_cases g : ah = bh; exact Or.inr (hE2 g); exact Or.inl g), by have t_B := hB_10.out; (repeat (first | with_reducible exact Below.refl _ _ | with_reducible assumption | (with_reducible refine bel_set ?_ (by first | exact Nat.le_refl _ | (simp; done) | (simp; omega) | omega) _) | with_reducible refine bel_grow ?_ _ | with_reducible refine Below.drew ?_ | with_reducible refine below_drewN ?_ _ | with_reducible refine bel_alloc ?_ _ | with_reducible refine bel_trans ?_ (by assumption)))⟩
        · subst q1
          have q3 : wantV 0 n n = 0 := by unfold wantV; rw [if_neg (by omega), if_neg (by omega)]
          rw [q3] at HC3
          clear q3

          go_wp2_with fail
          refine (HI.out _).mono ?_
          rintro e w_3 ⟨g5, rfl, j5, s_5, hb_3⟩
          have z_3 := hb_3.size
          try simp at z_3
          have t_ := hB_2.out
          have hB_3 := bel_eld (w := w) (X := _) (by first | ((repeat (first | with_reducible exact Below.refl _ _ | with_reducible assumption | (with_reducible refine bel_set ?_ (by first | exact Nat.le_refl _ | (simp; done) | (simp; omega) | omega) _) | with_reducible refine bel_grow ?_ _ | with_reducible refine Below.drew ?_ | with_reducible refine below_drewN ?_ _ | with_reducible refine bel_alloc ?_ _ | with_reducible refine bel_trans ?_ (by assumption))); done) | (repeat (first | exact Below.refl _ _ | assumption | refine below_drewN ?_ _ | refine bel_grow ?_ _ | refine Below.drew ?_ | refine bel_alloc ?_ _ | refine bel_set ?_ (by first | exact Nat.le_refl _ | (simp; done) | (simp; omega) | omega) _ | refine bel_trans ?_ (by assumption)))) hb_3
          clear t_
          have hP_ := bel_eld (w := w_2) (X := _) (by first | ((repeat (first | with_reducible exact Below.refl _ _ | with_reducible assumption | (with_reducible refine bel_set ?_ (by first | exact Nat.le_refl _ | (simp; done) | (simp; omega) | omega) _) | with_reducible refine bel_grow ?_ _ | with_reducible refine Below.drew ?_ | with_reducible refine below_drewN ?_ _ | with_reducible refine bel_alloc ?_ _ | with_reducible refine bel_trans ?_ (by assumption))); done) | (repeat (first | exact Below.refl _ _ | assumption | refine below_drewN ?_ _ | refine bel_grow ?_ _ | refine Below.drew ?_ | refine bel_alloc ?_ _ | refine bel_set ?_ (by first | exact Nat.le_refl _ | (simp; done) | (simp; omega) | omega) _ | refine bel_trans ?_ (by assumption)))) hb_3
          have k_s_x := Lib.hid (s_x.out.below hP_)
          clear s_x
          have s_x := k_s_x
          clear k_s_x
          have k_s_y := Lib.hid (s_y.out.below hP_)
          clear s_y
          have s_y := k_s_y
          clear k_s_y
          have t_a := f_a.out
          have t_b := f_b.out
          have g_a : Blk w_3 (g1) 36 #[.int .u64 ah, .int .u64 al] := Blk.kept t_a hP_
          have g_b : Blk w_3 (g2) 36 #[.int .u64 bh, .int .u64 bl] := Blk.kept t_b hP_
          clear hP_
          clear f_a a_l a_0 a_1 a_f0 a_f1 f_b b_l b_0 b_1 b_f0 b_f1 t_a t_b hB_2 hb_3
          have f_a := g_a
          clear g_a
          have f_b := g_b
          clear g_b
          have a_0 : w_3.cell? ⟨g1, 0, none⟩ = some (.int .u64 ah) := (f_a).cell 0
          have a_1 : w_3.cell? ⟨g1, 1, none⟩ = some (.int .u64 al) := (f_a).cell 1
          have a_f0 := (f_a).frozen 0
          have a_f1 := (f_a).frozen 1
          have a_l := (f_a).lt
          replace f_a := Lib.hid f_a
          have b_0 : w_3.cell? ⟨g2, 0, none⟩ = some (.int .u64 bh) := (f_b).cell 0
          have b_1 : w_3.cell? ⟨g2, 1, none⟩ = some (.int .u64 bl) := (f_b).cell 1
          have b_f0 := (f_b).frozen 0
          have b_f1 := (f_b).frozen 1
          have b_l := (f_b).lt
          replace f_b := Lib.hid f_b
          replace hB_3 := Lib.hid hB_3
          go_wp2_with fail
          refine (HL.out _ _ s_5).mono ?_
          rintro e w_4 ⟨g6, rfl, s_l, hb_4⟩
          have z_4 := hb_4.size
          try simp at z_4
          have t_ := hB_3.out
          have hB_4 := bel_eld (w := w) (X := _) (by first | ((repeat (first | with_reducible exact Below.refl _ _ | with_reducible assumption | (with_reducible refine bel_set ?_ (by first | exact Nat.le_refl _ | (simp; done) | (simp; omega) | omega) _) | with_reducible refine bel_grow ?_ _ | with_reducible refine Below.drew ?_ | with_reducible refine below_drewN ?_ _ | with_reducible refine bel_alloc ?_ _ | with_reducible refine bel_trans ?_ (by assumption))); done) | (repeat (first | exact Below.refl _ _ | assumption | refine below_drewN ?_ _ | refine bel_grow ?_ _ | refine Below.drew ?_ | refine bel_alloc ?_ _ | refine bel_set ?_ (by first | exact Nat.le_refl _ | (simp; done) | (simp; omega) | omega) _ | refine bel_trans ?_ (by assumption)))) hb_4
          clear t_
          have hP_ := bel_eld (w := w_3) (X := _) (by first | ((repeat (first | with_reducible exact Below.refl _ _ | with_reducible assumption | (with_reducible refine bel_set ?_ (by first | exact Nat.le_refl _ | (simp; done) | (simp; omega) | omega) _) | with_reducible refine bel_grow ?_ _ | with_reducible refine Below.drew ?_ | with_reducible refine below_drewN ?_ _ | with_reducible refine bel_alloc ?_ _ | with_reducible refine bel_trans ?_ (by assumption))); done) | (repeat (first | exact Below.refl _ _ | assumption | refine below_drewN ?_ _ | refine bel_grow ?_ _ | refine Below.drew ?_ | refine bel_alloc ?_ _ | refine bel_set ?_ (by first | exact Nat.le_refl _ | (simp; done) | (simp; omega) | omega) _ | refine bel_trans ?_ (by assumption)))) hb_4
          have k_s_x := Lib.hid (s_x.out.below hP_)
          clear s_x
          have s_x := k_s_x
          clear k_s_x
          have k_s_y := Lib.hid (s_y.out.below hP_)
          clear s_y
          have s_y := k_s_y
          clear k_s_y
          replace s_l := Lib.hid s_l
          have t_a := f_a.out
          have t_b := f_b.out
          have g_a : Blk w_4 (g1) 36 #[.int .u64 ah, .int .u64 al] := Blk.kept t_a hP_
          have g_b : Blk w_4 (g2) 36 #[.int .u64 bh, .int .u64 bl] := Blk.kept t_b hP_
          clear hP_
          clear f_a a_l a_0 a_1 a_f0 a_f1 f_b b_l b_0 b_1 b_f0 b_f1 t_a t_b hB_3 hb_4
          have f_a := g_a
          clear g_a
          have f_b := g_b
          clear g_b
          have a_0 : w_4.cell? ⟨g1, 0, none⟩ = some (.int .u64 ah) := (f_a).cell 0
          have a_1 : w_4.cell? ⟨g1, 1, none⟩ = some (.int .u64 al) := (f_a).cell 1
          have a_f0 := (f_a).frozen 0
          have a_f1 := (f_a).frozen 1
          have a_l := (f_a).lt
          replace f_a := Lib.hid f_a
          have b_0 : w_4.cell? ⟨g2, 0, none⟩ = some (.int .u64 bh) := (f_b).cell 0
          have b_1 : w_4.cell? ⟨g2, 1, none⟩ = some (.int .u64 bl) := (f_b).cell 1
          have b_f0 := (f_b).frozen 0
          have b_f1 := (f_b).frozen 1
          have b_l := (f_b).lt
          replace f_b := Lib.hid f_b
          replace hB_4 := Lib.hid hB_4
          go_wp2_with fail
          refine (HC1.out _ _ _ _ _ s_l.out s_y.out).mono ?_
          rintro e w_5 ⟨rfl, hb_5⟩
          have z_5 := hb_5.size
          try simp at z_5
          have t_ := hB_4.out
          have hB_5 := bel_eld (w := w) (X := _) (by first | ((repeat (first | with_reducible exact Below.refl _ _ | with_reducible assumption | (with_reducible refine bel_set ?_ (by first | exact Nat.le_refl _ | (simp; done) | (simp; omega) | omega) _) | with_reducible refine bel_grow ?_ _ | with_reducible refine Below.drew ?_ | with_reducible refine below_drewN ?_ _ | with_reducible refine bel_alloc ?_ _ | with_reducible refine bel_trans ?_ (by assumption))); done) | (repeat (first | exact Below.refl _ _ | assumption | refine below_drewN ?_ _ | refine bel_grow ?_ _ | refine Below.drew ?_ | refine bel_alloc ?_ _ | refine bel_set ?_ (by first | exact Nat.le_refl _ | (simp; done) | (simp; omega) | omega) _ | refine bel_trans ?_ (by assumption)))) hb_5
          clear t_
          have hP_ := bel_eld (w := w_4) (X := _) (by first | ((repeat (first | with_reducible exact Below.refl _ _ | with_reducible assumption | (with_reducible refine bel_set ?_ (by first | exact Nat.le_refl _ | (simp; done) | (simp; omega) | omega) _) | with_reducible refine bel_grow ?_ _ | with_reducible refine Below.drew ?_ | with_reducible refine below_drewN ?_ _ | with_reducible refine bel_alloc ?_ _ | with_reducible refine bel_trans ?_ (by assumption))); done) | (repeat (first | exact Below.refl _ _ | assumption | refine below_drewN ?_ _ | refine bel_grow ?_ _ | refine Below.drew ?_ | refine bel_alloc ?_ _ | refine bel_set ?_ (by first | exact Nat.le_refl _ | (simp; done) | (simp; omega) | omega) _ | refine bel_trans ?_ (by assumption)))) hb_5
          have k_s_x := Lib.hid (s_x.out.below hP_)
          clear s_x
          have s_x := k_s_x
          clear k_s_x
          have k_s_y := Lib.hid (s_y.out.below hP_)
          clear s_y
          have s_y := k_s_y
          clear k_s_y
          clear s_l
          have t_a := f_a.out
          have t_b := f_b.out
          have g_a : Blk w_5 (g1) 36 #[.int .u64 ah, .int .u64 al] := Blk.kept t_a hP_
          have g_b : Blk w_5 (g2) 36 #[.int .u64 bh, .int .u64 bl] := Blk.kept t_b hP_
          clear hP_
          clear f_a a_l a_0 a_1 a_f0 a_f1 f_b b_l b_0 b_1 b_f0 b_f1 t_a t_b hB_4 hb_5
          have f_a := g_a
          clear g_a
          have f_b := g_b
          clear g_b
          have a_0 : w_5.cell? ⟨g1, 0, none⟩ = some (.int .u64 ah) := (f_a).cell 0
          have a_1 : w_5.cell? ⟨g1, 1, none⟩ = some (.int .u64 al) := (f_a).cell 1
          have a_f0 := (f_a).frozen 0
          have a_f1 := (f_a).frozen 1
          have a_l := (f_a).lt
          replace f_a := Lib.hid f_a
          have b_0 : w_5.cell? ⟨g2, 0, none⟩ = some (.int .u64 bh) := (f_b).cell 0
          have b_1 : w_5.cell? ⟨g2, 1, none⟩ = some (.int .u64 bl) := (f_b).cell 1
          have b_f0 := (f_b).frozen 0
          have b_f1 := (f_b).frozen 1
          have b_l := (f_b).lt
          replace f_b := Lib.hid f_b
          replace hB_5 := Lib.hid hB_5
          clear HL HC1
          cases q : decide (v1 ≤ 0)
          case false =>
            have hE := Lib.hid (show (ah == bh && al == bl) = false by rw [← k2.out, q]; rfl)

            go_wp2_with fail
            refine (HX.out _).mono ?_
            rintro e w_6 ⟨rfl, hb_6⟩
            have z_6 := hb_6.size
            try simp at z_6
            have t_ := hB_5.out
            have hB_6 := bel_eld (w := w) (X := _) (by first | ((repeat (first | with_reducible exact Below.refl _ _ | with_reducible assumption | (with_reducible refine bel_set ?_ (by first | exact Nat.le_refl _ | (simp; done) | (simp; omega) | omega) _) | with_reducible refine bel_grow ?_ _ | with_reducible refine Below.drew ?_ | with_reducible refine below_drewN ?_ _ | with_reducible refine bel_alloc ?_ _ | with_reducible refine bel_trans ?_ (by assumption))); done) | (repeat (first | exact Below.refl _ _ | assumption | refine below_drewN ?_ _ | refine bel_grow ?_ _ | refine Below.drew ?_ | refine bel_alloc ?_ _ | refine bel_set ?_ (by first | exact Nat.le_refl _ | (simp; done) | (simp; omega) | omega) _ | refine bel_trans ?_ (by assumption)))) hb_6
            clear t_
            have hP_ := bel_eld (w := w_5) (X := _) (by first | ((repeat (first | with_reducible exact Below.refl _ _ | with_reducible assumption | (with_reducible refine bel_set ?_ (by first | exact Nat.le_refl _ | (simp; done) | (simp; omega) | omega) _) | with_reducible refine bel_grow ?_ _ | with_reducible refine Below.drew ?_ | with_reducible refine below_drewN ?_ _ | with_reducible refine bel_alloc ?_ _ | with_reducible refine bel_trans ?_ (by assumption))); done) | (repeat (first | exact Below.refl _ _ | assumption | refine below_drewN ?_ _ | refine bel_grow ?_ _ | refine Below.drew ?_ | refine bel_alloc ?_ _ | refine bel_set ?_ (by first | exact Nat.le_refl _ | (simp; done) | (simp; omega) | omega) _ | refine bel_trans ?_ (by assumption)))) hb_6
            have k_s_x := Lib.hid (s_x.out.below hP_)
            clear s_x
            have s_x := k_s_x
            clear k_s_x
            have k_s_y := Lib.hid (s_y.out.below hP_)
            clear s_y
            have s_y := k_s_y
            clear k_s_y
            have t_a := f_a.out
            have t_b := f_b.out
            have g_a : Blk w_6 (g1) 36 #[.int .u64 ah, .int .u64 al] := Blk.kept t_a hP_
            have g_b : Blk w_6 (g2) 36 #[.int .u64 bh, .int .u64 bl] := Blk.kept t_b hP_
            clear hP_
            clear f_a a_l a_0 a_1 a_f0 a_f1 f_b b_l b_0 b_1 b_f0 b_f1 t_a t_b hB_5 hb_6
            have f_a := g_a
            clear g_a
            have f_b := g_b
            clear g_b
            have a_0 : w_6.cell? ⟨g1, 0, none⟩ = some (.int .u64 ah) := (f_a).cell 0
            have a_1 : w_6.cell? ⟨g1, 1, none⟩ = some (.int .u64 al) := (f_a).cell 1
            have a_f0 := (f_a).frozen 0
            have a_f1 := (f_a).frozen 1
            have a_l := (f_a).lt
            replace f_a := Lib.hid f_a
            have b_0 : w_6.cell? ⟨g2, 0, none⟩ = some (.int .u64 bh) := (f_b).cell 0
            have b_1 : w_6.cell? ⟨g2, 1, none⟩ = some (.int .u64 bl) := (f_b).cell 1
            have b_f0 := (f_b).frozen 0
            have b_f1 := (f_b).frozen 1
            have b_l := (f_b).lt
            replace f_b := Lib.hid f_b
            replace hB_6 := Lib.hid hB_6
            go_wp2_with fail
            refine (HC3.out _ _ _ _ _ s_x.out s_y.out).mono ?_
            rintro e w_7 ⟨rfl, hb_7⟩
            have z_7 := hb_7.size
            try simp at z_7
            have t_ := hB_6.out
            have hB_7 := bel_eld (w := w) (X := _) (by first | ((repeat (first | with_reducible exact Below.refl _ _ | with_reducible assumption | (with_reducible refine bel_set ?_ (by first | exact Nat.le_refl _ | (simp; done) | (simp; omega) | omega) _) | with_reducible refine bel_grow ?_ _ | with_reducible refine Below.drew ?_ | with_reducible refine below_drewN ?_ _ | with_reducible refine bel_alloc ?_ _ | with_reducible refine bel_trans ?_ (by assumption))); done) | (repeat (first | exact Below.refl _ _ | assumption | refine below_drewN ?_ _ | refine bel_grow ?_ _ | refine Below.drew ?_ | refine bel_alloc ?_ _ | refine bel_set ?_ (by first | exact Nat.le_refl _ | (simp; done) | (simp; omega) | omega) _ | refine bel_trans ?_ (by assumption)))) hb_7
            clear t_
            have hP_ := bel_eld (w := w_6) (X := _) (by first | ((repeat (first | with_reducible exact Below.refl _ _ | with_reducible assumption | (with_reducible refine bel_set ?_ (by first | exact Nat.le_refl _ | (simp; done) | (simp; omega) | omega) _) | with_reducible refine bel_grow ?_ _ | with_reducible refine Below.drew ?_ | with_reducible refine below_drewN ?_ _ | with_reducible refine bel_alloc ?_ _ | with_reducible refine bel_trans ?_ (by assumption))); done) | (repeat (first | exact Below.refl _ _ | assumption | refine below_drewN ?_ _ | refine bel_grow ?_ _ | refine Below.drew ?_ | refine bel_alloc ?_ _ | refine bel_set ?_ (by first | exact Nat.le_refl _ | (simp; done) | (simp; omega) | omega) _ | refine bel_trans ?_ (by assumption)))) hb_7
            have k_s_x := Lib.hid (s_x.out.below hP_)
            clear s_x
            have s_x := k_s_x
            clear k_s_x
            have k_s_y := Lib.hid (s_y.out.below hP_)
            clear s_y
            have s_y := k_s_y
            clear k_s_y
            have t_a := f_a.out
            have t_b := f_b.out
            have g_a : Blk w_7 (g1) 36 #[.int .u64 ah, .int .u64 al] := Blk.kept t_a hP_
            have g_b : Blk w_7 (g2) 36 #[.int .u64 bh, .int .u64 bl] := Blk.kept t_b hP_
            clear hP_
            clear f_a a_l a_0 a_1 a_f0 a_f1 f_b b_l b_0 b_1 b_f0 b_f1 t_a t_b hB_6 hb_7
            have f_a := g_a
            clear g_a
            have f_b := g_b
            clear g_b
            have a_0 : w_7.cell? ⟨g1, 0, none⟩ = some (.int .u64 ah) := (f_a).cell 0
            have a_1 : w_7.cell? ⟨g1, 1, none⟩ = some (.int .u64 al) := (f_a).cell 1
            have a_f0 := (f_a).frozen 0
            have a_f1 := (f_a).frozen 1
            have a_l := (f_a).lt
            replace f_a := Lib.hid f_a
            have b_0 : w_7.cell? ⟨g2, 0, none⟩ = some (.int .u64 bh) := (f_b).cell 0
            have b_1 : w_7.cell? ⟨g2, 1, none⟩ = some (.int .u64 bl) := (f_b).cell 1
            have b_f0 := (f_b).frozen 0
            have b_f1 := (f_b).frozen 1
            have b_l := (f_b).lt
            replace f_b := Lib.hid f_b
            replace hB_7 := Lib.hid hB_7
            go_wp2_with fail
            go_ret
            exact ⟨by have hE2 := hE.out; first | rfl | (simp; done) | (simp; exact hE2) | (simp at hE2 ⊢; by_cases g : ah = bh; exact Or.inr (hE2 g); exact Or.inl g), by have t_B := hB_7.out; (repeat (first | with_reducible exact Below.refl _ _ | with_reducible assumption | (with_reducible refine bel_set ?_ (by first | exact Nat.le_refl _ | (simp; done) | (simp; omega) | omega) _) | with_reducible refine bel_grow ?_ _ | with_reducible refine Below.drew ?_ | with_reducible refine below_drewN ?_ _ | with_reducible refine bel_alloc ?_ _ | with_reducible refine bel_trans ?_ (by assumption)))⟩
          case true =>
            have hE := Lib.hid (show decide (v2 ≤ 0) = (ah == bh && al == bl) by rw [← k2.out, q]; rfl)

            go_wp2_with fail
            refine (HI.out _).mono ?_
            rintro e w_6 ⟨g8, rfl, j8, s_8, hb_6⟩
            have z_6 := hb_6.size
            try simp at z_6
            have t_ := hB_5.out
            have hB_6 := bel_eld (w := w) (X := _) (by first | ((repeat (first | with_reducible exact Below.refl _ _ | with_reducible assumption | (with_reducible refine bel_set ?_ (by first | exact Nat.le_refl _ | (simp; done) | (simp; omega) | omega) _) | with_reducible refine bel_grow ?_ _ | with_reducible refine Below.drew ?_ | with_reducible refine below_drewN ?_ _ | with_reducible refine bel_alloc ?_ _ | with_reducible refine bel_trans ?_ (by assumption))); done) | (repeat (first | exact Below.refl _ _ | assumption | refine below_drewN ?_ _ | refine bel_grow ?_ _ | refine Below.drew ?_ | refine bel_alloc ?_ _ | refine bel_set ?_ (by first | exact Nat.le_refl _ | (simp; done) | (simp; omega) | omega) _ | refine bel_trans ?_ (by assumption)))) hb_6
            clear t_
            have hP_ := bel_eld (w := w_5) (X := _) (by first | ((repeat (first | with_reducible exact Below.refl _ _ | with_reducible assumption | (with_reducible refine bel_set ?_ (by first | exact Nat.le_refl _ | (simp; done) | (simp; omega) | omega) _) | with_reducible refine bel_grow ?_ _ | with_reducible refine Below.drew ?_ | with_reducible refine below_drewN ?_ _ | with_reducible refine bel_alloc ?_ _ | with_reducible refine bel_trans ?_ (by assumption))); done) | (repeat (first | exact Below.refl _ _ | assumption | refine below_drewN ?_ _ | refine bel_grow ?_ _ | refine Below.drew ?_ | refine bel_alloc ?_ _ | refine bel_set ?_ (by first | exact Nat.le_refl _ | (simp; done) | (simp; omega) | omega) _ | refine bel_trans ?_ (by assumption)))) hb_6
            have k_s_x := Lib.hid (s_x.out.below hP_)
            clear s_x
            have s_x := k_s_x
            clear k_s_x
            have k_s_y := Lib.hid (s_y.out.below hP_)
            clear s_y
            have s_y := k_s_y
            clear k_s_y
            have t_a := f_a.out
            have t_b := f_b.out
            have g_a : Blk w_6 (g1) 36 #[.int .u64 ah, .int .u64 al] := Blk.kept t_a hP_
            have g_b : Blk w_6 (g2) 36 #[.int .u64 bh, .int .u64 bl] := Blk.kept t_b hP_
            clear hP_
            clear f_a a_l a_0 a_1 a_f0 a_f1 f_b b_l b_0 b_1 b_f0 b_f1 t_a t_b hB_5 hb_6
            have f_a := g_a
            clear g_a
            have f_b := g_b
            clear g_b
            have a_0 : w_6.cell? ⟨g1, 0, none⟩ = some (.int .u64 ah) := (f_a).cell 0
            have a_1 : w_6.cell? ⟨g1, 1, none⟩ = some (.int .u64 al) := (f_a).cell 1
            have a_f0 := (f_a).frozen 0
            have a_f1 := (f_a).frozen 1
            have a_l := (f_a).lt
            replace f_a := Lib.hid f_a
            have b_0 : w_6.cell? ⟨g2, 0, none⟩ = some (.int .u64 bh) := (f_b).cell 0
            have b_1 : w_6.cell? ⟨g2, 1, none⟩ = some (.int .u64 bl) := (f_b).cell 1
            have b_f0 := (f_b).frozen 0
            have b_f1 := (f_b).frozen 1
            have b_l := (f_b).lt
            replace f_b := Lib.hid f_b
            replace hB_6 := Lib.hid hB_6
            go_wp2_with fail
            refine (HH.out _ _ s_8).mono ?_
            rintro e w_7 ⟨g9, rfl, s_h, hb_7⟩
            have z_7 := hb_7.size
            try simp at z_7
            have t_ := hB_6.out
            have hB_7 := bel_eld (w := w) (X := _) (by first | ((repeat (first | with_reducible exact Below.refl _ _ | with_reducible assumption | (with_reducible refine bel_set ?_ (by first | exact Nat.le_refl _ | (simp; done) | (simp; omega) | omega) _) | with_reducible refine bel_grow ?_ _ | with_reducible refine Below.drew ?_ | with_reducible refine below_drewN ?_ _ | with_reducible refine bel_alloc ?_ _ | with_reducible refine bel_trans ?_ (by assumption))); done) | (repeat (first | exact Below.refl _ _ | assumption | refine below_drewN ?_ _ | refine bel_grow ?_ _ | refine Below.drew ?_ | refine bel_alloc ?_ _ | refine bel_set ?_ (by first | exact Nat.le_refl _ | (simp; done) | (simp; omega) | omega) _ | refine bel_trans ?_ (by assumption)))) hb_7
            clear t_
            have hP_ := bel_eld (w := w_6) (X := _) (by first | ((repeat (first | with_reducible exact Below.refl _ _ | with_reducible assumption | (with_reducible refine bel_set ?_ (by first | exact Nat.le_refl _ | (simp; done) | (simp; omega) | omega) _) | with_reducible refine bel_grow ?_ _ | with_reducible refine Below.drew ?_ | with_reducible refine below_drewN ?_ _ | with_reducible refine bel_alloc ?_ _ | with_reducible refine bel_trans ?_ (by assumption))); done) | (repeat (first | exact Below.refl _ _ | assumption | refine below_drewN ?_ _ | refine bel_grow ?_ _ | refine Below.drew ?_ | refine bel_alloc ?_ _ | refine bel_set ?_ (by first | exact Nat.le_refl _ | (simp; done) | (simp; omega) | omega) _ | refine bel_trans ?_ (by assumption)))) hb_7
            have k_s_x := Lib.hid (s_x.out.below hP_)
            clear s_x
            have s_x := k_s_x
            clear k_s_x
            have k_s_y := Lib.hid (s_y.out.below hP_)
            clear s_y
            have s_y := k_s_y
            clear k_s_y
            replace s_h := Lib.hid s_h
            have t_a := f_a.out
            have t_b := f_b.out
            have g_a : Blk w_7 (g1) 36 #[.int .u64 ah, .int .u64 al] := Blk.kept t_a hP_
            have g_b : Blk w_7 (g2) 36 #[.int .u64 bh, .int .u64 bl] := Blk.kept t_b hP_
            clear hP_
            clear f_a a_l a_0 a_1 a_f0 a_f1 f_b b_l b_0 b_1 b_f0 b_f1 t_a t_b hB_6 hb_7
            have f_a := g_a
            clear g_a
            have f_b := g_b
            clear g_b
            have a_0 : w_7.cell? ⟨g1, 0, none⟩ = some (.int .u64 ah) := (f_a).cell 0
            have a_1 : w_7.cell? ⟨g1, 1, none⟩ = some (.int .u64 al) := (f_a).cell 1
            have a_f0 := (f_a).frozen 0
            have a_f1 := (f_a).frozen 1
            have a_l := (f_a).lt
            replace f_a := Lib.hid f_a
            have b_0 : w_7.cell? ⟨g2, 0, none⟩ = some (.int .u64 bh) := (f_b).cell 0
            have b_1 : w_7.cell? ⟨g2, 1, none⟩ = some (.int .u64 bl) := (f_b).cell 1
            have b_f0 := (f_b).frozen 0
            have b_f1 := (f_b).frozen 1
            have b_l := (f_b).lt
            replace f_b := Lib.hid f_b
            replace hB_7 := Lib.hid hB_7
            go_wp2_with fail
            refine (HC2.out _ _ _ _ _ s_y.out s_h.out).mono ?_
            rintro e w_8 ⟨rfl, hb_8⟩
            have z_8 := hb_8.size
            try simp at z_8
            have t_ := hB_7.out
            have hB_8 := bel_eld (w := w) (X := _) (by first | ((repeat (first | with_reducible exact Below.refl _ _ | with_reducible assumption | (with_reducible refine bel_set ?_ (by first | exact Nat.le_refl _ | (simp; done) | (simp; omega) | omega) _) | with_reducible refine bel_grow ?_ _ | with_reducible refine Below.drew ?_ | with_reducible refine below_drewN ?_ _ | with_reducible refine bel_alloc ?_ _ | with_reducible refine bel_trans ?_ (by assumption))); done) | (repeat (first | exact Below.refl _ _ | assumption | refine below_drewN ?_ _ | refine bel_grow ?_ _ | refine Below.drew ?_ | refine bel_alloc ?_ _ | refine bel_set ?_ (by first | exact Nat.le_refl _ | (simp; done) | (simp; omega) | omega) _ | refine bel_trans ?_ (by assumption)))) hb_8
            clear t_
            have hP_ := bel_eld (w := w_7) (X := _) (by first | ((repeat (first | with_reducible exact Below.refl _ _ | with_reducible assumption | (with_reducible refine bel_set ?_ (by first | exact Nat.le_refl _ | (simp; done) | (simp; omega) | omega) _) | with_reducible refine bel_grow ?_ _ | with_reducible refine Below.drew ?_ | with_reducible refine below_drewN ?_ _ | with_reducible refine bel_alloc ?_ _ | with_reducible refine bel_trans ?_ (by assumption))); done) | (repeat (first | exact Below.refl _ _ | assumption | refine below_drewN ?_ _ | refine bel_grow ?_ _ | refine Below.drew ?_ | refine bel_alloc ?_ _ | refine bel_set ?_ (by first | exact Nat.le_refl _ | (simp; done) | (simp; omega) | omega) _ | refine bel_trans ?_ (by assumption)))) hb_8
            have k_s_x := Lib.hid (s_x.out.below hP_)
            clear s_x
            have s_x := k_s_x
            clear k_s_x
            have k_s_y := Lib.hid (s_y.out.below hP_)
            clear s_y
            have s_y := k_s_y
            clear k_s_y
            clear s_h
            have t_a := f_a.out
            have t_b := f_b.out
            have g_a : Blk w_8 (g1) 36 #[.int .u64 ah, .int .u64 al] := Blk.kept t_a hP_
            have g_b : Blk w_8 (g2) 36 #[.int .u64 bh, .int .u64 bl] := Blk.kept t_b hP_
            clear hP_
            clear f_a a_l a_0 a_1 a_f0 a_f1 f_b b_l b_0 b_1 b_f0 b_f1 t_a t_b hB_7 hb_8
            have f_a := g_a
            clear g_a
            have f_b := g_b
            clear g_b
            have a_0 : w_8.cell? ⟨g1, 0, none⟩ = some (.int .u64 ah) := (f_a).cell 0
            have a_1 : w_8.cell? ⟨g1, 1, none⟩ = some (.int .u64 al) := (f_a).cell 1
            have a_f0 := (f_a).frozen 0
            have a_f1 := (f_a).frozen 1
            have a_l := (f_a).lt
            replace f_a := Lib.hid f_a
            have b_0 : w_8.cell? ⟨g2, 0, none⟩ = some (.int .u64 bh) := (f_b).cell 0
            have b_1 : w_8.cell? ⟨g2, 1, none⟩ = some (.int .u64 bl) := (f_b).cell 1
            have b_f0 := (f_b).frozen 0
            have b_f1 := (f_b).frozen 1
            have b_l := (f_b).lt
            replace f_b := Lib.hid f_b
            replace hB_8 := Lib.hid hB_8
            go_wp2_with fail
            refine (HX.out _).mono ?_
            rintro e w_9 ⟨rfl, hb_9⟩
            have z_9 := hb_9.size
            try simp at z_9
            have t_ := hB_8.out
            have hB_9 := bel_eld (w := w) (X := _) (by first | ((repeat (first | with_reducible exact Below.refl _ _ | with_reducible assumption | (with_reducible refine bel_set ?_ (by first | exact Nat.le_refl _ | (simp; done) | (simp; omega) | omega) _) | with_reducible refine bel_grow ?_ _ | with_reducible refine Below.drew ?_ | with_reducible refine below_drewN ?_ _ | with_reducible refine bel_alloc ?_ _ | with_reducible refine bel_trans ?_ (by assumption))); done) | (repeat (first | exact Below.refl _ _ | assumption | refine below_drewN ?_ _ | refine bel_grow ?_ _ | refine Below.drew ?_ | refine bel_alloc ?_ _ | refine bel_set ?_ (by first | exact Nat.le_refl _ | (simp; done) | (simp; omega) | omega) _ | refine bel_trans ?_ (by assumption)))) hb_9
            clear t_
            have hP_ := bel_eld (w := w_8) (X := _) (by first | ((repeat (first | with_reducible exact Below.refl _ _ | with_reducible assumption | (with_reducible refine bel_set ?_ (by first | exact Nat.le_refl _ | (simp; done) | (simp; omega) | omega) _) | with_reducible refine bel_grow ?_ _ | with_reducible refine Below.drew ?_ | with_reducible refine below_drewN ?_ _ | with_reducible refine bel_alloc ?_ _ | with_reducible refine bel_trans ?_ (by assumption))); done) | (repeat (first | exact Below.refl _ _ | assumption | refine below_drewN ?_ _ | refine bel_grow ?_ _ | refine Below.drew ?_ | refine bel_alloc ?_ _ | refine bel_set ?_ (by first | exact Nat.le_refl _ | (simp; done) | (simp; omega) | omega) _ | refine bel_trans ?_ (by assumption)))) hb_9
            have k_s_x := Lib.hid (s_x.out.below hP_)
            clear s_x
            have s_x := k_s_x
            clear k_s_x
            have k_s_y := Lib.hid (s_y.out.below hP_)
            clear s_y
            have s_y := k_s_y
            clear k_s_y
            have t_a := f_a.out
            have t_b := f_b.out
            have g_a : Blk w_9 (g1) 36 #[.int .u64 ah, .int .u64 al] := Blk.kept t_a hP_
            have g_b : Blk w_9 (g2) 36 #[.int .u64 bh, .int .u64 bl] := Blk.kept t_b hP_
            clear hP_
            clear f_a a_l a_0 a_1 a_f0 a_f1 f_b b_l b_0 b_1 b_f0 b_f1 t_a t_b hB_8 hb_9
            have f_a := g_a
            clear g_a
            have f_b := g_b
            clear g_b
            have a_0 : w_9.cell? ⟨g1, 0, none⟩ = some (.int .u64 ah) := (f_a).cell 0
            have a_1 : w_9.cell? ⟨g1, 1, none⟩ = some (.int .u64 al) := (f_a).cell 1
            have a_f0 := (f_a).frozen 0
            have a_f1 := (f_a).frozen 1
            have a_l := (f_a).lt
            replace f_a := Lib.hid f_a
            have b_0 : w_9.cell? ⟨g2, 0, none⟩ = some (.int .u64 bh) := (f_b).cell 0
            have b_1 : w_9.cell? ⟨g2, 1, none⟩ = some (.int .u64 bl) := (f_b).cell 1
            have b_f0 := (f_b).frozen 0
            have b_f1 := (f_b).frozen 1
            have b_l := (f_b).lt
            replace f_b := Lib.hid f_b
            replace hB_9 := Lib.hid hB_9
            go_wp2_with fail
            refine (HC3.out _ _ _ _ _ s_x.out s_y.out).mono ?_
            rintro e w_10 ⟨rfl, hb_10⟩
            have z_10 := hb_10.size
            try simp at z_10
            have t_ := hB_9.out
            have hB_10 := bel_eld (w := w) (X := _) (by first | ((repeat (first | with_reducible exact Below.refl _ _ | with_reducible assumption | (with_reducible refine bel_set ?_ (by first | exact Nat.le_refl _ | (simp; done) | (simp; omega) | omega) _) | with_reducible refine bel_grow ?_ _ | with_reducible refine Below.drew ?_ | with_reducible refine below_drewN ?_ _ | with_reducible refine bel_alloc ?_ _ | with_reducible refine bel_trans ?_ (by assumption))); done) | (repeat (first | exact Below.refl _ _ | assumption | refine below_drewN ?_ _ | refine bel_grow ?_ _ | refine Below.drew ?_ | refine bel_alloc ?_ _ | refine bel_set ?_ (by first | exact Nat.le_refl _ | (simp; done) | (simp; omega) | omega) _ | refine bel_trans ?_ (by assumption)))) hb_10
            clear t_
            have hP_ := bel_eld (w := w_9) (X := _) (by first | ((repeat (first | with_reducible exact Below.refl _ _ | with_reducible assumption | (with_reducible refine bel_set ?_ (by first | exact Nat.le_refl _ | (simp; done) | (simp; omega) | omega) _) | with_reducible refine bel_grow ?_ _ | with_reducible refine Below.drew ?_ | with_reducible refine below_drewN ?_ _ | with_reducible refine bel_alloc ?_ _ | with_reducible refine bel_trans ?_ (by assumption))); done) | (repeat (first | exact Below.refl _ _ | assumption | refine below_drewN ?_ _ | refine bel_grow ?_ _ | refine Below.drew ?_ | refine bel_alloc ?_ _ | refine bel_set ?_ (by first | exact Nat.le_refl _ | (simp; done) | (simp; omega) | omega) _ | refine bel_trans ?_ (by assumption)))) hb_10
            have k_s_x := Lib.hid (s_x.out.below hP_)
            clear s_x
            have s_x := k_s_x
            clear k_s_x
            have k_s_y := Lib.hid (s_y.out.below hP_)
            clear s_y
            have s_y := k_s_y
            clear k_s_y
            have t_a := f_a.out
            have t_b := f_b.out
            have g_a : Blk w_10 (g1) 36 #[.int .u64 ah, .int .u64 al] := Blk.kept t_a hP_
            have g_b : Blk w_10 (g2) 36 #[.int .u64 bh, .int .u64 bl] := Blk.kept t_b hP_
            clear hP_
            clear f_a a_l a_0 a_1 a_f0 a_f1 f_b b_l b_0 b_1 b_f0 b_f1 t_a t_b hB_9 hb_10
            have f_a := g_a
            clear g_a
            have f_b := g_b
            clear g_b
            have a_0 : w_10.cell? ⟨g1, 0, none⟩ = some (.int .u64 ah) := (f_a).cell 0
            have a_1 : w_10.cell? ⟨g1, 1, none⟩ = some (.int .u64 al) := (f_a).cell 1
            have a_f0 := (f_a).frozen 0
            have a_f1 := (f_a).frozen 1
            have a_l := (f_a).lt
            replace f_a := Lib.hid f_a
            have b_0 : w_10.cell? ⟨g2, 0, none⟩ = some (.int .u64 bh) := (f_b).cell 0
            have b_1 : w_10.cell? ⟨g2, 1, none⟩ = some (.int .u64 bl) := (f_b).cell 1
            have b_f0 := (f_b).frozen 0
            have b_f1 := (f_b).frozen 1
            have b_l := (f_b).lt
            replace f_b := Lib.hid f_b
            replace hB_10 := Lib.hid hB_10
            go_wp2_with fail
            go_ret
            exact ⟨by have hE2 := hE.out; first | rfl | (simp; done) | (simp; exact hE2) | (simp at hE2 ⊢; by_cases g : ah = bh; exact Or.inr (hE2 g); exact Or.inl g), by have t_B := hB_10.out; (repeat (first | with_reducible exact Below.refl _ _ | with_reducible assumption | (with_reducible refine bel_set ?_ (by first | exact Nat.le_refl _ | (simp; done) | (simp; omega) | omega) _) | with_reducible refine bel_grow ?_ _ | with_reducible refine Below.drew ?_ | with_reducible refine below_drewN ?_ _ | with_reducible refine bel_alloc ?_ _ | with_reducible refine bel_trans ?_ (by assumption)))⟩
        · have q2 : decide (n < m) = false := decide_eq_false (by omega)
          have q4 : decide (m < n) = true := by simpa using q1
          have q3 : wantV 0 n m = 1 := by unfold wantV; rw [if_neg (by omega), if_pos ⟨rfl, q1⟩]
          rw [q3] at HC3
          replace q1 := Lib.hid q1
          clear q3

          go_wp2_with fail
          refine (HI.out _).mono ?_
          rintro e w_3 ⟨g5, rfl, j5, s_5, hb_3⟩
          have z_3 := hb_3.size
          try simp at z_3
          have t_ := hB_2.out
          have hB_3 := bel_eld (w := w) (X := _) (by first | ((repeat (first | with_reducible exact Below.refl _ _ | with_reducible assumption | (with_reducible refine bel_set ?_ (by first | exact Nat.le_refl _ | (simp; done) | (simp; omega) | omega) _) | with_reducible refine bel_grow ?_ _ | with_reducible refine Below.drew ?_ | with_reducible refine below_drewN ?_ _ | with_reducible refine bel_alloc ?_ _ | with_reducible refine bel_trans ?_ (by assumption))); done) | (repeat (first | exact Below.refl _ _ | assumption | refine below_drewN ?_ _ | refine bel_grow ?_ _ | refine Below.drew ?_ | refine bel_alloc ?_ _ | refine bel_set ?_ (by first | exact Nat.le_refl _ | (simp; done) | (simp; omega) | omega) _ | refine bel_trans ?_ (by assumption)))) hb_3
          clear t_
          have hP_ := bel_eld (w := w_2) (X := _) (by first | ((repeat (first | with_reducible exact Below.refl _ _ | with_reducible assumption | (with_reducible refine bel_set ?_ (by first | exact Nat.le_refl _ | (simp; done) | (simp; omega) | omega) _) | with_reducible refine bel_grow ?_ _ | with_reducible refine Below.drew ?_ | with_reducible refine below_drewN ?_ _ | with_reducible refine bel_alloc ?_ _ | with_reducible refine bel_trans ?_ (by assumption))); done) | (repeat (first | exact Below.refl _ _ | assumption | refine below_drewN ?_ _ | refine bel_grow ?_ _ | refine Below.drew ?_ | refine bel_alloc ?_ _ | refine bel_set ?_ (by first | exact Nat.le_refl _ | (simp; done) | (simp; omega) | omega) _ | refine bel_trans ?_ (by assumption)))) hb_3
          have k_s_x := Lib.hid (s_x.out.below hP_)
          clear s_x
          have s_x := k_s_x
          clear k_s_x
          have k_s_y := Lib.hid (s_y.out.below hP_)
          clear s_y
          have s_y := k_s_y
          clear k_s_y
          have t_a := f_a.out
          have t_b := f_b.out
          have g_a : Blk w_3 (g1) 36 #[.int .u64 ah, .int .u64 al] := Blk.kept t_a hP_
          have g_b : Blk w_3 (g2) 36 #[.int .u64 bh, .int .u64 bl] := Blk.kept t_b hP_
          clear hP_
          clear f_a a_l a_0 a_1 a_f0 a_f1 f_b b_l b_0 b_1 b_f0 b_f1 t_a t_b hB_2 hb_3
          have f_a := g_a
          clear g_a
          have f_b := g_b
          clear g_b
          have a_0 : w_3.cell? ⟨g1, 0, none⟩ = some (.int .u64 ah) := (f_a).cell 0
          have a_1 : w_3.cell? ⟨g1, 1, none⟩ = some (.int .u64 al) := (f_a).cell 1
          have a_f0 := (f_a).frozen 0
          have a_f1 := (f_a).frozen 1
          have a_l := (f_a).lt
          replace f_a := Lib.hid f_a
          have b_0 : w_3.cell? ⟨g2, 0, none⟩ = some (.int .u64 bh) := (f_b).cell 0
          have b_1 : w_3.cell? ⟨g2, 1, none⟩ = some (.int .u64 bl) := (f_b).cell 1
          have b_f0 := (f_b).frozen 0
          have b_f1 := (f_b).frozen 1
          have b_l := (f_b).lt
          replace f_b := Lib.hid f_b
          replace hB_3 := Lib.hid hB_3
          go_wp2_with fail
          refine (HL.out _ _ s_5).mono ?_
          rintro e w_4 ⟨g6, rfl, s_l, hb_4⟩
          have z_4 := hb_4.size
          try simp at z_4
          have t_ := hB_3.out
          have hB_4 := bel_eld (w := w) (X := _) (by first | ((repeat (first | with_reducible exact Below.refl _ _ | with_reducible assumption | (with_reducible refine bel_set ?_ (by first | exact Nat.le_refl _ | (simp; done) | (simp; omega) | omega) _) | with_reducible refine bel_grow ?_ _ | with_reducible refine Below.drew ?_ | with_reducible refine below_drewN ?_ _ | with_reducible refine bel_alloc ?_ _ | with_reducible refine bel_trans ?_ (by assumption))); done) | (repeat (first | exact Below.refl _ _ | assumption | refine below_drewN ?_ _ | refine bel_grow ?_ _ | refine Below.drew ?_ | refine bel_alloc ?_ _ | refine bel_set ?_ (by first | exact Nat.le_refl _ | (simp; done) | (simp; omega) | omega) _ | refine bel_trans ?_ (by assumption)))) hb_4
          clear t_
          have hP_ := bel_eld (w := w_3) (X := _) (by first | ((repeat (first | with_reducible exact Below.refl _ _ | with_reducible assumption | (with_reducible refine bel_set ?_ (by first | exact Nat.le_refl _ | (simp; done) | (simp; omega) | omega) _) | with_reducible refine bel_grow ?_ _ | with_reducible refine Below.drew ?_ | with_reducible refine below_drewN ?_ _ | with_reducible refine bel_alloc ?_ _ | with_reducible refine bel_trans ?_ (by assumption))); done) | (repeat (first | exact Below.refl _ _ | assumption | refine below_drewN ?_ _ | refine bel_grow ?_ _ | refine Below.drew ?_ | refine bel_alloc ?_ _ | refine bel_set ?_ (by first | exact Nat.le_refl _ | (simp; done) | (simp; omega) | omega) _ | refine bel_trans ?_ (by assumption)))) hb_4
          have k_s_x := Lib.hid (s_x.out.below hP_)
          clear s_x
          have s_x := k_s_x
          clear k_s_x
          have k_s_y := Lib.hid (s_y.out.below hP_)
          clear s_y
          have s_y := k_s_y
          clear k_s_y
          replace s_l := Lib.hid s_l
          have t_a := f_a.out
          have t_b := f_b.out
          have g_a : Blk w_4 (g1) 36 #[.int .u64 ah, .int .u64 al] := Blk.kept t_a hP_
          have g_b : Blk w_4 (g2) 36 #[.int .u64 bh, .int .u64 bl] := Blk.kept t_b hP_
          clear hP_
          clear f_a a_l a_0 a_1 a_f0 a_f1 f_b b_l b_0 b_1 b_f0 b_f1 t_a t_b hB_3 hb_4
          have f_a := g_a
          clear g_a
          have f_b := g_b
          clear g_b
          have a_0 : w_4.cell? ⟨g1, 0, none⟩ = some (.int .u64 ah) := (f_a).cell 0
          have a_1 : w_4.cell? ⟨g1, 1, none⟩ = some (.int .u64 al) := (f_a).cell 1
          have a_f0 := (f_a).frozen 0
          have a_f1 := (f_a).frozen 1
          have a_l := (f_a).lt
          replace f_a := Lib.hid f_a
          have b_0 : w_4.cell? ⟨g2, 0, none⟩ = some (.int .u64 bh) := (f_b).cell 0
          have b_1 : w_4.cell? ⟨g2, 1, none⟩ = some (.int .u64 bl) := (f_b).cell 1
          have b_f0 := (f_b).frozen 0
          have b_f1 := (f_b).frozen 1
          have b_l := (f_b).lt
          replace f_b := Lib.hid f_b
          replace hB_4 := Lib.hid hB_4
          go_wp2_with fail
          refine (HC1.out _ _ _ _ _ s_l.out s_y.out).mono ?_
          rintro e w_5 ⟨rfl, hb_5⟩
          have z_5 := hb_5.size
          try simp at z_5
          have t_ := hB_4.out
          have hB_5 := bel_eld (w := w) (X := _) (by first | ((repeat (first | with_reducible exact Below.refl _ _ | with_reducible assumption | (with_reducible refine bel_set ?_ (by first | exact Nat.le_refl _ | (simp; done) | (simp; omega) | omega) _) | with_reducible refine bel_grow ?_ _ | with_reducible refine Below.drew ?_ | with_reducible refine below_drewN ?_ _ | with_reducible refine bel_alloc ?_ _ | with_reducible refine bel_trans ?_ (by assumption))); done) | (repeat (first | exact Below.refl _ _ | assumption | refine below_drewN ?_ _ | refine bel_grow ?_ _ | refine Below.drew ?_ | refine bel_alloc ?_ _ | refine bel_set ?_ (by first | exact Nat.le_refl _ | (simp; done) | (simp; omega) | omega) _ | refine bel_trans ?_ (by assumption)))) hb_5
          clear t_
          have hP_ := bel_eld (w := w_4) (X := _) (by first | ((repeat (first | with_reducible exact Below.refl _ _ | with_reducible assumption | (with_reducible refine bel_set ?_ (by first | exact Nat.le_refl _ | (simp; done) | (simp; omega) | omega) _) | with_reducible refine bel_grow ?_ _ | with_reducible refine Below.drew ?_ | with_reducible refine below_drewN ?_ _ | with_reducible refine bel_alloc ?_ _ | with_reducible refine bel_trans ?_ (by assumption))); done) | (repeat (first | exact Below.refl _ _ | assumption | refine below_drewN ?_ _ | refine bel_grow ?_ _ | refine Below.drew ?_ | refine bel_alloc ?_ _ | refine bel_set ?_ (by first | exact Nat.le_refl _ | (simp; done) | (simp; omega) | omega) _ | refine bel_trans ?_ (by assumption)))) hb_5
          have k_s_x := Lib.hid (s_x.out.below hP_)
          clear s_x
          have s_x := k_s_x
          clear k_s_x
          have k_s_y := Lib.hid (s_y.out.below hP_)
          clear s_y
          have s_y := k_s_y
          clear k_s_y
          clear s_l
          have t_a := f_a.out
          have t_b := f_b.out
          have g_a : Blk w_5 (g1) 36 #[.int .u64 ah, .int .u64 al] := Blk.kept t_a hP_
          have g_b : Blk w_5 (g2) 36 #[.int .u64 bh, .int .u64 bl] := Blk.kept t_b hP_
          clear hP_
          clear f_a a_l a_0 a_1 a_f0 a_f1 f_b b_l b_0 b_1 b_f0 b_f1 t_a t_b hB_4 hb_5
          have f_a := g_a
          clear g_a
          have f_b := g_b
          clear g_b
          have a_0 : w_5.cell? ⟨g1, 0, none⟩ = some (.int .u64 ah) := (f_a).cell 0
          have a_1 : w_5.cell? ⟨g1, 1, none⟩ = some (.int .u64 al) := (f_a).cell 1
          have a_f0 := (f_a).frozen 0
          have a_f1 := (f_a).frozen 1
          have a_l := (f_a).lt
          replace f_a := Lib.hid f_a
          have b_0 : w_5.cell? ⟨g2, 0, none⟩ = some (.int .u64 bh) := (f_b).cell 0
          have b_1 : w_5.cell? ⟨g2, 1, none⟩ = some (.int .u64 bl) := (f_b).cell 1
          have b_f0 := (f_b).frozen 0
          have b_f1 := (f_b).frozen 1
          have b_l := (f_b).lt
          replace f_b := Lib.hid f_b
          replace hB_5 := Lib.hid hB_5
          clear HL HC1
          cases q : decide (v1 ≤ 0)
          case false =>
            have hE := Lib.hid (show (ah == bh && al == bl) = false by rw [← k2.out, q]; rfl)

            go_wp2_with fail
            refine (HX.out _).mono ?_
            rintro e w_6 ⟨rfl, hb_6⟩
            have z_6 := hb_6.size
            try simp at z_6
            have t_ := hB_5.out
            have hB_6 := bel_eld (w := w) (X := _) (by first | ((repeat (first | with_reducible exact Below.refl _ _ | with_reducible assumption | (with_reducible refine bel_set ?_ (by first | exact Nat.le_refl _ | (simp; done) | (simp; omega) | omega) _) | with_reducible refine bel_grow ?_ _ | with_reducible refine Below.drew ?_ | with_reducible refine below_drewN ?_ _ | with_reducible refine bel_alloc ?_ _ | with_reducible refine bel_trans ?_ (by assumption))); done) | (repeat (first | exact Below.refl _ _ | assumption | refine below_drewN ?_ _ | refine bel_grow ?_ _ | refine Below.drew ?_ | refine bel_alloc ?_ _ | refine bel_set ?_ (by first | exact Nat.le_refl _ | (simp; done) | (simp; omega) | omega) _ | refine bel_trans ?_ (by assumption)))) hb_6
            clear t_
            have hP_ := bel_eld (w := w_5) (X := _) (by first | ((repeat (first | with_reducible exact Below.refl _ _ | with_reducible assumption | (with_reducible refine bel_set ?_ (by first | exact Nat.le_refl _ | (simp; done) | (simp; omega) | omega) _) | with_reducible refine bel_grow ?_ _ | with_reducible refine Below.drew ?_ | with_reducible refine below_drewN ?_ _ | with_reducible refine bel_alloc ?_ _ | with_reducible refine bel_trans ?_ (by assumption))); done) | (repeat (first | exact Below.refl _ _ | assumption | refine below_drewN ?_ _ | refine bel_grow ?_ _ | refine Below.drew ?_ | refine bel_alloc ?_ _ | refine bel_set ?_ (by first | exact Nat.le_refl _ | (simp; done) | (simp; omega) | omega) _ | refine bel_trans ?_ (by assumption)))) hb_6
            have k_s_x := Lib.hid (s_x.out.below hP_)
            clear s_x
            have s_x := k_s_x
            clear k_s_x
            have k_s_y := Lib.hid (s_y.out.below hP_)
            clear s_y
            have s_y := k_s_y
            clear k_s_y
            have t_a := f_a.out
            have t_b := f_b.out
            have g_a : Blk w_6 (g1) 36 #[.int .u64 ah, .int .u64 al] := Blk.kept t_a hP_
            have g_b : Blk w_6 (g2) 36 #[.int .u64 bh, .int .u64 bl] := Blk.kept t_b hP_
            clear hP_
            clear f_a a_l a_0 a_1 a_f0 a_f1 f_b b_l b_0 b_1 b_f0 b_f1 t_a t_b hB_5 hb_6
            have f_a := g_a
            clear g_a
            have f_b := g_b
            clear g_b
            have a_0 : w_6.cell? ⟨g1, 0, none⟩ = some (.int .u64 ah) := (f_a).cell 0
            have a_1 : w_6.cell? ⟨g1, 1, none⟩ = some (.int .u64 al) := (f_a).cell 1
            have a_f0 := (f_a).frozen 0
            have a_f1 := (f_a).frozen 1
            have a_l := (f_a).lt
            replace f_a := Lib.hid f_a
            have b_0 : w_6.cell? ⟨g2, 0, none⟩ = some (.int .u64 bh) := (f_b).cell 0
            have b_1 : w_6.cell? ⟨g2, 1, none⟩ = some (.int .u64 bl) := (f_b).cell 1
            have b_f0 := (f_b).frozen 0
            have b_f1 := (f_b).frozen 1
            have b_l := (f_b).lt
            replace f_b := Lib.hid f_b
            replace hB_6 := Lib.hid hB_6
            go_wp2_with fail
            refine (HC3.out _ _ _ _ _ s_x.out s_y.out).mono ?_
            rintro e w_7 ⟨rfl, hb_7⟩
            have z_7 := hb_7.size
            try simp at z_7
            have t_ := hB_6.out
            have hB_7 := bel_eld (w := w) (X := _) (by first | ((repeat (first | with_reducible exact Below.refl _ _ | with_reducible assumption | (with_reducible refine bel_set ?_ (by first | exact Nat.le_refl _ | (simp; done) | (simp; omega) | omega) _) | with_reducible refine bel_grow ?_ _ | with_reducible refine Below.drew ?_ | with_reducible refine below_drewN ?_ _ | with_reducible refine bel_alloc ?_ _ | with_reducible refine bel_trans ?_ (by assumption))); done) | (repeat (first | exact Below.refl _ _ | assumption | refine below_drewN ?_ _ | refine bel_grow ?_ _ | refine Below.drew ?_ | refine bel_alloc ?_ _ | refine bel_set ?_ (by first | exact Nat.le_refl _ | (simp; done) | (simp; omega) | omega) _ | refine bel_trans ?_ (by assumption)))) hb_7
            clear t_
            have hP_ := bel_eld (w := w_6) (X := _) (by first | ((repeat (first | with_reducible exact Below.refl _ _ | with_reducible assumption | (with_reducible refine bel_set ?_ (by first | exact Nat.le_refl _ | (simp; done) | (simp; omega) | omega) _) | with_reducible refine bel_grow ?_ _ | with_reducible refine Below.drew ?_ | with_reducible refine below_drewN ?_ _ | with_reducible refine bel_alloc ?_ _ | with_reducible refine bel_trans ?_ (by assumption))); done) | (repeat (first | exact Below.refl _ _ | assumption | refine below_drewN ?_ _ | refine bel_grow ?_ _ | refine Below.drew ?_ | refine bel_alloc ?_ _ | refine bel_set ?_ (by first | exact Nat.le_refl _ | (simp; done) | (simp; omega) | omega) _ | refine bel_trans ?_ (by assumption)))) hb_7
            have k_s_x := Lib.hid (s_x.out.below hP_)
            clear s_x
            have s_x := k_s_x
            clear k_s_x
            have k_s_y := Lib.hid (s_y.out.below hP_)
            clear s_y
            have s_y := k_s_y
            clear k_s_y
            have t_a := f_a.out
            have t_b := f_b.out
            have g_a : Blk w_7 (g1) 36 #[.int .u64 ah, .int .u64 al] := Blk.kept t_a hP_
            have g_b : Blk w_7 (g2) 36 #[.int .u64 bh, .int .u64 bl] := Blk.kept t_b hP_
            clear hP_
            clear f_a a_l a_0 a_1 a_f0 a_f1 f_b b_l b_0 b_1 b_f0 b_f1 t_a t_b hB_6 hb_7
            have f_a := g_a
            clear g_a
            have f_b := g_b
            clear g_b
            have a_0 : w_7.cell? ⟨g1, 0, none⟩ = some (.int .u64 ah) := (f_a).cell 0
            have a_1 : w_7.cell? ⟨g1, 1, none⟩ = some (.int .u64 al) := (f_a).cell 1
            have a_f0 := (f_a).frozen 0
            have a_f1 := (f_a).frozen 1
            have a_l := (f_a).lt
            replace f_a := Lib.hid f_a
            have b_0 : w_7.cell? ⟨g2, 0, none⟩ = some (.int .u64 bh) := (f_b).cell 0
            have b_1 : w_7.cell? ⟨g2, 1, none⟩ = some (.int .u64 bl) := (f_b).cell 1
            have b_f0 := (f_b).frozen 0
            have b_f1 := (f_b).frozen 1
            have b_l := (f_b).lt
            replace f_b := Lib.hid f_b
            replace hB_7 := Lib.hid hB_7
            go_wp2_with fail
            go_ret
            exact ⟨by have hE2 := hE.out; first | rfl | (simp; done) | (simp; exact hE2) | (simp at hE2 ⊢; by_cases g : ah = bh; exact Or.inr (hE2 g); exact Or.inl g), by have t_B := hB_7.out; (repeat (first | with_reducible exact Below.refl _ _ | with_reducible assumption | (with_reducible refine bel_set ?_ (by first | exact Nat.le_refl _ | (simp; done) | (simp; omega) | omega) _) | with_reducible refine bel_grow ?_ _ | with_reducible refine Below.drew ?_ | with_reducible refine below_drewN ?_ _ | with_reducible refine bel_alloc ?_ _ | with_reducible refine bel_trans ?_ (by assumption)))⟩
          case true =>
            have hE := Lib.hid (show decide (v2 ≤ 0) = (ah == bh && al == bl) by rw [← k2.out, q]; rfl)

            go_wp2_with fail
            refine (HI.out _).mono ?_
            rintro e w_6 ⟨g8, rfl, j8, s_8, hb_6⟩
            have z_6 := hb_6.size
            try simp at z_6
            have t_ := hB_5.out
            have hB_6 := bel_eld (w := w) (X := _) (by first | ((repeat (first | with_reducible exact Below.refl _ _ | with_reducible assumption | (with_reducible refine bel_set ?_ (by first | exact Nat.le_refl _ | (simp; done) | (simp; omega) | omega) _) | with_reducible refine bel_grow ?_ _ | with_reducible refine Below.drew ?_ | with_reducible refine below_drewN ?_ _ | with_reducible refine bel_alloc ?_ _ | with_reducible refine bel_trans ?_ (by assumption))); done) | (repeat (first | exact Below.refl _ _ | assumption | refine below_drewN ?_ _ | refine bel_grow ?_ _ | refine Below.drew ?_ | refine bel_alloc ?_ _ | refine bel_set ?_ (by first | exact Nat.le_refl _ | (simp; done) | (simp; omega) | omega) _ | refine bel_trans ?_ (by assumption)))) hb_6
            clear t_
            have hP_ := bel_eld (w := w_5) (X := _) (by first | ((repeat (first | with_reducible exact Below.refl _ _ | with_reducible assumption | (with_reducible refine bel_set ?_ (by first | exact Nat.le_refl _ | (simp; done) | (simp; omega) | omega) _) | with_reducible refine bel_grow ?_ _ | with_reducible refine Below.drew ?_ | with_reducible refine below_drewN ?_ _ | with_reducible refine bel_alloc ?_ _ | with_reducible refine bel_trans ?_ (by assumption))); done) | (repeat (first | exact Below.refl _ _ | assumption | refine below_drewN ?_ _ | refine bel_grow ?_ _ | refine Below.drew ?_ | refine bel_alloc ?_ _ | refine bel_set ?_ (by first | exact Nat.le_refl _ | (simp; done) | (simp; omega) | omega) _ | refine bel_trans ?_ (by assumption)))) hb_6
            have k_s_x := Lib.hid (s_x.out.below hP_)
            clear s_x
            have s_x := k_s_x
            clear k_s_x
            have k_s_y := Lib.hid (s_y.out.below hP_)
            clear s_y
            have s_y := k_s_y
            clear k_s_y
            have t_a := f_a.out
            have t_b := f_b.out
            have g_a : Blk w_6 (g1) 36 #[.int .u64 ah, .int .u64 al] := Blk.kept t_a hP_
            have g_b : Blk w_6 (g2) 36 #[.int .u64 bh, .int .u64 bl] := Blk.kept t_b hP_
            clear hP_
            clear f_a a_l a_0 a_1 a_f0 a_f1 f_b b_l b_0 b_1 b_f0 b_f1 t_a t_b hB_5 hb_6
            have f_a := g_a
            clear g_a
            have f_b := g_b
            clear g_b
            have a_0 : w_6.cell? ⟨g1, 0, none⟩ = some (.int .u64 ah) := (f_a).cell 0
            have a_1 : w_6.cell? ⟨g1, 1, none⟩ = some (.int .u64 al) := (f_a).cell 1
            have a_f0 := (f_a).frozen 0
            have a_f1 := (f_a).frozen 1
            have a_l := (f_a).lt
            replace f_a := Lib.hid f_a
            have b_0 : w_6.cell? ⟨g2, 0, none⟩ = some (.int .u64 bh) := (f_b).cell 0
            have b_1 : w_6.cell? ⟨g2, 1, none⟩ = some (.int .u64 bl) := (f_b).cell 1
            have b_f0 := (f_b).frozen 0
            have b_f1 := (f_b).frozen 1
            have b_l := (f_b).lt
            replace f_b := Lib.hid f_b
            replace hB_6 := Lib.hid hB_6
            go_wp2_with fail
            refine (HH.out _ _ s_8).mono ?_
            rintro e w_7 ⟨g9, rfl, s_h, hb_7⟩
            have z_7 := hb_7.size
            try simp at z_7
            have t_ := hB_6.out
            have hB_7 := bel_eld (w := w) (X := _) (by first | ((repeat (first | with_reducible exact Below.refl _ _ | with_reducible assumption | (with_reducible refine bel_set ?_ (by first | exact Nat.le_refl _ | (simp; done) | (simp; omega) | omega) _) | with_reducible refine bel_grow ?_ _ | with_reducible refine Below.drew ?_ | with_reducible refine below_drewN ?_ _ | with_reducible refine bel_alloc ?_ _ | with_reducible refine bel_trans ?_ (by assumption))); done) | (repeat (first | exact Below.refl _ _ | assumption | refine below_drewN ?_ _ | refine bel_grow ?_ _ | refine Below.drew ?_ | refine bel_alloc ?_ _ | refine bel_set ?_ (by first | exact Nat.le_refl _ | (simp; done) | (simp; omega) | omega) _ | refine bel_trans ?_ (by assumption)))) hb_7
            clear t_
            have hP_ := bel_eld (w := w_6) (X := _) (by first | ((repeat (first | with_reducible exact Below.refl _ _ | with_reducible assumption | (with_reducible refine bel_set ?_ (by first | exact Nat.le_refl _ | (simp; done) | (simp; omega) | omega) _) | with_reducible refine bel_grow ?_ _ | with_reducible refine Below.drew ?_ | with_reducible refine below_drewN ?_ _ | with_reducible refine bel_alloc ?_ _ | with_reducible refine bel_trans ?_ (by assumption))); done) | (repeat (first | exact Below.refl _ _ | assumption | refine below_drewN ?_ _ | refine bel_grow ?_ _ | refine Below.drew ?_ | refine bel_alloc ?_ _ | refine bel_set ?_ (by first | exact Nat.le_refl _ | (simp; done) | (simp; omega) | omega) _ | refine bel_trans ?_ (by assumption)))) hb_7
            have k_s_x := Lib.hid (s_x.out.below hP_)
            clear s_x
            have s_x := k_s_x
            clear k_s_x
            have k_s_y := Lib.hid (s_y.out.below hP_)
            clear s_y
            have s_y := k_s_y
            clear k_s_y
            replace s_h := Lib.hid s_h
            have t_a := f_a.out
            have t_b := f_b.out
            have g_a : Blk w_7 (g1) 36 #[.int .u64 ah, .int .u64 al] := Blk.kept t_a hP_
            have g_b : Blk w_7 (g2) 36 #[.int .u64 bh, .int .u64 bl] := Blk.kept t_b hP_
            clear hP_
            clear f_a a_l a_0 a_1 a_f0 a_f1 f_b b_l b_0 b_1 b_f0 b_f1 t_a t_b hB_6 hb_7
            have f_a := g_a
            clear g_a
            have f_b := g_b
            clear g_b
            have a_0 : w_7.cell? ⟨g1, 0, none⟩ = some (.int .u64 ah) := (f_a).cell 0
            have a_1 : w_7.cell? ⟨g1, 1, none⟩ = some (.int .u64 al) := (f_a).cell 1
            have a_f0 := (f_a).frozen 0
            have a_f1 := (f_a).frozen 1
            have a_l := (f_a).lt
            replace f_a := Lib.hid f_a
            have b_0 : w_7.cell? ⟨g2, 0, none⟩ = some (.int .u64 bh) := (f_b).cell 0
            have b_1 : w_7.cell? ⟨g2, 1, none⟩ = some (.int .u64 bl) := (f_b).cell 1
            have b_f0 := (f_b).frozen 0
            have b_f1 := (f_b).frozen 1
            have b_l := (f_b).lt
            replace f_b := Lib.hid f_b
            replace hB_7 := Lib.hid hB_7
            go_wp2_with fail
            refine (HC2.out _ _ _ _ _ s_y.out s_h.out).mono ?_
            rintro e w_8 ⟨rfl, hb_8⟩
            have z_8 := hb_8.size
            try simp at z_8
            have t_ := hB_7.out
            have hB_8 := bel_eld (w := w) (X := _) (by first | ((repeat (first | with_reducible exact Below.refl _ _ | with_reducible assumption | (with_reducible refine bel_set ?_ (by first | exact Nat.le_refl _ | (simp; done) | (simp; omega) | omega) _) | with_reducible refine bel_grow ?_ _ | with_reducible refine Below.drew ?_ | with_reducible refine below_drewN ?_ _ | with_reducible refine bel_alloc ?_ _ | with_reducible refine bel_trans ?_ (by assumption))); done) | (repeat (first | exact Below.refl _ _ | assumption | refine below_drewN ?_ _ | refine bel_grow ?_ _ | refine Below.drew ?_ | refine bel_alloc ?_ _ | refine bel_set ?_ (by first | exact Nat.le_refl _ | (simp; done) | (simp; omega) | omega) _ | refine bel_trans ?_ (by assumption)))) hb_8
            clear t_
            have hP_ := bel_eld (w := w_7) (X := _) (by first | ((repeat (first | with_reducible exact Below.refl _ _ | with_reducible assumption | (with_reducible refine bel_set ?_ (by first | exact Nat.le_refl _ | (simp; done) | (simp; omega) | omega) _) | with_reducible refine bel_grow ?_ _ | with_reducible refine Below.drew ?_ | with_reducible refine below_drewN ?_ _ | with_reducible refine bel_alloc ?_ _ | with_reducible refine bel_trans ?_ (by assumption))); done) | (repeat (first | exact Below.refl _ _ | assumption | refine below_drewN ?_ _ | refine bel_grow ?_ _ | refine Below.drew ?_ | refine bel_alloc ?_ _ | refine bel_set ?_ (by first | exact Nat.le_refl _ | (simp; done) | (simp; omega) | omega) _ | refine bel_trans ?_ (by assumption)))) hb_8
            have k_s_x := Lib.hid (s_x.out.below hP_)
            clear s_x
            have s_x := k_s_x
            clear k_s_x
            have k_s_y := Lib.hid (s_y.out.below hP_)
            clear s_y
            have s_y := k_s_y
            clear k_s_y
            clear s_h
            have t_a := f_a.out
            have t_b := f_b.out
            have g_a : Blk w_8 (g1) 36 #[.int .u64 ah, .int .u64 al] := Blk.kept t_a hP_
            have g_b : Blk w_8 (g2) 36 #[.int .u64 bh, .int .u64 bl] := Blk.kept t_b hP_
            clear hP_
            clear f_a a_l a_0 a_1 a_f0 a_f1 f_b b_l b_0 b_1 b_f0 b_f1 t_a t_b hB_7 hb_8
            have f_a := g_a
            clear g_a
            have f_b := g_b
            clear g_b
            have a_0 : w_8.cell? ⟨g1, 0, none⟩ = some (.int .u64 ah) := (f_a).cell 0
            have a_1 : w_8.cell? ⟨g1, 1, none⟩ = some (.int .u64 al) := (f_a).cell 1
            have a_f0 := (f_a).frozen 0
            have a_f1 := (f_a).frozen 1
            have a_l := (f_a).lt
            replace f_a := Lib.hid f_a
            have b_0 : w_8.cell? ⟨g2, 0, none⟩ = some (.int .u64 bh) := (f_b).cell 0
            have b_1 : w_8.cell? ⟨g2, 1, none⟩ = some (.int .u64 bl) := (f_b).cell 1
            have b_f0 := (f_b).frozen 0
            have b_f1 := (f_b).frozen 1
            have b_l := (f_b).lt
            replace f_b := Lib.hid f_b
            replace hB_8 := Lib.hid hB_8
            go_wp2_with fail
            refine (HX.out _).mono ?_
            rintro e w_9 ⟨rfl, hb_9⟩
            have z_9 := hb_9.size
            try simp at z_9
            have t_ := hB_8.out
            have hB_9 := bel_eld (w := w) (X := _) (by first | ((repeat (first | with_reducible exact Below.refl _ _ | with_reducible assumption | (with_reducible refine bel_set ?_ (by first | exact Nat.le_refl _ | (simp; done) | (simp; omega) | omega) _) | with_reducible refine bel_grow ?_ _ | with_reducible refine Below.drew ?_ | with_reducible refine below_drewN ?_ _ | with_reducible refine bel_alloc ?_ _ | with_reducible refine bel_trans ?_ (by assumption))); done) | (repeat (first | exact Below.refl _ _ | assumption | refine below_drewN ?_ _ | refine bel_grow ?_ _ | refine Below.drew ?_ | refine bel_alloc ?_ _ | refine bel_set ?_ (by first | exact Nat.le_refl _ | (simp; done) | (simp; omega) | omega) _ | refine bel_trans ?_ (by assumption)))) hb_9
            clear t_
            have hP_ := bel_eld (w := w_8) (X := _) (by first | ((repeat (first | with_reducible exact Below.refl _ _ | with_reducible assumption | (with_reducible refine bel_set ?_ (by first | exact Nat.le_refl _ | (simp; done) | (simp; omega) | omega) _) | with_reducible refine bel_grow ?_ _ | with_reducible refine Below.drew ?_ | with_reducible refine below_drewN ?_ _ | with_reducible refine bel_alloc ?_ _ | with_reducible refine bel_trans ?_ (by assumption))); done) | (repeat (first | exact Below.refl _ _ | assumption | refine below_drewN ?_ _ | refine bel_grow ?_ _ | refine Below.drew ?_ | refine bel_alloc ?_ _ | refine bel_set ?_ (by first | exact Nat.le_refl _ | (simp; done) | (simp; omega) | omega) _ | refine bel_trans ?_ (by assumption)))) hb_9
            have k_s_x := Lib.hid (s_x.out.below hP_)
            clear s_x
            have s_x := k_s_x
            clear k_s_x
            have k_s_y := Lib.hid (s_y.out.below hP_)
            clear s_y
            have s_y := k_s_y
            clear k_s_y
            have t_a := f_a.out
            have t_b := f_b.out
            have g_a : Blk w_9 (g1) 36 #[.int .u64 ah, .int .u64 al] := Blk.kept t_a hP_
            have g_b : Blk w_9 (g2) 36 #[.int .u64 bh, .int .u64 bl] := Blk.kept t_b hP_
            clear hP_
            clear f_a a_l a_0 a_1 a_f0 a_f1 f_b b_l b_0 b_1 b_f0 b_f1 t_a t_b hB_8 hb_9
            have f_a := g_a
            clear g_a
            have f_b := g_b
            clear g_b
            have a_0 : w_9.cell? ⟨g1, 0, none⟩ = some (.int .u64 ah) := (f_a).cell 0
            have a_1 : w_9.cell? ⟨g1, 1, none⟩ = some (.int .u64 al) := (f_a).cell 1
            have a_f0 := (f_a).frozen 0
            have a_f1 := (f_a).frozen 1
            have a_l := (f_a).lt
            replace f_a := Lib.hid f_a
            have b_0 : w_9.cell? ⟨g2, 0, none⟩ = some (.int .u64 bh) := (f_b).cell 0
            have b_1 : w_9.cell? ⟨g2, 1, none⟩ = some (.int .u64 bl) := (f_b).cell 1
            have b_f0 := (f_b).frozen 0
            have b_f1 := (f_b).frozen 1
            have b_l := (f_b).lt
            replace f_b := Lib.hid f_b
            replace hB_9 := Lib.hid hB_9
            go_wp2_with fail
            refine (HC3.out _ _ _ _ _ s_x.out s_y.out).mono ?_
            rintro e w_10 ⟨rfl, hb_10⟩
            have z_10 := hb_10.size
            try simp at z_10
            have t_ := hB_9.out
            have hB_10 := bel_eld (w := w) (X := _) (by first | ((repeat (first | with_reducible exact Below.refl _ _ | with_reducible assumption | (with_reducible refine bel_set ?_ (by first | exact Nat.le_refl _ | (simp; done) | (simp; omega) | omega) _) | with_reducible refine bel_grow ?_ _ | with_reducible refine Below.drew ?_ | with_reducible refine below_drewN ?_ _ | with_reducible refine bel_alloc ?_ _ | with_reducible refine bel_trans ?_ (by assumption))); done) | (repeat (first | exact Below.refl _ _ | assumption | refine below_drewN ?_ _ | refine bel_grow ?_ _ | refine Below.drew ?_ | refine bel_alloc ?_ _ | refine bel_set ?_ (by first | exact Nat.le_refl _ | (simp; done) | (simp; omega) | omega) _ | refine bel_trans ?_ (by assumption)))) hb_10
            clear t_
            have hP_ := bel_eld (w := w_9) (X := _) (by first | ((repeat (first | with_reducible exact Below.refl _ _ | with_reducible assumption | (with_reducible refine bel_set ?_ (by first | exact Nat.le_refl _ | (simp; done) | (simp; omega) | omega) _) | with_reducible refine bel_grow ?_ _ | with_reducible refine Below.drew ?_ | with_reducible refine below_drewN ?_ _ | with_reducible refine bel_alloc ?_ _ | with_reducible refine bel_trans ?_ (by assumption))); done) | (repeat (first | exact Below.refl _ _ | assumption | refine below_drewN ?_ _ | refine bel_grow ?_ _ | refine Below.drew ?_ | refine bel_alloc ?_ _ | refine bel_set ?_ (by first | exact Nat.le_refl _ | (simp; done) | (simp; omega) | omega) _ | refine bel_trans ?_ (by assumption)))) hb_10
            have k_s_x := Lib.hid (s_x.out.below hP_)
            clear s_x
            have s_x := k_s_x
            clear k_s_x
            have k_s_y := Lib.hid (s_y.out.below hP_)
            clear s_y
            have s_y := k_s_y
            clear k_s_y
            have t_a := f_a.out
            have t_b := f_b.out
            have g_a : Blk w_10 (g1) 36 #[.int .u64 ah, .int .u64 al] := Blk.kept t_a hP_
            have g_b : Blk w_10 (g2) 36 #[.int .u64 bh, .int .u64 bl] := Blk.kept t_b hP_
            clear hP_
            clear f_a a_l a_0 a_1 a_f0 a_f1 f_b b_l b_0 b_1 b_f0 b_f1 t_a t_b hB_9 hb_10
            have f_a := g_a
            clear g_a
            have f_b := g_b
            clear g_b
            have a_0 : w_10.cell? ⟨g1, 0, none⟩ = some (.int .u64 ah) := (f_a).cell 0
            have a_1 : w_10.cell? ⟨g1, 1, none⟩ = some (.int .u64 al) := (f_a).cell 1
            have a_f0 := (f_a).frozen 0
            have a_f1 := (f_a).frozen 1
            have a_l := (f_a).lt
            replace f_a := Lib.hid f_a
            have b_0 : w_10.cell? ⟨g2, 0, none⟩ = some (.int .u64 bh) := (f_b).cell 0
            have b_1 : w_10.cell? ⟨g2, 1, none⟩ = some (.int .u64 bl) := (f_b).cell 1
            have b_f0 := (f_b).frozen 0
            have b_f1 := (f_b).frozen 1
            have b_l := (f_b).lt
            replace f_b := Lib.hid f_b
            replace hB_10 := Lib.hid hB_10
            go_wp2_with fail
            go_ret
            exact ⟨by have hE2 := hE.out; first | rfl | (simp; done) | (simp; exact hE2) | (simp at hE2 ⊢; by_cases g : ah = bh; exact Or.inr (hE2 g); exact Or.inl g), by have t_B := hB_10.out; (repeat (first | with_reducible exact Below.refl _ _ | with_reducible assumption | (with_reducible refine bel_set ?_ (by first | exact Nat.le_refl _ | (simp; done) | (simp; omega) | omega) _) | with_reducible refine bel_grow ?_ _ | with_reducible refine Below.drew ?_ | with_reducible refine below_drewN ?_ _ | with_reducible refine bel_alloc ?_ _ | with_reducible refine bel_trans ?_ (by assumption)))⟩
      · have q2 : (cc == 0) = false := beq_eq_false_iff_ne.2 q
        have q3 : wantV cc n m = cc := by unfold wantV; rw [if_neg (by omega), if_neg (by omega)]
        rw [q3] at HC3
        replace q := Lib.hid q
        clear q3

        go_wp2_with fail
        refine (HI.out _).mono ?_
        rintro e w_3 ⟨g5, rfl, j5, s_5, hb_3⟩
        have z_3 := hb_3.size
        try simp at z_3
        have t_ := hB_2.out
        have hB_3 := bel_eld (w := w) (X := _) (by first | ((repeat (first | with_reducible exact Below.refl _ _ | with_reducible assumption | (with_reducible refine bel_set ?_ (by first | exact Nat.le_refl _ | (simp; done) | (simp; omega) | omega) _) | with_reducible refine bel_grow ?_ _ | with_reducible refine Below.drew ?_ | with_reducible refine below_drewN ?_ _ | with_reducible refine bel_alloc ?_ _ | with_reducible refine bel_trans ?_ (by assumption))); done) | (repeat (first | exact Below.refl _ _ | assumption | refine below_drewN ?_ _ | refine bel_grow ?_ _ | refine Below.drew ?_ | refine bel_alloc ?_ _ | refine bel_set ?_ (by first | exact Nat.le_refl _ | (simp; done) | (simp; omega) | omega) _ | refine bel_trans ?_ (by assumption)))) hb_3
        clear t_
        have hP_ := bel_eld (w := w_2) (X := _) (by first | ((repeat (first | with_reducible exact Below.refl _ _ | with_reducible assumption | (with_reducible refine bel_set ?_ (by first | exact Nat.le_refl _ | (simp; done) | (simp; omega) | omega) _) | with_reducible refine bel_grow ?_ _ | with_reducible refine Below.drew ?_ | with_reducible refine below_drewN ?_ _ | with_reducible refine bel_alloc ?_ _ | with_reducible refine bel_trans ?_ (by assumption))); done) | (repeat (first | exact Below.refl _ _ | assumption | refine below_drewN ?_ _ | refine bel_grow ?_ _ | refine Below.drew ?_ | refine bel_alloc ?_ _ | refine bel_set ?_ (by first | exact Nat.le_refl _ | (simp; done) | (simp; omega) | omega) _ | refine bel_trans ?_ (by assumption)))) hb_3
        have k_s_x := Lib.hid (s_x.out.below hP_)
        clear s_x
        have s_x := k_s_x
        clear k_s_x
        have k_s_y := Lib.hid (s_y.out.below hP_)
        clear s_y
        have s_y := k_s_y
        clear k_s_y
        have t_a := f_a.out
        have t_b := f_b.out
        have g_a : Blk w_3 (g1) 36 #[.int .u64 ah, .int .u64 al] := Blk.kept t_a hP_
        have g_b : Blk w_3 (g2) 36 #[.int .u64 bh, .int .u64 bl] := Blk.kept t_b hP_
        clear hP_
        clear f_a a_l a_0 a_1 a_f0 a_f1 f_b b_l b_0 b_1 b_f0 b_f1 t_a t_b hB_2 hb_3
        have f_a := g_a
        clear g_a
        have f_b := g_b
        clear g_b
        have a_0 : w_3.cell? ⟨g1, 0, none⟩ = some (.int .u64 ah) := (f_a).cell 0
        have a_1 : w_3.cell? ⟨g1, 1, none⟩ = some (.int .u64 al) := (f_a).cell 1
        have a_f0 := (f_a).frozen 0
        have a_f1 := (f_a).frozen 1
        have a_l := (f_a).lt
        replace f_a := Lib.hid f_a
        have b_0 : w_3.cell? ⟨g2, 0, none⟩ = some (.int .u64 bh) := (f_b).cell 0
        have b_1 : w_3.cell? ⟨g2, 1, none⟩ = some (.int .u64 bl) := (f_b).cell 1
        have b_f0 := (f_b).frozen 0
        have b_f1 := (f_b).frozen 1
        have b_l := (f_b).lt
        replace f_b := Lib.hid f_b
        replace hB_3 := Lib.hid hB_3
        go_wp2_with fail
        refine (HL.out _ _ s_5).mono ?_
        rintro e w_4 ⟨g6, rfl, s_l, hb_4⟩
        have z_4 := hb_4.size
        try simp at z_4
        have t_ := hB_3.out
        have hB_4 := bel_eld (w := w) (X := _) (by first | ((repeat (first | with_reducible exact Below.refl _ _ | with_reducible assumption | (with_reducible refine bel_set ?_ (by first | exact Nat.le_refl _ | (simp; done) | (simp; omega) | omega) _) | with_reducible refine bel_grow ?_ _ | with_reducible refine Below.drew ?_ | with_reducible refine below_drewN ?_ _ | with_reducible refine bel_alloc ?_ _ | with_reducible refine bel_trans ?_ (by assumption))); done) | (repeat (first | exact Below.refl _ _ | assumption | refine below_drewN ?_ _ | refine bel_grow ?_ _ | refine Below.drew ?_ | refine bel_alloc ?_ _ | refine bel_set ?_ (by first | exact Nat.le_refl _ | (simp; done) | (simp; omega) | omega) _ | refine bel_trans ?_ (by assumption)))) hb_4
        clear t_
        have hP_ := bel_eld (w := w_3) (X := _) (by first | ((repeat (first | with_reducible exact Below.refl _ _ | with_reducible assumption | (with_reducible refine bel_set ?_ (by first | exact Nat.le_refl _ | (simp; done) | (simp; omega) | omega) _) | with_reducible refine bel_grow ?_ _ | with_reducible refine Below.drew ?_ | with_reducible refine below_drewN ?_ _ | with_reducible refine bel_alloc ?_ _ | with_reducible refine bel_trans ?_ (by assumption))); done) | (repeat (first | exact Below.refl _ _ | assumption | refine below_drewN ?_ _ | refine bel_grow ?_ _ | refine Below.drew ?_ | refine bel_alloc ?_ _ | refine bel_set ?_ (by first | exact Nat.le_refl _ | (simp; done) | (simp; omega) | omega) _ | refine bel_trans ?_ (by assumption)))) hb_4
        have k_s_x := Lib.hid (s_x.out.below hP_)
        clear s_x
        have s_x := k_s_x
        clear k_s_x
        have k_s_y := Lib.hid (s_y.out.below hP_)
        clear s_y
        have s_y := k_s_y
        clear k_s_y
        replace s_l := Lib.hid s_l
        have t_a := f_a.out
        have t_b := f_b.out
        have g_a : Blk w_4 (g1) 36 #[.int .u64 ah, .int .u64 al] := Blk.kept t_a hP_
        have g_b : Blk w_4 (g2) 36 #[.int .u64 bh, .int .u64 bl] := Blk.kept t_b hP_
        clear hP_
        clear f_a a_l a_0 a_1 a_f0 a_f1 f_b b_l b_0 b_1 b_f0 b_f1 t_a t_b hB_3 hb_4
        have f_a := g_a
        clear g_a
        have f_b := g_b
        clear g_b
        have a_0 : w_4.cell? ⟨g1, 0, none⟩ = some (.int .u64 ah) := (f_a).cell 0
        have a_1 : w_4.cell? ⟨g1, 1, none⟩ = some (.int .u64 al) := (f_a).cell 1
        have a_f0 := (f_a).frozen 0
        have a_f1 := (f_a).frozen 1
        have a_l := (f_a).lt
        replace f_a := Lib.hid f_a
        have b_0 : w_4.cell? ⟨g2, 0, none⟩ = some (.int .u64 bh) := (f_b).cell 0
        have b_1 : w_4.cell? ⟨g2, 1, none⟩ = some (.int .u64 bl) := (f_b).cell 1
        have b_f0 := (f_b).frozen 0
        have b_f1 := (f_b).frozen 1
        have b_l := (f_b).lt
        replace f_b := Lib.hid f_b
        replace hB_4 := Lib.hid hB_4
        go_wp2_with fail
        refine (HC1.out _ _ _ _ _ s_l.out s_y.out).mono ?_
        rintro e w_5 ⟨rfl, hb_5⟩
        have z_5 := hb_5.size
        try simp at z_5
        have t_ := hB_4.out
        have hB_5 := bel_eld (w := w) (X := _) (by first | ((repeat (first | with_reducible exact Below.refl _ _ | with_reducible assumption | (with_reducible refine bel_set ?_ (by first | exact Nat.le_refl _ | (simp; done) | (simp; omega) | omega) _) | with_reducible refine bel_grow ?_ _ | with_reducible refine Below.drew ?_ | with_reducible refine below_drewN ?_ _ | with_reducible refine bel_alloc ?_ _ | with_reducible refine bel_trans ?_ (by assumption))); done) | (repeat (first | exact Below.refl _ _ | assumption | refine below_drewN ?_ _ | refine bel_grow ?_ _ | refine Below.drew ?_ | refine bel_alloc ?_ _ | refine bel_set ?_ (by first | exact Nat.le_refl _ | (simp; done) | (simp; omega) | omega) _ | refine bel_trans ?_ (by assumption)))) hb_5
        clear t_
        have hP_ := bel_eld (w := w_4) (X := _) (by first | ((repeat (first | with_reducible exact Below.refl _ _ | with_reducible assumption | (with_reducible refine bel_set ?_ (by first | exact Nat.le_refl _ | (simp; done) | (simp; omega) | omega) _) | with_reducible refine bel_grow ?_ _ | with_reducible refine Below.drew ?_ | with_reducible refine below_drewN ?_ _ | with_reducible refine bel_alloc ?_ _ | with_reducible refine bel_trans ?_ (by assumption))); done) | (repeat (first | exact Below.refl _ _ | assumption | refine below_drewN ?_ _ | refine bel_grow ?_ _ | refine Below.drew ?_ | refine bel_alloc ?_ _ | refine bel_set ?_ (by first | exact Nat.le_refl _ | (simp; done) | (simp; omega) | omega) _ | refine bel_trans ?_ (by assumption)))) hb_5
        have k_s_x := Lib.hid (s_x.out.below hP_)
        clear s_x
        have s_x := k_s_x
        clear k_s_x
        have k_s_y := Lib.hid (s_y.out.below hP_)
        clear s_y
        have s_y := k_s_y
        clear k_s_y
        clear s_l
        have t_a := f_a.out
        have t_b := f_b.out
        have g_a : Blk w_5 (g1) 36 #[.int .u64 ah, .int .u64 al] := Blk.kept t_a hP_
        have g_b : Blk w_5 (g2) 36 #[.int .u64 bh, .int .u64 bl] := Blk.kept t_b hP_
        clear hP_
        clear f_a a_l a_0 a_1 a_f0 a_f1 f_b b_l b_0 b_1 b_f0 b_f1 t_a t_b hB_4 hb_5
        have f_a := g_a
        clear g_a
        have f_b := g_b
        clear g_b
        have a_0 : w_5.cell? ⟨g1, 0, none⟩ = some (.int .u64 ah) := (f_a).cell 0
        have a_1 : w_5.cell? ⟨g1, 1, none⟩ = some (.int .u64 al) := (f_a).cell 1
        have a_f0 := (f_a).frozen 0
        have a_f1 := (f_a).frozen 1
        have a_l := (f_a).lt
        replace f_a := Lib.hid f_a
        have b_0 : w_5.cell? ⟨g2, 0, none⟩ = some (.int .u64 bh) := (f_b).cell 0
        have b_1 : w_5.cell? ⟨g2, 1, none⟩ = some (.int .u64 bl) := (f_b).cell 1
        have b_f0 := (f_b).frozen 0
        have b_f1 := (f_b).frozen 1
        have b_l := (f_b).lt
        replace f_b := Lib.hid f_b
        replace hB_5 := Lib.hid hB_5
        clear HL HC1
        cases q : decide (v1 ≤ 0)
        case false =>
          have hE := Lib.hid (show (ah == bh && al == bl) = false by rw [← k2.out, q]; rfl)

          go_wp2_with fail
          refine (HX.out _).mono ?_
          rintro e w_6 ⟨rfl, hb_6⟩
          have z_6 := hb_6.size
          try simp at z_6
          have t_ := hB_5.out
          have hB_6 := bel_eld (w := w) (X := _) (by first | ((repeat (first | with_reducible exact Below.refl _ _ | with_reducible assumption | (with_reducible refine bel_set ?_ (by first | exact Nat.le_refl _ | (simp; done) | (simp; omega) | omega) _) | with_reducible refine bel_grow ?_ _ | with_reducible refine Below.drew ?_ | with_reducible refine below_drewN ?_ _ | with_reducible refine bel_alloc ?_ _ | with_reducible refine bel_trans ?_ (by assumption))); done) | (repeat (first | exact Below.refl _ _ | assumption | refine below_drewN ?_ _ | refine bel_grow ?_ _ | refine Below.drew ?_ | refine bel_alloc ?_ _ | refine bel_set ?_ (by first | exact Nat.le_refl _ | (simp; done) | (simp; omega) | omega) _ | refine bel_trans ?_ (by assumption)))) hb_6
          clear t_
          have hP_ := bel_eld (w := w_5) (X := _) (by first | ((repeat (first | with_reducible exact Below.refl _ _ | with_reducible assumption | (with_reducible refine bel_set ?_ (by first | exact Nat.le_refl _ | (simp; done) | (simp; omega) | omega) _) | with_reducible refine bel_grow ?_ _ | with_reducible refine Below.drew ?_ | with_reducible refine below_drewN ?_ _ | with_reducible refine bel_alloc ?_ _ | with_reducible refine bel_trans ?_ (by assumption))); done) | (repeat (first | exact Below.refl _ _ | assumption | refine below_drewN ?_ _ | refine bel_grow ?_ _ | refine Below.drew ?_ | refine bel_alloc ?_ _ | refine bel_set ?_ (by first | exact Nat.le_refl _ | (simp; done) | (simp; omega) | omega) _ | refine bel_trans ?_ (by assumption)))) hb_6
          have k_s_x := Lib.hid (s_x.out.below hP_)
          clear s_x
          have s_x := k_s_x
          clear k_s_x
          have k_s_y := Lib.hid (s_y.out.below hP_)
          clear s_y
          have s_y := k_s_y
          clear k_s_y
          have t_a := f_a.out
          have t_b := f_b.out
          have g_a : Blk w_6 (g1) 36 #[.int .u64 ah, .int .u64 al] := Blk.kept t_a hP_
          have g_b : Blk w_6 (g2) 36 #[.int .u64 bh, .int .u64 bl] := Blk.kept t_b hP_
          clear hP_
          clear f_a a_l a_0 a_1 a_f0 a_f1 f_b b_l b_0 b_1 b_f0 b_f1 t_a t_b hB_5 hb_6
          have f_a := g_a
          clear g_a
          have f_b := g_b
          clear g_b
          have a_0 : w_6.cell? ⟨g1, 0, none⟩ = some (.int .u64 ah) := (f_a).cell 0
          have a_1 : w_6.cell? ⟨g1, 1, none⟩ = some (.int .u64 al) := (f_a).cell 1
          have a_f0 := (f_a).frozen 0
          have a_f1 := (f_a).frozen 1
          have a_l := (f_a).lt
          replace f_a := Lib.hid f_a
          have b_0 : w_6.cell? ⟨g2, 0, none⟩ = some (.int .u64 bh) := (f_b).cell 0
          have b_1 : w_6.cell? ⟨g2, 1, none⟩ = some (.int .u64 bl) := (f_b).cell 1
          have b_f0 := (f_b).frozen 0
          have b_f1 := (f_b).frozen 1
          have b_l := (f_b).lt
          replace f_b := Lib.hid f_b
          replace hB_6 := Lib.hid hB_6
          go_wp2_with fail
          refine (HC3.out _ _ _ _ _ s_x.out s_y.out).mono ?_
          rintro e w_7 ⟨rfl, hb_7⟩
          have z_7 := hb_7.size
          try simp at z_7
          have t_ := hB_6.out
          have hB_7 := bel_eld (w := w) (X := _) (by first | ((repeat (first | with_reducible exact Below.refl _ _ | with_reducible assumption | (with_reducible refine bel_set ?_ (by first | exact Nat.le_refl _ | (simp; done) | (simp; omega) | omega) _) | with_reducible refine bel_grow ?_ _ | with_reducible refine Below.drew ?_ | with_reducible refine below_drewN ?_ _ | with_reducible refine bel_alloc ?_ _ | with_reducible refine bel_trans ?_ (by assumption))); done) | (repeat (first | exact Below.refl _ _ | assumption | refine below_drewN ?_ _ | refine bel_grow ?_ _ | refine Below.drew ?_ | refine bel_alloc ?_ _ | refine bel_set ?_ (by first | exact Nat.le_refl _ | (simp; done) | (simp; omega) | omega) _ | refine bel_trans ?_ (by assumption)))) hb_7
          clear t_
          have hP_ := bel_eld (w := w_6) (X := _) (by first | ((repeat (first | with_reducible exact Below.refl _ _ | with_reducible assumption | (with_reducible refine bel_set ?_ (by first | exact Nat.le_refl _ | (simp; done) | (simp; omega) | omega) _) | with_reducible refine bel_grow ?_ _ | with_reducible refine Below.drew ?_ | with_reducible refine below_drewN ?_ _ | with_reducible refine bel_alloc ?_ _ | with_reducible refine bel_trans ?_ (by assumption))); done) | (repeat (first | exact Below.refl _ _ | assumption | refine below_drewN ?_ _ | refine bel_grow ?_ _ | refine Below.drew ?_ | refine bel_alloc ?_ _ | refine bel_set ?_ (by first | exact Nat.le_refl _ | (simp; done) | (simp; omega) | omega) _ | refine bel_trans ?_ (by assumption)))) hb_7
          have k_s_x := Lib.hid (s_x.out.below hP_)
          clear s_x
          have s_x := k_s_x
          clear k_s_x
          have k_s_y := Lib.hid (s_y.out.below hP_)
          clear s_y
          have s_y := k_s_y
          clear k_s_y
          have t_a := f_a.out
          have t_b := f_b.out
          have g_a : Blk w_7 (g1) 36 #[.int .u64 ah, .int .u64 al] := Blk.kept t_a hP_
          have g_b : Blk w_7 (g2) 36 #[.int .u64 bh, .int .u64 bl] := Blk.kept t_b hP_
          clear hP_
          clear f_a a_l a_0 a_1 a_f0 a_f1 f_b b_l b_0 b_1 b_f0 b_f1 t_a t_b hB_6 hb_7
          have f_a := g_a
          clear g_a
          have f_b := g_b
          clear g_b
          have a_0 : w_7.cell? ⟨g1, 0, none⟩ = some (.int .u64 ah) := (f_a).cell 0
          have a_1 : w_7.cell? ⟨g1, 1, none⟩ = some (.int .u64 al) := (f_a).cell 1
          have a_f0 := (f_a).frozen 0
          have a_f1 := (f_a).frozen 1
          have a_l := (f_a).lt
          replace f_a := Lib.hid f_a
          have b_0 : w_7.cell? ⟨g2, 0, none⟩ = some (.int .u64 bh) := (f_b).cell 0
          have b_1 : w_7.cell? ⟨g2, 1, none⟩ = some (.int .u64 bl) := (f_b).cell 1
          have b_f0 := (f_b).frozen 0
          have b_f1 := (f_b).frozen 1
          have b_l := (f_b).lt
          replace f_b := Lib.hid f_b
          replace hB_7 := Lib.hid hB_7
          go_wp2_with fail
          go_ret
          exact ⟨by have hE2 := hE.out; first | rfl | (simp; done) | (simp; exact hE2) | (simp at hE2 ⊢; by_cases g : ah = bh; exact Or.inr (hE2 g); exact Or.inl g), by have t_B := hB_7.out; (repeat (first | with_reducible exact Below.refl _ _ | with_reducible assumption | (with_reducible refine bel_set ?_ (by first | exact Nat.le_refl _ | (simp; done) | (simp; omega) | omega) _) | with_reducible refine bel_grow ?_ _ | with_reducible refine Below.drew ?_ | with_reducible refine below_drewN ?_ _ | with_reducible refine bel_alloc ?_ _ | with_reducible refine bel_trans ?_ (by assumption)))⟩
        case true =>
          have hE := Lib.hid (show decide (v2 ≤ 0) = (ah == bh && al == bl) by rw [← k2.out, q]; rfl)

          go_wp2_with fail
          refine (HI.out _).mono ?_
          rintro e w_6 ⟨g8, rfl, j8, s_8, hb_6⟩
          have z_6 := hb_6.size
          try simp at z_6
          have t_ := hB_5.out
          have hB_6 := bel_eld (w := w) (X := _) (by first | ((repeat (first | with_reducible exact Below.refl _ _ | with_reducible assumption | (with_reducible refine bel_set ?_ (by first | exact Nat.le_refl _ | (simp; done) | (simp; omega) | omega) _) | with_reducible refine bel_grow ?_ _ | with_reducible refine Below.drew ?_ | with_reducible refine below_drewN ?_ _ | with_reducible refine bel_alloc ?_ _ | with_reducible refine bel_trans ?_ (by assumption))); done) | (repeat (first | exact Below.refl _ _ | assumption | refine below_drewN ?_ _ | refine bel_grow ?_ _ | refine Below.drew ?_ | refine bel_alloc ?_ _ | refine bel_set ?_ (by first | exact Nat.le_refl _ | (simp; done) | (simp; omega) | omega) _ | refine bel_trans ?_ (by assumption)))) hb_6
          clear t_
          have hP_ := bel_eld (w := w_5) (X := _) (by first | ((repeat (first | with_reducible exact Below.refl _ _ | with_reducible assumption | (with_reducible refine bel_set ?_ (by first | exact Nat.le_refl _ | (simp; done) | (simp; omega) | omega) _) | with_reducible refine bel_grow ?_ _ | with_reducible refine Below.drew ?_ | with_reducible refine below_drewN ?_ _ | with_reducible refine bel_alloc ?_ _ | with_reducible refine bel_trans ?_ (by assumption))); done) | (repeat (first | exact Below.refl _ _ | assumption | refine below_drewN ?_ _ | refine bel_grow ?_ _ | refine Below.drew ?_ | refine bel_alloc ?_ _ | refine bel_set ?_ (by first | exact Nat.le_refl _ | (simp; done) | (simp; omega) | omega) _ | refine bel_trans ?_ (by assumption)))) hb_6
          have k_s_x := Lib.hid (s_x.out.below hP_)
          clear s_x
          have s_x := k_s_x
          clear k_s_x
          have k_s_y := Lib.hid (s_y.out.below hP_)
          clear s_y
          have s_y := k_s_y
          clear k_s_y
          have t_a := f_a.out
          have t_b := f_b.out
          have g_a : Blk w_6 (g1) 36 #[.int .u64 ah, .int .u64 al] := Blk.kept t_a hP_
          have g_b : Blk w_6 (g2) 36 #[.int .u64 bh, .int .u64 bl] := Blk.kept t_b hP_
          clear hP_
          clear f_a a_l a_0 a_1 a_f0 a_f1 f_b b_l b_0 b_1 b_f0 b_f1 t_a t_b hB_5 hb_6
          have f_a := g_a
          clear g_a
          have f_b := g_b
          clear g_b
          have a_0 : w_6.cell? ⟨g1, 0, none⟩ = some (.int .u64 ah) := (f_a).cell 0
          have a_1 : w_6.cell? ⟨g1, 1, none⟩ = some (.int .u64 al) := (f_a).cell 1
          have a_f0 := (f_a).frozen 0
          have a_f1 := (f_a).frozen 1
          have a_l := (f_a).lt
          replace f_a := Lib.hid f_a
          have b_0 : w_6.cell? ⟨g2, 0, none⟩ = some (.int .u64 bh) := (f_b).cell 0
          have b_1 : w_6.cell? ⟨g2, 1, none⟩ = some (.int .u64 bl) := (f_b).cell 1
          have b_f0 := (f_b).frozen 0
          have b_f1 := (f_b).frozen 1
          have b_l := (f_b).lt
          replace f_b := Lib.hid f_b
          replace hB_6 := Lib.hid hB_6
          go_wp2_with fail
          refine (HH.out _ _ s_8).mono ?_
          rintro e w_7 ⟨g9, rfl, s_h, hb_7⟩
          have z_7 := hb_7.size
          try simp at z_7
          have t_ := hB_6.out
          have hB_7 := bel_eld (w := w) (X := _) (by first | ((repeat (first | with_reducible exact Below.refl _ _ | with_reducible assumption | (with_reducible refine bel_set ?_ (by first | exact Nat.le_refl _ | (simp; done) | (simp; omega) | omega) _) | with_reducible refine bel_grow ?_ _ | with_reducible refine Below.drew ?_ | with_reducible refine below_drewN ?_ _ | with_reducible refine bel_alloc ?_ _ | with_reducible refine bel_trans ?_ (by assumption))); done) | (repeat (first | exact Below.refl _ _ | assumption | refine below_drewN ?_ _ | refine bel_grow ?_ _ | refine Below.drew ?_ | refine bel_alloc ?_ _ | refine bel_set ?_ (by first | exact Nat.le_refl _ | (simp; done) | (simp; omega) | omega) _ | refine bel_trans ?_ (by assumption)))) hb_7
          clear t_
          have hP_ := bel_eld (w := w_6) (X := _) (by first | ((repeat (first | with_reducible exact Below.refl _ _ | with_reducible assumption | (with_reducible refine bel_set ?_ (by first | exact Nat.le_refl _ | (simp; done) | (simp; omega) | omega) _) | with_reducible refine bel_grow ?_ _ | with_reducible refine Below.drew ?_ | with_reducible refine below_drewN ?_ _ | with_reducible refine bel_alloc ?_ _ | with_reducible refine bel_trans ?_ (by assumption))); done) | (repeat (first | exact Below.refl _ _ | assumption | refine below_drewN ?_ _ | refine bel_grow ?_ _ | refine Below.drew ?_ | refine bel_alloc ?_ _ | refine bel_set ?_ (by first | exact Nat.le_refl _ | (simp; done) | (simp; omega) | omega) _ | refine bel_trans ?_ (by assumption)))) hb_7
          have k_s_x := Lib.hid (s_x.out.below hP_)
          clear s_x
          have s_x := k_s_x
          clear k_s_x
          have k_s_y := Lib.hid (s_y.out.below hP_)
          clear s_y
          have s_y := k_s_y
          clear k_s_y
          replace s_h := Lib.hid s_h
          have t_a := f_a.out
          have t_b := f_b.out
          have g_a : Blk w_7 (g1) 36 #[.int .u64 ah, .int .u64 al] := Blk.kept t_a hP_
          have g_b : Blk w_7 (g2) 36 #[.int .u64 bh, .int .u64 bl] := Blk.kept t_b hP_
          clear hP_
          clear f_a a_l a_0 a_1 a_f0 a_f1 f_b b_l b_0 b_1 b_f0 b_f1 t_a t_b hB_6 hb_7
          have f_a := g_a
          clear g_a
          have f_b := g_b
          clear g_b
          have a_0 : w_7.cell? ⟨g1, 0, none⟩ = some (.int .u64 ah) := (f_a).cell 0
          have a_1 : w_7.cell? ⟨g1, 1, none⟩ = some (.int .u64 al) := (f_a).cell 1
          have a_f0 := (f_a).frozen 0
          have a_f1 := (f_a).frozen 1
          have a_l := (f_a).lt
          replace f_a := Lib.hid f_a
          have b_0 : w_7.cell? ⟨g2, 0, none⟩ = some (.int .u64 bh) := (f_b).cell 0
          have b_1 : w_7.cell? ⟨g2, 1, none⟩ = some (.int .u64 bl) := (f_b).cell 1
          have b_f0 := (f_b).frozen 0
          have b_f1 := (f_b).frozen 1
          have b_l := (f_b).lt
          replace f_b := Lib.hid f_b
          replace hB_7 := Lib.hid hB_7
          go_wp2_with fail
          refine (HC2.out _ _ _ _ _ s_y.out s_h.out).mono ?_
          rintro e w_8 ⟨rfl, hb_8⟩
          have z_8 := hb_8.size
          try simp at z_8
          have t_ := hB_7.out
          have hB_8 := bel_eld (w := w) (X := _) (by first | ((repeat (first | with_reducible exact Below.refl _ _ | with_reducible assumption | (with_reducible refine bel_set ?_ (by first | exact Nat.le_refl _ | (simp; done) | (simp; omega) | omega) _) | with_reducible refine bel_grow ?_ _ | with_reducible refine Below.drew ?_ | with_reducible refine below_drewN ?_ _ | with_reducible refine bel_alloc ?_ _ | with_reducible refine bel_trans ?_ (by assumption))); done) | (repeat (first | exact Below.refl _ _ | assumption | refine below_drewN ?_ _ | refine bel_grow ?_ _ | refine Below.drew ?_ | refine bel_alloc ?_ _ | refine bel_set ?_ (by first | exact Nat.le_refl _ | (simp; done) | (simp; omega) | omega) _ | refine bel_trans ?_ (by assumption)))) hb_8
          clear t_
          have hP_ := bel_eld (w := w_7) (X := _) (by first | ((repeat (first | with_reducible exact Below.refl _ _ | with_reducible assumption | (with_reducible refine bel_set ?_ (by first | exact Nat.le_refl _ | (simp; done) | (simp; omega) | omega) _) | with_reducible refine bel_grow ?_ _ | with_reducible refine Below.drew ?_ | with_reducible refine below_drewN ?_ _ | with_reducible refine bel_alloc ?_ _ | with_reducible refine bel_trans ?_ (by assumption))); done) | (repeat (first | exact Below.refl _ _ | assumption | refine below_drewN ?_ _ | refine bel_grow ?_ _ | refine Below.drew ?_ | refine bel_alloc ?_ _ | refine bel_set ?_ (by first | exact Nat.le_refl _ | (simp; done) | (simp; omega) | omega) _ | refine bel_trans ?_ (by assumption)))) hb_8
          have k_s_x := Lib.hid (s_x.out.below hP_)
          clear s_x
          have s_x := k_s_x
          clear k_s_x
          have k_s_y := Lib.hid (s_y.out.below hP_)
          clear s_y
          have s_y := k_s_y
          clear k_s_y
          clear s_h
          have t_a := f_a.out
          have t_b := f_b.out
          have g_a : Blk w_8 (g1) 36 #[.int .u64 ah, .int .u64 al] := Blk.kept t_a hP_
          have g_b : Blk w_8 (g2) 36 #[.int .u64 bh, .int .u64 bl] := Blk.kept t_b hP_
          clear hP_
          clear f_a a_l a_0 a_1 a_f0 a_f1 f_b b_l b_0 b_1 b_f0 b_f1 t_a t_b hB_7 hb_8
          have f_a := g_a
          clear g_a
          have f_b := g_b
          clear g_b
          have a_0 : w_8.cell? ⟨g1, 0, none⟩ = some (.int .u64 ah) := (f_a).cell 0
          have a_1 : w_8.cell? ⟨g1, 1, none⟩ = some (.int .u64 al) := (f_a).cell 1
          have a_f0 := (f_a).frozen 0
          have a_f1 := (f_a).frozen 1
          have a_l := (f_a).lt
          replace f_a := Lib.hid f_a
          have b_0 : w_8.cell? ⟨g2, 0, none⟩ = some (.int .u64 bh) := (f_b).cell 0
          have b_1 : w_8.cell? ⟨g2, 1, none⟩ = some (.int .u64 bl) := (f_b).cell 1
          have b_f0 := (f_b).frozen 0
          have b_f1 := (f_b).frozen 1
          have b_l := (f_b).lt
          replace f_b := Lib.hid f_b
          replace hB_8 := Lib.hid hB_8
          go_wp2_with fail
          refine (HX.out _).mono ?_
          rintro e w_9 ⟨rfl, hb_9⟩
          have z_9 := hb_9.size
          try simp at z_9
          have t_ := hB_8.out
          have hB_9 := bel_eld (w := w) (X := _) (by first | ((repeat (first | with_reducible exact Below.refl _ _ | with_reducible assumption | (with_reducible refine bel_set ?_ (by first | exact Nat.le_refl _ | (simp; done) | (simp; omega) | omega) _) | with_reducible refine bel_grow ?_ _ | with_reducible refine Below.drew ?_ | with_reducible refine below_drewN ?_ _ | with_reducible refine bel_alloc ?_ _ | with_reducible refine bel_trans ?_ (by assumption))); done) | (repeat (first | exact Below.refl _ _ | assumption | refine below_drewN ?_ _ | refine bel_grow ?_ _ | refine Below.drew ?_ | refine bel_alloc ?_ _ | refine bel_set ?_ (by first | exact Nat.le_refl _ | (simp; done) | (simp; omega) | omega) _ | refine bel_trans ?_ (by assumption)))) hb_9
          clear t_
          have hP_ := bel_eld (w := w_8) (X := _) (by first | ((repeat (first | with_reducible exact Below.refl _ _ | with_reducible assumption | (with_reducible refine bel_set ?_ (by first | exact Nat.le_refl _ | (simp; done) | (simp; omega) | omega) _) | with_reducible refine bel_grow ?_ _ | with_reducible refine Below.drew ?_ | with_reducible refine below_drewN ?_ _ | with_reducible refine bel_alloc ?_ _ | with_reducible refine bel_trans ?_ (by assumption))); done) | (repeat (first | exact Below.refl _ _ | assumption | refine below_drewN ?_ _ | refine bel_grow ?_ _ | refine Below.drew ?_ | refine bel_alloc ?_ _ | refine bel_set ?_ (by first | exact Nat.le_refl _ | (simp; done) | (simp; omega) | omega) _ | refine bel_trans ?_ (by assumption)))) hb_9
          have k_s_x := Lib.hid (s_x.out.below hP_)
          clear s_x
          have s_x := k_s_x
          clear k_s_x
          have k_s_y := Lib.hid (s_y.out.below hP_)
          clear s_y
          have s_y := k_s_y
          clear k_s_y
          have t_a := f_a.out
          have t_b := f_b.out
          have g_a : Blk w_9 (g1) 36 #[.int .u64 ah, .int .u64 al] := Blk.kept t_a hP_
          have g_b : Blk w_9 (g2) 36 #[.int .u64 bh, .int .u64 bl] := Blk.kept t_b hP_
          clear hP_
          clear f_a a_l a_0 a_1 a_f0 a_f1 f_b b_l b_0 b_1 b_f0 b_f1 t_a t_b hB_8 hb_9
          have f_a := g_a
          clear g_a
          have f_b := g_b
          clear g_b
          have a_0 : w_9.cell? ⟨g1, 0, none⟩ = some (.int .u64 ah) := (f_a).cell 0
          have a_1 : w_9.cell? ⟨g1, 1, none⟩ = some (.int .u64 al) := (f_a).cell 1
          have a_f0 := (f_a).frozen 0
          have a_f1 := (f_a).frozen 1
          have a_l := (f_a).lt
          replace f_a := Lib.hid f_a
          have b_0 : w_9.cell? ⟨g2, 0, none⟩ = some (.int .u64 bh) := (f_b).cell 0
          have b_1 : w_9.cell? ⟨g2, 1, none⟩ = some (.int .u64 bl) := (f_b).cell 1
          have b_f0 := (f_b).frozen 0
          have b_f1 := (f_b).frozen 1
          have b_l := (f_b).lt
          replace f_b := Lib.hid f_b
          replace hB_9 := Lib.hid hB_9
          go_wp2_with fail
          refine (HC3.out _ _ _ _ _ s_x.out s_y.out).mono ?_
          rintro e w_10 ⟨rfl, hb_10⟩
          have z_10 := hb_10.size
          try simp at z_10
          have t_ := hB_9.out
          have hB_10 := bel_eld (w := w) (X := _) (by first | ((repeat (first | with_reducible exact Below.refl _ _ | with_reducible assumption | (with_reducible refine bel_set ?_ (by first | exact Nat.le_refl _ | (simp; done) | (simp; omega) | omega) _) | with_reducible refine bel_grow ?_ _ | with_reducible refine Below.drew ?_ | with_reducible refine below_drewN ?_ _ | with_reducible refine bel_alloc ?_ _ | with_reducible refine bel_trans ?_ (by assumption))); done) | (repeat (first | exact Below.refl _ _ | assumption | refine below_drewN ?_ _ | refine bel_grow ?_ _ | refine Below.drew ?_ | refine bel_alloc ?_ _ | refine bel_set ?_ (by first | exact Nat.le_refl _ | (simp; done) | (simp; omega) | omega) _ | refine bel_trans ?_ (by assumption)))) hb_10
          clear t_
          have hP_ := bel_eld (w := w_9) (X := _) (by first | ((repeat (first | with_reducible exact Below.refl _ _ | with_reducible assumption | (with_reducible refine bel_set ?_ (by first | exact Nat.le_refl _ | (simp; done) | (simp; omega) | omega) _) | with_reducible refine bel_grow ?_ _ | with_reducible refine Below.drew ?_ | with_reducible refine below_drewN ?_ _ | with_reducible refine bel_alloc ?_ _ | with_reducible refine bel_trans ?_ (by assumption))); done) | (repeat (first | exact Below.refl _ _ | assumption | refine below_drewN ?_ _ | refine bel_grow ?_ _ | refine Below.drew ?_ | refine bel_alloc ?_ _ | refine bel_set ?_ (by first | exact Nat.le_refl _ | (simp; done) | (simp; omega) | omega) _ | refine bel_trans ?_ (by assumption)))) hb_10
          have k_s_x := Lib.hid (s_x.out.below hP_)
          clear s_x
          have s_x := k_s_x
          clear k_s_x
          have k_s_y := Lib.hid (s_y.out.below hP_)
          clear s_y
          have s_y := k_s_y
          clear k_s_y
          have t_a := f_a.out
          have t_b := f_b.out
          have g_a : Blk w_10 (g1) 36 #[.int .u64 ah, .int .u64 al] := Blk.kept t_a hP_
          have g_b : Blk w_10 (g2) 36 #[.int .u64 bh, .int .u64 bl] := Blk.kept t_b hP_
          clear hP_
          clear f_a a_l a_0 a_1 a_f0 a_f1 f_b b_l b_0 b_1 b_f0 b_f1 t_a t_b hB_9 hb_10
          have f_a := g_a
          clear g_a
          have f_b := g_b
          clear g_b
          have a_0 : w_10.cell? ⟨g1, 0, none⟩ = some (.int .u64 ah) := (f_a).cell 0
          have a_1 : w_10.cell? ⟨g1, 1, none⟩ = some (.int .u64 al) := (f_a).cell 1
          have a_f0 := (f_a).frozen 0
          have a_f1 := (f_a).frozen 1
          have a_l := (f_a).lt
          replace f_a := Lib.hid f_a
          have b_0 : w_10.cell? ⟨g2, 0, none⟩ = some (.int .u64 bh) := (f_b).cell 0
          have b_1 : w_10.cell? ⟨g2, 1, none⟩ = some (.int .u64 bl) := (f_b).cell 1
          have b_f0 := (f_b).frozen 0
          have b_f1 := (f_b).frozen 1
          have b_l := (f_b).lt
          replace f_b := Lib.hid f_b
          replace hB_10 := Lib.hid hB_10
          go_wp2_with fail
          go_ret
          exact ⟨by have hE2 := hE.out; first | rfl | (simp; done) | (simp; exact hE2) | (simp at hE2 ⊢; by_cases g : ah = bh; exact Or.inr (hE2 g); exact Or.inl g), by have t_B := hB_10.out; (repeat (first | with_reducible exact Below.refl _ _ | with_reducible assumption | (with_reducible refine bel_set ?_ (by first | exact Nat.le_refl _ | (simp; done) | (simp; omega) | omega) _) | with_reducible refine bel_grow ?_ _ | with_reducible refine Below.drew ?_ | with_reducible refine below_drewN ?_ _ | with_reducible refine bel_alloc ?_ _ | with_reducible refine bel_trans ?_ (by assumption)))⟩
end Go.Proofs.Ytkgjpebekcgagaa
