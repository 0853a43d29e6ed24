/-
  KeyParts, walked.
-/
import Derived.Test.YtkgjpebekcgagaaKn
import Derived.Test.YtkgjpebekcgagaaByS
namespace Go.Proofs.Ytkgjpebekcgagaa
set_option linter.unusedVariables false
set_option linter.unusedSimpArgs false
open Go.RowKit

theorem pair_parts (A : Option Addr) (c : Nat) (hc : 24 ≤ c) (hC : c ≤ maxLen) (ah al n : Int) (hah : Wd ah) (hal : Wd al) (hn : Wd n) (w : World) (hs : SlIs w A 24 (yV (cat (dgt ah al) 16 (nb 8 n)))) :
    Calls Try.prog 19 #[.slice A 24 c] w fun r w' => r = .returned (.tuple #[.agg #[.int .u64 ah, .int .u64 al], .int .u64 n, .bool true]) ∧ Below w.heap.size w w' := by
  have h := parts_yes A c (cat (dgt ah al) 16 (nb 8 n)) (cat_ok (dgt_lo ah al) (nb_lo 8 n)) hc hC w hs
  rw [knum_lo (by omega), knum_lo (by omega), knum_hi (by omega) 8, (num_dgt hah hal).1, (num_dgt hah hal).2, knum_nb8 hn] at h
  exact h
theorem two_halves (A : Option Addr) (c : Nat) (hc : 16 ≤ c) (hC : c ≤ maxLen) (n m : Int) (hn : Wd n) (hm : Wd m) (w : World) (hs : SlIs w A 16 (yV (cat (nb 8 n) 8 (nb 8 m)))) :
    Calls Try.prog 20 #[.slice A 16 c] w fun r w' => r = .returned (.tuple #[.int .u64 n, .int .u64 m, .bool true]) ∧ Below w.heap.size w w' := by
  have h := halves_yes A c (cat (nb 8 n) 8 (nb 8 m)) (cat_ok (nb_lo 8 n) (nb_lo 8 m)) hc hC w hs
  rw [knum_lo (by omega), knum_hi (by omega) 8, knum_nb8 hn, knum_nb8 hm] at h
  exact h
theorem stamp_sl (n : Int) (hn : Wd n) (w : World) : Calls Try.prog 22 #[.int .u64 n] w fun r w' =>
      ∃ g, r = .returned (.slice (some ⟨g, 8, none⟩) 8 8) ∧ SlIs w' (some ⟨g, 8, none⟩) 8 (yV (nb 8 n)) ∧ Below w.heap.size w w' := by
  refine (stamp_any n hn w).mono ?_
  rintro r w' ⟨g, rfl, _, hr, hb⟩
  refine ⟨g, rfl, fun _ => ⟨g, 8, rfl, hr.lt, fun j hj => ?_⟩, hb⟩
  rw [hr.cell (by omega)]
  unfold yV
  rw [stamp_nb n j hj]
theorem id_sl (h l : Int) (hh : Wd h) (hl : Wd l) (w : World) : Calls Try.prog 17 #[.agg #[.int .u64 h, .int .u64 l]] w fun r w' =>
      ∃ g, r = .returned (.slice (some ⟨g, 0, none⟩) 16 16) ∧ SlIs w' (some ⟨g, 0, none⟩) 16 (yV (dgt h l)) ∧ Below w.heap.size w w' := by
  refine (id_any h l hh hl w).mono ?_
  rintro r w' ⟨g, rfl, _, hr, hb⟩
  exact ⟨g, rfl, SlIs.row hr (Nat.le_refl _), hb⟩
theorem pair_by (h l m : Int) (hh : Wd h) (hl : Wd l) (hm : Wd m) (w : World) : Calls Try.prog 15 #[.agg #[.int .u64 h, .int .u64 l], .int .u64 m] w fun r w' =>
      ∃ A c, r = .returned (.slice A 24 c) ∧ 24 ≤ c ∧ c ≤ maxLen ∧ SlIs w' A 24 (yV (cat (dgt h l) 16 (nb 8 m))) ∧ Below w.heap.size w w' := by
  refine (pair_any h l m hh hl hm w).mono ?_
  rintro r w' ⟨v, rfl, ho, hb⟩
  obtain ⟨A, c, rfl, h1, h2, h3⟩ := ho.byS
  exact ⟨A, c, rfl, h1, h2, h3, hb⟩
theorem two_by (n m : Int) (hn : Wd n) (hm : Wd m) (w : World) : Calls Try.prog 18 #[.int .u64 n, .int .u64 m] w fun r w' =>
      ∃ A c, r = .returned (.slice A 16 c) ∧ 16 ≤ c ∧ c ≤ maxLen ∧ SlIs w' A 16 (yV (cat (nb 8 n) 8 (nb 8 m))) ∧ Below w.heap.size w w' := by
  refine (two_any n m hn hm w).mono ?_
  rintro r w' ⟨v, rfl, ho, hb⟩
  obtain ⟨A, c, rfl, h1, h2, h3⟩ := ho.byS
  exact ⟨A, c, rfl, h1, h2, h3, hb⟩
/-- what the two loose slots hold -/
def LKP (D S : Nat → Int) (s : Nat) (v : Value) (X : World) : Prop := if s = 56 then ∃ g, v = .slice (some ⟨g, 0, none⟩) 16 16 ∧ SlIs X (some ⟨g, 0, none⟩) 16 (yV D) else ∃ g, v = .slice (some ⟨g, 8, none⟩) 8 8 ∧ SlIs X (some ⟨g, 8, none⟩) 8 (yV S)
theorem LKP_up {D S : Nat → Int} (s : Nat) (v : Value) (w w' : World) (h : LKP D S s v w) (hb : Below w.heap.size w w') : LKP D S s v w' := by
  unfold LKP at *
  by_cases e : s = 56
  · rw [if_pos e] at *
    obtain ⟨g, h1, h2⟩ := h
    exact ⟨g, h1, h2.below hb⟩
  · rw [if_neg e] at *
    obtain ⟨g, h1, h2⟩ := h
    exact ⟨g, h1, h2.below hb⟩

set_option maxRecDepth 8000 in
set_option maxHeartbeats 8000000 in
theorem keyParts_any (ah al n m : Int) (hah : Wd ah) (hal : Wd al) (hn : Wd n) (hm : Wd m) (B : Option Addr) (k c : Nat) (hkc : k ≤ c ∧ c ≤ maxLen) (y : Nat → Int) (hy : ∀ i, 0 ≤ y i ∧ y i < 256) (w : World) (hB : SlIs w B k (yV y)) :
    Calls Try.prog 6 #[.agg #[.int .u64 ah, .int .u64 al, .int .u64 n], .int .u64 m, .slice B k c] w fun r w' => r = .returned (.bool true) ∧ Below w.heap.size w w' := by
  have HX := Lib.hid (fun w => fixed03_any w)
  have hb0 := Below.refl w.heap.size w
  have hk1 := Nat.le_trans hkc.1 hkc.2
  unfold maxLen at hk1
  by_cases hg : k ≤ 100
  case neg =>
    clear hB hy
    go_enter Try.func6, Try.ntmps6
    go_wp2_with fail
    refine (HX.out _).mono ?_
    rintro r w2 ⟨rfl, hb2⟩
    replace hb2 := Lib.hid (bel_eld (bel_alloc hb0 _) hb2)
    go_wp2_with fail
    go_ret
    exact ⟨rfl, hb2.out⟩
  case pos =>
  have HP := Lib.hid (fun w => pair_by ah al n hah hal hn w)
  have HT := Lib.hid (fun w => two_by n m hn hm w)
  have HQ := Lib.hid (fun A c h1 h2 w hs => pair_parts A c h1 h2 ah al n hah hal hn w hs)
  have HU := Lib.hid (fun A c h1 h2 w hs => two_halves A c h1 h2 n m hn hm w hs)
  have HI := Lib.hid (fun w => id_sl ah al hah hal w)
  have HS := Lib.hid (fun w => stamp_sl n hn w)
  have RB := Lib.hid (fun w => refbytes_any ah al hah hal w)
  have RS := Lib.hid (fun w => rstamp_any n hn w)
  have RT := Lib.hid (fun w => rstamp_any m hm w)
  have RP := Lib.hid (fun w => rpair_any ah al n hah hal hn w)
  have B1 := Lib.hid (fun W (hb : Below w.heap.size w W) => parts_all B k c hkc.1 hkc.2 y hy W (hB.below hb))
  have B2 := Lib.hid (fun w => rparts_any k (by omega) y hy w)
  have B3 := Lib.hid (fun W (hb : Below w.heap.size w W) => halves_all B k c hkc.1 hkc.2 y hy W (hB.below hb))
  have B4 := Lib.hid (fun w => rhalves_any k (by unfold maxLen; omega) y hy w)
  have QB := Lib.hid (fun W (hb : Below w.heap.size w W) => conv8 (hB.below hb) c)
  have e9 : strF (nb 8 n) 8 ++ strF (nb 8 m) 8 = strF (cat (nb 8 n) 8 (nb 8 m)) 16 := strF_cat _ _ 8 8
  have z1 := strF_size (nb 8 n) 8
  have z2 := strF_size (nb 8 m) 8
  clear hah hal hn hm hB hy
  generalize ptA y k = p1 at *
  generalize ptB y k = p2 at *
  generalize ptC y k = p3 at *
  generalize hlA y k = q1 at *
  generalize hlB y k = q2 at *
  generalize decide (k = 24) = k1 at *
  generalize decide (k = 16) = k2 at *
  generalize cat (dgt ah al) 16 (nb 8 n) = X at *
  generalize cat (nb 8 n) 8 (nb 8 m) = Z at *
  generalize dgt ah al = D at *
  go_enter Try.func6, Try.ntmps6
  go_upto_region 3 with fail
  go_cut [7, 8] (fun s7 s8 wx => ∃ g1, s7 = .pointer (some ⟨g1, 0, none⟩) ∧ s8 = .int .u64 n ∧ Below w.heap.size w wx ∧ Blk wx g1 36 #[.int .u64 ah, .int .u64 al])
  case first =>
    go_region
    all_goals (
      go_wp2_with fail
      go_meet
      refine ⟨w.heap.size + 1, rfl, rfl, ?_, ?_⟩
      · ((repeat (first | exact Below.refl _ _ | assumption | refine below_drewN ?_ _ | refine bel_grow ?_ _ | refine Below.drew ?_ | refine bel_alloc ?_ _ | refine bel_set ?_ (by first | exact Nat.le_refl _ | (simp; done) | (simp; omega) | omega) _ | refine bel_trans ?_ (by assumption))); done)
      · ((repeat (first | with_reducible assumption | (with_reducible refine Blk.new' ?_; first | with_reducible rfl | (simp; done)) | with_reducible refine Blk.alloc ?_ _ | with_reducible refine Blk.grow ?_ _ | with_reducible refine Blk.drew ?_ | with_reducible refine Blk.drewN ?_ _ | (with_reducible refine Blk.far ?_ (by first | (dsimp only; omega) | (simp; omega)) _) | (with_reducible apply Blk.two) | (with_reducible refine Blk.set' ?_ _ _ ?_) | (with_reducible rfl) | rfl)); done))
  case rest =>
    clear hb0
    obtain ⟨g1, rfl, rfl, hb0, f_a⟩ := hcut
    obtain ⟨w_a, rfl⟩ : ∃ X, X = wc := ⟨_, rfl⟩
    have a_0 : w_a.cell? ⟨g1, 0, none⟩ = some (.int .u64 ah) := (f_a).cell 0
    have a_1 : w_a.cell? ⟨g1, 1, none⟩ = some (.int .u64 al) := (f_a).cell 1
    have a_f0 := (f_a).frozen 0
    have a_f1 := (f_a).frozen 1
    have a_l := (f_a).lt
    replace f_a := Lib.hid f_a
    replace hb0 := Lib.hid hb0
    go_wp2_with fail
    refine (HP.out _).mono ?_
    rintro e w_1 ⟨AP, cP, rfl, jP, mP, s_p, hb_1⟩
    have z_1 := hb_1.size
    try simp at z_1
    have t_ := hb0.out
    have hB_1 := bel_eld (w := w) (X := _) (by first | ((repeat (first | with_reducible exact Below.refl _ _ | with_reducible assumption | (with_reducible refine bel_set ?_ (by first | exact Nat.le_refl _ | (simp; done) | (simp; omega) | omega) _) | with_reducible refine bel_grow ?_ _ | with_reducible refine Below.drew ?_ | with_reducible refine below_drewN ?_ _ | with_reducible refine bel_alloc ?_ _ | with_reducible refine bel_trans ?_ (by assumption))); done) | (repeat (first | exact Below.refl _ _ | assumption | refine below_drewN ?_ _ | refine bel_grow ?_ _ | refine Below.drew ?_ | refine bel_alloc ?_ _ | refine bel_set ?_ (by first | exact Nat.le_refl _ | (simp; done) | (simp; omega) | omega) _ | refine bel_trans ?_ (by assumption)))) hb_1
    clear t_
    replace s_p := Lib.hid s_p
    have t_a := f_a.out
    have g_a : Blk w_1 (g1) 36 #[.int .u64 ah, .int .u64 al] := by
      refine Blk.kept ?_ hb_1
      (repeat (first | with_reducible assumption | (with_reducible refine Blk.new' ?_; first | with_reducible rfl | (simp; done)) | with_reducible refine Blk.alloc ?_ _ | with_reducible refine Blk.grow ?_ _ | with_reducible refine Blk.drew ?_ | with_reducible refine Blk.drewN ?_ _ | (with_reducible refine Blk.far ?_ (by first | (dsimp only; omega) | (simp; omega)) _) | (with_reducible apply Blk.two) | (with_reducible refine Blk.set' ?_ _ _ ?_) | (with_reducible rfl) | rfl))
    clear f_a a_l a_0 a_1 a_f0 a_f1 t_a hb0 hb_1
    have f_a := g_a
    clear g_a
    have a_0 : w_1.cell? ⟨g1, 0, none⟩ = some (.int .u64 ah) := (f_a).cell 0
    have a_1 : w_1.cell? ⟨g1, 1, none⟩ = some (.int .u64 al) := (f_a).cell 1
    have a_f0 := (f_a).frozen 0
    have a_f1 := (f_a).frozen 1
    have a_l := (f_a).lt
    replace f_a := Lib.hid f_a
    replace hB_1 := Lib.hid hB_1
    go_wp2_with fail
    refine (HT.out _).mono ?_
    rintro e w_2 ⟨AT, cT, rfl, jT, mT, s_t, hb_2⟩
    have z_2 := hb_2.size
    try simp at z_2
    have t_ := hB_1.out
    have hB_2 := bel_eld (w := w) (X := _) (by first | ((repeat (first | with_reducible exact Below.refl _ _ | with_reducible assumption | (with_reducible refine bel_set ?_ (by first | exact Nat.le_refl _ | (simp; done) | (simp; omega) | omega) _) | with_reducible refine bel_grow ?_ _ | with_reducible refine Below.drew ?_ | with_reducible refine below_drewN ?_ _ | with_reducible refine bel_alloc ?_ _ | with_reducible refine bel_trans ?_ (by assumption))); done) | (repeat (first | exact Below.refl _ _ | assumption | refine below_drewN ?_ _ | refine bel_grow ?_ _ | refine Below.drew ?_ | refine bel_alloc ?_ _ | refine bel_set ?_ (by first | exact Nat.le_refl _ | (simp; done) | (simp; omega) | omega) _ | refine bel_trans ?_ (by assumption)))) hb_2
    clear t_
    have hP_ := bel_eld (w := w_1) (X := _) (by first | ((repeat (first | with_reducible exact Below.refl _ _ | with_reducible assumption | (with_reducible refine bel_set ?_ (by first | exact Nat.le_refl _ | (simp; done) | (simp; omega) | omega) _) | with_reducible refine bel_grow ?_ _ | with_reducible refine Below.drew ?_ | with_reducible refine below_drewN ?_ _ | with_reducible refine bel_alloc ?_ _ | with_reducible refine bel_trans ?_ (by assumption))); done) | (repeat (first | exact Below.refl _ _ | assumption | refine below_drewN ?_ _ | refine bel_grow ?_ _ | refine Below.drew ?_ | refine bel_alloc ?_ _ | refine bel_set ?_ (by first | exact Nat.le_refl _ | (simp; done) | (simp; omega) | omega) _ | refine bel_trans ?_ (by assumption)))) hb_2
    have k_s_p := Lib.hid (s_p.out.below hP_)
    clear s_p
    have s_p := k_s_p
    clear k_s_p
    replace s_t := Lib.hid s_t
    have t_a := f_a.out
    have g_a : Blk w_2 (g1) 36 #[.int .u64 ah, .int .u64 al] := Blk.kept t_a hP_
    clear hP_
    clear f_a a_l a_0 a_1 a_f0 a_f1 t_a hB_1 hb_2
    have f_a := g_a
    clear g_a
    have a_0 : w_2.cell? ⟨g1, 0, none⟩ = some (.int .u64 ah) := (f_a).cell 0
    have a_1 : w_2.cell? ⟨g1, 1, none⟩ = some (.int .u64 al) := (f_a).cell 1
    have a_f0 := (f_a).frozen 0
    have a_f1 := (f_a).frozen 1
    have a_l := (f_a).lt
    replace f_a := Lib.hid f_a
    replace hB_2 := Lib.hid hB_2
    go_wp2_with fail
    refine (HQ.out AP cP jP mP _ s_p.out).mono ?_
    rintro e w_3 ⟨rfl, hb_3⟩
    have z_3 := hb_3.size
    try simp at z_3
    have t_ := hB_2.out
    have hB_3 := bel_eld (w := w) (X := _) (by first | ((repeat (first | with_reducible exact Below.refl _ _ | with_reducible assumption | (with_reducible refine bel_set ?_ (by first | exact Nat.le_refl _ | (simp; done) | (simp; omega) | omega) _) | with_reducible refine bel_grow ?_ _ | with_reducible refine Below.drew ?_ | with_reducible refine below_drewN ?_ _ | with_reducible refine bel_alloc ?_ _ | with_reducible refine bel_trans ?_ (by assumption))); done) | (repeat (first | exact Below.refl _ _ | assumption | refine below_drewN ?_ _ | refine bel_grow ?_ _ | refine Below.drew ?_ | refine bel_alloc ?_ _ | refine bel_set ?_ (by first | exact Nat.le_refl _ | (simp; done) | (simp; omega) | omega) _ | refine bel_trans ?_ (by assumption)))) hb_3
    clear t_
    have hP_ := bel_eld (w := w_2) (X := _) (by first | ((repeat (first | with_reducible exact Below.refl _ _ | with_reducible assumption | (with_reducible refine bel_set ?_ (by first | exact Nat.le_refl _ | (simp; done) | (simp; omega) | omega) _) | with_reducible refine bel_grow ?_ _ | with_reducible refine Below.drew ?_ | with_reducible refine below_drewN ?_ _ | with_reducible refine bel_alloc ?_ _ | with_reducible refine bel_trans ?_ (by assumption))); done) | (repeat (first | exact Below.refl _ _ | assumption | refine below_drewN ?_ _ | refine bel_grow ?_ _ | refine Below.drew ?_ | refine bel_alloc ?_ _ | refine bel_set ?_ (by first | exact Nat.le_refl _ | (simp; done) | (simp; omega) | omega) _ | refine bel_trans ?_ (by assumption)))) hb_3
    have k_s_p := Lib.hid (s_p.out.below hP_)
    clear s_p
    have s_p := k_s_p
    clear k_s_p
    have k_s_t := Lib.hid (s_t.out.below hP_)
    clear s_t
    have s_t := k_s_t
    clear k_s_t
    have t_a := f_a.out
    have g_a : Blk w_3 (g1) 36 #[.int .u64 ah, .int .u64 al] := Blk.kept t_a hP_
    clear hP_
    clear f_a a_l a_0 a_1 a_f0 a_f1 t_a hB_2 hb_3
    have f_a := g_a
    clear g_a
    have a_0 : w_3.cell? ⟨g1, 0, none⟩ = some (.int .u64 ah) := (f_a).cell 0
    have a_1 : w_3.cell? ⟨g1, 1, none⟩ = some (.int .u64 al) := (f_a).cell 1
    have a_f0 := (f_a).frozen 0
    have a_f1 := (f_a).frozen 1
    have a_l := (f_a).lt
    replace f_a := Lib.hid f_a
    replace hB_3 := Lib.hid hB_3
    go_wp2_with fail
    refine (HU.out AT cT jT mT _ ((s_t.out).below (bel_alloc (Below.refl _ _) _))).mono ?_
    rintro e w_4 ⟨rfl, hb_4⟩
    have z_4 := hb_4.size
    try simp at z_4
    have t_ := hB_3.out
    have hB_4 := bel_eld (w := w) (X := _) (by first | ((repeat (first | with_reducible exact Below.refl _ _ | with_reducible assumption | (with_reducible refine bel_set ?_ (by first | exact Nat.le_refl _ | (simp; done) | (simp; omega) | omega) _) | with_reducible refine bel_grow ?_ _ | with_reducible refine Below.drew ?_ | with_reducible refine below_drewN ?_ _ | with_reducible refine bel_alloc ?_ _ | with_reducible refine bel_trans ?_ (by assumption))); done) | (repeat (first | exact Below.refl _ _ | assumption | refine below_drewN ?_ _ | refine bel_grow ?_ _ | refine Below.drew ?_ | refine bel_alloc ?_ _ | refine bel_set ?_ (by first | exact Nat.le_refl _ | (simp; done) | (simp; omega) | omega) _ | refine bel_trans ?_ (by assumption)))) hb_4
    clear t_
    have hP_ := bel_eld (w := w_3) (X := _) (by first | ((repeat (first | with_reducible exact Below.refl _ _ | with_reducible assumption | (with_reducible refine bel_set ?_ (by first | exact Nat.le_refl _ | (simp; done) | (simp; omega) | omega) _) | with_reducible refine bel_grow ?_ _ | with_reducible refine Below.drew ?_ | with_reducible refine below_drewN ?_ _ | with_reducible refine bel_alloc ?_ _ | with_reducible refine bel_trans ?_ (by assumption))); done) | (repeat (first | exact Below.refl _ _ | assumption | refine below_drewN ?_ _ | refine bel_grow ?_ _ | refine Below.drew ?_ | refine bel_alloc ?_ _ | refine bel_set ?_ (by first | exact Nat.le_refl _ | (simp; done) | (simp; omega) | omega) _ | refine bel_trans ?_ (by assumption)))) hb_4
    have k_s_p := Lib.hid (s_p.out.below hP_)
    clear s_p
    have s_p := k_s_p
    clear k_s_p
    have k_s_t := Lib.hid (s_t.out.below hP_)
    clear s_t
    have s_t := k_s_t
    clear k_s_t
    have t_a := f_a.out
    have g_a : Blk w_4 (g1) 36 #[.int .u64 ah, .int .u64 al] := Blk.kept t_a hP_
    have g_x : Blk w_4 (w_3.heap.size) 36 #[.int .u64 ah, .int .u64 al] := by
      refine Blk.kept ?_ hb_4
      (repeat (first | with_reducible assumption | (with_reducible refine Blk.new' ?_; first | with_reducible rfl | (simp; done)) | with_reducible refine Blk.alloc ?_ _ | with_reducible refine Blk.grow ?_ _ | with_reducible refine Blk.drew ?_ | with_reducible refine Blk.drewN ?_ _ | (with_reducible refine Blk.far ?_ (by first | (dsimp only; omega) | (simp; omega)) _) | (with_reducible apply Blk.two) | (with_reducible refine Blk.set' ?_ _ _ ?_) | (with_reducible rfl) | rfl))
    clear hP_
    clear f_a a_l a_0 a_1 a_f0 a_f1 t_a hB_3 hb_4
    have f_a := g_a
    clear g_a
    have f_x := g_x
    clear g_x
    have a_0 : w_4.cell? ⟨g1, 0, none⟩ = some (.int .u64 ah) := (f_a).cell 0
    have a_1 : w_4.cell? ⟨g1, 1, none⟩ = some (.int .u64 al) := (f_a).cell 1
    have a_f0 := (f_a).frozen 0
    have a_f1 := (f_a).frozen 1
    have a_l := (f_a).lt
    replace f_a := Lib.hid f_a
    have x_0 : w_4.cell? ⟨w_3.heap.size, 0, none⟩ = some (.int .u64 ah) := (f_x).cell 0
    have x_1 : w_4.cell? ⟨w_3.heap.size, 1, none⟩ = some (.int .u64 al) := (f_x).cell 1
    have x_f0 := (f_x).frozen 0
    have x_f1 := (f_x).frozen 1
    have x_l := (f_x).lt
    replace f_x := Lib.hid f_x
    replace hB_4 := Lib.hid hB_4
    go_upto_region 7 with fail
    have ga := f_a.out
    have gx := f_x.out
    have la0 : ∀ n d, (Grow (Grow w_4 n) d).cell? ⟨g1, 0, none⟩ = some (.int .u64 ah) := fun n d => ((ga.grow n).grow d).cell 0
    have la1 : ∀ n d, (Grow (Grow w_4 n) d).cell? ⟨g1, 1, none⟩ = some (.int .u64 al) := fun n d => ((ga.grow n).grow d).cell 1
    have lx0 : ∀ n d, (Grow (Grow w_4 n) d).cell? ⟨w_3.heap.size, 0, none⟩ = some (.int .u64 ah) := fun n d => ((gx.grow n).grow d).cell 0
    have lx1 : ∀ n d, (Grow (Grow w_4 n) d).cell? ⟨w_3.heap.size, 1, none⟩ = some (.int .u64 al) := fun n d => ((gx.grow n).grow d).cell 1
    have qp := fun n d => conv8 ((s_p.out.below (grow_below w_4 n)).below (grow_below _ d)) cP
    have qt := fun n d => conv8 ((s_t.out.below (grow_below w_4 n)).below (grow_below _ d)) cT
    clear ga gx
    refine wp_region_loose (W0 := w_4) (H := [56, 63]) (L := LKP D (nb 8 n)) LKP_up (by kernel_rfl) (by kernel_rfl) (Below.refl _ _) (by simp) ?_
    repeat (apply lexY_quiet 172 rfl (by kernel_rfl) (by kernel_rfl); intro n_ K_ hK_; go_big_quiet_op; first | exact hK_ | (apply Exists.intro; refine ⟨fun _ => ?_, ?_⟩; (first | (go_at_call 21; with_reducible exact grow_call (RB.out _)) | (go_at_call 23; first | (with_reducible exact grow_call (RS.out _)) | (with_reducible exact grow_call (RT.out _))) | (go_at_call 24; with_reducible exact grow_call (RP.out _))); exact hK_))
    apply lexY_loose 56 (by kernel_rfl) (by kernel_rfl) 17 #[.agg #[.int .u64 ah, .int .u64 al]]
    case hx =>
      intro W
      simp [go_sem]
    case hc =>
      intro n_
      refine (HI.out _).mono ?_
      rintro r w' ⟨g, rfl, hs, hb⟩
      refine ⟨_, rfl, hb, ?_⟩
      unfold LKP
      rw [if_pos rfl]
      exact ⟨g, rfl, hs⟩
    case ha =>
      simp only [Act.put, List.setIfInBounds_toArray, List.set_cons_succ, List.set_cons_zero]
      exact rfl
    apply lexY_dep 56 (.string (strF D 16)) (by kernel_rfl) (by kernel_rfl)
    case hx =>
      intro n_ u hu
      unfold LKP at hu
      rw [if_pos rfl] at hu
      obtain ⟨g, rfl, hs⟩ := hu
      have q := conv8 hs 16
      simp [execOp, ovr, q]
    case ha =>
      simp only [Act.put, List.setIfInBounds_toArray, List.set_cons_succ, List.set_cons_zero]
      exact rfl
    repeat (apply lexY_quiet 172 rfl (by kernel_rfl) (by kernel_rfl); intro n_ K_ hK_; go_big_quiet_op; first | exact hK_ | (apply Exists.intro; refine ⟨fun _ => ?_, ?_⟩; (first | (go_at_call 21; with_reducible exact grow_call (RB.out _)) | (go_at_call 23; first | (with_reducible exact grow_call (RS.out _)) | (with_reducible exact grow_call (RT.out _))) | (go_at_call 24; with_reducible exact grow_call (RP.out _))); exact hK_))
    apply lexY_loose 63 (by kernel_rfl) (by kernel_rfl) 22 #[.int .u64 n]
    case hx =>
      intro W
      simp [go_sem]
    case hc =>
      intro n_
      refine (HS.out _).mono ?_
      rintro r w' ⟨g, rfl, hs, hb⟩
      refine ⟨_, rfl, hb, ?_⟩
      unfold LKP
      rw [if_neg (by omega)]
      exact ⟨g, rfl, hs⟩
    case ha =>
      simp only [Act.put, List.setIfInBounds_toArray, List.set_cons_succ, List.set_cons_zero]
      exact rfl
    apply lexY_dep 63 (.string (strF (nb 8 n) 8)) (by kernel_rfl) (by kernel_rfl)
    case hx =>
      intro n_ u hu
      unfold LKP at hu
      rw [if_neg (by omega)] at hu
      obtain ⟨g, rfl, hs⟩ := hu
      have q := conv8 hs 8
      simp [execOp, ovr, q]
    case ha =>
      simp only [Act.put, List.setIfInBounds_toArray, List.set_cons_succ, List.set_cons_zero]
      exact rfl
    repeat (apply lexY_quiet 172 rfl (by kernel_rfl) (by kernel_rfl); intro n_ K_ hK_; go_big_quiet_op; first | exact hK_ | (apply Exists.intro; refine ⟨fun _ => ?_, ?_⟩; (first | (go_at_call 21; with_reducible exact grow_call (RB.out _)) | (go_at_call 23; first | (with_reducible exact grow_call (RS.out _)) | (with_reducible exact grow_call (RT.out _))) | (go_at_call 24; with_reducible exact grow_call (RP.out _))); exact hK_))
    intro a9 w_5 hb_5 hag
    obtain ⟨u56, u63, rfl⟩ := hag.two
    simp only [Act.put, List.setIfInBounds_toArray, List.set_cons_succ, List.set_cons_zero]
    clear la0 la1 lx0 lx1 qp qt hag HI HS RB RS RT RP e9 z1 z2
    have z_5 := hb_5.size
    try simp at z_5
    have t_ := hB_4.out
    have hB_5 := bel_eld (w := w) (X := _) (by first | ((repeat (first | with_reducible exact Below.refl _ _ | with_reducible assumption | (with_reducible refine bel_set ?_ (by first | exact Nat.le_refl _ | (simp; done) | (simp; omega) | omega) _) | with_reducible refine bel_grow ?_ _ | with_reducible refine Below.drew ?_ | with_reducible refine below_drewN ?_ _ | with_reducible refine bel_alloc ?_ _ | with_reducible refine bel_trans ?_ (by assumption))); done) | (repeat (first | exact Below.refl _ _ | assumption | refine below_drewN ?_ _ | refine bel_grow ?_ _ | refine Below.drew ?_ | refine bel_alloc ?_ _ | refine bel_set ?_ (by first | exact Nat.le_refl _ | (simp; done) | (simp; omega) | omega) _ | refine bel_trans ?_ (by assumption)))) hb_5
    clear t_
    have hP_ := bel_eld (w := w_4) (X := _) (by first | ((repeat (first | with_reducible exact Below.refl _ _ | with_reducible assumption | (with_reducible refine bel_set ?_ (by first | exact Nat.le_refl _ | (simp; done) | (simp; omega) | omega) _) | with_reducible refine bel_grow ?_ _ | with_reducible refine Below.drew ?_ | with_reducible refine below_drewN ?_ _ | with_reducible refine bel_alloc ?_ _ | with_reducible refine bel_trans ?_ (by assumption))); done) | (repeat (first | exact Below.refl _ _ | assumption | refine below_drewN ?_ _ | refine bel_grow ?_ _ | refine Below.drew ?_ | refine bel_alloc ?_ _ | refine bel_set ?_ (by first | exact Nat.le_refl _ | (simp; done) | (simp; omega) | omega) _ | refine bel_trans ?_ (by assumption)))) hb_5
    have k_s_p := Lib.hid (s_p.out.below hP_)
    clear s_p
    have s_p := k_s_p
    clear k_s_p
    have k_s_t := Lib.hid (s_t.out.below hP_)
    clear s_t
    have s_t := k_s_t
    clear k_s_t
    have t_a := f_a.out
    have t_x := f_x.out
    have g_a : Blk w_5 (g1) 36 #[.int .u64 ah, .int .u64 al] := Blk.kept t_a hP_
    have g_x : Blk w_5 (w_3.heap.size) 36 #[.int .u64 ah, .int .u64 al] := Blk.kept t_x hP_
    clear hP_
    clear f_a a_l a_0 a_1 a_f0 a_f1 f_x x_l x_0 x_1 x_f0 x_f1 t_a t_x hB_4 hb_5
    have f_a := g_a
    clear g_a
    have f_x := g_x
    clear g_x
    have a_0 : w_5.cell? ⟨g1, 0, none⟩ = some (.int .u64 ah) := (f_a).cell 0
    have a_1 : w_5.cell? ⟨g1, 1, none⟩ = some (.int .u64 al) := (f_a).cell 1
    have a_f0 := (f_a).frozen 0
    have a_f1 := (f_a).frozen 1
    have a_l := (f_a).lt
    replace f_a := Lib.hid f_a
    have x_0 : w_5.cell? ⟨w_3.heap.size, 0, none⟩ = some (.int .u64 ah) := (f_x).cell 0
    have x_1 : w_5.cell? ⟨w_3.heap.size, 1, none⟩ = some (.int .u64 al) := (f_x).cell 1
    have x_f0 := (f_x).frozen 0
    have x_f1 := (f_x).frozen 1
    have x_l := (f_x).lt
    replace f_x := Lib.hid f_x
    replace hB_5 := Lib.hid hB_5
    go_wp2_with fail
    refine (B1.out _ hB_5.out).mono ?_
    rintro e w_6 ⟨rfl, hb_6⟩
    have z_6 := hb_6.size
    try simp at z_6
    have t_ := hB_5.out
    have hB_6 := bel_eld (w := w) (X := _) (by first | ((repeat (first | with_reducible exact Below.refl _ _ | with_reducible assumption | (with_reducible refine bel_set ?_ (by first | exact Nat.le_refl _ | (simp; done) | (simp; omega) | omega) _) | with_reducible refine bel_grow ?_ _ | with_reducible refine Below.drew ?_ | with_reducible refine below_drewN ?_ _ | with_reducible refine bel_alloc ?_ _ | with_reducible refine bel_trans ?_ (by assumption))); done) | (repeat (first | exact Below.refl _ _ | assumption | refine below_drewN ?_ _ | refine bel_grow ?_ _ | refine Below.drew ?_ | refine bel_alloc ?_ _ | refine bel_set ?_ (by first | exact Nat.le_refl _ | (simp; done) | (simp; omega) | omega) _ | refine bel_trans ?_ (by assumption)))) hb_6
    clear t_
    have hP_ := bel_eld (w := w_5) (X := _) (by first | ((repeat (first | with_reducible exact Below.refl _ _ | with_reducible assumption | (with_reducible refine bel_set ?_ (by first | exact Nat.le_refl _ | (simp; done) | (simp; omega) | omega) _) | with_reducible refine bel_grow ?_ _ | with_reducible refine Below.drew ?_ | with_reducible refine below_drewN ?_ _ | with_reducible refine bel_alloc ?_ _ | with_reducible refine bel_trans ?_ (by assumption))); done) | (repeat (first | exact Below.refl _ _ | assumption | refine below_drewN ?_ _ | refine bel_grow ?_ _ | refine Below.drew ?_ | refine bel_alloc ?_ _ | refine bel_set ?_ (by first | exact Nat.le_refl _ | (simp; done) | (simp; omega) | omega) _ | refine bel_trans ?_ (by assumption)))) hb_6
    have k_s_p := Lib.hid (s_p.out.below hP_)
    clear s_p
    have s_p := k_s_p
    clear k_s_p
    have k_s_t := Lib.hid (s_t.out.below hP_)
    clear s_t
    have s_t := k_s_t
    clear k_s_t
    have t_a := f_a.out
    have t_x := f_x.out
    have g_a : Blk w_6 (g1) 36 #[.int .u64 ah, .int .u64 al] := Blk.kept t_a hP_
    have g_x : Blk w_6 (w_3.heap.size) 36 #[.int .u64 ah, .int .u64 al] := Blk.kept t_x hP_
    clear hP_
    clear f_a a_l a_0 a_1 a_f0 a_f1 f_x x_l x_0 x_1 x_f0 x_f1 t_a t_x hB_5 hb_6
    have f_a := g_a
    clear g_a
    have f_x := g_x
    clear g_x
    have a_0 : w_6.cell? ⟨g1, 0, none⟩ = some (.int .u64 ah) := (f_a).cell 0
    have a_1 : w_6.cell? ⟨g1, 1, none⟩ = some (.int .u64 al) := (f_a).cell 1
    have a_f0 := (f_a).frozen 0
    have a_f1 := (f_a).frozen 1
    have a_l := (f_a).lt
    replace f_a := Lib.hid f_a
    have x_0 : w_6.cell? ⟨w_3.heap.size, 0, none⟩ = some (.int .u64 ah) := (f_x).cell 0
    have x_1 : w_6.cell? ⟨w_3.heap.size, 1, none⟩ = some (.int .u64 al) := (f_x).cell 1
    have x_f0 := (f_x).frozen 0
    have x_f1 := (f_x).frozen 1
    have x_l := (f_x).lt
    replace f_x := Lib.hid f_x
    replace hB_6 := Lib.hid hB_6
    have qb := fun o => QB.out (w_6.alloc o) (bel_alloc hB_6.out o)
    go_wp2_with fail
    refine (B2.out _).mono ?_
    rintro e w_7 ⟨rfl, hb_7⟩
    have z_7 := hb_7.size
    try simp at z_7
    have t_ := hB_6.out
    have hB_7 := bel_eld (w := w) (X := _) (by first | ((repeat (first | with_reducible exact Below.refl _ _ | with_reducible assumption | (with_reducible refine bel_set ?_ (by first | exact Nat.le_refl _ | (simp; done) | (simp; omega) | omega) _) | with_reducible refine bel_grow ?_ _ | with_reducible refine Below.drew ?_ | with_reducible refine below_drewN ?_ _ | with_reducible refine bel_alloc ?_ _ | with_reducible refine bel_trans ?_ (by assumption))); done) | (repeat (first | exact Below.refl _ _ | assumption | refine below_drewN ?_ _ | refine bel_grow ?_ _ | refine Below.drew ?_ | refine bel_alloc ?_ _ | refine bel_set ?_ (by first | exact Nat.le_refl _ | (simp; done) | (simp; omega) | omega) _ | refine bel_trans ?_ (by assumption)))) hb_7
    clear t_
    have hP_ := bel_eld (w := w_6) (X := _) (by first | ((repeat (first | with_reducible exact Below.refl _ _ | with_reducible assumption | (with_reducible refine bel_set ?_ (by first | exact Nat.le_refl _ | (simp; done) | (simp; omega) | omega) _) | with_reducible refine bel_grow ?_ _ | with_reducible refine Below.drew ?_ | with_reducible refine below_drewN ?_ _ | with_reducible refine bel_alloc ?_ _ | with_reducible refine bel_trans ?_ (by assumption))); done) | (repeat (first | exact Below.refl _ _ | assumption | refine below_drewN ?_ _ | refine bel_grow ?_ _ | refine Below.drew ?_ | refine bel_alloc ?_ _ | refine bel_set ?_ (by first | exact Nat.le_refl _ | (simp; done) | (simp; omega) | omega) _ | refine bel_trans ?_ (by assumption)))) hb_7
    have k_s_p := Lib.hid (s_p.out.below hP_)
    clear s_p
    have s_p := k_s_p
    clear k_s_p
    have k_s_t := Lib.hid (s_t.out.below hP_)
    clear s_t
    have s_t := k_s_t
    clear k_s_t
    have t_a := f_a.out
    have t_x := f_x.out
    have g_a : Blk w_7 (g1) 36 #[.int .u64 ah, .int .u64 al] := Blk.kept t_a hP_
    have g_x : Blk w_7 (w_3.heap.size) 36 #[.int .u64 ah, .int .u64 al] := Blk.kept t_x hP_
    have g_y : Blk w_7 (w_6.heap.size) 36 #[.int .u64 p1, .int .u64 p2] := by
      refine Blk.kept ?_ hb_7
      (repeat (first | with_reducible assumption | (with_reducible refine Blk.new' ?_; first | with_reducible rfl | (simp; done)) | with_reducible refine Blk.alloc ?_ _ | with_reducible refine Blk.grow ?_ _ | with_reducible refine Blk.drew ?_ | with_reducible refine Blk.drewN ?_ _ | (with_reducible refine Blk.far ?_ (by first | (dsimp only; omega) | (simp; omega)) _) | (with_reducible apply Blk.two) | (with_reducible refine Blk.set' ?_ _ _ ?_) | (with_reducible rfl) | rfl))
    clear hP_
    clear f_a a_l a_0 a_1 a_f0 a_f1 f_x x_l x_0 x_1 x_f0 x_f1 t_a t_x hB_6 hb_7
    have f_a := g_a
    clear g_a
    have f_x := g_x
    clear g_x
    have f_y := g_y
    clear g_y
    have a_0 : w_7.cell? ⟨g1, 0, none⟩ = some (.int .u64 ah) := (f_a).cell 0
    have a_1 : w_7.cell? ⟨g1, 1, none⟩ = some (.int .u64 al) := (f_a).cell 1
    have a_f0 := (f_a).frozen 0
    have a_f1 := (f_a).frozen 1
    have a_l := (f_a).lt
    replace f_a := Lib.hid f_a
    have x_0 : w_7.cell? ⟨w_3.heap.size, 0, none⟩ = some (.int .u64 ah) := (f_x).cell 0
    have x_1 : w_7.cell? ⟨w_3.heap.size, 1, none⟩ = some (.int .u64 al) := (f_x).cell 1
    have x_f0 := (f_x).frozen 0
    have x_f1 := (f_x).frozen 1
    have x_l := (f_x).lt
    replace f_x := Lib.hid f_x
    have y_0 : w_7.cell? ⟨w_6.heap.size, 0, none⟩ = some (.int .u64 p1) := (f_y).cell 0
    have y_1 : w_7.cell? ⟨w_6.heap.size, 1, none⟩ = some (.int .u64 p2) := (f_y).cell 1
    have y_f0 := (f_y).frozen 0
    have y_f1 := (f_y).frozen 1
    have y_l := (f_y).lt
    replace f_y := Lib.hid f_y
    replace hB_7 := Lib.hid hB_7
    clear qb
    go_wp2_with fail
    refine (B3.out _ (bel_alloc hB_7.out _)).mono ?_
    rintro e w_8 ⟨rfl, hb_8⟩
    have z_8 := hb_8.size
    try simp at z_8
    have t_ := hB_7.out
    have hB_8 := bel_eld (w := w) (X := _) (by first | ((repeat (first | with_reducible exact Below.refl _ _ | with_reducible assumption | (with_reducible refine bel_set ?_ (by first | exact Nat.le_refl _ | (simp; done) | (simp; omega) | omega) _) | with_reducible refine bel_grow ?_ _ | with_reducible refine Below.drew ?_ | with_reducible refine below_drewN ?_ _ | with_reducible refine bel_alloc ?_ _ | with_reducible refine bel_trans ?_ (by assumption))); done) | (repeat (first | exact Below.refl _ _ | assumption | refine below_drewN ?_ _ | refine bel_grow ?_ _ | refine Below.drew ?_ | refine bel_alloc ?_ _ | refine bel_set ?_ (by first | exact Nat.le_refl _ | (simp; done) | (simp; omega) | omega) _ | refine bel_trans ?_ (by assumption)))) hb_8
    clear t_
    have hP_ := bel_eld (w := w_7) (X := _) (by first | ((repeat (first | with_reducible exact Below.refl _ _ | with_reducible assumption | (with_reducible refine bel_set ?_ (by first | exact Nat.le_refl _ | (simp; done) | (simp; omega) | omega) _) | with_reducible refine bel_grow ?_ _ | with_reducible refine Below.drew ?_ | with_reducible refine below_drewN ?_ _ | with_reducible refine bel_alloc ?_ _ | with_reducible refine bel_trans ?_ (by assumption))); done) | (repeat (first | exact Below.refl _ _ | assumption | refine below_drewN ?_ _ | refine bel_grow ?_ _ | refine Below.drew ?_ | refine bel_alloc ?_ _ | refine bel_set ?_ (by first | exact Nat.le_refl _ | (simp; done) | (simp; omega) | omega) _ | refine bel_trans ?_ (by assumption)))) hb_8
    have k_s_p := Lib.hid (s_p.out.below hP_)
    clear s_p
    have s_p := k_s_p
    clear k_s_p
    have k_s_t := Lib.hid (s_t.out.below hP_)
    clear s_t
    have s_t := k_s_t
    clear k_s_t
    have t_a := f_a.out
    have t_x := f_x.out
    have t_y := f_y.out
    have g_a : Blk w_8 (g1) 36 #[.int .u64 ah, .int .u64 al] := Blk.kept t_a hP_
    have g_x : Blk w_8 (w_3.heap.size) 36 #[.int .u64 ah, .int .u64 al] := Blk.kept t_x hP_
    have g_y : Blk w_8 (w_6.heap.size) 36 #[.int .u64 p1, .int .u64 p2] := Blk.kept t_y hP_
    have g_z : Blk w_8 (w_7.heap.size) 36 #[.int .u64 p1, .int .u64 p2] := by
      refine Blk.kept ?_ hb_8
      (repeat (first | with_reducible assumption | (with_reducible refine Blk.new' ?_; first | with_reducible rfl | (simp; done)) | with_reducible refine Blk.alloc ?_ _ | with_reducible refine Blk.grow ?_ _ | with_reducible refine Blk.drew ?_ | with_reducible refine Blk.drewN ?_ _ | (with_reducible refine Blk.far ?_ (by first | (dsimp only; omega) | (simp; omega)) _) | (with_reducible apply Blk.two) | (with_reducible refine Blk.set' ?_ _ _ ?_) | (with_reducible rfl) | rfl))
    clear hP_
    clear f_a a_l a_0 a_1 a_f0 a_f1 f_x x_l x_0 x_1 x_f0 x_f1 f_y y_l y_0 y_1 y_f0 y_f1 t_a t_x t_y hB_7 hb_8
    have f_a := g_a
    clear g_a
    have f_x := g_x
    clear g_x
    have f_y := g_y
    clear g_y
    have f_z := g_z
    clear g_z
    have a_0 : w_8.cell? ⟨g1, 0, none⟩ = some (.int .u64 ah) := (f_a).cell 0
    have a_1 : w_8.cell? ⟨g1, 1, none⟩ = some (.int .u64 al) := (f_a).cell 1
    have a_f0 := (f_a).frozen 0
    have a_f1 := (f_a).frozen 1
    have a_l := (f_a).lt
    replace f_a := Lib.hid f_a
    have x_0 : w_8.cell? ⟨w_3.heap.size, 0, none⟩ = some (.int .u64 ah) := (f_x).cell 0
    have x_1 : w_8.cell? ⟨w_3.heap.size, 1, none⟩ = some (.int .u64 al) := (f_x).cell 1
    have x_f0 := (f_x).frozen 0
    have x_f1 := (f_x).frozen 1
    have x_l := (f_x).lt
    replace f_x := Lib.hid f_x
    have y_0 : w_8.cell? ⟨w_6.heap.size, 0, none⟩ = some (.int .u64 p1) := (f_y).cell 0
    have y_1 : w_8.cell? ⟨w_6.heap.size, 1, none⟩ = some (.int .u64 p2) := (f_y).cell 1
    have y_f0 := (f_y).frozen 0
    have y_f1 := (f_y).frozen 1
    have y_l := (f_y).lt
    replace f_y := Lib.hid f_y
    have z_0 : w_8.cell? ⟨w_7.heap.size, 0, none⟩ = some (.int .u64 p1) := (f_z).cell 0
    have z_1 : w_8.cell? ⟨w_7.heap.size, 1, none⟩ = some (.int .u64 p2) := (f_z).cell 1
    have z_f0 := (f_z).frozen 0
    have z_f1 := (f_z).frozen 1
    have z_l := (f_z).lt
    replace f_z := Lib.hid f_z
    replace hB_8 := Lib.hid hB_8
    have qb2 := QB.out w_8 hB_8.out
    go_wp2_with fail
    refine (B4.out _).mono ?_
    rintro e w_9 ⟨rfl, hb_9⟩
    have z_9 := hb_9.size
    try simp at z_9
    have t_ := hB_8.out
    have hB_9 := bel_eld (w := w) (X := _) (by first | ((repeat (first | with_reducible exact Below.refl _ _ | with_reducible assumption | (with_reducible refine bel_set ?_ (by first | exact Nat.le_refl _ | (simp; done) | (simp; omega) | omega) _) | with_reducible refine bel_grow ?_ _ | with_reducible refine Below.drew ?_ | with_reducible refine below_drewN ?_ _ | with_reducible refine bel_alloc ?_ _ | with_reducible refine bel_trans ?_ (by assumption))); done) | (repeat (first | exact Below.refl _ _ | assumption | refine below_drewN ?_ _ | refine bel_grow ?_ _ | refine Below.drew ?_ | refine bel_alloc ?_ _ | refine bel_set ?_ (by first | exact Nat.le_refl _ | (simp; done) | (simp; omega) | omega) _ | refine bel_trans ?_ (by assumption)))) hb_9
    clear t_
    have hP_ := bel_eld (w := w_8) (X := _) (by first | ((repeat (first | with_reducible exact Below.refl _ _ | with_reducible assumption | (with_reducible refine bel_set ?_ (by first | exact Nat.le_refl _ | (simp; done) | (simp; omega) | omega) _) | with_reducible refine bel_grow ?_ _ | with_reducible refine Below.drew ?_ | with_reducible refine below_drewN ?_ _ | with_reducible refine bel_alloc ?_ _ | with_reducible refine bel_trans ?_ (by assumption))); done) | (repeat (first | exact Below.refl _ _ | assumption | refine below_drewN ?_ _ | refine bel_grow ?_ _ | refine Below.drew ?_ | refine bel_alloc ?_ _ | refine bel_set ?_ (by first | exact Nat.le_refl _ | (simp; done) | (simp; omega) | omega) _ | refine bel_trans ?_ (by assumption)))) hb_9
    have k_s_p := Lib.hid (s_p.out.below hP_)
    clear s_p
    have s_p := k_s_p
    clear k_s_p
    have k_s_t := Lib.hid (s_t.out.below hP_)
    clear s_t
    have s_t := k_s_t
    clear k_s_t
    have t_a := f_a.out
    have t_x := f_x.out
    have t_y := f_y.out
    have t_z := f_z.out
    have g_a : Blk w_9 (g1) 36 #[.int .u64 ah, .int .u64 al] := Blk.kept t_a hP_
    have g_x : Blk w_9 (w_3.heap.size) 36 #[.int .u64 ah, .int .u64 al] := Blk.kept t_x hP_
    have g_y : Blk w_9 (w_6.heap.size) 36 #[.int .u64 p1, .int .u64 p2] := Blk.kept t_y hP_
    have g_z : Blk w_9 (w_7.heap.size) 36 #[.int .u64 p1, .int .u64 p2] := Blk.kept t_z hP_
    clear hP_
    clear f_a a_l a_0 a_1 a_f0 a_f1 f_x x_l x_0 x_1 x_f0 x_f1 f_y y_l y_0 y_1 y_f0 y_f1 f_z z_l z_0 z_1 z_f0 z_f1 t_a t_x t_y t_z hB_8 hb_9
    have f_a := g_a
    clear g_a
    have f_x := g_x
    clear g_x
    have f_y := g_y
    clear g_y
    have f_z := g_z
    clear g_z
    have a_0 : w_9.cell? ⟨g1, 0, none⟩ = some (.int .u64 ah) := (f_a).cell 0
    have a_1 : w_9.cell? ⟨g1, 1, none⟩ = some (.int .u64 al) := (f_a).cell 1
    have a_f0 := (f_a).frozen 0
    have a_f1 := (f_a).frozen 1
    have a_l := (f_a).lt
    replace f_a := Lib.hid f_a
    have x_0 : w_9.cell? ⟨w_3.heap.size, 0, none⟩ = some (.int .u64 ah) := (f_x).cell 0
    have x_1 : w_9.cell? ⟨w_3.heap.size, 1, none⟩ = some (.int .u64 al) := (f_x).cell 1
    have x_f0 := (f_x).frozen 0
    have x_f1 := (f_x).frozen 1
    have x_l := (f_x).lt
    replace f_x := Lib.hid f_x
    have y_0 : w_9.cell? ⟨w_6.heap.size, 0, none⟩ = some (.int .u64 p1) := (f_y).cell 0
    have y_1 : w_9.cell? ⟨w_6.heap.size, 1, none⟩ = some (.int .u64 p2) := (f_y).cell 1
    have y_f0 := (f_y).frozen 0
    have y_f1 := (f_y).frozen 1
    have y_l := (f_y).lt
    replace f_y := Lib.hid f_y
    have z_0 : w_9.cell? ⟨w_7.heap.size, 0, none⟩ = some (.int .u64 p1) := (f_z).cell 0
    have z_1 : w_9.cell? ⟨w_7.heap.size, 1, none⟩ = some (.int .u64 p2) := (f_z).cell 1
    have z_f0 := (f_z).frozen 0
    have z_f1 := (f_z).frozen 1
    have z_l := (f_z).lt
    replace f_z := Lib.hid f_z
    replace hB_9 := Lib.hid hB_9
    clear qb2
    go_wp2_with fail
    refine (HX.out _).mono ?_
    rintro e w_10 ⟨rfl, hb_10⟩
    have z_10 := hb_10.size
    try simp at z_10
    have t_ := hB_9.out
    have hB_10 := bel_eld (w := w) (X := _) (by first | ((repeat (first | with_reducible exact Below.refl _ _ | with_reducible assumption | (with_reducible refine bel_set ?_ (by first | exact Nat.le_refl _ | (simp; done) | (simp; omega) | omega) _) | with_reducible refine bel_grow ?_ _ | with_reducible refine Below.drew ?_ | with_reducible refine below_drewN ?_ _ | with_reducible refine bel_alloc ?_ _ | with_reducible refine bel_trans ?_ (by assumption))); done) | (repeat (first | exact Below.refl _ _ | assumption | refine below_drewN ?_ _ | refine bel_grow ?_ _ | refine Below.drew ?_ | refine bel_alloc ?_ _ | refine bel_set ?_ (by first | exact Nat.le_refl _ | (simp; done) | (simp; omega) | omega) _ | refine bel_trans ?_ (by assumption)))) hb_10
    clear t_
    have hP_ := bel_eld (w := w_9) (X := _) (by first | ((repeat (first | with_reducible exact Below.refl _ _ | with_reducible assumption | (with_reducible refine bel_set ?_ (by first | exact Nat.le_refl _ | (simp; done) | (simp; omega) | omega) _) | with_reducible refine bel_grow ?_ _ | with_reducible refine Below.drew ?_ | with_reducible refine below_drewN ?_ _ | with_reducible refine bel_alloc ?_ _ | with_reducible refine bel_trans ?_ (by assumption))); done) | (repeat (first | exact Below.refl _ _ | assumption | refine below_drewN ?_ _ | refine bel_grow ?_ _ | refine Below.drew ?_ | refine bel_alloc ?_ _ | refine bel_set ?_ (by first | exact Nat.le_refl _ | (simp; done) | (simp; omega) | omega) _ | refine bel_trans ?_ (by assumption)))) hb_10
    have k_s_p := Lib.hid (s_p.out.below hP_)
    clear s_p
    have s_p := k_s_p
    clear k_s_p
    have k_s_t := Lib.hid (s_t.out.below hP_)
    clear s_t
    have s_t := k_s_t
    clear k_s_t
    have t_a := f_a.out
    have t_x := f_x.out
    have t_y := f_y.out
    have t_z := f_z.out
    have g_a : Blk w_10 (g1) 36 #[.int .u64 ah, .int .u64 al] := Blk.kept t_a hP_
    have g_x : Blk w_10 (w_3.heap.size) 36 #[.int .u64 ah, .int .u64 al] := Blk.kept t_x hP_
    have g_y : Blk w_10 (w_6.heap.size) 36 #[.int .u64 p1, .int .u64 p2] := Blk.kept t_y hP_
    have g_z : Blk w_10 (w_7.heap.size) 36 #[.int .u64 p1, .int .u64 p2] := Blk.kept t_z hP_
    clear hP_
    clear f_a a_l a_0 a_1 a_f0 a_f1 f_x x_l x_0 x_1 x_f0 x_f1 f_y y_l y_0 y_1 y_f0 y_f1 f_z z_l z_0 z_1 z_f0 z_f1 t_a t_x t_y t_z hB_9 hb_10
    have f_a := g_a
    clear g_a
    have f_x := g_x
    clear g_x
    have f_y := g_y
    clear g_y
    have f_z := g_z
    clear g_z
    have a_0 : w_10.cell? ⟨g1, 0, none⟩ = some (.int .u64 ah) := (f_a).cell 0
    have a_1 : w_10.cell? ⟨g1, 1, none⟩ = some (.int .u64 al) := (f_a).cell 1
    have a_f0 := (f_a).frozen 0
    have a_f1 := (f_a).frozen 1
    have a_l := (f_a).lt
    replace f_a := Lib.hid f_a
    have x_0 : w_10.cell? ⟨w_3.heap.size, 0, none⟩ = some (.int .u64 ah) := (f_x).cell 0
    have x_1 : w_10.cell? ⟨w_3.heap.size, 1, none⟩ = some (.int .u64 al) := (f_x).cell 1
    have x_f0 := (f_x).frozen 0
    have x_f1 := (f_x).frozen 1
    have x_l := (f_x).lt
    replace f_x := Lib.hid f_x
    have y_0 : w_10.cell? ⟨w_6.heap.size, 0, none⟩ = some (.int .u64 p1) := (f_y).cell 0
    have y_1 : w_10.cell? ⟨w_6.heap.size, 1, none⟩ = some (.int .u64 p2) := (f_y).cell 1
    have y_f0 := (f_y).frozen 0
    have y_f1 := (f_y).frozen 1
    have y_l := (f_y).lt
    replace f_y := Lib.hid f_y
    have z_0 : w_10.cell? ⟨w_7.heap.size, 0, none⟩ = some (.int .u64 p1) := (f_z).cell 0
    have z_1 : w_10.cell? ⟨w_7.heap.size, 1, none⟩ = some (.int .u64 p2) := (f_z).cell 1
    have z_f0 := (f_z).frozen 0
    have z_f1 := (f_z).frozen 1
    have z_l := (f_z).lt
    replace f_z := Lib.hid f_z
    replace hB_10 := Lib.hid hB_10
    go_wp2_with fail
    go_ret
    exact ⟨by first | rfl | simp, by have t_B := hB_10.out; (repeat (first | with_reducible exact Below.refl _ _ | with_reducible assumption | (with_reducible refine bel_set ?_ (by first | exact Nat.le_refl _ | (simp; done) | (simp; omega) | omega) _) | with_reducible refine bel_grow ?_ _ | with_reducible refine Below.drew ?_ | with_reducible refine below_drewN ?_ _ | with_reducible refine bel_alloc ?_ _ | with_reducible refine bel_trans ?_ (by assumption)))⟩
end Go.Proofs.Ytkgjpebekcgagaa
