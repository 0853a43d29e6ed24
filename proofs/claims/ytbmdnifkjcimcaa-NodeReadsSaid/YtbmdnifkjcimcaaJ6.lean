/-
  Joined: NA NB.
-/
import Derived.Test.YtbmdnifkjcimcaaJ7
-- NA
namespace Go.Proofs.Ytbmdnifkjcimcaa
set_option linter.unusedVariables false
set_option linter.unusedSimpArgs false
open Go.RowKit

set_option maxRecDepth 8000 in
set_option maxHeartbeats 8000000 in
theorem refread_bad (kind : Int) (l : Nat) (k v : Int) (y : Nat → Int) (w : World) (hl : l ≤ 600) (h : ¬ capOk k v ∨ l < 2 ∨ 500 < l ∨ ((kind == 3) = false ∧ (kind == 4) = false)) :
    Calls Try.prog 22 #[.int .u8 kind, .string (strF y l), .int .i64 k, .int .i64 v] w fun r w' => r = .returned (.tuple #[.agg #[.bool false, .slice none 0 0, .slice none 0 0, .slice none 0 0], .int .i64 2]) ∧ Below w.heap.size w w' := by
  have HC := Lib.hid (fun w => refcaps_any k v w)
  have hb0 := Below.refl w.heap.size w
  have es : (strF y l).size = l := strF_size y l
  have hk : (capL k v == 0) = true ∨ ((capL k v == 0) = false ∧ decide ((l : Int) < 2) = true) ∨ ((capL k v == 0) = false ∧ decide ((l : Int) < 2) = false ∧ decide ((500 : Int) < (l : Int)) = true) ∨ ((capL k v == 0) = false ∧ decide ((l : Int) < 2) = false ∧ decide ((500 : Int) < (l : Int)) = false ∧ (kind != 3) = true ∧ (kind != 4) = true) := by
    by_cases h0 : capL k v = 0
    · exact Or.inl (by simpa using h0)
    · by_cases h1 : l < 2
      · exact Or.inr (Or.inl ⟨by simpa using h0, decide_eq_true (by omega)⟩)
      · by_cases h2 : 500 < l
        · exact Or.inr (Or.inr (Or.inl ⟨by simpa using h0, decide_eq_false (by omega), decide_eq_true (by omega)⟩))
        · rcases h with h | h | h | ⟨h3, h4⟩
          · exact absurd (cap_no h).1 h0
          · exact absurd h h1
          · exact absurd h h2
          · exact Or.inr (Or.inr (Or.inr ⟨by simpa using h0, decide_eq_false (by omega), decide_eq_false (by omega), by simpa using h3, by simpa using h4⟩))
  clear h
  generalize capL k v = cl at *
  generalize capI k v = ci at *
  rcases hk with h1 | ⟨h1, h2⟩ | ⟨h1, h2, h3⟩ | ⟨h1, h2, h3, h4, h5⟩
  all_goals (
    go_enter Try.func22, Try.ntmps22
    replace hb0 := Lib.hid hb0
    go_wp2_with fail
    refine (HC.out _).mono ?_
    rintro e w_1 ⟨rfl, hb_1⟩
    have z_1 := hb_1.size
    try simp at z_1
    have t_ := hb0.out
    have hB_1 := bel_eld (w := w) (X := _) (by first | ((repeat (first | with_reducible exact Below.refl _ _ | with_reducible assumption | (with_reducible refine bel_set ?_ (by first | exact Nat.le_refl _ | (simp; done) | (simp; omega) | omega) _) | with_reducible refine bel_grow ?_ _ | with_reducible refine Below.drew ?_ | with_reducible refine below_drewN ?_ _ | with_reducible refine bel_alloc ?_ _ | with_reducible refine bel_trans ?_ (by assumption))); done) | (repeat (first | exact Below.refl _ _ | assumption | refine below_drewN ?_ _ | refine bel_grow ?_ _ | refine Below.drew ?_ | refine bel_alloc ?_ _ | refine bel_set ?_ (by first | exact Nat.le_refl _ | (simp; done) | (simp; omega) | omega) _ | refine bel_trans ?_ (by assumption)))) hb_1
    clear t_
    have g_p : Blk w_1 (w.heap.size) 36 #[.bool false, .slice none 0 0, .slice none 0 0, .slice none 0 0] := by
      refine Blk.kept ?_ hb_1
      (repeat (first | with_reducible assumption | (with_reducible refine Blk.new' ?_; first | with_reducible rfl | (simp; done)) | with_reducible refine Blk.alloc ?_ _ | with_reducible refine Blk.grow ?_ _ | with_reducible refine Blk.drew ?_ | with_reducible refine Blk.drewN ?_ _ | (with_reducible refine Blk.far ?_ (by first | (dsimp only; omega) | (simp; omega)) _) | (with_reducible apply Blk.two) | (with_reducible refine Blk.set' ?_ _ _ ?_) | (with_reducible rfl) | rfl))
    clear hb0 hb_1
    have f_p := g_p
    clear g_p
    have p_0 : w_1.cell? ⟨w.heap.size, 0, none⟩ = some (.bool false) := (f_p).cell 0
    have p_1 : w_1.cell? ⟨w.heap.size, 1, none⟩ = some (.slice none 0 0) := (f_p).cell 1
    have p_2 : w_1.cell? ⟨w.heap.size, 2, none⟩ = some (.slice none 0 0) := (f_p).cell 2
    have p_3 : w_1.cell? ⟨w.heap.size, 3, none⟩ = some (.slice none 0 0) := (f_p).cell 3
    have p_f0 := (f_p).frozen 0
    have p_f1 := (f_p).frozen 1
    have p_f2 := (f_p).frozen 2
    have p_f3 := (f_p).frozen 3
    have p_l := (f_p).lt
    replace f_p := Lib.hid f_p
    replace hB_1 := Lib.hid hB_1
    go_wp2_with fail
    refine abs_post (fun Y_ => Below w.heap.size w Y_ ∧ Blk Y_ w.heap.size 36 #[.bool false, .slice none 0 0, .slice none 0 0, .slice none 0 0]) ⟨by have t_B := hB_1.out; (repeat (first | with_reducible exact Below.refl _ _ | with_reducible assumption | (with_reducible refine bel_set ?_ (by first | exact Nat.le_refl _ | (simp; done) | (simp; omega) | omega) _) | with_reducible refine bel_grow ?_ _ | with_reducible refine Below.drew ?_ | with_reducible refine below_drewN ?_ _ | with_reducible refine bel_alloc ?_ _ | with_reducible refine bel_trans ?_ (by assumption))), Blk.four f_p.out _ _ _ _⟩ ?_
    rintro Y_ ⟨bZ_, gP_⟩
    have p_0 := gP_.cell 0
    have p_1 := gP_.cell 1
    have p_2 := gP_.cell 2
    have p_3 := gP_.cell 3
    have p_l := gP_.lt
    refine bodyPost_ret (v := .tuple #[.agg #[.bool false, .slice none 0 0, .slice none 0 0, .slice none 0 0], .int .i64 2]) (by simp [results, Try.results22, go_sem, p_0, p_1, p_2, p_3, p_l]) rfl ⟨rfl, bZ_⟩)

set_option maxRecDepth 8000 in
set_option maxHeartbeats 8000000 in
theorem nodeReads_walk (lf : Bool) (kn vn cn : Nat) (KL VL : Nat → Nat) (K V : Nat → Nat → Int) (C : Nat → Int) (B : Option Addr) (kind er kd2 e2 : Int) (l c l2 : Nat) (k v : Int) (y D : Nat → Int) (w : World) (hl : l ≤ 600) (m1 : kn ≤ 1000000) (m2 : vn ≤ 1000000) (m3 : cn ≤ 1000000) (hs : SlIs w B l (yV y))
    (HRd : ∀ W, SlIs W B l (yV y) → Calls Try.prog 20 #[.int .u8 kind, .slice B l c, .int .i64 k, .int .i64 v] W fun r w' => ∃ KA kc VA vc CA cc, r = .returned (.tuple #[.agg #[.bool lf, .slice KA kn kc, .slice VA vn vc, .slice CA cn cc], .int .i64 er]) ∧ NdIs w' KA VA CA ⟨lf, kn, KL, K, vn, VL, V, cn, C⟩ ∧ Below W.heap.size W w')
    (HRr : ∀ W, Calls Try.prog 22 #[.int .u8 kind, .string (strF y l), .int .i64 k, .int .i64 v] W fun r w' => ∃ A1 c1 A2 c2 A3 c3, r = .returned (.tuple #[.agg #[.bool lf, .slice A1 kn c1, .slice A2 vn c2, .slice A3 cn c3], .int .i64 er]) ∧ SlIs w' A1 kn (sV KL K) ∧ SlIs w' A2 vn (sV VL V) ∧ SlIs w' A3 cn (fun j => .int .u32 (C j)) ∧ Below W.heap.size W w')
    (HW : ∀ KA kc VA vc CA cc W, NdIs W KA VA CA ⟨lf, kn, KL, K, vn, VL, V, cn, C⟩ → Calls Try.prog 17 #[.agg #[.bool lf, .slice KA kn kc, .slice VA vn vc, .slice CA cn cc], .int .i64 k, .int .i64 v] W fun r w' => ∃ A2 c2, r = .returned (.tuple #[.int .u8 kd2, .slice A2 l2 c2, .int .i64 e2]) ∧ SlIs w' A2 l2 (yV D) ∧ Below W.heap.size W w')
    (hfin : er = 2 ∨ (er = 0 ∧ e2 = 0 ∧ kd2 = kind ∧ strF D l2 = strF y l)) :
    Calls Try.prog 6 #[.int .u8 kind, .slice B l c, .agg #[.int .i64 k, .int .i64 v]] w fun r w' => r = .returned (.bool true) ∧ Below w.heap.size w w' := by
  replace hs := Lib.hid hs
  replace HRd := Lib.hid HRd
  replace HRr := Lib.hid HRr
  replace HW := Lib.hid HW
  replace hfin := Lib.hid hfin
  have RX := Lib.hid (fun w => nfixed_any w)
  have d1 : decide ((600 : Int) < (l : Int)) = false := decide_eq_false (by omega)
  have hb0 := Below.refl w.heap.size w
  go_enter Try.func6, Try.ntmps6
  replace hb0 := Lib.hid hb0
  go_wp2_with fail
  refine (HRd.out _ (hs.out.below (bel_alloc (Below.refl _ _) _))).mono ?_
  rintro e w_1 ⟨KA, kc, VA, vc, CA, cc, rfl, hN, hb_1⟩
  have z_1 := hb_1.size
  try simp at z_1
  have t_ := hb0.out
  have hB_1 := bel_eld (w := w) (X := _) (by first | ((repeat (first | with_reducible exact Below.refl _ _ | with_reducible assumption | (with_reducible refine bel_set ?_ (by first | exact Nat.le_refl _ | (simp; done) | (simp; omega) | omega) _) | with_reducible refine bel_grow ?_ _ | with_reducible refine Below.drew ?_ | with_reducible refine below_drewN ?_ _ | with_reducible refine bel_alloc ?_ _ | with_reducible refine bel_trans ?_ (by assumption))); done) | (repeat (first | exact Below.refl _ _ | assumption | refine below_drewN ?_ _ | refine bel_grow ?_ _ | refine Below.drew ?_ | refine bel_alloc ?_ _ | refine bel_set ?_ (by first | exact Nat.le_refl _ | (simp; done) | (simp; omega) | omega) _ | refine bel_trans ?_ (by assumption)))) hb_1
  clear t_
  have g_ww : Blk w_1 (w.heap.size) 45 #[.int .i64 k, .int .i64 v] := by
    refine Blk.kept ?_ hb_1
    (repeat (first | with_reducible assumption | (with_reducible refine Blk.new' ?_; first | with_reducible rfl | (simp; done)) | with_reducible refine Blk.alloc ?_ _ | with_reducible refine Blk.grow ?_ _ | with_reducible refine Blk.drew ?_ | with_reducible refine Blk.drewN ?_ _ | (with_reducible refine Blk.far ?_ (by first | (dsimp only; omega) | (simp; omega)) _) | (with_reducible apply Blk.two) | (with_reducible refine Blk.set' ?_ _ _ ?_) | (with_reducible rfl) | rfl))
  clear hb0 hb_1
  have f_ww := g_ww
  clear g_ww
  have ww_0 : w_1.cell? ⟨w.heap.size, 0, none⟩ = some (.int .i64 k) := (f_ww).cell 0
  have ww_1 : w_1.cell? ⟨w.heap.size, 1, none⟩ = some (.int .i64 v) := (f_ww).cell 1
  have ww_f0 := (f_ww).frozen 0
  have ww_f1 := (f_ww).frozen 1
  have ww_l := (f_ww).lt
  replace f_ww := Lib.hid f_ww
  replace hB_1 := Lib.hid hB_1
  replace hN := Lib.hid hN
  have HRr2 := HRr.out
  have qv := conv8 (hs.out.below (bel_alloc hB_1.out (.cells #[.bool lf, .slice KA kn kc, .slice VA vn vc, .slice CA cn cc] 28))) c
  go_wp2_with fail
  refine (HRr2 _).mono ?_
  rintro e w_2 ⟨A1, c1, A2, c2, A3, c3, rfl, s_1, s_2, s_3, hb_2⟩
  clear HRr2 qv
  have hN2 := Lib.hid (hN.out.below (bel_eld (bel_alloc (Below.refl _ _) _) hb_2))
  clear hN
  have z_2 := hb_2.size
  try simp at z_2
  have t_ := hB_1.out
  have hB_2 := bel_eld (w := w) (X := _) (by first | ((repeat (first | with_reducible exact Below.refl _ _ | with_reducible assumption | (with_reducible refine bel_set ?_ (by first | exact Nat.le_refl _ | (simp; done) | (simp; omega) | omega) _) | with_reducible refine bel_grow ?_ _ | with_reducible refine Below.drew ?_ | with_reducible refine below_drewN ?_ _ | with_reducible refine bel_alloc ?_ _ | with_reducible refine bel_trans ?_ (by assumption))); done) | (repeat (first | exact Below.refl _ _ | assumption | refine below_drewN ?_ _ | refine bel_grow ?_ _ | refine Below.drew ?_ | refine bel_alloc ?_ _ | refine bel_set ?_ (by first | exact Nat.le_refl _ | (simp; done) | (simp; omega) | omega) _ | refine bel_trans ?_ (by assumption)))) hb_2
  clear t_
  have t_ww := f_ww.out
  have g_ww : Blk w_2 (w.heap.size) 45 #[.int .i64 k, .int .i64 v] := by
    refine Blk.kept ?_ hb_2
    (repeat (first | with_reducible assumption | (with_reducible refine Blk.new' ?_; first | with_reducible rfl | (simp; done)) | with_reducible refine Blk.alloc ?_ _ | with_reducible refine Blk.grow ?_ _ | with_reducible refine Blk.drew ?_ | with_reducible refine Blk.drewN ?_ _ | (with_reducible refine Blk.far ?_ (by first | (dsimp only; omega) | (simp; omega)) _) | (with_reducible apply Blk.two) | (with_reducible refine Blk.set' ?_ _ _ ?_) | (with_reducible rfl) | rfl))
  have g_n : Blk w_2 (w_1.heap.size) 28 #[.bool lf, .slice KA kn kc, .slice VA vn vc, .slice CA cn cc] := by
    refine Blk.kept ?_ hb_2
    (repeat (first | with_reducible assumption | (with_reducible refine Blk.new' ?_; first | with_reducible rfl | (simp; done)) | with_reducible refine Blk.alloc ?_ _ | with_reducible refine Blk.grow ?_ _ | with_reducible refine Blk.drew ?_ | with_reducible refine Blk.drewN ?_ _ | (with_reducible refine Blk.far ?_ (by first | (dsimp only; omega) | (simp; omega)) _) | (with_reducible apply Blk.two) | (with_reducible refine Blk.set' ?_ _ _ ?_) | (with_reducible rfl) | rfl))
  clear f_ww ww_l ww_0 ww_1 ww_f0 ww_f1 t_ww hB_1 hb_2
  have f_ww := g_ww
  clear g_ww
  have f_n := g_n
  clear g_n
  have ww_0 : w_2.cell? ⟨w.heap.size, 0, none⟩ = some (.int .i64 k) := (f_ww).cell 0
  have ww_1 : w_2.cell? ⟨w.heap.size, 1, none⟩ = some (.int .i64 v) := (f_ww).cell 1
  have ww_f0 := (f_ww).frozen 0
  have ww_f1 := (f_ww).frozen 1
  have ww_l := (f_ww).lt
  replace f_ww := Lib.hid f_ww
  have n_0 : w_2.cell? ⟨w_1.heap.size, 0, none⟩ = some (.bool lf) := (f_n).cell 0
  have n_1 : w_2.cell? ⟨w_1.heap.size, 1, none⟩ = some (.slice KA kn kc) := (f_n).cell 1
  have n_2 : w_2.cell? ⟨w_1.heap.size, 2, none⟩ = some (.slice VA vn vc) := (f_n).cell 2
  have n_3 : w_2.cell? ⟨w_1.heap.size, 3, none⟩ = some (.slice CA cn cc) := (f_n).cell 3
  have n_f0 := (f_n).frozen 0
  have n_f1 := (f_n).frozen 1
  have n_f2 := (f_n).frozen 2
  have n_f3 := (f_n).frozen 3
  have n_l := (f_n).lt
  replace f_n := Lib.hid f_n
  replace hB_2 := Lib.hid hB_2
  go_upto_region 5 with fail
  have hbX := bel_alloc (Below.refl w_2.heap.size w_2) (.cells #[.bool lf, .slice A1 kn c1, .slice A2 vn c2, .slice A3 cn c3] 36)
  have gx : Blk (w_2.alloc (.cells #[.bool lf, .slice A1 kn c1, .slice A2 vn c2, .slice A3 cn c3] 36)) w_2.heap.size 36 #[.bool lf, .slice A1 kn c1, .slice A2 vn c2, .slice A3 cn c3] := Blk.new _ _ _
  have gn := f_n.out.kept hbX
  have gw := f_ww.out.kept hbX
  have k_1 := s_1.below hbX
  have k_2 := s_2.below hbX
  have k_3 := s_3.below hbX
  have kB := bel_eld hB_2.out hbX
  have kM := hN2.out.below hbX
  clear n_0 n_1 n_2 n_3 n_f0 n_f1 n_f2 n_f3 n_l ww_0 ww_1 ww_f0 ww_f1 ww_l f_n f_ww hbX s_1 s_2 s_3 hN2
  generalize w_2.alloc (.cells #[.bool lf, .slice A1 kn c1, .slice A2 vn c2, .slice A3 cn c3] 36) = X at *
  have HOm : ∀ W, Below X.heap.size X W → Calls Try.prog 12 #[.agg #[.bool lf, .slice KA kn kc, .slice VA vn vc, .slice CA cn cc]] W fun r w' => ∃ A1 c1 A2 c2 A3 c3, r = .returned (.agg #[.bool lf, .slice A1 kn c1, .slice A2 vn c2, .slice A3 cn c3]) ∧ SlIs w' A1 kn (sV KL K) ∧ SlIs w' A2 vn (sV VL V) ∧ SlIs w' A3 cn (fun j => .int .u32 (C j)) ∧ Below X.heap.size X w' := fun W hb => (of_any lf KA VA CA kn kc vn vc cn cc KL VL K V C W m1 m2 m3 (kM.1.below hb) (kM.2.1.below hb) (kM.2.2.1.below hb)).mono (fun r w' ⟨x1, x2, x3, x4, x5, x6, y1, y2, y3, y4, y5⟩ => ⟨x1, x2, x3, x4, x5, x6, y1, y2, y3, y4, hb.trans (y5.mono hb.size)⟩)
  replace HOm := Lib.hid HOm
  have HSm := Lib.hid (fun d E1 f1 E2 f2 E3 f3 h1 h2 h3 => same_yes lf E1 E2 E3 A1 A2 A3 kn f1 c1 vn f2 c2 cn f3 c3 KL VL K V C (Grow X d) m1 m2 m3 h1 h2 h3 (k_1.below (grow_below X d)) (k_2.below (grow_below X d)) (k_3.below (grow_below X d)))
  have HWm := Lib.hid (fun d => HW.out KA kc VA vc CA cc (Grow X d) (kM.below (grow_below X d)))
  clear kM k_1 k_2 k_3 HW
  replace kB := Lib.hid kB
  have m0 := (gn).cell 0
  have m1 := (gn).cell 1
  have m2 := (gn).cell 2
  have m3 := (gn).cell 3
  have mf0 := (gn).frozen 0
  have mf1 := (gn).frozen 1
  have mf2 := (gn).frozen 2
  have mf3 := (gn).frozen 3
  have ml := (gn).lt
  have x0 := (gx).cell 0
  have x1 := (gx).cell 1
  have x2 := (gx).cell 2
  have x3 := (gx).cell 3
  have xf0 := (gx).frozen 0
  have xf1 := (gx).frozen 1
  have xf2 := (gx).frozen 2
  have xf3 := (gx).frozen 3
  have xl := (gx).lt
  have u0 := (gw).cell 0
  have u1 := (gw).cell 1
  have uf0 := (gw).frozen 0
  have uf1 := (gw).frozen 1
  have ul := (gw).lt
  clear gx gn gw
  replace hs := Lib.hid (hs.out.below kB.out)
  go_cut [48] (fun s wx => s = .bool false ∧ ∃ d, wx = Grow X d)
  case first =>
    clear HWm
    go_region_with (first
      | (go_at_call 12; (refine (HOm.out _ (by first | exact grow_below _ _ | exact (Below.refl _ _).drew)).mono ?_; rintro e8 w8 ⟨E1, f1, E2, f2, E3, f3, rfl, p1, p2, p3, hb8⟩; obtain ⟨d8, hd8⟩ : ∃ d, w8 = Grow X d := ⟨w8, grow_of hb8⟩; clear hb8; subst hd8; replace p1 := Lib.hid p1; replace p2 := Lib.hid p2; replace p3 := Lib.hid p3))
      | (go_at_call 21; refine (HSm.out _ _ _ _ _ _ _ p1.out p2.out p3.out).mono ?_; rintro e7 w7 ⟨rfl, hb7⟩; obtain ⟨d7, hd7⟩ : ∃ d, w7 = Grow X d := ⟨w7, grow_of ((grow_below _ _).trans (hb7.mono (grow_size _ _)))⟩; clear hb7; subst hd7))
    all_goals (
      go_wp2_with fail
      go_meet
      exact ⟨rfl, _, rfl⟩)
  case rest =>
    obtain ⟨rfl, dd, rfl⟩ := hcut
    clear HOm HSm
    go_wp2_with fail
    refine (HWm.out dd).mono ?_
    rintro e9 w9 ⟨F2, cw, rfl, sW, hb9⟩
    replace sW := Lib.hid sW
    replace hb9 := Lib.hid ((grow_below X dd).trans (hb9.mono (grow_size X dd)))
    clear m0 m1 m2 m3 mf0 mf1 mf2 mf3 ml x0 x1 x2 x3 xf0 xf1 xf2 xf3 xl u0 u1 uf0 uf1 ul HWm
    go_wp2_with fail
    refine (RX.out _).mono ?_
    rintro e8 w8 ⟨rfl, hb8⟩
    have qa := conv8 (sW.out.below hb8) cw
    have qb := conv8 (hs.out.below (bel_eld hb9.out hb8)) c
    replace hb8 := Lib.hid (bel_eld (bel_eld kB.out hb9.out) hb8)
    clear hb9 sW hs
    rcases hfin.out with e | ⟨e, f, h, hS⟩
    · subst e
      go_wp2_with fail
      go_ret
      exact ⟨rfl, hb8.out⟩
    · subst e
      subst f
      subst h
      rw [hS] at qa
      go_wp2_with fail
      go_ret
      exact ⟨rfl, hb8.out⟩

end Go.Proofs.Ytbmdnifkjcimcaa
-- NB
namespace Go.Proofs.Ytbmdnifkjcimcaa
set_option linter.unusedVariables false
set_option linter.unusedSimpArgs false
open Go.RowKit

set_option maxRecDepth 8000 in
set_option maxHeartbeats 2000000 in
theorem nodeReads_far (B : Option Addr) (kind : Int) (l c : Nat) (k v : Int) (w : World) (hl : 600 < l) (hm : l ≤ maxLen) :
    Calls Try.prog 6 #[.int .u8 kind, .slice B l c, .agg #[.int .i64 k, .int .i64 v]] w fun r w' => r = .returned (.bool true) ∧ Below w.heap.size w w' := by
  unfold maxLen at hm
  have RX := Lib.hid (fun w => nfixed_any w)
  have d1 : decide ((600 : Int) < (l : Int)) = true := decide_eq_true (by omega)
  have hb0 := Below.refl w.heap.size w
  go_enter Try.func6, Try.ntmps6
  replace hb0 := Lib.hid hb0
  go_wp2_with fail
  refine (RX.out _).mono ?_
  rintro e w_1 ⟨rfl, hb_1⟩
  have z_1 := hb_1.size
  try simp at z_1
  have t_ := hb0.out
  have hB_1 := bel_eld (w := w) (X := _) (by first | ((repeat (first | with_reducible exact Below.refl _ _ | with_reducible assumption | (with_reducible refine bel_set ?_ (by first | exact Nat.le_refl _ | (simp; done) | (simp; omega) | omega) _) | with_reducible refine bel_grow ?_ _ | with_reducible refine Below.drew ?_ | with_reducible refine below_drewN ?_ _ | with_reducible refine bel_alloc ?_ _ | with_reducible refine bel_trans ?_ (by assumption))); done) | (repeat (first | exact Below.refl _ _ | assumption | refine below_drewN ?_ _ | refine bel_grow ?_ _ | refine Below.drew ?_ | refine bel_alloc ?_ _ | refine bel_set ?_ (by first | exact Nat.le_refl _ | (simp; done) | (simp; omega) | omega) _ | refine bel_trans ?_ (by assumption)))) hb_1
  clear t_
  clear hb0 hb_1
  replace hB_1 := Lib.hid hB_1
  go_wp2_with fail
  go_ret
  exact ⟨rfl, hB_1.out⟩
theorem fit_ex (h s l : Nat) (hl : h ≤ l) : ∀ N, ∃ T, T ≤ N ∧ h + T * s ≤ l ∧ (T = N ∨ l < h + (T + 1) * s)
  | 0 => ⟨0, Nat.le_refl _, by simpa using hl, Or.inl rfl⟩
  | N + 1 => by
    obtain ⟨T, h1, h2, h3⟩ := fit_ex h s l hl N
    rcases h3 with rfl | h3
    · by_cases h4 : h + (T + 1) * s ≤ l
      · exact ⟨T + 1, Nat.le_refl _, h4, Or.inl rfl⟩
      · exact ⟨T, by omega, h2, Or.inr (by omega)⟩
    · exact ⟨T, by omega, h2, Or.inr h3⟩
theorem zero_right (k v : Int) (KL VL : Nat → Nat) (K V : Nat → Nat → Int) (C : Nat → Int) : rightB ⟨false, 0, KL, K, 0, VL, V, 0, C⟩ k v = false := by
  unfold rightB
  simp
theorem nodeReads_zero (B : Option Addr) (kind : Int) (l c : Nat) (k v : Int) (y : Nat → Int) (w : World) (hl : l ≤ 600) (hs : SlIs w B l (yV y))
    (HRd : ∀ W, SlIs W B l (yV y) → Calls Try.prog 20 #[.int .u8 kind, .slice B l c, .int .i64 k, .int .i64 v] W fun r w' => r = .returned (.tuple #[.agg #[.bool false, .slice none 0 0, .slice none 0 0, .slice none 0 0], .int .i64 2]) ∧ Below W.heap.size W w')
    (HRr : ∀ W, Calls Try.prog 22 #[.int .u8 kind, .string (strF y l), .int .i64 k, .int .i64 v] W fun r w' => r = .returned (.tuple #[.agg #[.bool false, .slice none 0 0, .slice none 0 0, .slice none 0 0], .int .i64 2]) ∧ Below W.heap.size W w') :
    Calls Try.prog 6 #[.int .u8 kind, .slice B l c, .agg #[.int .i64 k, .int .i64 v]] w fun r w' => r = .returned (.bool true) ∧ Below w.heap.size w w' :=
  nodeReads_walk false 0 0 0 (fun _ => 0) (fun _ => 0) (fun _ _ => 0) (fun _ _ => 0) (fun _ => 0) B kind 2 0 1 l c 0 k v y (fun _ => 0) w hl (by omega) (by omega) (by omega) hs
    (fun W h => (HRd W h).mono (fun r w' ⟨e, hb⟩ => ⟨none, 0, none, 0, none, 0, e, ⟨RsIs.nil, RsIs.nil, SlIs.nil, by show 0 ≤ 1000000; omega, by show 0 ≤ 1000000; omega, by show 0 ≤ 1000000; omega⟩, hb⟩))
    (fun W => (HRr W).mono (fun r w' ⟨e, hb⟩ => ⟨none, 0, none, 0, none, 0, e, SlIs.nil, SlIs.nil, SlIs.nil, hb⟩))
    (fun KA kc VA vc CA cc W hN => (write_no false KA VA CA 0 kc 0 vc 0 cc (fun _ => 0) (fun _ => 0) (fun _ _ => 0) (fun _ _ => 0) (fun _ => 0) k v W hN (zero_right k v _ _ _ _ _)).mono (fun r w' ⟨e, hb⟩ => ⟨none, 0, e, SlIs.nil, hb⟩))
    (Or.inl rfl)
theorem str_ne {D y : Nat → Int} {n l : Nat} (hD : ∀ i, 0 ≤ D i ∧ D i < 256) (hy : ∀ i, 0 ≤ y i ∧ y i < 256) (h : ¬ (n = l ∧ ∀ i, i < n → D i = y i)) : ((strF D n).toList == (strF y l).toList) = false := by
  rw [strF_eq (fun i _ => hD i) (fun i _ => hy i)]
  exact decide_eq_false h
/-- the document's Write of a leaf of the body's rows -/
theorem refread_leaf_no (l k v : Nat) (y : Nat → Int) (w : World) (hy : ∀ i, 0 ≤ y i ∧ y i < 256) (hk : 1 ≤ k ∧ k ≤ 24) (hv : v ≤ 108) (hl : 2 ≤ l ∧ l ≤ 500) (hno : l - 2 ≠ cntY y * (k + v) ∨ rightB (ndL k v y (cntY y)) k v = false) :
    Calls Try.prog 22 #[.int .u8 3, .string (strF y l), .int .i64 k, .int .i64 v] w fun r w' => r = .returned (.tuple #[.agg #[.bool false, .slice none 0 0, .slice none 0 0, .slice none 0 0], .int .i64 2]) ∧ Below w.heap.size w w' := by
  obtain ⟨T, h1, h2, h3⟩ := fit_ex 2 (k + v) l hl.1 (cntY y)
  have hT : T ≤ 500 := by
    have : T * 1 ≤ T * (k + v) := Nat.mul_le_mul_left _ (by omega)
    omega
  have hKb : ∀ i j, 0 ≤ shf y (2 + i * (k + v)) j ∧ shf y (2 + i * (k + v)) j < 256 := fun i j => hy _
  have key : ∀ r w', RL false T k v y r w' ∧ Below w.heap.size w w' → r = .returned (.tuple #[.agg #[.bool false, .slice none 0 0, .slice none 0 0, .slice none 0 0], .int .i64 2]) ∧ Below w.heap.size w w' := fun r w' ⟨h, hb⟩ => by
    rcases h with ⟨h, _⟩ | ⟨_, h⟩
    · cases h
    · exact ⟨h, hb⟩
  cases hq : rightB (ndL k v y T) k v
  · refine (refread_leaf false l k v T (cntY y) y 0 1 { data := #[] } w hy hk hv hl rfl h1 h2 h3 (fun A1 c1 A2 c2 W s1 s2 => ?_) (Or.inr ⟨rfl, Or.inl rfl⟩)).mono key
    exact refwrite_no true A1 A2 none T c1 T c2 0 0 (fun _ => k) (fun _ => v) _ _ (fun _ => 0) k v W (by omega) (by omega) (by omega) (fun i _ => by omega) hKb s1 s2 SlIs.nil hq
  · refine (refread_leaf false l k v T (cntY y) y 3 0 (strF (leafF k v T (fun i => shf y (2 + i * (k + v))) (fun i => shf y (2 + (i * (k + v) + k)))) (2 + T * (k + v))) w hy hk hv hl rfl h1 h2 h3 (fun A1 c1 A2 c2 W s1 s2 => ?_) (Or.inr ⟨rfl, Or.inr ⟨rfl, ?_⟩⟩)).mono key
    · exact refwrite_leaf A1 A2 none T c1 T c2 0 0 (fun _ => k) (fun _ => v) _ _ (fun _ => 0) k v W (by omega) (by omega) (by omega) (fun i _ => by omega) hKb s1 s2 SlIs.nil hq
    · refine str_ne (leafF_ok hKb (fun i j => hy _)) hy ?_
      rintro ⟨e1, e2⟩
      have hc : cntY y = T := cnt_of (by omega) ((e2 0 (by omega)).symm.trans (cat_lo (by omega))) ((e2 1 (by omega)).symm.trans (cat_lo (by omega)))
      rcases hno with hno | hno
      · rw [hc] at hno; omega
      · rw [hc, hq] at hno; cases hno
theorem refread_inner_no (l k v : Nat) (y : Nat → Int) (w : World) (hy : ∀ i, 0 ≤ y i ∧ y i < 256) (hk : 1 ≤ k ∧ k ≤ 24) (hv : v ≤ 108) (hl : 2 ≤ l ∧ l ≤ 500) (hno : ∀ M, cntY y = M + 1 → l - 2 = 4 + M * 4 + M * k → rightB (ndI k y M) k v = false) :
    Calls Try.prog 22 #[.int .u8 4, .string (strF y l), .int .i64 k, .int .i64 v] w fun r w' => r = .returned (.tuple #[.agg #[.bool false, .slice none 0 0, .slice none 0 0, .slice none 0 0], .int .i64 2]) ∧ Below w.heap.size w w' := by
  obtain ⟨T, h1, h2, h3⟩ := fit_ex 2 4 l hl.1 (cntY y)
  obtain ⟨T3, g1, g2, g3⟩ := fit_ex (2 + T * 4) k l h2 (cntY y - 1)
  have hT : T ≤ 500 := by omega
  have hT3 : T3 ≤ 500 := by
    have : T3 * 1 ≤ T3 * k := Nat.mul_le_mul_left _ (by omega)
    omega
  have hKb : ∀ i j, 0 ≤ shf y (2 + T * 4 + i * k) j ∧ shf y (2 + T * 4 + i * k) j < 256 := fun i j => hy _
  have hCb : ∀ i, 0 ≤ num y (2 + i * 4) 4 ∧ num y (2 + i * 4) 4 < 4294967296 := fun i => ⟨num_lo y _ hy 4, num_hi y _ hy 4⟩
  have key : ∀ r w', RI false T T3 k y r w' ∧ Below w.heap.size w w' → r = .returned (.tuple #[.agg #[.bool false, .slice none 0 0, .slice none 0 0, .slice none 0 0], .int .i64 2]) ∧ Below w.heap.size w w' := fun r w' ⟨h, hb⟩ => by
    rcases h with ⟨h, _⟩ | ⟨_, h⟩
    · cases h
    · exact ⟨h, hb⟩
  cases hq : rightB ⟨false, T3, fun _ => k, fun i => shf y (2 + T * 4 + i * k), 0, fun _ => 0, fun _ _ => 0, T, fun i => num y (2 + i * 4) 4⟩ k v
  · refine (refread_inner false l k v T T3 (cntY y) y 0 1 { data := #[] } w hy hk hv hl rfl h1 h2 h3 (by omega) g2 (by rcases g3 with e | e; exact Or.inl (by omega); exact Or.inr e) (fun A1 c1 A3 c3 W s1 s2 => ?_) (Or.inr ⟨rfl, Or.inl rfl⟩)).mono key
    exact refwrite_no false A1 none A3 T3 c1 0 0 T c3 (fun _ => k) (fun _ => 0) _ (fun _ _ => 0) _ k v W (by omega) (by omega) (by omega) (fun i _ => by omega) hKb s1 SlIs.nil s2 hq
  · obtain ⟨_, _, _, _, _, fI⟩ := right_facts hq
    obtain ⟨_, _, e3, _, _⟩ := fI rfl
    dsimp only at e3
    refine (refread_inner false l k v T T3 (cntY y) y 4 0 (strF (innF k T (fun i => shf y (2 + T * 4 + i * k)) (fun i => num y (2 + i * 4) 4)) (2 + T * 4 + T3 * k)) w hy hk hv hl rfl h1 h2 h3 (by omega) g2 (by rcases g3 with e | e; exact Or.inl (by omega); exact Or.inr e) (fun A1 c1 A3 c3 W s1 s2 => ?_) (Or.inr ⟨rfl, Or.inr ⟨rfl, ?_⟩⟩)).mono key
    · exact refwrite_inner A1 none A3 T3 c1 0 0 T c3 (fun _ => k) (fun _ => 0) _ (fun _ _ => 0) _ k v W (by omega) (by omega) (by omega) (fun i _ => by omega) hKb hCb s1 SlIs.nil s2 hq
    · refine str_ne (innF_ok hKb) hy ?_
      rintro ⟨f1, f2⟩
      have hc : cntY y = T := cnt_of (by omega) ((f2 0 (by omega)).symm.trans (by unfold innF; rw [cat_lo (by omega), cat_lo (by omega)])) ((f2 1 (by omega)).symm.trans (by unfold innF; rw [cat_lo (by omega), cat_lo (by omega)]))
      subst e3
      have e := hno T3 hc (by omega)
      have hK : (fun i => shf y (2 + (T3 + 1) * 4 + i * k)) = fun i => shf y (2 + (4 + T3 * 4 + i * k)) := by funext i; congr 1; omega
      have hC : (fun i => num y (2 + i * 4) 4) = fun i => num (shf y 2) (i * 4) 4 := by funext i; rw [num_shf']
      unfold ndI at e
      rw [hK, hC, e] at hq
      cases hq
theorem nodeReads_leaf (B : Option Addr) (l c k v : Nat) (y : Nat → Int) (w : World) (hy : ∀ i, 0 ≤ y i ∧ y i < 256) (hk : 1 ≤ k ∧ k ≤ 24) (hv : v ≤ 108) (hl : 2 ≤ l ∧ l ≤ 500) (hlc : l ≤ c) (hc : c ≤ maxLen) (hs : SlIs w B l (yV y)) (hyes : l - 2 = cntY y * (k + v)) (hq : rightB (ndL k v y (cntY y)) k v = true) :
    Calls Try.prog 6 #[.int .u8 3, .slice B l c, .agg #[.int .i64 k, .int .i64 v]] w fun r w' => r = .returned (.bool true) ∧ Below w.heap.size w w' := by
  have hT : cntY y ≤ 500 := by
    have : cntY y * 1 ≤ cntY y * (k + v) := Nat.mul_le_mul_left _ (by omega)
    omega
  have hKb : ∀ i j, 0 ≤ shf y (2 + i * (k + v)) j ∧ shf y (2 + i * (k + v)) j < 256 := fun i j => hy _
  have hst : strF (leafF k v (cntY y) (fun i => shf y (2 + i * (k + v))) (fun i => shf y (2 + (i * (k + v) + k)))) (2 + cntY y * (k + v)) = strF y l := by
    rw [show 2 + cntY y * (k + v) = l by omega]
    exact strF_congr (fun j _ => leaf_back hy hk.1 j)
  refine nodeReads_walk true (cntY y) (cntY y) 0 (fun _ => k) (fun _ => v) (fun i => shf y (2 + i * (k + v))) (fun i => shf y (2 + (i * (k + v) + k))) (fun _ => 0) B 3 0 3 0 l c (2 + cntY y * (k + v)) k v y _ w (by omega) (by omega) (by omega) (by omega) hs
    (fun W h => (read_leaf_yes B l c k v y W hy hk hv hl hlc hc h hyes hq).mono (fun r w' ⟨A1, e1, A2, e2, e, hN, hb⟩ => ⟨A1, e1, A2, e2, none, 0, e, hN, hb⟩))
    (fun W => (refread_leaf true l k v (cntY y) (cntY y) y 3 0 _ W hy hk hv hl rfl (Nat.le_refl _) (by omega) (Or.inl rfl) (fun A1 c1 A2 c2 W s1 s2 => refwrite_leaf A1 A2 none (cntY y) c1 (cntY y) c2 0 0 (fun _ => k) (fun _ => v) _ _ (fun _ => 0) k v W (by omega) (by omega) (by omega) (fun i _ => by omega) hKb s1 s2 SlIs.nil hq) (Or.inl ⟨rfl, hst, rfl⟩)).mono (fun r w' ⟨h, hb⟩ => by
      rcases h with ⟨_, A1, c1, A2, c2, e, s1, s2⟩ | ⟨h, _⟩
      · exact ⟨A1, c1, A2, c2, none, 0, e, s1, s2, SlIs.nil, hb⟩
      · cases h))
    (fun KA kc VA vc CA cc W hN => (write_leaf KA VA CA (cntY y) kc (cntY y) vc 0 cc (fun _ => k) (fun _ => v) _ _ (fun _ => 0) k v W hN hq).mono (fun r w' ⟨A, c, e, _, _, s, hb⟩ => ⟨A, c, e, s, hb⟩))
    (Or.inr ⟨rfl, rfl, rfl, hst⟩)
theorem nodeReads_inner (B : Option Addr) (l c k v M : Nat) (y : Nat → Int) (w : World) (hy : ∀ i, 0 ≤ y i ∧ y i < 256) (hk : 1 ≤ k ∧ k ≤ 24) (hv : v ≤ 108) (hl : 2 ≤ l ∧ l ≤ 500) (hlc : l ≤ c) (hc : c ≤ maxLen) (hs : SlIs w B l (yV y)) (hM : cntY y = M + 1) (hyes : l - 2 = 4 + M * 4 + M * k) (hq : rightB (ndI k y M) k v = true) :
    Calls Try.prog 6 #[.int .u8 4, .slice B l c, .agg #[.int .i64 k, .int .i64 v]] w fun r w' => r = .returned (.bool true) ∧ Below w.heap.size w w' := by
  have hT : M ≤ 500 := by omega
  have hKb : ∀ i j, 0 ≤ shf y (2 + (4 + M * 4 + i * k)) j ∧ shf y (2 + (4 + M * 4 + i * k)) j < 256 := fun i j => hy _
  have hCb : ∀ i, 0 ≤ num (shf y 2) (i * 4) 4 ∧ num (shf y 2) (i * 4) 4 < 4294967296 := fun i => ⟨num_lo (shf y 2) _ (fun j => hy _) 4, num_hi (shf y 2) _ (fun j => hy _) 4⟩
  have hK : (fun i => shf y (2 + (M + 1) * 4 + i * k)) = fun i => shf y (2 + (4 + M * 4 + i * k)) := by funext i; congr 1; omega
  have hC : (fun i => num y (2 + i * 4) 4) = fun i => num (shf y 2) (i * 4) 4 := by funext i; rw [num_shf']
  have hst : strF (innF k (M + 1) (fun i => shf y (2 + (4 + M * 4 + i * k))) (fun i => num (shf y 2) (i * 4) 4)) (2 + (M + 1) * 4 + M * k) = strF y l := by
    rw [show 2 + (M + 1) * 4 + M * k = l by omega]
    exact strF_congr (fun j _ => inn_back hy hk.1 hM j)
  refine nodeReads_walk false M 0 (M + 1) (fun _ => k) (fun _ => 0) (fun i => shf y (2 + (4 + M * 4 + i * k))) (fun _ _ => 0) (fun i => num (shf y 2) (i * 4) 4) B 4 0 4 0 l c (2 + (M + 1) * 4 + M * k) k v y _ w (by omega) (by omega) (by omega) (by omega) hs
    (fun W h => (read_inner_yes B l c k v y W hy hk hv hl hlc hc h M hM hyes hq).mono (fun r w' ⟨A1, e1, A3, e3, e, hN, hb⟩ => ⟨A1, e1, none, 0, A3, e3, e, hN, hb⟩))
    (fun W => (refread_inner true l k v (M + 1) M (cntY y) y 4 0 _ W hy hk hv hl rfl (by omega) (by omega) (Or.inl hM.symm) (by omega) (by omega) (Or.inl (by omega)) (fun A1 c1 A3 c3 W s1 s2 => by
        rw [hK] at s1
        have s2' : SlIs W A3 (M + 1) (fun i => .int .u32 ((fun i => num (shf y 2) (i * 4) 4) i)) := by
          refine s2.congr (fun i _ => ?_)
          rw [← hC]
        exact refwrite_inner A1 none A3 M c1 0 0 (M + 1) c3 (fun _ => k) (fun _ => 0) _ (fun _ _ => 0) _ k v W (by omega) (by omega) (by omega) (fun i _ => by omega) hKb hCb s1 SlIs.nil s2' hq) (Or.inl ⟨rfl, hst, rfl⟩)).mono (fun r w' ⟨h, hb⟩ => by
      rcases h with ⟨_, A1, c1, A3, c3, e, s1, s2⟩ | ⟨h, _⟩
      · rw [hK] at s1
        refine ⟨A1, c1, none, 0, A3, c3, e, s1, SlIs.nil, ?_, hb⟩
        refine s2.congr (fun i _ => ?_)
        rw [num_shf']
      · cases h))
    (fun KA kc VA vc CA cc W hN => (write_inner KA VA CA M kc 0 vc (M + 1) cc (fun _ => k) (fun _ => 0) _ (fun _ _ => 0) _ k v W hCb hN hq).mono (fun r w' ⟨A, c, e, _, _, s, hb⟩ => ⟨A, c, e, s, hb⟩))
    (Or.inr ⟨rfl, rfl, rfl, hst⟩)
theorem nodeReads_any (B : Option Addr) (kind : Int) (l c : Nat) (k v : Int) (y : Nat → Int) (w : World) (hy : ∀ i, 0 ≤ y i ∧ y i < 256) (hlc : l ≤ c) (hc : c ≤ maxLen) (hs : SlIs w B l (yV y)) :
    Calls Try.prog 6 #[.int .u8 kind, .slice B l c, .agg #[.int .i64 k, .int .i64 v]] w fun r w' => r = .returned (.bool true) ∧ Below w.heap.size w w' := by
  by_cases hl : 600 < l
  · exact nodeReads_far B kind l c k v w hl (by omega)
  · by_cases hb : ¬ capOk k v ∨ l < 2 ∨ 500 < l
    · exact nodeReads_zero B kind l c k v y w (by omega) hs (fun W _ => read_bad B kind l c k v W (by omega) hb) (fun W => refread_bad kind l k v y W (by omega) (by
        rcases hb with h | h | h
        · exact Or.inl h
        · exact Or.inr (Or.inl h)
        · exact Or.inr (Or.inr (Or.inl h))))
    · have hcap : capOk k v := Classical.byContradiction (fun h => hb (Or.inl h))
      have hl2 : 2 ≤ l ∧ l ≤ 500 := by omega
      obtain ⟨a, b, rfl, rfl, ha1, ha2, hb2⟩ := cap_nat hcap
      by_cases h3 : kind = 3
      · subst h3
        by_cases hno : l - 2 = cntY y * (a + b)
        · cases hq : rightB (ndL a b y (cntY y)) a b
          · exact nodeReads_zero B 3 l c a b y w (by omega) hs (fun W h => read_leaf_wrong B l c a b y W hy ⟨ha1, ha2⟩ hb2 hl2 hlc hc h hno hq) (fun W => refread_leaf_no l a b y W hy ⟨ha1, ha2⟩ hb2 hl2 (Or.inr hq))
          · exact nodeReads_leaf B l c a b y w hy ⟨ha1, ha2⟩ hb2 hl2 hlc hc hs hno hq
        · exact nodeReads_zero B 3 l c a b y w (by omega) hs (fun W h => read_leaf_no B l c a b y W hy ⟨ha1, ha2⟩ hb2 hl2 hlc hc h hno) (fun W => refread_leaf_no l a b y W hy ⟨ha1, ha2⟩ hb2 hl2 (Or.inl hno))
      · by_cases h4 : kind = 4
        · subst h4
          rcases Nat.eq_zero_or_pos (cntY y) with h0 | h0
          · exact nodeReads_zero B 4 l c a b y w (by omega) hs (fun W h => read_inner_none B l c a b y W hy ⟨ha1, ha2⟩ hb2 hl2 hlc hc h h0) (fun W => refread_inner_no l a b y W hy ⟨ha1, ha2⟩ hb2 hl2 (fun M e => by omega))
          · obtain ⟨M, hM⟩ : ∃ M, cntY y = M + 1 := ⟨cntY y - 1, by omega⟩
            by_cases hno : l - 2 = 4 + M * 4 + M * a
            · cases hq : rightB (ndI a y M) a b
              · exact nodeReads_zero B 4 l c a b y w (by omega) hs (fun W h => read_inner_wrong B l c a b y W hy ⟨ha1, ha2⟩ hb2 hl2 hlc hc h M hM hno hq) (fun W => refread_inner_no l a b y W hy ⟨ha1, ha2⟩ hb2 hl2 (fun M' e _ => by
                  obtain rfl : M' = M := by omega
                  exact hq))
              · exact nodeReads_inner B l c a b M y w hy ⟨ha1, ha2⟩ hb2 hl2 hlc hc hs hM hno hq
            · exact nodeReads_zero B 4 l c a b y w (by omega) hs (fun W h => read_inner_no B l c a b y W hy ⟨ha1, ha2⟩ hb2 hl2 hlc hc h M hM hno) (fun W => refread_inner_no l a b y W hy ⟨ha1, ha2⟩ hb2 hl2 (fun M' e e2 => by
                obtain rfl : M' = M := by omega
                exact absurd e2 hno))
        · have q3 : (kind == 3) = false := by simpa using h3
          have q4 : (kind == 4) = false := by simpa using h4
          exact nodeReads_zero B kind l c a b y w (by omega) hs (fun W h => read_kind B l c a b y W hy ⟨ha1, ha2⟩ hb2 hl2 hlc hc h kind q3 q4) (fun W => refread_bad kind l a b y W (by omega) (Or.inr (Or.inr (Or.inr ⟨q3, q4⟩))))
end Go.Proofs.Ytbmdnifkjcimcaa
