/-
  balance.more, less, walked.
-/
import Derived.Test.YtpbnakoimlmhnaaBalA
import Derived.Test.YtpbnakoimlmhnaaWd
import Derived.Deep.DeepCutAuto
namespace Go.Proofs.Ytpbnakoimlmhnaa
set_option linter.unusedVariables false
set_option linter.unusedSimpArgs false
open Go.RowKit

attribute [local go_sem] drew_hs
set_option maxRecDepth 8000 in
set_option maxHeartbeats 4000000 in
theorem more_creditsPending (a b n1 n2 : Int) (ha : Wd a) (hb : Wd b) (hn1 : Wd n1) (hn2 : Wd n2) (g k : Nat) (w : World) (c0 : w.cell? ⟨g, k + 6, none⟩ = some (.int .u64 a)) (c1 : w.cell? ⟨g, k + 7, none⟩ = some (.int .u64 b)) (z0 : w.frozen? ⟨g, k + 6, none⟩ = false) (z1 : w.frozen? ⟨g, k + 7, none⟩ = false) :
    Calls Try.prog 39 #[.func (.func 76) #[] #[], .pointer (some ⟨g, k, none⟩), .agg #[.int .u64 n1, .int .u64 n2]] w fun r w' => r = .returned (.bool (addB a b n1 n2)) ∧ ∃ W2, Below w.heap.size w W2 ∧ w' = if addB a b n1 n2 then (W2.setCell ⟨g, k + 6, none⟩ (.int .u64 (addH a b n1 n2))).setCell ⟨g, k + 7, none⟩ (.int .u64 (addL a b n1 n2)) else W2 := by
  have HA := Lib.hid (fun w => add_any a b n1 n2 ha hb hn1 hn2 w)
  have HF := Lib.hid (fun g k w => creditsPending_any g k w)
  clear ha hb hn1 hn2
  generalize addB a b n1 n2 = ok at *
  generalize addH a b n1 n2 = h at *
  generalize addL a b n1 n2 = l at *
  have gl : g < w.heap.size := World.block_lt_of_cell? w _ c0
  have hb0 := Below.refl w.heap.size w
  go_enter Try.func39, Try.ntmps39
  replace hb0 := Lib.hid hb0
  go_wp2_with fail
  refine (HF.out _ _ _).mono ?_
  rintro e w_1 ⟨rfl, hb_1⟩
  have z_1 := hb_1.size
  try simp at z_1
  have t_ := hb0.out
  have hB_1 := bel_eld (w := w) (X := _) (by first | ((repeat (first | with_reducible exact Below.refl _ _ | with_reducible assumption | (with_reducible refine bel_set ?_ (by first | exact Nat.le_refl _ | (simp; done) | (simp; omega) | omega) _) | with_reducible refine bel_grow ?_ _ | with_reducible refine Below.drew ?_ | with_reducible refine below_drewN ?_ _ | with_reducible refine bel_alloc ?_ _ | with_reducible refine bel_trans ?_ (by assumption))); done) | (repeat (first | exact Below.refl _ _ | assumption | refine below_drewN ?_ _ | refine bel_grow ?_ _ | refine Below.drew ?_ | refine bel_alloc ?_ _ | refine bel_set ?_ (by first | exact Nat.le_refl _ | (simp; done) | (simp; omega) | omega) _ | refine bel_trans ?_ (by assumption)))) hb_1
  clear t_
  have g_m : Blk w_1 (w.heap.size) 24 #[.int .u64 n1, .int .u64 n2] := by
    refine Blk.kept ?_ hb_1
    (repeat (first | with_reducible assumption | (with_reducible refine Blk.new' ?_; first | with_reducible rfl | (simp; done)) | with_reducible refine Blk.alloc ?_ _ | with_reducible refine Blk.grow ?_ _ | with_reducible refine Blk.drew ?_ | with_reducible refine Blk.drewN ?_ _ | (with_reducible refine Blk.far ?_ (by first | (dsimp only; omega) | (simp; omega)) _) | (with_reducible apply Blk.two) | (with_reducible refine Blk.set' ?_ _ _ ?_) | (with_reducible rfl) | rfl))
  clear hb0 hb_1
  have f_m := g_m
  clear g_m
  have m_0 : w_1.cell? ⟨w.heap.size, 0, none⟩ = some (.int .u64 n1) := (f_m).cell 0
  have m_1 : w_1.cell? ⟨w.heap.size, 1, none⟩ = some (.int .u64 n2) := (f_m).cell 1
  have m_f0 := (f_m).frozen 0
  have m_f1 := (f_m).frozen 1
  have m_l := (f_m).lt
  replace f_m := Lib.hid f_m
  replace hB_1 := Lib.hid hB_1
  have hB := hB_1.out
  have d0 : w_1.cell? ⟨g, k + 6, none⟩ = some (.int .u64 a) := (hB.cell (p := ⟨g, k + 6, none⟩) gl).trans c0
  have d1 : w_1.cell? ⟨g, k + 7, none⟩ = some (.int .u64 b) := (hB.cell (p := ⟨g, k + 7, none⟩) gl).trans c1
  have y0 : w_1.frozen? ⟨g, k + 6, none⟩ = false := by rw [← z0]; unfold World.frozen?; rw [hB.block g gl]
  have y1 : w_1.frozen? ⟨g, k + 7, none⟩ = false := by rw [← z1]; unfold World.frozen?; rw [hB.block g gl]
  have d1' : w_1.cell? ⟨g, k + 6 + 1, none⟩ = some (.int .u64 b) := d1
  have y1' : w_1.frozen? ⟨g, k + 6 + 1, none⟩ = false := y1
  have gl1 : g < w_1.heap.size := Nat.lt_of_lt_of_le gl hB.size
  clear c0 c1 z0 z1 hB
  go_upto_region 2 with fail
  go_cut [8, 9] (fun s8 s9 wx => ∃ q, s8 = .pointer (some ⟨q, 0, none⟩) ∧ s9 = .bool ok ∧ w_1.heap.size ≤ q ∧ Blk wx q 24 #[.int .u64 h, .int .u64 l] ∧ Below w_1.heap.size w_1 wx)
  case first =>
    go_region_with (go_at_call 72; (with_reducible refine (HA.out _).mono ?_); rintro e2 w2 ⟨rfl, hb2⟩; try ((first | (have f12 : Blk w2 (w_1.heap.size) 24 #[.int .u64 0, .int .u64 0] := by (refine Blk.kept ?_ hb2; ((repeat (first | with_reducible assumption | (with_reducible refine Blk.new' ?_; first | with_reducible rfl | (simp; done)) | with_reducible refine Blk.alloc ?_ _ | with_reducible refine Blk.grow ?_ _ | with_reducible refine Blk.drew ?_ | with_reducible refine Blk.drewN ?_ _ | (with_reducible refine Blk.far ?_ (by first | (dsimp only; omega) | (simp; omega)) _) | (with_reducible apply Blk.two) | (with_reducible refine Blk.set' ?_ _ _ ?_) | (with_reducible rfl) | rfl)); done)))); have l12 := f12.lt; have k0 := f12.cell 0; have k1 := f12.cell 1; have kf0 := f12.frozen 0; have kf1 := f12.frozen 1))
    all_goals (
      have zz2 := hb2.size
      simp at zz2
      go_wp2_with fail
      go_meet
      refine ⟨_, rfl, rfl, ?_, ?_, ?_⟩
      · first | exact Nat.le_refl _ | omega
      · first | (with_reducible exact Blk.new' rfl) | (with_reducible exact Blk.drew (Blk.new' rfl)) | (exact Blk.two f12)
      · (repeat (first | with_reducible exact Below.refl _ _ | with_reducible assumption | (with_reducible refine bel_set ?_ (by first | exact Nat.le_refl _ | (simp; done) | (simp; omega) | omega) _) | with_reducible refine bel_grow ?_ _ | with_reducible refine Below.drew ?_ | with_reducible refine below_drewN ?_ _ | with_reducible refine bel_alloc ?_ _ | with_reducible refine bel_trans ?_ (by assumption))))
  case rest =>
    obtain ⟨q, rfl, rfl, hq, gq, hw⟩ := hcut
    have e0 : wc.frozen? ⟨g, k + 6, none⟩ = false := by rw [← y0]; unfold World.frozen?; rw [hw.block g gl1]
    have e1 : wc.frozen? ⟨g, k + 7, none⟩ = false := by rw [← y1]; unfold World.frozen?; rw [hw.block g gl1]
    have x0 := (hw.cell (p := ⟨g, k + 6, none⟩) gl1).trans d0
    have x1 := (hw.cell (p := ⟨g, k + 7, none⟩) gl1).trans d1
    have x1' : wc.cell? ⟨g, k + 6 + 1, none⟩ = some (.int .u64 b) := x1
    have e1' : wc.frozen? ⟨g, k + 6 + 1, none⟩ = false := e1
    have gl2 : g < wc.heap.size := Nat.lt_of_lt_of_le gl1 hw.size
    have bX := Lib.hid (bel_eld hB_1.out hw)
    clear d0 d1 y0 y1 d1' y1' hw hB_1 m_0 m_1 m_f0 m_f1 m_l f_m HA HF
    have q0 := (gq).cell 0
    have q1 := (gq).cell 1
    have qf0 := (gq).frozen 0
    have qf1 := (gq).frozen 1
    have ql := (gq).lt
    clear gq
    cases ok
    case false =>
      go_wp2_with fail
      go_ret
      first | exact ⟨rfl, wc, bX.out, rfl⟩ | exact ⟨rfl, bX.out⟩
    case true =>
      go_wp2_with fail
      go_ret
      first | exact ⟨rfl, wc, bX.out, rfl⟩ | exact ⟨rfl, bX.out⟩
set_option maxRecDepth 8000 in
set_option maxHeartbeats 4000000 in
theorem more_creditsPosted (a b n1 n2 : Int) (ha : Wd a) (hb : Wd b) (hn1 : Wd n1) (hn2 : Wd n2) (g k : Nat) (w : World) (c0 : w.cell? ⟨g, k + 8, none⟩ = some (.int .u64 a)) (c1 : w.cell? ⟨g, k + 9, none⟩ = some (.int .u64 b)) (z0 : w.frozen? ⟨g, k + 8, none⟩ = false) (z1 : w.frozen? ⟨g, k + 9, none⟩ = false) :
    Calls Try.prog 39 #[.func (.func 75) #[] #[], .pointer (some ⟨g, k, none⟩), .agg #[.int .u64 n1, .int .u64 n2]] w fun r w' => r = .returned (.bool (addB a b n1 n2)) ∧ ∃ W2, Below w.heap.size w W2 ∧ w' = if addB a b n1 n2 then (W2.setCell ⟨g, k + 8, none⟩ (.int .u64 (addH a b n1 n2))).setCell ⟨g, k + 9, none⟩ (.int .u64 (addL a b n1 n2)) else W2 := by
  have HA := Lib.hid (fun w => add_any a b n1 n2 ha hb hn1 hn2 w)
  have HF := Lib.hid (fun g k w => creditsPosted_any g k w)
  clear ha hb hn1 hn2
  generalize addB a b n1 n2 = ok at *
  generalize addH a b n1 n2 = h at *
  generalize addL a b n1 n2 = l at *
  have gl : g < w.heap.size := World.block_lt_of_cell? w _ c0
  have hb0 := Below.refl w.heap.size w
  go_enter Try.func39, Try.ntmps39
  replace hb0 := Lib.hid hb0
  go_wp2_with fail
  refine (HF.out _ _ _).mono ?_
  rintro e w_1 ⟨rfl, hb_1⟩
  have z_1 := hb_1.size
  try simp at z_1
  have t_ := hb0.out
  have hB_1 := bel_eld (w := w) (X := _) (by first | ((repeat (first | with_reducible exact Below.refl _ _ | with_reducible assumption | (with_reducible refine bel_set ?_ (by first | exact Nat.le_refl _ | (simp; done) | (simp; omega) | omega) _) | with_reducible refine bel_grow ?_ _ | with_reducible refine Below.drew ?_ | with_reducible refine below_drewN ?_ _ | with_reducible refine bel_alloc ?_ _ | with_reducible refine bel_trans ?_ (by assumption))); done) | (repeat (first | exact Below.refl _ _ | assumption | refine below_drewN ?_ _ | refine bel_grow ?_ _ | refine Below.drew ?_ | refine bel_alloc ?_ _ | refine bel_set ?_ (by first | exact Nat.le_refl _ | (simp; done) | (simp; omega) | omega) _ | refine bel_trans ?_ (by assumption)))) hb_1
  clear t_
  have g_m : Blk w_1 (w.heap.size) 24 #[.int .u64 n1, .int .u64 n2] := by
    refine Blk.kept ?_ hb_1
    (repeat (first | with_reducible assumption | (with_reducible refine Blk.new' ?_; first | with_reducible rfl | (simp; done)) | with_reducible refine Blk.alloc ?_ _ | with_reducible refine Blk.grow ?_ _ | with_reducible refine Blk.drew ?_ | with_reducible refine Blk.drewN ?_ _ | (with_reducible refine Blk.far ?_ (by first | (dsimp only; omega) | (simp; omega)) _) | (with_reducible apply Blk.two) | (with_reducible refine Blk.set' ?_ _ _ ?_) | (with_reducible rfl) | rfl))
  clear hb0 hb_1
  have f_m := g_m
  clear g_m
  have m_0 : w_1.cell? ⟨w.heap.size, 0, none⟩ = some (.int .u64 n1) := (f_m).cell 0
  have m_1 : w_1.cell? ⟨w.heap.size, 1, none⟩ = some (.int .u64 n2) := (f_m).cell 1
  have m_f0 := (f_m).frozen 0
  have m_f1 := (f_m).frozen 1
  have m_l := (f_m).lt
  replace f_m := Lib.hid f_m
  replace hB_1 := Lib.hid hB_1
  have hB := hB_1.out
  have d0 : w_1.cell? ⟨g, k + 8, none⟩ = some (.int .u64 a) := (hB.cell (p := ⟨g, k + 8, none⟩) gl).trans c0
  have d1 : w_1.cell? ⟨g, k + 9, none⟩ = some (.int .u64 b) := (hB.cell (p := ⟨g, k + 9, none⟩) gl).trans c1
  have y0 : w_1.frozen? ⟨g, k + 8, none⟩ = false := by rw [← z0]; unfold World.frozen?; rw [hB.block g gl]
  have y1 : w_1.frozen? ⟨g, k + 9, none⟩ = false := by rw [← z1]; unfold World.frozen?; rw [hB.block g gl]
  have d1' : w_1.cell? ⟨g, k + 8 + 1, none⟩ = some (.int .u64 b) := d1
  have y1' : w_1.frozen? ⟨g, k + 8 + 1, none⟩ = false := y1
  have gl1 : g < w_1.heap.size := Nat.lt_of_lt_of_le gl hB.size
  clear c0 c1 z0 z1 hB
  go_upto_region 2 with fail
  go_cut [8, 9] (fun s8 s9 wx => ∃ q, s8 = .pointer (some ⟨q, 0, none⟩) ∧ s9 = .bool ok ∧ w_1.heap.size ≤ q ∧ Blk wx q 24 #[.int .u64 h, .int .u64 l] ∧ Below w_1.heap.size w_1 wx)
  case first =>
    go_region_with (go_at_call 72; (with_reducible refine (HA.out _).mono ?_); rintro e2 w2 ⟨rfl, hb2⟩; try ((first | (have f12 : Blk w2 (w_1.heap.size) 24 #[.int .u64 0, .int .u64 0] := by (refine Blk.kept ?_ hb2; ((repeat (first | with_reducible assumption | (with_reducible refine Blk.new' ?_; first | with_reducible rfl | (simp; done)) | with_reducible refine Blk.alloc ?_ _ | with_reducible refine Blk.grow ?_ _ | with_reducible refine Blk.drew ?_ | with_reducible refine Blk.drewN ?_ _ | (with_reducible refine Blk.far ?_ (by first | (dsimp only; omega) | (simp; omega)) _) | (with_reducible apply Blk.two) | (with_reducible refine Blk.set' ?_ _ _ ?_) | (with_reducible rfl) | rfl)); done)))); have l12 := f12.lt; have k0 := f12.cell 0; have k1 := f12.cell 1; have kf0 := f12.frozen 0; have kf1 := f12.frozen 1))
    all_goals (
      have zz2 := hb2.size
      simp at zz2
      go_wp2_with fail
      go_meet
      refine ⟨_, rfl, rfl, ?_, ?_, ?_⟩
      · first | exact Nat.le_refl _ | omega
      · first | (with_reducible exact Blk.new' rfl) | (with_reducible exact Blk.drew (Blk.new' rfl)) | (exact Blk.two f12)
      · (repeat (first | with_reducible exact Below.refl _ _ | with_reducible assumption | (with_reducible refine bel_set ?_ (by first | exact Nat.le_refl _ | (simp; done) | (simp; omega) | omega) _) | with_reducible refine bel_grow ?_ _ | with_reducible refine Below.drew ?_ | with_reducible refine below_drewN ?_ _ | with_reducible refine bel_alloc ?_ _ | with_reducible refine bel_trans ?_ (by assumption))))
  case rest =>
    obtain ⟨q, rfl, rfl, hq, gq, hw⟩ := hcut
    have e0 : wc.frozen? ⟨g, k + 8, none⟩ = false := by rw [← y0]; unfold World.frozen?; rw [hw.block g gl1]
    have e1 : wc.frozen? ⟨g, k + 9, none⟩ = false := by rw [← y1]; unfold World.frozen?; rw [hw.block g gl1]
    have x0 := (hw.cell (p := ⟨g, k + 8, none⟩) gl1).trans d0
    have x1 := (hw.cell (p := ⟨g, k + 9, none⟩) gl1).trans d1
    have x1' : wc.cell? ⟨g, k + 8 + 1, none⟩ = some (.int .u64 b) := x1
    have e1' : wc.frozen? ⟨g, k + 8 + 1, none⟩ = false := e1
    have gl2 : g < wc.heap.size := Nat.lt_of_lt_of_le gl1 hw.size
    have bX := Lib.hid (bel_eld hB_1.out hw)
    clear d0 d1 y0 y1 d1' y1' hw hB_1 m_0 m_1 m_f0 m_f1 m_l f_m HA HF
    have q0 := (gq).cell 0
    have q1 := (gq).cell 1
    have qf0 := (gq).frozen 0
    have qf1 := (gq).frozen 1
    have ql := (gq).lt
    clear gq
    cases ok
    case false =>
      go_wp2_with fail
      go_ret
      first | exact ⟨rfl, wc, bX.out, rfl⟩ | exact ⟨rfl, bX.out⟩
    case true =>
      go_wp2_with fail
      go_ret
      first | exact ⟨rfl, wc, bX.out, rfl⟩ | exact ⟨rfl, bX.out⟩
end Go.Proofs.Ytpbnakoimlmhnaa
