/-
  record.KeptDue, walked.
-/
import Derived.Test.YtflaeljjalpnkaaKeyC
namespace Go.Proofs.Ytflaeljjalpnkaa
set_option linter.unusedVariables false
set_option linter.unusedSimpArgs false
open Go.RowKit

set_option maxHeartbeats 2000000 in
theorem keptDue_k (A B : Option Addr) (n c m k : Nat) (hn : n ≤ maxLen) (hm : m ≤ maxLen) (h : n ≠ 16) (e : Nat → Int) (he : ∀ i, 0 ≤ e i ∧ e i < 256) (w : World) (hs : SlIs w B m (yV e)) : Calls Try.prog 41 #[.slice A n c, .slice B m k] w fun r w' => r = .returned (.tuple #[.agg #[.int .u64 0, .int .u64 0, .int .u64 0, .int .u64 0], .bool false]) ∧ Below w.heap.size w w' := by
  have H1 := Lib.hid (fun w => halves_no A n c hn h w)
  have H2 := fun W (hb : Below w.heap.size w W) => read_any B m k hm e he W (hs.below hb)
  generalize rdH e m = q0 at *
  generalize rdL e m = q1 at *
  generalize decide (m = 16) = b0 at *
  replace H2 := Lib.hid H2
  clear he hs
  have hb0 := Below.refl w.heap.size w
  go_enter Try.func41, Try.ntmps41
  replace hb0 := Lib.hid hb0
  go_wp2_with fail
  refine (H1.out _).mono ?_
  rintro e w_1 ⟨rfl, hb_1⟩
  have z_1 := hb_1.size
  try simp at z_1
  have t_ := hb0.out
  have hB_1 := bel_eld (w := w) (X := _) (by first | ((repeat (first | with_reducible exact Below.refl _ _ | with_reducible assumption | (with_reducible refine bel_set ?_ (by first | exact Nat.le_refl _ | (simp; done) | (simp; omega) | omega) _) | with_reducible refine bel_grow ?_ _ | with_reducible refine Below.drew ?_ | with_reducible refine below_drewN ?_ _ | with_reducible refine bel_alloc ?_ _ | with_reducible refine bel_trans ?_ (by assumption))); done) | (repeat (first | exact Below.refl _ _ | assumption | refine below_drewN ?_ _ | refine bel_grow ?_ _ | refine Below.drew ?_ | refine bel_alloc ?_ _ | refine bel_set ?_ (by first | exact Nat.le_refl _ | (simp; done) | (simp; omega) | omega) _ | refine bel_trans ?_ (by assumption)))) hb_1
  clear t_
  have g_a : Blk w_1 (w.heap.size) 26 #[.int .u64 0, .int .u64 0, .int .u64 0, .int .u64 0] := by
    refine Blk.kept ?_ hb_1
    (repeat (first | with_reducible assumption | (with_reducible refine Blk.new' ?_; first | with_reducible rfl | (simp; done)) | with_reducible refine Blk.alloc ?_ _ | with_reducible refine Blk.grow ?_ _ | with_reducible refine Blk.drew ?_ | with_reducible refine Blk.drewN ?_ _ | (with_reducible refine Blk.far ?_ (by first | (dsimp only; omega) | (simp; omega)) _) | (with_reducible apply Blk.two) | (with_reducible refine Blk.set' ?_ _ _ ?_) | (with_reducible rfl) | rfl))
  clear hb0 hb_1
  have f_a := g_a
  clear g_a
  have a_0 : w_1.cell? ⟨w.heap.size, 0, none⟩ = some (.int .u64 0) := (f_a).cell 0
  have a_1 : w_1.cell? ⟨w.heap.size, 1, none⟩ = some (.int .u64 0) := (f_a).cell 1
  have a_2 : w_1.cell? ⟨w.heap.size, 2, none⟩ = some (.int .u64 0) := (f_a).cell 2
  have a_3 : w_1.cell? ⟨w.heap.size, 3, none⟩ = some (.int .u64 0) := (f_a).cell 3
  have a_f0 := (f_a).frozen 0
  have a_f1 := (f_a).frozen 1
  have a_f2 := (f_a).frozen 2
  have a_f3 := (f_a).frozen 3
  have a_l := (f_a).lt
  replace f_a := Lib.hid f_a
  replace hB_1 := Lib.hid hB_1
  go_wp2_with fail
  refine (H2.out _ hB_1.out).mono ?_
  rintro e w_2 ⟨rfl, hb_2⟩
  have z_2 := hb_2.size
  try simp at z_2
  have t_ := hB_1.out
  have hB_2 := bel_eld (w := w) (X := _) (by first | ((repeat (first | with_reducible exact Below.refl _ _ | with_reducible assumption | (with_reducible refine bel_set ?_ (by first | exact Nat.le_refl _ | (simp; done) | (simp; omega) | omega) _) | with_reducible refine bel_grow ?_ _ | with_reducible refine Below.drew ?_ | with_reducible refine below_drewN ?_ _ | with_reducible refine bel_alloc ?_ _ | with_reducible refine bel_trans ?_ (by assumption))); done) | (repeat (first | exact Below.refl _ _ | assumption | refine below_drewN ?_ _ | refine bel_grow ?_ _ | refine Below.drew ?_ | refine bel_alloc ?_ _ | refine bel_set ?_ (by first | exact Nat.le_refl _ | (simp; done) | (simp; omega) | omega) _ | refine bel_trans ?_ (by assumption)))) hb_2
  clear t_
  have t_a := f_a.out
  have g_a : Blk w_2 (w.heap.size) 26 #[.int .u64 0, .int .u64 0, .int .u64 0, .int .u64 0] := by
    refine Blk.kept ?_ hb_2
    (repeat (first | with_reducible assumption | (with_reducible refine Blk.new' ?_; first | with_reducible rfl | (simp; done)) | with_reducible refine Blk.alloc ?_ _ | with_reducible refine Blk.grow ?_ _ | with_reducible refine Blk.drew ?_ | with_reducible refine Blk.drewN ?_ _ | (with_reducible refine Blk.far ?_ (by first | (dsimp only; omega) | (simp; omega)) _) | (with_reducible apply Blk.two) | (with_reducible refine Blk.set' ?_ _ _ ?_) | (with_reducible rfl) | rfl))
  clear f_a a_l a_0 a_1 a_2 a_3 a_f0 a_f1 a_f2 a_f3 t_a hB_1 hb_2
  have f_a := g_a
  clear g_a
  have a_0 : w_2.cell? ⟨w.heap.size, 0, none⟩ = some (.int .u64 0) := (f_a).cell 0
  have a_1 : w_2.cell? ⟨w.heap.size, 1, none⟩ = some (.int .u64 0) := (f_a).cell 1
  have a_2 : w_2.cell? ⟨w.heap.size, 2, none⟩ = some (.int .u64 0) := (f_a).cell 2
  have a_3 : w_2.cell? ⟨w.heap.size, 3, none⟩ = some (.int .u64 0) := (f_a).cell 3
  have a_f0 := (f_a).frozen 0
  have a_f1 := (f_a).frozen 1
  have a_f2 := (f_a).frozen 2
  have a_f3 := (f_a).frozen 3
  have a_l := (f_a).lt
  replace f_a := Lib.hid f_a
  replace hB_2 := Lib.hid hB_2
  go_wp2_with fail
  refine bodyPost_ret (v := .tuple #[.agg #[.int .u64 0, .int .u64 0, .int .u64 0, .int .u64 0], .bool false]) (by simp [results, Try.results41, go_sem, a_0, a_1, a_2, a_3, a_l]) rfl ⟨rfl, ?_⟩
  have t := hB_2.out
  (repeat (first | with_reducible exact Below.refl _ _ | with_reducible assumption | (with_reducible refine bel_set ?_ (by first | exact Nat.le_refl _ | (simp; done) | (simp; omega) | omega) _) | with_reducible refine bel_grow ?_ _ | with_reducible refine Below.drew ?_ | with_reducible refine below_drewN ?_ _ | with_reducible refine bel_alloc ?_ _ | with_reducible refine bel_trans ?_ (by assumption)))
set_option maxHeartbeats 2000000 in
theorem keptDue_v (A B : Option Addr) (c m k : Nat) (hmc : 16 ≤ c) (hC : c ≤ maxLen) (hm : m ≤ maxLen) (h : m ≠ 16) (d e : Nat → Int) (hd : ∀ i, 0 ≤ d i ∧ d i < 256) (he : ∀ i, 0 ≤ e i ∧ e i < 256) (w : World) (ht : SlIs w A 16 (yV d)) (hs : SlIs w B m (yV e)) : Calls Try.prog 41 #[.slice A 16 c, .slice B m k] w fun r w' => r = .returned (.tuple #[.agg #[.int .u64 0, .int .u64 0, .int .u64 0, .int .u64 0], .bool false]) ∧ Below w.heap.size w w' := by
  have H1 := Lib.hid (fun W (hb : Below w.heap.size w W) => halves_yes A c d hd hmc hC W (ht.below hb))
  have H2 := fun W (hb : Below w.heap.size w W) => read_any B m k hm e he W (hs.below hb)
  rw [decide_eq_false h] at H2
  generalize rdH e m = q0 at *
  generalize rdL e m = q1 at *
  generalize num d 0 8 = q2 at *
  generalize num d 8 8 = q3 at *
  replace H2 := Lib.hid H2
  clear he hs hd ht
  have hb0 := Below.refl w.heap.size w
  go_enter Try.func41, Try.ntmps41
  replace hb0 := Lib.hid hb0
  go_wp2_with fail
  refine (H1.out _ (bel_alloc (Below.refl _ _) _)).mono ?_
  rintro e w_1 ⟨rfl, hb_1⟩
  have z_1 := hb_1.size
  try simp at z_1
  have t_ := hb0.out
  have hB_1 := bel_eld (w := w) (X := _) (by first | ((repeat (first | with_reducible exact Below.refl _ _ | with_reducible assumption | (with_reducible refine bel_set ?_ (by first | exact Nat.le_refl _ | (simp; done) | (simp; omega) | omega) _) | with_reducible refine bel_grow ?_ _ | with_reducible refine Below.drew ?_ | with_reducible refine below_drewN ?_ _ | with_reducible refine bel_alloc ?_ _ | with_reducible refine bel_trans ?_ (by assumption))); done) | (repeat (first | exact Below.refl _ _ | assumption | refine below_drewN ?_ _ | refine bel_grow ?_ _ | refine Below.drew ?_ | refine bel_alloc ?_ _ | refine bel_set ?_ (by first | exact Nat.le_refl _ | (simp; done) | (simp; omega) | omega) _ | refine bel_trans ?_ (by assumption)))) hb_1
  clear t_
  have g_a : Blk w_1 (w.heap.size) 26 #[.int .u64 0, .int .u64 0, .int .u64 0, .int .u64 0] := by
    refine Blk.kept ?_ hb_1
    (repeat (first | with_reducible assumption | (with_reducible refine Blk.new' ?_; first | with_reducible rfl | (simp; done)) | with_reducible refine Blk.alloc ?_ _ | with_reducible refine Blk.grow ?_ _ | with_reducible refine Blk.drew ?_ | with_reducible refine Blk.drewN ?_ _ | (with_reducible refine Blk.far ?_ (by first | (dsimp only; omega) | (simp; omega)) _) | (with_reducible apply Blk.two) | (with_reducible refine Blk.set' ?_ _ _ ?_) | (with_reducible rfl) | rfl))
  clear hb0 hb_1
  have f_a := g_a
  clear g_a
  have a_0 : w_1.cell? ⟨w.heap.size, 0, none⟩ = some (.int .u64 0) := (f_a).cell 0
  have a_1 : w_1.cell? ⟨w.heap.size, 1, none⟩ = some (.int .u64 0) := (f_a).cell 1
  have a_2 : w_1.cell? ⟨w.heap.size, 2, none⟩ = some (.int .u64 0) := (f_a).cell 2
  have a_3 : w_1.cell? ⟨w.heap.size, 3, none⟩ = some (.int .u64 0) := (f_a).cell 3
  have a_f0 := (f_a).frozen 0
  have a_f1 := (f_a).frozen 1
  have a_f2 := (f_a).frozen 2
  have a_f3 := (f_a).frozen 3
  have a_l := (f_a).lt
  replace f_a := Lib.hid f_a
  replace hB_1 := Lib.hid hB_1
  go_wp2_with fail
  refine (H2.out _ hB_1.out).mono ?_
  rintro e w_2 ⟨rfl, hb_2⟩
  have z_2 := hb_2.size
  try simp at z_2
  have t_ := hB_1.out
  have hB_2 := bel_eld (w := w) (X := _) (by first | ((repeat (first | with_reducible exact Below.refl _ _ | with_reducible assumption | (with_reducible refine bel_set ?_ (by first | exact Nat.le_refl _ | (simp; done) | (simp; omega) | omega) _) | with_reducible refine bel_grow ?_ _ | with_reducible refine Below.drew ?_ | with_reducible refine below_drewN ?_ _ | with_reducible refine bel_alloc ?_ _ | with_reducible refine bel_trans ?_ (by assumption))); done) | (repeat (first | exact Below.refl _ _ | assumption | refine below_drewN ?_ _ | refine bel_grow ?_ _ | refine Below.drew ?_ | refine bel_alloc ?_ _ | refine bel_set ?_ (by first | exact Nat.le_refl _ | (simp; done) | (simp; omega) | omega) _ | refine bel_trans ?_ (by assumption)))) hb_2
  clear t_
  have t_a := f_a.out
  have g_a : Blk w_2 (w.heap.size) 26 #[.int .u64 0, .int .u64 0, .int .u64 0, .int .u64 0] := by
    refine Blk.kept ?_ hb_2
    (repeat (first | with_reducible assumption | (with_reducible refine Blk.new' ?_; first | with_reducible rfl | (simp; done)) | with_reducible refine Blk.alloc ?_ _ | with_reducible refine Blk.grow ?_ _ | with_reducible refine Blk.drew ?_ | with_reducible refine Blk.drewN ?_ _ | (with_reducible refine Blk.far ?_ (by first | (dsimp only; omega) | (simp; omega)) _) | (with_reducible apply Blk.two) | (with_reducible refine Blk.set' ?_ _ _ ?_) | (with_reducible rfl) | rfl))
  clear f_a a_l a_0 a_1 a_2 a_3 a_f0 a_f1 a_f2 a_f3 t_a hB_1 hb_2
  have f_a := g_a
  clear g_a
  have a_0 : w_2.cell? ⟨w.heap.size, 0, none⟩ = some (.int .u64 0) := (f_a).cell 0
  have a_1 : w_2.cell? ⟨w.heap.size, 1, none⟩ = some (.int .u64 0) := (f_a).cell 1
  have a_2 : w_2.cell? ⟨w.heap.size, 2, none⟩ = some (.int .u64 0) := (f_a).cell 2
  have a_3 : w_2.cell? ⟨w.heap.size, 3, none⟩ = some (.int .u64 0) := (f_a).cell 3
  have a_f0 := (f_a).frozen 0
  have a_f1 := (f_a).frozen 1
  have a_f2 := (f_a).frozen 2
  have a_f3 := (f_a).frozen 3
  have a_l := (f_a).lt
  replace f_a := Lib.hid f_a
  replace hB_2 := Lib.hid hB_2
  go_wp2_with fail
  refine bodyPost_ret (v := .tuple #[.agg #[.int .u64 0, .int .u64 0, .int .u64 0, .int .u64 0], .bool false]) (by simp [results, Try.results41, go_sem, a_0, a_1, a_2, a_3, a_l]) rfl ⟨rfl, ?_⟩
  have t := hB_2.out
  (repeat (first | with_reducible exact Below.refl _ _ | with_reducible assumption | (with_reducible refine bel_set ?_ (by first | exact Nat.le_refl _ | (simp; done) | (simp; omega) | omega) _) | with_reducible refine bel_grow ?_ _ | with_reducible refine Below.drew ?_ | with_reducible refine below_drewN ?_ _ | with_reducible refine bel_alloc ?_ _ | with_reducible refine bel_trans ?_ (by assumption)))
set_option maxHeartbeats 2000000 in
theorem keptDue_yes (A B : Option Addr) (c k : Nat) (hmc : 16 ≤ c) (hC : c ≤ maxLen) (d e : Nat → Int) (hd : ∀ i, 0 ≤ d i ∧ d i < 256) (he : ∀ i, 0 ≤ e i ∧ e i < 256) (w : World) (ht : SlIs w A 16 (yV d)) (hs : SlIs w B 16 (yV e)) : Calls Try.prog 41 #[.slice A 16 c, .slice B 16 k] w fun r w' => r = .returned (.tuple #[.agg #[.int .u64 (num d 0 8), .int .u64 (num d 8 8), .int .u64 (num e 0 8), .int .u64 (num e 8 8)], .bool true]) ∧ Below w.heap.size w w' := by
  have H1 := Lib.hid (fun W (hb : Below w.heap.size w W) => halves_yes A c d hd hmc hC W (ht.below hb))
  have H2 := fun W (hb : Below w.heap.size w W) => read_any B 16 k (by simp [maxLen]) e he W (hs.below hb)
  unfold rdH rdL at H2
  simp only [if_pos, decide_true] at H2
  generalize num e 0 8 = q0 at *
  generalize num e 8 8 = q1 at *
  generalize num d 0 8 = q2 at *
  generalize num d 8 8 = q3 at *
  replace H2 := Lib.hid H2
  clear he hs hd ht
  have hb0 := Below.refl w.heap.size w
  go_enter Try.func41, Try.ntmps41
  replace hb0 := Lib.hid hb0
  go_wp2_with fail
  refine (H1.out _ (bel_alloc (Below.refl _ _) _)).mono ?_
  rintro e w_1 ⟨rfl, hb_1⟩
  have z_1 := hb_1.size
  try simp at z_1
  have t_ := hb0.out
  have hB_1 := bel_eld (w := w) (X := _) (by first | ((repeat (first | with_reducible exact Below.refl _ _ | with_reducible assumption | (with_reducible refine bel_set ?_ (by first | exact Nat.le_refl _ | (simp; done) | (simp; omega) | omega) _) | with_reducible refine bel_grow ?_ _ | with_reducible refine Below.drew ?_ | with_reducible refine below_drewN ?_ _ | with_reducible refine bel_alloc ?_ _ | with_reducible refine bel_trans ?_ (by assumption))); done) | (repeat (first | exact Below.refl _ _ | assumption | refine below_drewN ?_ _ | refine bel_grow ?_ _ | refine Below.drew ?_ | refine bel_alloc ?_ _ | refine bel_set ?_ (by first | exact Nat.le_refl _ | (simp; done) | (simp; omega) | omega) _ | refine bel_trans ?_ (by assumption)))) hb_1
  clear t_
  have g_a : Blk w_1 (w.heap.size) 26 #[.int .u64 0, .int .u64 0, .int .u64 0, .int .u64 0] := by
    refine Blk.kept ?_ hb_1
    (repeat (first | with_reducible assumption | (with_reducible refine Blk.new' ?_; first | with_reducible rfl | (simp; done)) | with_reducible refine Blk.alloc ?_ _ | with_reducible refine Blk.grow ?_ _ | with_reducible refine Blk.drew ?_ | with_reducible refine Blk.drewN ?_ _ | (with_reducible refine Blk.far ?_ (by first | (dsimp only; omega) | (simp; omega)) _) | (with_reducible apply Blk.two) | (with_reducible refine Blk.set' ?_ _ _ ?_) | (with_reducible rfl) | rfl))
  clear hb0 hb_1
  have f_a := g_a
  clear g_a
  have a_0 : w_1.cell? ⟨w.heap.size, 0, none⟩ = some (.int .u64 0) := (f_a).cell 0
  have a_1 : w_1.cell? ⟨w.heap.size, 1, none⟩ = some (.int .u64 0) := (f_a).cell 1
  have a_2 : w_1.cell? ⟨w.heap.size, 2, none⟩ = some (.int .u64 0) := (f_a).cell 2
  have a_3 : w_1.cell? ⟨w.heap.size, 3, none⟩ = some (.int .u64 0) := (f_a).cell 3
  have a_f0 := (f_a).frozen 0
  have a_f1 := (f_a).frozen 1
  have a_f2 := (f_a).frozen 2
  have a_f3 := (f_a).frozen 3
  have a_l := (f_a).lt
  replace f_a := Lib.hid f_a
  replace hB_1 := Lib.hid hB_1
  go_wp2_with fail
  refine (H2.out _ hB_1.out).mono ?_
  rintro e w_2 ⟨rfl, hb_2⟩
  have z_2 := hb_2.size
  try simp at z_2
  have t_ := hB_1.out
  have hB_2 := bel_eld (w := w) (X := _) (by first | ((repeat (first | with_reducible exact Below.refl _ _ | with_reducible assumption | (with_reducible refine bel_set ?_ (by first | exact Nat.le_refl _ | (simp; done) | (simp; omega) | omega) _) | with_reducible refine bel_grow ?_ _ | with_reducible refine Below.drew ?_ | with_reducible refine below_drewN ?_ _ | with_reducible refine bel_alloc ?_ _ | with_reducible refine bel_trans ?_ (by assumption))); done) | (repeat (first | exact Below.refl _ _ | assumption | refine below_drewN ?_ _ | refine bel_grow ?_ _ | refine Below.drew ?_ | refine bel_alloc ?_ _ | refine bel_set ?_ (by first | exact Nat.le_refl _ | (simp; done) | (simp; omega) | omega) _ | refine bel_trans ?_ (by assumption)))) hb_2
  clear t_
  have t_a := f_a.out
  have g_a : Blk w_2 (w.heap.size) 26 #[.int .u64 0, .int .u64 0, .int .u64 0, .int .u64 0] := by
    refine Blk.kept ?_ hb_2
    (repeat (first | with_reducible assumption | (with_reducible refine Blk.new' ?_; first | with_reducible rfl | (simp; done)) | with_reducible refine Blk.alloc ?_ _ | with_reducible refine Blk.grow ?_ _ | with_reducible refine Blk.drew ?_ | with_reducible refine Blk.drewN ?_ _ | (with_reducible refine Blk.far ?_ (by first | (dsimp only; omega) | (simp; omega)) _) | (with_reducible apply Blk.two) | (with_reducible refine Blk.set' ?_ _ _ ?_) | (with_reducible rfl) | rfl))
  clear f_a a_l a_0 a_1 a_2 a_3 a_f0 a_f1 a_f2 a_f3 t_a hB_1 hb_2
  have f_a := g_a
  clear g_a
  have a_0 : w_2.cell? ⟨w.heap.size, 0, none⟩ = some (.int .u64 0) := (f_a).cell 0
  have a_1 : w_2.cell? ⟨w.heap.size, 1, none⟩ = some (.int .u64 0) := (f_a).cell 1
  have a_2 : w_2.cell? ⟨w.heap.size, 2, none⟩ = some (.int .u64 0) := (f_a).cell 2
  have a_3 : w_2.cell? ⟨w.heap.size, 3, none⟩ = some (.int .u64 0) := (f_a).cell 3
  have a_f0 := (f_a).frozen 0
  have a_f1 := (f_a).frozen 1
  have a_f2 := (f_a).frozen 2
  have a_f3 := (f_a).frozen 3
  have a_l := (f_a).lt
  replace f_a := Lib.hid f_a
  replace hB_2 := Lib.hid hB_2
  go_wp2_with fail
  refine bodyPost_ret (v := .tuple #[.agg #[.int .u64 q2, .int .u64 q3, .int .u64 q0, .int .u64 q1], .bool true]) (by simp [results, Try.results41, go_sem, a_0, a_1, a_2, a_3, a_l]) rfl ⟨rfl, ?_⟩
  have t := hB_2.out
  (repeat (first | with_reducible exact Below.refl _ _ | with_reducible assumption | (with_reducible refine bel_set ?_ (by first | exact Nat.le_refl _ | (simp; done) | (simp; omega) | omega) _) | with_reducible refine bel_grow ?_ _ | with_reducible refine Below.drew ?_ | with_reducible refine below_drewN ?_ _ | with_reducible refine bel_alloc ?_ _ | with_reducible refine bel_trans ?_ (by assumption)))
end Go.Proofs.Ytflaeljjalpnkaa
