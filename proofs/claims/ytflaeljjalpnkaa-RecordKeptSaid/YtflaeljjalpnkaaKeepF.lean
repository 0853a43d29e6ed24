/-
  record.KeptRow, walked.
-/
import Derived.Test.YtflaeljjalpnkaaKeyC
import Derived.Test.YtflaeljjalpnkaaCatB
import Derived.Test.YtflaeljjalpnkaaRecR
import Derived.Test.YtflaeljjalpnkaaRowD
import Derived.Deep.DeepCutAuto
namespace Go.Proofs.Ytflaeljjalpnkaa
set_option linter.unusedVariables false
set_option linter.unusedSimpArgs false
open Go.RowKit

theorem stamp_sl (n : Int) (hn : Wd n) (w : World) : Calls Try.prog 66 #[.int .u64 n] w fun r w' => ∃ B, r = .returned (.slice B 8 8) ∧ SlIs w' B 8 (yV (nb 8 n)) ∧ Below w.heap.size w w' := by
  refine (stamp_any n hn w).mono ?_
  rintro e w' ⟨g, rfl, hg, hr, hb⟩
  refine ⟨_, rfl, fun _ => ⟨g, 8, rfl, hr.lt, fun j hj => ?_⟩, hb⟩
  rw [hr.cell (by omega)]
  congr 1
  unfold yV
  congr 1
  exact dgt_low 0 n j hj
theorem row_nums (d e : Nat → Int) {q : Int} (hq : 0 ≤ q ∧ q < 18446744073709551616) :
    (∀ s, s + 8 ≤ 64 → num (cat (shf e 1) 64 (nb 8 q)) s 8 = num e (1 + s) 8) ∧ num (cat (shf e 1) 64 (nb 8 q)) 64 8 = q := by
  refine ⟨fun s hs => ?_, ?_⟩
  · rw [num_cat_lo hs, num_shf']
  · rw [num_cat_hi (Nat.le_refl _), show 64 - 64 = 0 from rfl, num_nb8 hq]
set_option maxRecDepth 8000 in
set_option maxHeartbeats 2000000 in
theorem keptRow_k (A B : Option Addr) (n c m k : Nat) (hn : n ≤ maxLen) (h : n ≠ 24) (w : World) : Calls Try.prog 38 #[.slice A n c, .slice B m k] w fun r w' => r = .returned (.tuple #[.agg #[.int .u64 0, .int .u64 0], .agg #[.int .u64 0, .int .u64 0, .int .u64 0, .int .u64 0, .int .u64 0, .int .u64 0, .int .u64 0, .int .u64 0, .int .u64 0, .int .u8 0], .bool false]) ∧ Below w.heap.size w w' := by
  have H1 := Lib.hid (fun w => parts_no A n c hn h w)
  have hb0 := Below.refl w.heap.size w
  go_enter Try.func38, Try.ntmps38
  replace hb0 := Lib.hid hb0
  go_wp2_with fail
  refine (H1.out _).mono ?_
  rintro e w_1 ⟨rfl, hb_1⟩
  have z_1 := hb_1.size
  try simp at z_1
  have t_ := hb0.out
  have hB_1 := bel_eld (w := w) (X := _) (by first | ((repeat (first | with_reducible exact Below.refl _ _ | with_reducible assumption | (with_reducible refine bel_set ?_ (by first | exact Nat.le_refl _ | (simp; done) | (simp; omega) | omega) _) | with_reducible refine bel_grow ?_ _ | with_reducible refine Below.drew ?_ | with_reducible refine below_drewN ?_ _ | with_reducible refine bel_alloc ?_ _ | with_reducible refine bel_trans ?_ (by assumption))); done) | (repeat (first | exact Below.refl _ _ | assumption | refine below_drewN ?_ _ | refine bel_grow ?_ _ | refine Below.drew ?_ | refine bel_alloc ?_ _ | refine bel_set ?_ (by first | exact Nat.le_refl _ | (simp; done) | (simp; omega) | omega) _ | refine bel_trans ?_ (by assumption)))) hb_1
  clear t_
  have g_a : Blk w_1 (w.heap.size) 24 #[.int .u64 0, .int .u64 0] := by
    refine Blk.kept ?_ hb_1
    (repeat (first | with_reducible assumption | (with_reducible refine Blk.new' ?_; first | with_reducible rfl | (simp; done)) | with_reducible refine Blk.alloc ?_ _ | with_reducible refine Blk.grow ?_ _ | with_reducible refine Blk.drew ?_ | with_reducible refine Blk.drewN ?_ _ | (with_reducible refine Blk.far ?_ (by first | (dsimp only; omega) | (simp; omega)) _) | (with_reducible apply Blk.two) | (with_reducible refine Blk.set' ?_ _ _ ?_) | (with_reducible rfl) | rfl))
  have g_b : Blk w_1 (w.heap.size + 1) 30 #[.int .u64 0, .int .u64 0, .int .u64 0, .int .u64 0, .int .u64 0, .int .u64 0, .int .u64 0, .int .u64 0, .int .u64 0, .int .u8 0] := by
    refine Blk.kept ?_ hb_1
    (repeat (first | with_reducible assumption | (with_reducible refine Blk.new' ?_; first | with_reducible rfl | (simp; done)) | with_reducible refine Blk.alloc ?_ _ | with_reducible refine Blk.grow ?_ _ | with_reducible refine Blk.drew ?_ | with_reducible refine Blk.drewN ?_ _ | (with_reducible refine Blk.far ?_ (by first | (dsimp only; omega) | (simp; omega)) _) | (with_reducible apply Blk.two) | (with_reducible refine Blk.set' ?_ _ _ ?_) | (with_reducible rfl) | rfl))
  clear hb0 hb_1
  have f_a := g_a
  clear g_a
  have f_b := g_b
  clear g_b
  have a_0 : w_1.cell? ⟨w.heap.size, 0, none⟩ = some (.int .u64 0) := (f_a).cell 0
  have a_1 : w_1.cell? ⟨w.heap.size, 1, none⟩ = some (.int .u64 0) := (f_a).cell 1
  have a_f0 := (f_a).frozen 0
  have a_f1 := (f_a).frozen 1
  have a_l := (f_a).lt
  replace f_a := Lib.hid f_a
  have b_0 : w_1.cell? ⟨w.heap.size + 1, 0, none⟩ = some (.int .u64 0) := (f_b).cell 0
  have b_1 : w_1.cell? ⟨w.heap.size + 1, 1, none⟩ = some (.int .u64 0) := (f_b).cell 1
  have b_2 : w_1.cell? ⟨w.heap.size + 1, 2, none⟩ = some (.int .u64 0) := (f_b).cell 2
  have b_3 : w_1.cell? ⟨w.heap.size + 1, 3, none⟩ = some (.int .u64 0) := (f_b).cell 3
  have b_4 : w_1.cell? ⟨w.heap.size + 1, 4, none⟩ = some (.int .u64 0) := (f_b).cell 4
  have b_5 : w_1.cell? ⟨w.heap.size + 1, 5, none⟩ = some (.int .u64 0) := (f_b).cell 5
  have b_6 : w_1.cell? ⟨w.heap.size + 1, 6, none⟩ = some (.int .u64 0) := (f_b).cell 6
  have b_7 : w_1.cell? ⟨w.heap.size + 1, 7, none⟩ = some (.int .u64 0) := (f_b).cell 7
  have b_8 : w_1.cell? ⟨w.heap.size + 1, 8, none⟩ = some (.int .u64 0) := (f_b).cell 8
  have b_9 : w_1.cell? ⟨w.heap.size + 1, 9, none⟩ = some (.int .u8 0) := (f_b).cell 9
  have b_f0 := (f_b).frozen 0
  have b_f1 := (f_b).frozen 1
  have b_f2 := (f_b).frozen 2
  have b_f3 := (f_b).frozen 3
  have b_f4 := (f_b).frozen 4
  have b_f5 := (f_b).frozen 5
  have b_f6 := (f_b).frozen 6
  have b_f7 := (f_b).frozen 7
  have b_f8 := (f_b).frozen 8
  have b_f9 := (f_b).frozen 9
  have b_l := (f_b).lt
  replace f_b := Lib.hid f_b
  replace hB_1 := Lib.hid hB_1
  go_wp2_with fail
  refine bodyPost_ret (v := .tuple #[.agg #[.int .u64 0, .int .u64 0], .agg #[.int .u64 0, .int .u64 0, .int .u64 0, .int .u64 0, .int .u64 0, .int .u64 0, .int .u64 0, .int .u64 0, .int .u64 0, .int .u8 0], .bool false]) (by simp [results, Try.results38, go_sem, a_0, a_1, a_l, b_0, b_1, b_2, b_3, b_4, b_5, b_6, b_7, b_8, b_9, b_l]) rfl ⟨rfl, ?_⟩
  have t := hB_1.out
  (repeat (first | with_reducible exact Below.refl _ _ | with_reducible assumption | (with_reducible refine bel_set ?_ (by first | exact Nat.le_refl _ | (simp; done) | (simp; omega) | omega) _) | with_reducible refine bel_grow ?_ _ | with_reducible refine Below.drew ?_ | with_reducible refine below_drewN ?_ _ | with_reducible refine bel_alloc ?_ _ | with_reducible refine bel_trans ?_ (by assumption)))
set_option maxRecDepth 8000 in
set_option maxHeartbeats 2000000 in
theorem keptRow_v (A B : Option Addr) (c m k : Nat) (hmc : 24 ≤ c) (hC : c ≤ maxLen) (hm : m ≤ maxLen) (h : m ≠ 65) (d : Nat → Int) (hd : ∀ i, 0 ≤ d i ∧ d i < 256) (w : World) (ht : SlIs w A 24 (yV d)) : Calls Try.prog 38 #[.slice A 24 c, .slice B m k] w fun r w' => r = .returned (.tuple #[.agg #[.int .u64 0, .int .u64 0], .agg #[.int .u64 0, .int .u64 0, .int .u64 0, .int .u64 0, .int .u64 0, .int .u64 0, .int .u64 0, .int .u64 0, .int .u64 0, .int .u8 0], .bool false]) ∧ Below w.heap.size w w' := by
  have H1 := Lib.hid (fun W (hb : Below w.heap.size w W) => parts_yes A c d hd hmc hC W (ht.below hb))
  unfold maxLen at hm
  have h' : ((m : Int) != 65) = true := by rw [bne_iff_ne]; omega
  generalize num d 0 8 = q0 at *
  generalize num d 8 8 = q1 at *
  generalize num d 16 8 = q2 at *
  clear hd ht
  have hb0 := Below.refl w.heap.size w
  go_enter Try.func38, Try.ntmps38
  replace hb0 := Lib.hid hb0
  go_wp2_with fail
  refine (H1.out _ (by (repeat (first | with_reducible exact Below.refl _ _ | with_reducible assumption | (with_reducible refine bel_set ?_ (by first | exact Nat.le_refl _ | (simp; done) | (simp; omega) | omega) _) | with_reducible refine bel_grow ?_ _ | with_reducible refine Below.drew ?_ | with_reducible refine below_drewN ?_ _ | with_reducible refine bel_alloc ?_ _ | with_reducible refine bel_trans ?_ (by assumption))))).mono ?_
  rintro e w_1 ⟨rfl, hb_1⟩
  have z_1 := hb_1.size
  try simp at z_1
  have t_ := hb0.out
  have hB_1 := bel_eld (w := w) (X := _) (by first | ((repeat (first | with_reducible exact Below.refl _ _ | with_reducible assumption | (with_reducible refine bel_set ?_ (by first | exact Nat.le_refl _ | (simp; done) | (simp; omega) | omega) _) | with_reducible refine bel_grow ?_ _ | with_reducible refine Below.drew ?_ | with_reducible refine below_drewN ?_ _ | with_reducible refine bel_alloc ?_ _ | with_reducible refine bel_trans ?_ (by assumption))); done) | (repeat (first | exact Below.refl _ _ | assumption | refine below_drewN ?_ _ | refine bel_grow ?_ _ | refine Below.drew ?_ | refine bel_alloc ?_ _ | refine bel_set ?_ (by first | exact Nat.le_refl _ | (simp; done) | (simp; omega) | omega) _ | refine bel_trans ?_ (by assumption)))) hb_1
  clear t_
  have g_a : Blk w_1 (w.heap.size) 24 #[.int .u64 0, .int .u64 0] := by
    refine Blk.kept ?_ hb_1
    (repeat (first | with_reducible assumption | (with_reducible refine Blk.new' ?_; first | with_reducible rfl | (simp; done)) | with_reducible refine Blk.alloc ?_ _ | with_reducible refine Blk.grow ?_ _ | with_reducible refine Blk.drew ?_ | with_reducible refine Blk.drewN ?_ _ | (with_reducible refine Blk.far ?_ (by first | (dsimp only; omega) | (simp; omega)) _) | (with_reducible apply Blk.two) | (with_reducible refine Blk.set' ?_ _ _ ?_) | (with_reducible rfl) | rfl))
  have g_b : Blk w_1 (w.heap.size + 1) 30 #[.int .u64 0, .int .u64 0, .int .u64 0, .int .u64 0, .int .u64 0, .int .u64 0, .int .u64 0, .int .u64 0, .int .u64 0, .int .u8 0] := by
    refine Blk.kept ?_ hb_1
    (repeat (first | with_reducible assumption | (with_reducible refine Blk.new' ?_; first | with_reducible rfl | (simp; done)) | with_reducible refine Blk.alloc ?_ _ | with_reducible refine Blk.grow ?_ _ | with_reducible refine Blk.drew ?_ | with_reducible refine Blk.drewN ?_ _ | (with_reducible refine Blk.far ?_ (by first | (dsimp only; omega) | (simp; omega)) _) | (with_reducible apply Blk.two) | (with_reducible refine Blk.set' ?_ _ _ ?_) | (with_reducible rfl) | rfl))
  clear hb0 hb_1
  have f_a := g_a
  clear g_a
  have f_b := g_b
  clear g_b
  have a_0 : w_1.cell? ⟨w.heap.size, 0, none⟩ = some (.int .u64 0) := (f_a).cell 0
  have a_1 : w_1.cell? ⟨w.heap.size, 1, none⟩ = some (.int .u64 0) := (f_a).cell 1
  have a_f0 := (f_a).frozen 0
  have a_f1 := (f_a).frozen 1
  have a_l := (f_a).lt
  replace f_a := Lib.hid f_a
  have b_0 : w_1.cell? ⟨w.heap.size + 1, 0, none⟩ = some (.int .u64 0) := (f_b).cell 0
  have b_1 : w_1.cell? ⟨w.heap.size + 1, 1, none⟩ = some (.int .u64 0) := (f_b).cell 1
  have b_2 : w_1.cell? ⟨w.heap.size + 1, 2, none⟩ = some (.int .u64 0) := (f_b).cell 2
  have b_3 : w_1.cell? ⟨w.heap.size + 1, 3, none⟩ = some (.int .u64 0) := (f_b).cell 3
  have b_4 : w_1.cell? ⟨w.heap.size + 1, 4, none⟩ = some (.int .u64 0) := (f_b).cell 4
  have b_5 : w_1.cell? ⟨w.heap.size + 1, 5, none⟩ = some (.int .u64 0) := (f_b).cell 5
  have b_6 : w_1.cell? ⟨w.heap.size + 1, 6, none⟩ = some (.int .u64 0) := (f_b).cell 6
  have b_7 : w_1.cell? ⟨w.heap.size + 1, 7, none⟩ = some (.int .u64 0) := (f_b).cell 7
  have b_8 : w_1.cell? ⟨w.heap.size + 1, 8, none⟩ = some (.int .u64 0) := (f_b).cell 8
  have b_9 : w_1.cell? ⟨w.heap.size + 1, 9, none⟩ = some (.int .u8 0) := (f_b).cell 9
  have b_f0 := (f_b).frozen 0
  have b_f1 := (f_b).frozen 1
  have b_f2 := (f_b).frozen 2
  have b_f3 := (f_b).frozen 3
  have b_f4 := (f_b).frozen 4
  have b_f5 := (f_b).frozen 5
  have b_f6 := (f_b).frozen 6
  have b_f7 := (f_b).frozen 7
  have b_f8 := (f_b).frozen 8
  have b_f9 := (f_b).frozen 9
  have b_l := (f_b).lt
  replace f_b := Lib.hid f_b
  replace hB_1 := Lib.hid hB_1
  go_wp2_with fail
  refine bodyPost_ret (v := .tuple #[.agg #[.int .u64 0, .int .u64 0], .agg #[.int .u64 0, .int .u64 0, .int .u64 0, .int .u64 0, .int .u64 0, .int .u64 0, .int .u64 0, .int .u64 0, .int .u64 0, .int .u8 0], .bool false]) (by simp [results, Try.results38, go_sem, a_0, a_1, a_l, b_0, b_1, b_2, b_3, b_4, b_5, b_6, b_7, b_8, b_9, b_l]) rfl ⟨rfl, ?_⟩
  have t := hB_1.out
  (repeat (first | with_reducible exact Below.refl _ _ | with_reducible assumption | (with_reducible refine bel_set ?_ (by first | exact Nat.le_refl _ | (simp; done) | (simp; omega) | omega) _) | with_reducible refine bel_grow ?_ _ | with_reducible refine Below.drew ?_ | with_reducible refine below_drewN ?_ _ | with_reducible refine bel_alloc ?_ _ | with_reducible refine bel_trans ?_ (by assumption)))
attribute [local go_sem] drew_hs loadV_ptr storeV_ptr bR_is
attribute [local go_sem ↓] load_Balance store_Balance load_Row store_Row build_Row
set_option maxRecDepth 8000 in
set_option maxHeartbeats 4000000 in
theorem keptRow_yes (A B : Option Addr) (c k : Nat) (hmc : 24 ≤ c) (hC : c ≤ maxLen) (hkc : 65 ≤ k) (hK : k ≤ maxLen) (d e : Nat → Int) (hd : ∀ i, 0 ≤ d i ∧ d i < 256) (he : ∀ i, 0 ≤ e i ∧ e i < 256) (w : World) (ht : SlIs w A 24 (yV d)) (hs : SlIs w B 65 (yV e)) : Calls Try.prog 38 #[.slice A 24 c, .slice B 65 k] w fun r w' => r = .returned (.tuple #[.agg #[.int .u64 (num d 0 8), .int .u64 (num d 8 8)], .agg #[.int .u64 (num e 1 8), .int .u64 (num e 9 8), .int .u64 (num e 17 8), .int .u64 (num e 25 8), .int .u64 (num e 33 8), .int .u64 (num e 41 8), .int .u64 (num e 49 8), .int .u64 (num e 57 8), .int .u64 (num d 16 8), .int .u8 (e 0)], .bool true]) ∧ Below w.heap.size w w' := by
  have H1 := Lib.hid (fun W (hb : Below w.heap.size w W) => parts_yes A c d hd hmc hC W (ht.below hb))
  have hq := num_eight hd 16
  obtain ⟨b, o, rfl, hbl, hcl⟩ := hs (by omega)
  have v1 : SlIs w (some ⟨b, o + 1, none⟩) 64 (yV (shf e 1)) := slis_at hbl hcl 1 64 (by omega)
  have v0 : w.cell? ⟨b, o, none⟩ = some (.int .u8 (e 0)) := hcl 0 (by omega)
  clear hs hcl
  have hE : ∀ i, 0 ≤ cat (shf e 1) 64 (nb 8 (num d 16 8)) i ∧ cat (shf e 1) 64 (nb 8 (num d 16 8)) i < 256 := cat_ok (fun i => he _) (fun i => nb_lo _ _ _)
  have HG := fun A c h1 h2 w hs => getBalance_yes A c (cat (shf e 1) 64 (nb 8 (num d 16 8))) hE h1 h2 w hs
  have hN := row_nums d e hq
  rw [hN.1 0 (by omega), hN.1 8 (by omega), hN.1 16 (by omega), hN.1 24 (by omega), hN.1 32 (by omega), hN.1 40 (by omega), hN.1 48 (by omega), hN.1 56 (by omega), hN.2] at HG
  simp only [Nat.reduceAdd] at HG
  clear hN hE
  generalize num d 0 8 = q0 at *
  generalize num d 8 8 = q1 at *
  generalize num d 16 8 = q2 at *
  have HS := Lib.hid (fun w => stamp_sl q2 hq w)
  have HC := Lib.hid (fun B2 g w hg hs ht => concat_two (some ⟨b, o + 1, none⟩) B2 64 8 (k - 1) 8 g (shf e 1) (nb 8 q2) (by omega) (by omega) (by omega) w hg hs ht)
  generalize num e 1 8 = r0 at *
  generalize num e 9 8 = r1 at *
  generalize num e 17 8 = r2 at *
  generalize num e 25 8 = r3 at *
  generalize num e 33 8 = r4 at *
  generalize num e 41 8 = r5 at *
  generalize num e 49 8 = r6 at *
  generalize num e 57 8 = r7 at *
  generalize e 0 = s0 at *
  replace HG := Lib.hid HG
  replace v0 := Lib.hid v0
  replace v1 := Lib.hid v1
  unfold maxLen at hK
  have hk1 : ¬ k = 1 := by omega
  clear hd ht he hq
  have hb0 := Below.refl w.heap.size w
  go_enter Try.func38, Try.ntmps38
  replace hb0 := Lib.hid hb0
  go_wp2_with fail
  refine (H1.out _ (by (repeat (first | with_reducible exact Below.refl _ _ | with_reducible assumption | (with_reducible refine bel_set ?_ (by first | exact Nat.le_refl _ | (simp; done) | (simp; omega) | omega) _) | with_reducible refine bel_grow ?_ _ | with_reducible refine Below.drew ?_ | with_reducible refine below_drewN ?_ _ | with_reducible refine bel_alloc ?_ _ | with_reducible refine bel_trans ?_ (by assumption))))).mono ?_
  rintro e w_1 ⟨rfl, hb_1⟩
  have z_1 := hb_1.size
  try simp at z_1
  have t_ := hb0.out
  have hB_1 := bel_eld (w := w) (X := _) (by first | ((repeat (first | with_reducible exact Below.refl _ _ | with_reducible assumption | (with_reducible refine bel_set ?_ (by first | exact Nat.le_refl _ | (simp; done) | (simp; omega) | omega) _) | with_reducible refine bel_grow ?_ _ | with_reducible refine Below.drew ?_ | with_reducible refine below_drewN ?_ _ | with_reducible refine bel_alloc ?_ _ | with_reducible refine bel_trans ?_ (by assumption))); done) | (repeat (first | exact Below.refl _ _ | assumption | refine below_drewN ?_ _ | refine bel_grow ?_ _ | refine Below.drew ?_ | refine bel_alloc ?_ _ | refine bel_set ?_ (by first | exact Nat.le_refl _ | (simp; done) | (simp; omega) | omega) _ | refine bel_trans ?_ (by assumption)))) hb_1
  clear t_
  have g_a : Blk w_1 (w.heap.size) 24 #[.int .u64 0, .int .u64 0] := by
    refine Blk.kept ?_ hb_1
    (repeat (first | with_reducible assumption | (with_reducible refine Blk.new' ?_; first | with_reducible rfl | (simp; done)) | with_reducible refine Blk.alloc ?_ _ | with_reducible refine Blk.grow ?_ _ | with_reducible refine Blk.drew ?_ | with_reducible refine Blk.drewN ?_ _ | (with_reducible refine Blk.far ?_ (by first | (dsimp only; omega) | (simp; omega)) _) | (with_reducible apply Blk.two) | (with_reducible refine Blk.set' ?_ _ _ ?_) | (with_reducible rfl) | rfl))
  have g_b : Blk w_1 (w.heap.size + 1) 30 #[.int .u64 0, .int .u64 0, .int .u64 0, .int .u64 0, .int .u64 0, .int .u64 0, .int .u64 0, .int .u64 0, .int .u64 0, .int .u8 0] := by
    refine Blk.kept ?_ hb_1
    (repeat (first | with_reducible assumption | (with_reducible refine Blk.new' ?_; first | with_reducible rfl | (simp; done)) | with_reducible refine Blk.alloc ?_ _ | with_reducible refine Blk.grow ?_ _ | with_reducible refine Blk.drew ?_ | with_reducible refine Blk.drewN ?_ _ | (with_reducible refine Blk.far ?_ (by first | (dsimp only; omega) | (simp; omega)) _) | (with_reducible apply Blk.two) | (with_reducible refine Blk.set' ?_ _ _ ?_) | (with_reducible rfl) | rfl))
  clear hb0 hb_1
  have f_a := g_a
  clear g_a
  have f_b := g_b
  clear g_b
  have a_0 : w_1.cell? ⟨w.heap.size, 0, none⟩ = some (.int .u64 0) := (f_a).cell 0
  have a_1 : w_1.cell? ⟨w.heap.size, 1, none⟩ = some (.int .u64 0) := (f_a).cell 1
  have a_f0 := (f_a).frozen 0
  have a_f1 := (f_a).frozen 1
  have a_l := (f_a).lt
  replace f_a := Lib.hid f_a
  have r_b := rowAt_blk f_b
  have b_l := f_b.lt
  replace f_b := Lib.hid f_b
  replace hB_1 := Lib.hid hB_1
  go_upto_region 4 with fail
  refine abs_wp (fun X => Below w.heap.size w X ∧ Blk X w.heap.size 24 #[.int .u64 0, .int .u64 0] ∧ Blk X (w.heap.size + 1) 30 #[.int .u64 0, .int .u64 0, .int .u64 0, .int .u64 0, .int .u64 0, .int .u64 0, .int .u64 0, .int .u64 0, .int .u64 0, .int .u8 0] ∧ Blk X w_1.heap.size 24 #[.int .u64 q0, .int .u64 q1] ∧ w.heap.size + 1 < w_1.heap.size) ?_ ?_
  · have t := hB_1.out
    refine ⟨?_, f_a.out.alloc _, f_b.out.alloc _, Blk.new _ _ _, f_b.out.lt⟩
    (repeat (first | with_reducible exact Below.refl _ _ | with_reducible assumption | (with_reducible refine bel_set ?_ (by first | exact Nat.le_refl _ | (simp; done) | (simp; omega) | omega) _) | with_reducible refine bel_grow ?_ _ | with_reducible refine Below.drew ?_ | with_reducible refine below_drewN ?_ _ | with_reducible refine bel_alloc ?_ _ | with_reducible refine bel_trans ?_ (by assumption)))
  clear hB_1 f_a f_b a_0 a_1 a_f0 a_f1 a_l b_l r_b
  rintro X ⟨bX, ga, gb, gy, l1⟩
  have x0 := v0.out
  have x1 : SlIs X (some ⟨b, o + 1, none⟩) 64 (yV (shf e 1)) := v1.out.below bX
  have yl := gy.lt
  replace v0 := Lib.hid ((bX.cell hbl).trans x0)
  replace v1 := Lib.hid x1
  clear x0 x1
  replace bX := Lib.hid bX
  replace ga := Lib.hid ga
  replace gb := Lib.hid gb
  replace gy := Lib.hid gy
  go_cut [10] (fun s10 wx => ∃ g, s10 = .pointer (some ⟨g, 0, none⟩) ∧ X.heap.size ≤ g ∧ Blk wx g 28 #[.int .u64 r0, .int .u64 r1, .int .u64 r2, .int .u64 r3, .int .u64 r4, .int .u64 r5, .int .u64 r6, .int .u64 r7, .int .u64 q2] ∧ Below X.heap.size X wx)
  case first =>
    go_region_with (first
      | (go_at_call 66; (with_reducible refine (HS.out _).mono ?_); rintro e2 w2 ⟨B2, rfl, s2, hb2⟩; try ((first | (have f10 : Blk w2 (X.heap.size) 28 #[.int .u64 0, .int .u64 0, .int .u64 0, .int .u64 0, .int .u64 0, .int .u64 0, .int .u64 0, .int .u64 0, .int .u64 0] := by (refine Blk.kept ?_ hb2; ((repeat (first | with_reducible assumption | (with_reducible refine Blk.new' ?_; first | with_reducible rfl | (simp; done)) | with_reducible refine Blk.alloc ?_ _ | with_reducible refine Blk.grow ?_ _ | with_reducible refine Blk.drew ?_ | with_reducible refine Blk.drewN ?_ _ | (with_reducible refine Blk.far ?_ (by first | (dsimp only; omega) | (simp; omega)) _) | (with_reducible apply Blk.two) | (with_reducible refine Blk.set' ?_ _ _ ?_) | (with_reducible rfl) | rfl)); done))))))
      | (go_at_call 58; (with_reducible refine (HC.out B2 _ _ (by (repeat (first | with_reducible assumption | (with_reducible refine Blk.new' ?_; first | with_reducible rfl | (simp; done)) | with_reducible refine Blk.alloc ?_ _ | with_reducible refine Blk.grow ?_ _ | with_reducible refine Blk.drew ?_ | with_reducible refine Blk.drewN ?_ _ | (with_reducible refine Blk.far ?_ (by first | (dsimp only; omega) | (simp; omega)) _) | (with_reducible apply Blk.two) | (with_reducible refine Blk.set' ?_ _ _ ?_) | (with_reducible rfl) | rfl))) (v1.out.below (by (repeat (first | with_reducible exact Below.refl _ _ | with_reducible assumption | (with_reducible refine bel_set ?_ (by first | exact Nat.le_refl _ | (simp; done) | (simp; omega) | omega) _) | with_reducible refine bel_grow ?_ _ | with_reducible refine Below.drew ?_ | with_reducible refine below_drewN ?_ _ | with_reducible refine bel_alloc ?_ _ | with_reducible refine bel_trans ?_ (by assumption))))) (s2.below (by (repeat (first | with_reducible exact Below.refl _ _ | with_reducible assumption | (with_reducible refine bel_set ?_ (by first | exact Nat.le_refl _ | (simp; done) | (simp; omega) | omega) _) | with_reducible refine bel_grow ?_ _ | with_reducible refine Below.drew ?_ | with_reducible refine below_drewN ?_ _ | with_reducible refine bel_alloc ?_ _ | with_reducible refine bel_trans ?_ (by assumption)))))).mono ?_); rintro e3 w3 ⟨v3, rfl, o3, hb3⟩; obtain ⟨A3, c3, rfl, j3, m3, s3⟩ := o3.byS; clear o3; try ((first | (have f11 : Blk w3 (X.heap.size) 28 #[.int .u64 0, .int .u64 0, .int .u64 0, .int .u64 0, .int .u64 0, .int .u64 0, .int .u64 0, .int .u64 0, .int .u64 0] := by (refine Blk.kept ?_ hb3; ((repeat (first | with_reducible assumption | (with_reducible refine Blk.new' ?_; first | with_reducible rfl | (simp; done)) | with_reducible refine Blk.alloc ?_ _ | with_reducible refine Blk.grow ?_ _ | with_reducible refine Blk.drew ?_ | with_reducible refine Blk.drewN ?_ _ | (with_reducible refine Blk.far ?_ (by first | (dsimp only; omega) | (simp; omega)) _) | (with_reducible apply Blk.two) | (with_reducible refine Blk.set' ?_ _ _ ?_) | (with_reducible rfl) | rfl)); done))) | (have f11 : Blk w3 (w2.heap.size) 28 #[.int .u64 0, .int .u64 0, .int .u64 0, .int .u64 0, .int .u64 0, .int .u64 0, .int .u64 0, .int .u64 0, .int .u64 0] := by (refine Blk.kept ?_ hb3; ((repeat (first | with_reducible assumption | (with_reducible refine Blk.new' ?_; first | with_reducible rfl | (simp; done)) | with_reducible refine Blk.alloc ?_ _ | with_reducible refine Blk.grow ?_ _ | with_reducible refine Blk.drew ?_ | with_reducible refine Blk.drewN ?_ _ | (with_reducible refine Blk.far ?_ (by first | (dsimp only; omega) | (simp; omega)) _) | (with_reducible apply Blk.two) | (with_reducible refine Blk.set' ?_ _ _ ?_) | (with_reducible rfl) | rfl)); done))) | (have f11 : Blk w3 (w2.heap.size + 1) 28 #[.int .u64 0, .int .u64 0, .int .u64 0, .int .u64 0, .int .u64 0, .int .u64 0, .int .u64 0, .int .u64 0, .int .u64 0] := by (refine Blk.kept ?_ hb3; ((repeat (first | with_reducible assumption | (with_reducible refine Blk.new' ?_; first | with_reducible rfl | (simp; done)) | with_reducible refine Blk.alloc ?_ _ | with_reducible refine Blk.grow ?_ _ | with_reducible refine Blk.drew ?_ | with_reducible refine Blk.drewN ?_ _ | (with_reducible refine Blk.far ?_ (by first | (dsimp only; omega) | (simp; omega)) _) | (with_reducible apply Blk.two) | (with_reducible refine Blk.set' ?_ _ _ ?_) | (with_reducible rfl) | rfl)); done))))))
      | (go_at_call 28; (with_reducible refine (HG.out A3 c3 j3 m3 _ (s3.below (by (repeat (first | with_reducible exact Below.refl _ _ | with_reducible assumption | (with_reducible refine bel_set ?_ (by first | exact Nat.le_refl _ | (simp; done) | (simp; omega) | omega) _) | with_reducible refine bel_grow ?_ _ | with_reducible refine Below.drew ?_ | with_reducible refine below_drewN ?_ _ | with_reducible refine bel_alloc ?_ _ | with_reducible refine bel_trans ?_ (by assumption)))))).mono ?_); rintro e4 w4 ⟨rfl, hb4⟩; try ((first | (have f12 : Blk w4 (X.heap.size) 28 #[.int .u64 0, .int .u64 0, .int .u64 0, .int .u64 0, .int .u64 0, .int .u64 0, .int .u64 0, .int .u64 0, .int .u64 0] := by (refine Blk.kept ?_ hb4; ((repeat (first | with_reducible assumption | (with_reducible refine Blk.new' ?_; first | with_reducible rfl | (simp; done)) | with_reducible refine Blk.alloc ?_ _ | with_reducible refine Blk.grow ?_ _ | with_reducible refine Blk.drew ?_ | with_reducible refine Blk.drewN ?_ _ | (with_reducible refine Blk.far ?_ (by first | (dsimp only; omega) | (simp; omega)) _) | (with_reducible apply Blk.two) | (with_reducible refine Blk.set' ?_ _ _ ?_) | (with_reducible rfl) | rfl)); done))) | (have f12 : Blk w4 (w2.heap.size) 28 #[.int .u64 0, .int .u64 0, .int .u64 0, .int .u64 0, .int .u64 0, .int .u64 0, .int .u64 0, .int .u64 0, .int .u64 0] := by (refine Blk.kept ?_ hb4; ((repeat (first | with_reducible assumption | (with_reducible refine Blk.new' ?_; first | with_reducible rfl | (simp; done)) | with_reducible refine Blk.alloc ?_ _ | with_reducible refine Blk.grow ?_ _ | with_reducible refine Blk.drew ?_ | with_reducible refine Blk.drewN ?_ _ | (with_reducible refine Blk.far ?_ (by first | (dsimp only; omega) | (simp; omega)) _) | (with_reducible apply Blk.two) | (with_reducible refine Blk.set' ?_ _ _ ?_) | (with_reducible rfl) | rfl)); done))) | (have f12 : Blk w4 (w2.heap.size + 1) 28 #[.int .u64 0, .int .u64 0, .int .u64 0, .int .u64 0, .int .u64 0, .int .u64 0, .int .u64 0, .int .u64 0, .int .u64 0] := by (refine Blk.kept ?_ hb4; ((repeat (first | with_reducible assumption | (with_reducible refine Blk.new' ?_; first | with_reducible rfl | (simp; done)) | with_reducible refine Blk.alloc ?_ _ | with_reducible refine Blk.grow ?_ _ | with_reducible refine Blk.drew ?_ | with_reducible refine Blk.drewN ?_ _ | (with_reducible refine Blk.far ?_ (by first | (dsimp only; omega) | (simp; omega)) _) | (with_reducible apply Blk.two) | (with_reducible refine Blk.set' ?_ _ _ ?_) | (with_reducible rfl) | rfl)); done))) | (have f12 : Blk w4 (w3.heap.size) 28 #[.int .u64 0, .int .u64 0, .int .u64 0, .int .u64 0, .int .u64 0, .int .u64 0, .int .u64 0, .int .u64 0, .int .u64 0] := by (refine Blk.kept ?_ hb4; ((repeat (first | with_reducible assumption | (with_reducible refine Blk.new' ?_; first | with_reducible rfl | (simp; done)) | with_reducible refine Blk.alloc ?_ _ | with_reducible refine Blk.grow ?_ _ | with_reducible refine Blk.drew ?_ | with_reducible refine Blk.drewN ?_ _ | (with_reducible refine Blk.far ?_ (by first | (dsimp only; omega) | (simp; omega)) _) | (with_reducible apply Blk.two) | (with_reducible refine Blk.set' ?_ _ _ ?_) | (with_reducible rfl) | rfl)); done)))); have l12 := f12.lt; have c0 := f12.cell 0; have cf0 := f12.frozen 0; have c1 := f12.cell 1; have cf1 := f12.frozen 1; have c2 := f12.cell 2; have cf2 := f12.frozen 2; have c3 := f12.cell 3; have cf3 := f12.frozen 3; have c4 := f12.cell 4; have cf4 := f12.frozen 4; have c5 := f12.cell 5; have cf5 := f12.frozen 5; have c6 := f12.cell 6; have cf6 := f12.frozen 6; have c7 := f12.cell 7; have cf7 := f12.frozen 7; have c8 := f12.cell 8; have cf8 := f12.frozen 8)))
    all_goals (
      have z2 := hb2.size
      have z3 := hb3.size
      have z4 := hb4.size
      simp at z2 z3 z4
      go_wp2_with fail
      go_meet
      refine ⟨_, rfl, ?_, ?_, ?_⟩
      · first | exact Nat.le_refl _ | omega
      · first | (with_reducible exact Blk.new' rfl) | (with_reducible exact Blk.drew (Blk.new' rfl)) | (with_reducible refine Blk.eqv (((((((((f12.set_ 0 _).set_ 1 _).set_ 2 _).set_ 3 _).set_ 4 _).set_ 5 _).set_ 6 _).set_ 7 _).set_ 8 _) ?_; simp; done)
      · (repeat (first | with_reducible exact Below.refl _ _ | with_reducible assumption | (with_reducible refine bel_set ?_ (by first | exact Nat.le_refl _ | (simp; done) | (simp; omega) | omega) _) | with_reducible refine bel_grow ?_ _ | with_reducible refine Below.drew ?_ | with_reducible refine below_drewN ?_ _ | with_reducible refine bel_alloc ?_ _ | with_reducible refine bel_trans ?_ (by assumption))))
  case rest =>
    obtain ⟨g, rfl, hg, gx, hb5⟩ := hcut
    have hg1 : w.heap.size + 1 < g := by omega
    have hg2 : w_1.heap.size < g := by omega
    have gA := ga.out.kept hb5
    have gB := gb.out.kept hb5
    have gY := gy.out.kept hb5
    have v2 := (hb5.cell (p := ⟨b, o, none⟩) (Nat.lt_of_lt_of_le hbl bX.out.size)).trans v0.out
    have bY := bel_eld bX.out hb5
    clear ga gb gy v0 v1 hb5 bX HG HC HS H1
    as_aux_lemma =>
      have a0 := (gA).cell 0
      have a1 := (gA).cell 1
      have af0 := (gA).frozen 0
      have af1 := (gA).frozen 1
      have al := (gA).lt
      have rb := rowAt_blk gB
      have bl := gB.lt
      have m0 : wc.cell? ⟨w_1.heap.size, 0, none⟩ = some (.int .u64 q0) := gY.cell 0
      have m1 : wc.cell? ⟨w_1.heap.size, 1, none⟩ = some (.int .u64 q1) := gY.cell 1
      have m2 : rowAt wc g = some #[.int .u64 r0, .int .u64 r1, .int .u64 r2, .int .u64 r3, .int .u64 r4, .int .u64 r5, .int .u64 r6, .int .u64 r7, .int .u64 q2] := rowAt_blk gx
      have m3 : wc.cell? ⟨b, o, none⟩ = some (.int .u8 s0) := v2
      have xl := gx.lt
      have yl := gY.lt
      have n1 : ¬ g = w.heap.size := by omega
      have n2 : ¬ w_1.heap.size = w.heap.size := by omega
      have n3 : ¬ b = w.heap.size := by omega
      have n4 : ¬ g = w.heap.size + 1 := by omega
      replace bY := Lib.hid bY
      replace gA := Lib.hid gA
      replace gB := Lib.hid gB
      clear gY gx hmc hC hg z_1
      go_upto_region 5 with fail
      go_region_held3 (fun w' => w'.cell? ⟨w_1.heap.size, 0, none⟩ = some (.int .u64 q0) ∧ w'.cell? ⟨w_1.heap.size, 1, none⟩ = some (.int .u64 q1) ∧ rowAt w' g = some #[.int .u64 r0, .int .u64 r1, .int .u64 r2, .int .u64 r3, .int .u64 r4, .int .u64 r5, .int .u64 r6, .int .u64 r7, .int .u64 q2] ∧ w'.cell? ⟨b, o, none⟩ = some (.int .u8 s0))
        ((repeat' apply And.intro) <;> (first | with_reducible assumption | ((repeat (first | with_reducible refine keepd ?_ | with_reducible refine keepdr ?_ | with_reducible refine keeps (by dsimp only; omega) ?_ | with_reducible refine keepr (by dsimp only; omega) ?_ | with_reducible refine keepR (by omega) ?_ | with_reducible refine keepC (by dsimp only; omega) ?_)); with_reducible assumption) | assumption))
        (fail)
      all_goals (
        go_wp2_with fail
        refine abs_post (fun Y => Below w.heap.size w Y ∧ Blk Y w.heap.size 24 #[.int .u64 q0, .int .u64 q1] ∧ Blk Y (w.heap.size + 1) 30 #[.int .u64 r0, .int .u64 r1, .int .u64 r2, .int .u64 r3, .int .u64 r4, .int .u64 r5, .int .u64 r6, .int .u64 r7, .int .u64 q2, .int .u8 s0]) ?_ ?_
        · have t := bY.out
          refine ⟨?_, ?_, ?_⟩
          · repeat (with_reducible refine Below.drew ?_)
            with_reducible refine below_setRow ?_ (Nat.le_succ _) _
            (repeat (first | with_reducible exact Below.refl _ _ | with_reducible assumption | (with_reducible refine bel_set ?_ (by first | exact Nat.le_refl _ | (simp; done) | (simp; omega) | omega) _) | with_reducible refine bel_grow ?_ _ | with_reducible refine Below.drew ?_ | with_reducible refine below_drewN ?_ _ | with_reducible refine bel_alloc ?_ _ | with_reducible refine bel_trans ?_ (by assumption)))
          · repeat (first | with_reducible refine Blk.drew ?_ | with_reducible refine Blk.setRow_far ?_ (by omega) _)
            with_reducible refine Blk.eqv ((gA.out.set_ 0 _).set_ 1 _) ?_
            simp
          · repeat (with_reducible refine Blk.drew ?_)
            with_reducible refine Blk.setRow (cs := #[.int .u64 0, .int .u64 0, .int .u64 0, .int .u64 0, .int .u64 0, .int .u64 0, .int .u64 0, .int .u64 0, .int .u64 0, .int .u8 0]) ?_ ?_
            · repeat (first | with_reducible refine Blk.drew ?_ | with_reducible refine Blk.far ?_ (by dsimp only; omega) _)
              exact gB.out
            · rfl
        rintro Y ⟨bZ, gP, gQ⟩
        have p0 := (gP).cell 0
        have p1 := (gP).cell 1
        have pf0 := (gP).frozen 0
        have pf1 := (gP).frozen 1
        have pl := (gP).lt
        have j0 := (gQ).cell 0
        have j1 := (gQ).cell 1
        have j2 := (gQ).cell 2
        have j3 := (gQ).cell 3
        have j4 := (gQ).cell 4
        have j5 := (gQ).cell 5
        have j6 := (gQ).cell 6
        have j7 := (gQ).cell 7
        have j8 := (gQ).cell 8
        have j9 := (gQ).cell 9
        have jf0 := (gQ).frozen 0
        have jf1 := (gQ).frozen 1
        have jf2 := (gQ).frozen 2
        have jf3 := (gQ).frozen 3
        have jf4 := (gQ).frozen 4
        have jf5 := (gQ).frozen 5
        have jf6 := (gQ).frozen 6
        have jf7 := (gQ).frozen 7
        have jf8 := (gQ).frozen 8
        have jf9 := (gQ).frozen 9
        have jl := (gQ).lt
        refine bodyPost_ret (v := .tuple #[.agg #[.int .u64 q0, .int .u64 q1], .agg #[.int .u64 r0, .int .u64 r1, .int .u64 r2, .int .u64 r3, .int .u64 r4, .int .u64 r5, .int .u64 r6, .int .u64 r7, .int .u64 q2, .int .u8 s0], .bool true]) (by simp [results, Try.results38, go_sem, p0, p1, pl, j0, j1, j2, j3, j4, j5, j6, j7, j8, j9, jl]) rfl ⟨rfl, bZ⟩)
end Go.Proofs.Ytflaeljjalpnkaa
