/-
  Joined: KtB KtC KtG.
-/
import Derived.Test.YtflaeljjalpnkaaKtA
import Derived.Test.YtflaeljjalpnkaaCatB
import Derived.Test.YtflaeljjalpnkaaKeepC
import Derived.Deep.Upon
import Derived.Test.YtflaeljjalpnkaaJ5
import Derived.Test.YtflaeljjalpnkaaRecG
import Derived.Test.YtflaeljjalpnkaaKeepF
import Derived.Test.YtflaeljjalpnkaaKeyD
-- KtB
namespace Go.Proofs.Ytflaeljjalpnkaa
set_option linter.unusedVariables false
set_option linter.unusedSimpArgs false
open Go.RowKit

set_option maxRecDepth 8000 in
set_option maxHeartbeats 4000000 in
theorem concat_zero (A B : Option Addr) (n c c' g : Nat) (d : Nat → Int) (h1 : 0 < n) (hnm : n ≤ 100000) (w : World) (hg : Blk w g 32 #[.slice A n c, .slice B 0 c']) (hs : SlIs w A n (yV d)) :
    Calls Try.prog 58 #[.slice (some ⟨g, 0, none⟩) 2 2] w fun r w' => ∃ v, r = .returned v ∧ OwnB w' w.heap.size v n d ∧ Below w.heap.size w w' := by
  obtain ⟨i0, hi0, hz0, hz1, hz2⟩ := info_parts info_u8
  replace hi0 := Lib.hid hi0
  replace hz0 := Lib.hid hz0
  replace hz1 := Lib.hid hz1
  replace hz2 := Lib.hid hz2
  obtain ⟨b, o, rfl, hbl, hc⟩ := hs h1
  replace hc := Lib.hid hc
  clear hs
  have hgl := hg.lt
  have x0 := hg.cell 0
  have x1 := hg.cell 1
  have n1 : decide ((n : Int) < 0) = false := decide_eq_false (by omega)
  go_enter Try.func58, Try.ntmps58
  go_wp2_with fail
  refine wp_loop_rounds 3 ?_
  rw [rounds_succ]
  go_wp2_with fail
  rw [rounds_succ]
  go_wp2_with fail
  rw [rounds_succ]
  go_wp2_with fail
  refine (grow_nil n _ ?hI (by omega) (by omega) d _).mono ?_
  case hI => omega
  rintro e1 w1 ⟨v1, rfl, ho1, hb1⟩
  have gx := hg.kept hb1
  have hs1 := hb1.size
  have hc1 := Lib.hid (keepc_n hb1 hc.out)
  clear x0 x1
  have y0 := gx.cell 0
  have y1 := gx.cell 1
  have yl := gx.lt
  unfold OwnB at *
  replace ho1 := Lib.hid ho1
  replace hb1 := Lib.hid hb1
  go_wp2_with fail
  refine wp_loop_rounds 3 ?_
  rw [rounds_succ]
  go_wp2_with (at_builtin; refine wpList_append_own _ rfl (.tmp 31) (.tmp 32) _ rfl w.heap.size 5 i0 _ 1 1 Try.underlying32 hi0.out hz0.out hz1.out hz2.out rfl (by omega) v1 0 (yL d 0) rfl ho1.out ⟨b, o, none⟩ n c (yL d n) rfl ?c0 ?c1 ?c2 ?c3 ?c4 ?c5 ?_; rotate_right; intro v2 w2 hown2 hg2 _)
  case c0 => rw [yL_len, Nat.mul_one]
  case c1 => exact news_slis hc1.out (Nat.le_refl n)
  case c2 => exact yL_one' _ _
  case c3 => simp only [maxLen]; omega
  case c4 => omega
  case c5 => omega
  have hb2 : Below w.heap.size w w2 := Below.grown hb1.out hg2 (by omega) (fun j hj => (ho1.out.lt j hj).1)
  have ho2 : w2.ownsRow w.heap.size 5 1 v2 n (yL d n) := by rw [Nat.zero_add] at hown2; exact hown2
  clear hown2 hg2 y0 y1 yl ho1 hb1 gx
  have gx := hg.kept hb2
  have hs2 := hb2.size
  have y0 := gx.cell 0
  have y1 := gx.cell 1
  have yl := gx.lt
  obtain ⟨A2, c2, rfl, e2, m2, s2⟩ := OwnB.byS ho2
  have hrun : ∀ W ty, (Builtin.append_ #[32, 32] ty #[.slice A2 n c2, .slice B 0 c']).run Try.prog W = .ok (.slice A2 n c2) W := fun W ty => by
    have hS : Src Try.prog i0.size 32 (.slice B 0 c') 0 [] W := by
      cases B with
      | none => exact Src.ofNil W Try.underlying32 c'
      | some a => exact Src.ofSlice W Try.underlying32 a 0 c' [] (by simp) (fun j u hj => by simp at hj) (fun u hu => by cases hu)
    exact run_append_nothing W 32 32 ty 5 i0 Try.underlying32 hi0.out A2 n c2 e2 _ hS
  replace hrun := Lib.hid hrun
  replace ho2 := Lib.hid ho2
  replace hb2 := Lib.hid hb2
  go_wp2_with fail
  rw [rounds_succ]
  go_wp2_with (at_builtin; refine Lib.wpList_append_run _ rfl (.tmp 31) (.tmp 32) _ _ rfl _ _ rfl rfl _ _ (hrun.out _ _) ?_)
  clear y0 y1 yl gx
  rw [rounds_succ]
  go_wp2_with fail
  go_ret
  exact ⟨_, rfl, ho2.out, hb2.out⟩

set_option maxRecDepth 8000 in
set_option maxHeartbeats 4000000 in
theorem keptAccount_of (x0 x1 x2 x3 x4 x5 x6 x7 x8 x9 x10 x11 x12 x13 x14 : Int) (bb : Bool) (A B : Option Addr) (c m k N : Nat) (E : Nat → Int) (w : World)
    (HC0 : ∀ g W, Below w.heap.size w W → Blk W g 32 #[.slice A 16 c, .slice B m k] → Calls Try.prog 58 #[.slice (some ⟨g, 0, none⟩) 2 2] W fun r w' => ∃ v, r = .returned v ∧ OwnB w' W.heap.size v N E ∧ Below W.heap.size W w')
    (HG0 : ∀ A c, N ≤ c → c ≤ maxLen → ∀ W, SlIs W A N (yV E) → Calls Try.prog 22 #[.slice A N c] W fun r w' => r = .returned (.tuple #[.agg #[.int .u64 x0, .int .u64 x1, .int .u64 x2, .int .u64 x3, .int .u64 x4, .int .u64 x5, .int .u64 x6, .int .u64 x7, .int .u64 x8, .int .u64 x9, .int .u64 x10, .int .u32 x11, .int .u16 x12, .int .u16 x13, .int .u64 x14], .bool bb]) ∧ Below W.heap.size W w') :
    Calls Try.prog 23 #[.slice A 16 c, .slice B m k] w fun r w' => r = .returned (.tuple #[.agg #[.int .u64 x0, .int .u64 x1, .int .u64 x2, .int .u64 x3, .int .u64 x4, .int .u64 x5, .int .u64 x6, .int .u64 x7, .int .u64 x8, .int .u64 x9, .int .u64 x10, .int .u32 x11, .int .u16 x12, .int .u16 x13, .int .u64 x14], .bool bb]) ∧ Below w.heap.size w w' := by
  have HC := Lib.hid HC0
  have HG := Lib.hid HG0
  clear HC0 HG0
  go_enter Try.func23, Try.ntmps23
  go_wp2_with fail
  refine (HC.out _ _ (by (repeat (first | exact Below.refl _ _ | assumption | refine below_drewN ?_ _ | refine bel_grow ?_ _ | refine Below.drew ?_ | refine bel_alloc ?_ _ | refine bel_set ?_ (by first | exact Nat.le_refl _ | (simp; done) | (simp; omega) | omega) _ | refine bel_trans ?_ (by assumption)))) (by (repeat (first | with_reducible assumption | (with_reducible refine Blk.new' ?_; first | with_reducible rfl | (simp; done)) | with_reducible refine Blk.alloc ?_ _ | with_reducible refine Blk.grow ?_ _ | with_reducible refine Blk.drew ?_ | with_reducible refine Blk.drewN ?_ _ | (with_reducible refine Blk.far ?_ (by first | (dsimp only; omega) | (simp; omega)) _) | (with_reducible apply Blk.two) | (with_reducible refine Blk.set' ?_ _ _ ?_) | (with_reducible rfl) | rfl)))).mono ?_
  rintro e0 w1 ⟨v, rfl, ho, hb1⟩
  obtain ⟨A1, c1, rfl, e1, m1, s1⟩ := ho.byS
  have hB : Below w.heap.size w w1 := bel_eld (w := w) (X := _) (by (repeat (first | exact Below.refl _ _ | assumption | refine below_drewN ?_ _ | refine bel_grow ?_ _ | refine Below.drew ?_ | refine bel_alloc ?_ _ | refine bel_set ?_ (by first | exact Nat.le_refl _ | (simp; done) | (simp; omega) | omega) _ | refine bel_trans ?_ (by assumption)))) hb1
  have f_a : Blk w1 w.heap.size 56 #[.int .u64 0, .int .u64 0, .int .u64 0, .int .u64 0, .int .u64 0, .int .u64 0, .int .u64 0, .int .u64 0, .int .u64 0, .int .u64 0, .int .u64 0, .int .u32 0, .int .u16 0, .int .u16 0, .int .u64 0] := Blk.kept (by (repeat (first | with_reducible assumption | (with_reducible refine Blk.new' ?_; first | with_reducible rfl | (simp; done)) | with_reducible refine Blk.alloc ?_ _ | with_reducible refine Blk.grow ?_ _ | with_reducible refine Blk.drew ?_ | with_reducible refine Blk.drewN ?_ _ | (with_reducible refine Blk.far ?_ (by first | (dsimp only; omega) | (simp; omega)) _) | (with_reducible apply Blk.two) | (with_reducible refine Blk.set' ?_ _ _ ?_) | (with_reducible rfl) | rfl))) hb1
  clear ho hb1
  have a_0 : w1.cell? ⟨w.heap.size, 0, none⟩ = some (.int .u64 0) := (f_a).cell 0
  have a_1 : w1.cell? ⟨w.heap.size, 1, none⟩ = some (.int .u64 0) := (f_a).cell 1
  have a_2 : w1.cell? ⟨w.heap.size, 2, none⟩ = some (.int .u64 0) := (f_a).cell 2
  have a_3 : w1.cell? ⟨w.heap.size, 3, none⟩ = some (.int .u64 0) := (f_a).cell 3
  have a_4 : w1.cell? ⟨w.heap.size, 4, none⟩ = some (.int .u64 0) := (f_a).cell 4
  have a_5 : w1.cell? ⟨w.heap.size, 5, none⟩ = some (.int .u64 0) := (f_a).cell 5
  have a_6 : w1.cell? ⟨w.heap.size, 6, none⟩ = some (.int .u64 0) := (f_a).cell 6
  have a_7 : w1.cell? ⟨w.heap.size, 7, none⟩ = some (.int .u64 0) := (f_a).cell 7
  have a_8 : w1.cell? ⟨w.heap.size, 8, none⟩ = some (.int .u64 0) := (f_a).cell 8
  have a_9 : w1.cell? ⟨w.heap.size, 9, none⟩ = some (.int .u64 0) := (f_a).cell 9
  have a_10 : w1.cell? ⟨w.heap.size, 10, none⟩ = some (.int .u64 0) := (f_a).cell 10
  have a_11 : w1.cell? ⟨w.heap.size, 11, none⟩ = some (.int .u32 0) := (f_a).cell 11
  have a_12 : w1.cell? ⟨w.heap.size, 12, none⟩ = some (.int .u16 0) := (f_a).cell 12
  have a_13 : w1.cell? ⟨w.heap.size, 13, none⟩ = some (.int .u16 0) := (f_a).cell 13
  have a_14 : w1.cell? ⟨w.heap.size, 14, none⟩ = some (.int .u64 0) := (f_a).cell 14
  have a_f0 := (f_a).frozen 0
  have a_f1 := (f_a).frozen 1
  have a_f2 := (f_a).frozen 2
  have a_f3 := (f_a).frozen 3
  have a_f4 := (f_a).frozen 4
  have a_f5 := (f_a).frozen 5
  have a_f6 := (f_a).frozen 6
  have a_f7 := (f_a).frozen 7
  have a_f8 := (f_a).frozen 8
  have a_f9 := (f_a).frozen 9
  have a_f10 := (f_a).frozen 10
  have a_f11 := (f_a).frozen 11
  have a_f12 := (f_a).frozen 12
  have a_f13 := (f_a).frozen 13
  have a_f14 := (f_a).frozen 14
  have a_l := (f_a).lt
  replace f_a := Lib.hid f_a
  replace hB := Lib.hid hB
  go_wp2_with fail
  refine (HG.out A1 c1 e1 m1 _ s1).mono ?_
  rintro e w_2 ⟨rfl, hb_2⟩
  have z_2 := hb_2.size
  try simp at z_2
  have t_ := hB.out
  have hB_2 := bel_eld (w := w) (X := _) (by first | ((repeat (first | with_reducible exact Below.refl _ _ | with_reducible assumption | (with_reducible refine bel_set ?_ (by first | exact Nat.le_refl _ | (simp; done) | (simp; omega) | omega) _) | with_reducible refine bel_grow ?_ _ | with_reducible refine Below.drew ?_ | with_reducible refine below_drewN ?_ _ | with_reducible refine bel_alloc ?_ _ | with_reducible refine bel_trans ?_ (by assumption))); done) | (repeat (first | exact Below.refl _ _ | assumption | refine below_drewN ?_ _ | refine bel_grow ?_ _ | refine Below.drew ?_ | refine bel_alloc ?_ _ | refine bel_set ?_ (by first | exact Nat.le_refl _ | (simp; done) | (simp; omega) | omega) _ | refine bel_trans ?_ (by assumption)))) hb_2
  clear t_
  have t_a := f_a.out
  have g_a : Blk w_2 (w.heap.size) 56 #[.int .u64 0, .int .u64 0, .int .u64 0, .int .u64 0, .int .u64 0, .int .u64 0, .int .u64 0, .int .u64 0, .int .u64 0, .int .u64 0, .int .u64 0, .int .u32 0, .int .u16 0, .int .u16 0, .int .u64 0] := by
    refine Blk.kept ?_ hb_2
    (repeat (first | with_reducible assumption | (with_reducible refine Blk.new' ?_; first | with_reducible rfl | (simp; done)) | with_reducible refine Blk.alloc ?_ _ | with_reducible refine Blk.grow ?_ _ | with_reducible refine Blk.drew ?_ | with_reducible refine Blk.drewN ?_ _ | (with_reducible refine Blk.far ?_ (by first | (dsimp only; omega) | (simp; omega)) _) | (with_reducible apply Blk.two) | (with_reducible refine Blk.set' ?_ _ _ ?_) | (with_reducible rfl) | rfl))
  clear f_a a_l a_0 a_1 a_2 a_3 a_4 a_5 a_6 a_7 a_8 a_9 a_10 a_11 a_12 a_13 a_14 a_f0 a_f1 a_f2 a_f3 a_f4 a_f5 a_f6 a_f7 a_f8 a_f9 a_f10 a_f11 a_f12 a_f13 a_f14 t_a hB hb_2
  have f_a := g_a
  clear g_a
  have a_0 : w_2.cell? ⟨w.heap.size, 0, none⟩ = some (.int .u64 0) := (f_a).cell 0
  have a_1 : w_2.cell? ⟨w.heap.size, 1, none⟩ = some (.int .u64 0) := (f_a).cell 1
  have a_2 : w_2.cell? ⟨w.heap.size, 2, none⟩ = some (.int .u64 0) := (f_a).cell 2
  have a_3 : w_2.cell? ⟨w.heap.size, 3, none⟩ = some (.int .u64 0) := (f_a).cell 3
  have a_4 : w_2.cell? ⟨w.heap.size, 4, none⟩ = some (.int .u64 0) := (f_a).cell 4
  have a_5 : w_2.cell? ⟨w.heap.size, 5, none⟩ = some (.int .u64 0) := (f_a).cell 5
  have a_6 : w_2.cell? ⟨w.heap.size, 6, none⟩ = some (.int .u64 0) := (f_a).cell 6
  have a_7 : w_2.cell? ⟨w.heap.size, 7, none⟩ = some (.int .u64 0) := (f_a).cell 7
  have a_8 : w_2.cell? ⟨w.heap.size, 8, none⟩ = some (.int .u64 0) := (f_a).cell 8
  have a_9 : w_2.cell? ⟨w.heap.size, 9, none⟩ = some (.int .u64 0) := (f_a).cell 9
  have a_10 : w_2.cell? ⟨w.heap.size, 10, none⟩ = some (.int .u64 0) := (f_a).cell 10
  have a_11 : w_2.cell? ⟨w.heap.size, 11, none⟩ = some (.int .u32 0) := (f_a).cell 11
  have a_12 : w_2.cell? ⟨w.heap.size, 12, none⟩ = some (.int .u16 0) := (f_a).cell 12
  have a_13 : w_2.cell? ⟨w.heap.size, 13, none⟩ = some (.int .u16 0) := (f_a).cell 13
  have a_14 : w_2.cell? ⟨w.heap.size, 14, none⟩ = some (.int .u64 0) := (f_a).cell 14
  have a_f0 := (f_a).frozen 0
  have a_f1 := (f_a).frozen 1
  have a_f2 := (f_a).frozen 2
  have a_f3 := (f_a).frozen 3
  have a_f4 := (f_a).frozen 4
  have a_f5 := (f_a).frozen 5
  have a_f6 := (f_a).frozen 6
  have a_f7 := (f_a).frozen 7
  have a_f8 := (f_a).frozen 8
  have a_f9 := (f_a).frozen 9
  have a_f10 := (f_a).frozen 10
  have a_f11 := (f_a).frozen 11
  have a_f12 := (f_a).frozen 12
  have a_f13 := (f_a).frozen 13
  have a_f14 := (f_a).frozen 14
  have a_l := (f_a).lt
  replace f_a := Lib.hid f_a
  replace hB_2 := Lib.hid hB_2
  go_wp2_with fail
  refine bodyPost_ret (v := .tuple #[.agg #[.int .u64 x0, .int .u64 x1, .int .u64 x2, .int .u64 x3, .int .u64 x4, .int .u64 x5, .int .u64 x6, .int .u64 x7, .int .u64 x8, .int .u64 x9, .int .u64 x10, .int .u32 x11, .int .u16 x12, .int .u16 x13, .int .u64 x14], .bool bb]) (by simp [results, Try.results23, go_sem, a_0, a_1, a_2, a_3, a_4, a_5, a_6, a_7, a_8, a_9, a_10, a_11, a_12, a_13, a_14, a_l]) rfl ⟨rfl, ?_⟩
  have t := hB_2.out
  (repeat (first | with_reducible exact Below.refl _ _ | with_reducible assumption | (with_reducible refine bel_set ?_ (by first | exact Nat.le_refl _ | (simp; done) | (simp; omega) | omega) _) | with_reducible refine bel_grow ?_ _ | with_reducible refine Below.drew ?_ | with_reducible refine below_drewN ?_ _ | with_reducible refine bel_alloc ?_ _ | with_reducible refine bel_trans ?_ (by assumption)))
set_option maxRecDepth 8000 in
set_option maxHeartbeats 2000000 in
theorem keptAccount_k (A B : Option Addr) (n c m k : Nat) (hn : n ≤ maxLen) (h : n ≠ 16) (w : World) : Calls Try.prog 23 #[.slice A n c, .slice B m k] w fun r w' => r = .returned (.tuple #[.agg #[.int .u64 0, .int .u64 0, .int .u64 0, .int .u64 0, .int .u64 0, .int .u64 0, .int .u64 0, .int .u64 0, .int .u64 0, .int .u64 0, .int .u64 0, .int .u32 0, .int .u16 0, .int .u16 0, .int .u64 0], .bool false]) ∧ Below w.heap.size w w' := by
  unfold maxLen at hn
  have h' : ((n : Int) != 16) = true := by rw [bne_iff_ne]; omega
  go_enter Try.func23, Try.ntmps23
  go_wp2_with fail
  refine bodyPost_ret (v := .tuple #[.agg #[.int .u64 0, .int .u64 0, .int .u64 0, .int .u64 0, .int .u64 0, .int .u64 0, .int .u64 0, .int .u64 0, .int .u64 0, .int .u64 0, .int .u64 0, .int .u32 0, .int .u16 0, .int .u16 0, .int .u64 0], .bool false]) (by simp [results, Try.results23, go_sem]) rfl ⟨rfl, by (repeat (first | with_reducible exact Below.refl _ _ | with_reducible assumption | (with_reducible refine bel_set ?_ (by first | exact Nat.le_refl _ | (simp; done) | (simp; omega) | omega) _) | with_reducible refine bel_grow ?_ _ | with_reducible refine Below.drew ?_ | with_reducible refine below_drewN ?_ _ | with_reducible refine bel_alloc ?_ _ | with_reducible refine bel_trans ?_ (by assumption)))⟩
theorem keptAccount_all (A B : Option Addr) (n c m k : Nat) (d e : Nat → Int) (hd : ∀ i, 0 ≤ d i ∧ d i < 256) (he : ∀ i, 0 ≤ e i ∧ e i < 256) (hn : n ≤ 200) (hm : m ≤ 200) (w : World) (hs : SlIs w A n (yV d)) (ht : SlIs w B m (yV e)) :
    Calls Try.prog 23 #[.slice A n c, .slice B m k] w fun r w' => r = .returned (.tuple #[.agg #[.int .u64 (bv (decide (n = 16 ∧ n + m = 104)) (num (cat d n e) 0 8)), .int .u64 (bv (decide (n = 16 ∧ n + m = 104)) (num (cat d n e) 8 8)), .int .u64 (bv (decide (n = 16 ∧ n + m = 104)) (num (cat d n e) 16 8)), .int .u64 (bv (decide (n = 16 ∧ n + m = 104)) (num (cat d n e) 24 8)), .int .u64 (bv (decide (n = 16 ∧ n + m = 104)) (num (cat d n e) 32 8)), .int .u64 (bv (decide (n = 16 ∧ n + m = 104)) (num (cat d n e) 40 8)), .int .u64 (bv (decide (n = 16 ∧ n + m = 104)) (num (cat d n e) 48 8)), .int .u64 (bv (decide (n = 16 ∧ n + m = 104)) (num (cat d n e) 56 8)), .int .u64 (bv (decide (n = 16 ∧ n + m = 104)) (num (cat d n e) 64 8)), .int .u64 (bv (decide (n = 16 ∧ n + m = 104)) (num (cat d n e) 72 8)), .int .u64 (bv (decide (n = 16 ∧ n + m = 104)) (num (cat d n e) 80 8)), .int .u32 (bv (decide (n = 16 ∧ n + m = 104)) (num (cat d n e) 88 4)), .int .u16 (bv (decide (n = 16 ∧ n + m = 104)) (num (cat d n e) 92 2)), .int .u16 (bv (decide (n = 16 ∧ n + m = 104)) (num (cat d n e) 94 2)), .int .u64 (bv (decide (n = 16 ∧ n + m = 104)) (num (cat d n e) 96 8))], .bool (decide (n = 16 ∧ n + m = 104))]) ∧ Below w.heap.size w w' := by
  by_cases h : n = 16
  · subst h
    rcases Nat.eq_zero_or_pos m with h0 | h0
    · subst h0
      rw [decide_eq_false (p := 16 = 16 ∧ 16 + 0 = 104) (by omega)]
      exact keptAccount_of 0 0 0 0 0 0 0 0 0 0 0 0 0 0 0 false A B c 0 k 16 d w (fun g W hb hg => concat_zero A B 16 c k g d (by omega) (by omega) W hg (hs.below hb)) (fun A c h1 h2 W hs => getAccount_no A 16 c (by simp [maxLen]) (by omega) W)
    · have HC := fun g W (hb : Below w.heap.size w W) hg => concat_two A B 16 m c k g d e (by omega) h0 (by omega) W hg (hs.below hb) (ht.below hb)
      by_cases h4 : 16 + m = 104
      · obtain rfl : m = 88 := by omega
        rw [decide_eq_true (p := 16 = 16 ∧ 16 + 88 = 104) (by omega)]
        exact keptAccount_of (num (cat d 16 e) 0 8) (num (cat d 16 e) 8 8) (num (cat d 16 e) 16 8) (num (cat d 16 e) 24 8) (num (cat d 16 e) 32 8) (num (cat d 16 e) 40 8) (num (cat d 16 e) 48 8) (num (cat d 16 e) 56 8) (num (cat d 16 e) 64 8) (num (cat d 16 e) 72 8) (num (cat d 16 e) 80 8) (num (cat d 16 e) 88 4) (num (cat d 16 e) 92 2) (num (cat d 16 e) 94 2) (num (cat d 16 e) 96 8) true A B c 88 k 104 (cat d 16 e) w HC (fun A c h1 h2 W hs => getAccount_yes A c (cat d 16 e) (cat_ok hd he) h1 h2 W hs)
      · rw [decide_eq_false (p := 16 = 16 ∧ 16 + m = 104) (by omega)]
        exact keptAccount_of 0 0 0 0 0 0 0 0 0 0 0 0 0 0 0 false A B c m k (16 + m) (cat d 16 e) w HC (fun A c h1 h2 W hs => getAccount_no A (16 + m) c (by unfold maxLen; omega) h4 W)
  · rw [decide_eq_false (p := n = 16 ∧ n + m = 104) (by omega)]
    exact keptAccount_k A B n c m k (by unfold maxLen; omega) h w
end Go.Proofs.Ytflaeljjalpnkaa
-- KtC
namespace Go.Proofs.Ytflaeljjalpnkaa
set_option linter.unusedVariables false
set_option linter.unusedSimpArgs false
open Go.RowKit

attribute [local go_sem] bK_is
attribute [local go_sem ↓] load_Transfer store_Kept build_Kept
set_option maxRecDepth 8000 in
set_option maxHeartbeats 4000000 in
theorem keptTransfer_yes (A B : Option Addr) (c k : Nat) (hC : 16 ≤ c ∧ c ≤ maxLen) (hk : 108 ≤ k ∧ k ≤ maxLen) (d e : Nat → Int) (hd : ∀ i, 0 ≤ d i ∧ d i < 256) (he : ∀ i, 0 ≤ e i ∧ e i < 256) (w : World) (hs : SlIs w A 16 (yV d)) (ht : SlIs w B 108 (yV e)) :
    Calls Try.prog 34 #[.slice A 16 c, .slice B 108 k] w fun r w' => r = .returned (.tuple #[.agg #[.int .u64 (num (cat d 16 e) 0 8), .int .u64 (num (cat d 16 e) 8 8), .int .u64 (num (cat d 16 e) 16 8), .int .u64 (num (cat d 16 e) 24 8), .int .u64 (num (cat d 16 e) 32 8), .int .u64 (num (cat d 16 e) 40 8), .int .u64 (num (cat d 16 e) 48 8), .int .u64 (num (cat d 16 e) 56 8), .int .u64 (num (cat d 16 e) 64 8), .int .u64 (num (cat d 16 e) 72 8), .int .u64 (num (cat d 16 e) 80 8), .int .u32 (num (cat d 16 e) 88 4), .int .u32 (num (cat d 16 e) 92 4), .int .u16 (num (cat d 16 e) 96 2), .int .u16 (num (cat d 16 e) 98 2), .int .u64 (num (cat d 16 e) 100 8), .int .u64 (num e 92 8), .int .u64 (num e 100 8)], .bool true]) ∧ Below w.heap.size w w' := by
  have HG := Lib.hid (fun A c h1 h2 w hs => getTransfer_yes A c (cat d 16 e) (cat_ok hd he) h1 h2 w hs)
  obtain ⟨b, o, rfl, hbl, hc⟩ := ht (by omega)
  have v1 : SlIs w (some ⟨b, o, none⟩) 92 (yV e) := slis_at0 hbl hc 92 (by omega)
  have v2 : SlIs w (some ⟨b, o + 92, none⟩) 16 (yV (shf e 92)) := slis_at hbl hc 92 16 (by omega)
  have HC := Lib.hid (fun g w hg hs ht => concat_two A (some ⟨b, o, none⟩) 16 92 c k g d e (by omega) (by omega) (by omega) w hg hs ht)
  rw [show 16 + 92 = 108 from rfl] at HC
  have HR := fun W (h : Below w.heap.size w W) => read_yes (some ⟨b, o + 92, none⟩) (k - 92) (shf e 92) (shf_lo he 92) W (v2.below h)
  rw [num_shf', num_shf'] at HR
  simp only [Nat.reduceAdd] at HR
  replace HR := Lib.hid HR
  generalize num (cat d 16 e) 0 8 = xi1 at *
  generalize num (cat d 16 e) 8 8 = xi2 at *
  generalize num (cat d 16 e) 16 8 = xd1 at *
  generalize num (cat d 16 e) 24 8 = xd2 at *
  generalize num (cat d 16 e) 32 8 = xc1 at *
  generalize num (cat d 16 e) 40 8 = xc2 at *
  generalize num (cat d 16 e) 48 8 = xm1 at *
  generalize num (cat d 16 e) 56 8 = xm2 at *
  generalize num (cat d 16 e) 64 8 = xw1 at *
  generalize num (cat d 16 e) 72 8 = xw2 at *
  generalize num (cat d 16 e) 80 8 = xtg at *
  generalize num (cat d 16 e) 88 4 = xto at *
  generalize num (cat d 16 e) 92 4 = xlg at *
  generalize num (cat d 16 e) 96 2 = xcd at *
  generalize num (cat d 16 e) 98 2 = xfl at *
  generalize num (cat d 16 e) 100 8 = xst at *
  generalize num e 92 8 = kh at *
  generalize num e 100 8 = kl at *
  clear hd he
  generalize cat d 16 e = D at *
  have m2 : k ≤ 9223372036854775807 := hk.2
  have m3 : 108 ≤ k := hk.1
  replace hs := Lib.hid hs
  replace v1 := Lib.hid v1
  clear ht hc v2
  go_enter Try.func34, Try.ntmps34
  go_wp2_with fail
  refine (HC.out _ _ (by (repeat (first | with_reducible assumption | (with_reducible refine Blk.new' ?_; first | with_reducible rfl | (simp; done)) | with_reducible refine Blk.alloc ?_ _ | with_reducible refine Blk.grow ?_ _ | with_reducible refine Blk.drew ?_ | with_reducible refine Blk.drewN ?_ _ | (with_reducible refine Blk.far ?_ (by first | (dsimp only; omega) | (simp; omega)) _) | (with_reducible apply Blk.two) | (with_reducible refine Blk.set' ?_ _ _ ?_) | (with_reducible rfl) | rfl))) (hs.out.below (by (repeat (first | exact Below.refl _ _ | assumption | refine below_drewN ?_ _ | refine bel_grow ?_ _ | refine Below.drew ?_ | refine bel_alloc ?_ _ | refine bel_set ?_ (by first | exact Nat.le_refl _ | (simp; done) | (simp; omega) | omega) _ | refine bel_trans ?_ (by assumption))))) (v1.out.below (by (repeat (first | exact Below.refl _ _ | assumption | refine below_drewN ?_ _ | refine bel_grow ?_ _ | refine Below.drew ?_ | refine bel_alloc ?_ _ | refine bel_set ?_ (by first | exact Nat.le_refl _ | (simp; done) | (simp; omega) | omega) _ | refine bel_trans ?_ (by assumption)))))).mono ?_
  rintro e0 w1 ⟨v, rfl, ho, hb1⟩
  obtain ⟨A1, c1, rfl, e1, m1, s1⟩ := ho.byS
  have hB : Below w.heap.size w w1 := bel_eld (w := w) (X := _) (by (repeat (first | exact Below.refl _ _ | assumption | refine below_drewN ?_ _ | refine bel_grow ?_ _ | refine Below.drew ?_ | refine bel_alloc ?_ _ | refine bel_set ?_ (by first | exact Nat.le_refl _ | (simp; done) | (simp; omega) | omega) _ | refine bel_trans ?_ (by assumption)))) hb1
  have f_a : Blk w1 w.heap.size 78 #[.int .u64 0, .int .u64 0, .int .u64 0, .int .u64 0, .int .u64 0, .int .u64 0, .int .u64 0, .int .u64 0, .int .u64 0, .int .u64 0, .int .u64 0, .int .u32 0, .int .u32 0, .int .u16 0, .int .u16 0, .int .u64 0, .int .u64 0, .int .u64 0] := Blk.kept (by (repeat (first | with_reducible assumption | (with_reducible refine Blk.new' ?_; first | with_reducible rfl | (simp; done)) | with_reducible refine Blk.alloc ?_ _ | with_reducible refine Blk.grow ?_ _ | with_reducible refine Blk.drew ?_ | with_reducible refine Blk.drewN ?_ _ | (with_reducible refine Blk.far ?_ (by first | (dsimp only; omega) | (simp; omega)) _) | (with_reducible apply Blk.two) | (with_reducible refine Blk.set' ?_ _ _ ?_) | (with_reducible rfl) | rfl))) hb1
  clear ho hb1
  have a_0 : w1.cell? ⟨w.heap.size, 0, none⟩ = some (.int .u64 0) := (f_a).cell 0
  have a_1 : w1.cell? ⟨w.heap.size, 1, none⟩ = some (.int .u64 0) := (f_a).cell 1
  have a_2 : w1.cell? ⟨w.heap.size, 2, none⟩ = some (.int .u64 0) := (f_a).cell 2
  have a_3 : w1.cell? ⟨w.heap.size, 3, none⟩ = some (.int .u64 0) := (f_a).cell 3
  have a_4 : w1.cell? ⟨w.heap.size, 4, none⟩ = some (.int .u64 0) := (f_a).cell 4
  have a_5 : w1.cell? ⟨w.heap.size, 5, none⟩ = some (.int .u64 0) := (f_a).cell 5
  have a_6 : w1.cell? ⟨w.heap.size, 6, none⟩ = some (.int .u64 0) := (f_a).cell 6
  have a_7 : w1.cell? ⟨w.heap.size, 7, none⟩ = some (.int .u64 0) := (f_a).cell 7
  have a_8 : w1.cell? ⟨w.heap.size, 8, none⟩ = some (.int .u64 0) := (f_a).cell 8
  have a_9 : w1.cell? ⟨w.heap.size, 9, none⟩ = some (.int .u64 0) := (f_a).cell 9
  have a_10 : w1.cell? ⟨w.heap.size, 10, none⟩ = some (.int .u64 0) := (f_a).cell 10
  have a_11 : w1.cell? ⟨w.heap.size, 11, none⟩ = some (.int .u32 0) := (f_a).cell 11
  have a_12 : w1.cell? ⟨w.heap.size, 12, none⟩ = some (.int .u32 0) := (f_a).cell 12
  have a_13 : w1.cell? ⟨w.heap.size, 13, none⟩ = some (.int .u16 0) := (f_a).cell 13
  have a_14 : w1.cell? ⟨w.heap.size, 14, none⟩ = some (.int .u16 0) := (f_a).cell 14
  have a_15 : w1.cell? ⟨w.heap.size, 15, none⟩ = some (.int .u64 0) := (f_a).cell 15
  have a_16 : w1.cell? ⟨w.heap.size, 16, none⟩ = some (.int .u64 0) := (f_a).cell 16
  have a_17 : w1.cell? ⟨w.heap.size, 17, none⟩ = some (.int .u64 0) := (f_a).cell 17
  have a_f0 := (f_a).frozen 0
  have a_f1 := (f_a).frozen 1
  have a_f2 := (f_a).frozen 2
  have a_f3 := (f_a).frozen 3
  have a_f4 := (f_a).frozen 4
  have a_f5 := (f_a).frozen 5
  have a_f6 := (f_a).frozen 6
  have a_f7 := (f_a).frozen 7
  have a_f8 := (f_a).frozen 8
  have a_f9 := (f_a).frozen 9
  have a_f10 := (f_a).frozen 10
  have a_f11 := (f_a).frozen 11
  have a_f12 := (f_a).frozen 12
  have a_f13 := (f_a).frozen 13
  have a_f14 := (f_a).frozen 14
  have a_f15 := (f_a).frozen 15
  have a_f16 := (f_a).frozen 16
  have a_f17 := (f_a).frozen 17
  have a_l := (f_a).lt
  replace f_a := Lib.hid f_a
  replace hB := Lib.hid hB
  go_wp2_with fail
  refine (HG.out A1 c1 e1 m1 _ s1).mono ?_
  rintro e w_2 ⟨rfl, hb_2⟩
  have z_2 := hb_2.size
  try simp at z_2
  have t_ := hB.out
  have hB_2 := bel_eld (w := w) (X := _) (by first | ((repeat (first | with_reducible exact Below.refl _ _ | with_reducible assumption | (with_reducible refine bel_set ?_ (by first | exact Nat.le_refl _ | (simp; done) | (simp; omega) | omega) _) | with_reducible refine bel_grow ?_ _ | with_reducible refine Below.drew ?_ | with_reducible refine below_drewN ?_ _ | with_reducible refine bel_alloc ?_ _ | with_reducible refine bel_trans ?_ (by assumption))); done) | (repeat (first | exact Below.refl _ _ | assumption | refine below_drewN ?_ _ | refine bel_grow ?_ _ | refine Below.drew ?_ | refine bel_alloc ?_ _ | refine bel_set ?_ (by first | exact Nat.le_refl _ | (simp; done) | (simp; omega) | omega) _ | refine bel_trans ?_ (by assumption)))) hb_2
  clear t_
  have t_a := f_a.out
  have g_a : Blk w_2 (w.heap.size) 78 #[.int .u64 0, .int .u64 0, .int .u64 0, .int .u64 0, .int .u64 0, .int .u64 0, .int .u64 0, .int .u64 0, .int .u64 0, .int .u64 0, .int .u64 0, .int .u32 0, .int .u32 0, .int .u16 0, .int .u16 0, .int .u64 0, .int .u64 0, .int .u64 0] := by
    refine Blk.kept ?_ hb_2
    (repeat (first | with_reducible assumption | (with_reducible refine Blk.new' ?_; first | with_reducible rfl | (simp; done)) | with_reducible refine Blk.alloc ?_ _ | with_reducible refine Blk.grow ?_ _ | with_reducible refine Blk.drew ?_ | with_reducible refine Blk.drewN ?_ _ | (with_reducible refine Blk.far ?_ (by first | (dsimp only; omega) | (simp; omega)) _) | (with_reducible apply Blk.two) | (with_reducible refine Blk.set' ?_ _ _ ?_) | (with_reducible rfl) | rfl))
  clear f_a a_l a_0 a_1 a_2 a_3 a_4 a_5 a_6 a_7 a_8 a_9 a_10 a_11 a_12 a_13 a_14 a_15 a_16 a_17 a_f0 a_f1 a_f2 a_f3 a_f4 a_f5 a_f6 a_f7 a_f8 a_f9 a_f10 a_f11 a_f12 a_f13 a_f14 a_f15 a_f16 a_f17 t_a hB hb_2
  have f_a := g_a
  clear g_a
  have a_0 : w_2.cell? ⟨w.heap.size, 0, none⟩ = some (.int .u64 0) := (f_a).cell 0
  have a_1 : w_2.cell? ⟨w.heap.size, 1, none⟩ = some (.int .u64 0) := (f_a).cell 1
  have a_2 : w_2.cell? ⟨w.heap.size, 2, none⟩ = some (.int .u64 0) := (f_a).cell 2
  have a_3 : w_2.cell? ⟨w.heap.size, 3, none⟩ = some (.int .u64 0) := (f_a).cell 3
  have a_4 : w_2.cell? ⟨w.heap.size, 4, none⟩ = some (.int .u64 0) := (f_a).cell 4
  have a_5 : w_2.cell? ⟨w.heap.size, 5, none⟩ = some (.int .u64 0) := (f_a).cell 5
  have a_6 : w_2.cell? ⟨w.heap.size, 6, none⟩ = some (.int .u64 0) := (f_a).cell 6
  have a_7 : w_2.cell? ⟨w.heap.size, 7, none⟩ = some (.int .u64 0) := (f_a).cell 7
  have a_8 : w_2.cell? ⟨w.heap.size, 8, none⟩ = some (.int .u64 0) := (f_a).cell 8
  have a_9 : w_2.cell? ⟨w.heap.size, 9, none⟩ = some (.int .u64 0) := (f_a).cell 9
  have a_10 : w_2.cell? ⟨w.heap.size, 10, none⟩ = some (.int .u64 0) := (f_a).cell 10
  have a_11 : w_2.cell? ⟨w.heap.size, 11, none⟩ = some (.int .u32 0) := (f_a).cell 11
  have a_12 : w_2.cell? ⟨w.heap.size, 12, none⟩ = some (.int .u32 0) := (f_a).cell 12
  have a_13 : w_2.cell? ⟨w.heap.size, 13, none⟩ = some (.int .u16 0) := (f_a).cell 13
  have a_14 : w_2.cell? ⟨w.heap.size, 14, none⟩ = some (.int .u16 0) := (f_a).cell 14
  have a_15 : w_2.cell? ⟨w.heap.size, 15, none⟩ = some (.int .u64 0) := (f_a).cell 15
  have a_16 : w_2.cell? ⟨w.heap.size, 16, none⟩ = some (.int .u64 0) := (f_a).cell 16
  have a_17 : w_2.cell? ⟨w.heap.size, 17, none⟩ = some (.int .u64 0) := (f_a).cell 17
  have a_f0 := (f_a).frozen 0
  have a_f1 := (f_a).frozen 1
  have a_f2 := (f_a).frozen 2
  have a_f3 := (f_a).frozen 3
  have a_f4 := (f_a).frozen 4
  have a_f5 := (f_a).frozen 5
  have a_f6 := (f_a).frozen 6
  have a_f7 := (f_a).frozen 7
  have a_f8 := (f_a).frozen 8
  have a_f9 := (f_a).frozen 9
  have a_f10 := (f_a).frozen 10
  have a_f11 := (f_a).frozen 11
  have a_f12 := (f_a).frozen 12
  have a_f13 := (f_a).frozen 13
  have a_f14 := (f_a).frozen 14
  have a_f15 := (f_a).frozen 15
  have a_f16 := (f_a).frozen 16
  have a_f17 := (f_a).frozen 17
  have a_l := (f_a).lt
  replace f_a := Lib.hid f_a
  replace hB_2 := Lib.hid hB_2
  as_aux_lemma =>
    go_wp2_with fail
    refine (HR.out _ (by have t := hB_2.out; (repeat (first | with_reducible exact Below.refl _ _ | with_reducible assumption | (with_reducible refine bel_set ?_ (by first | exact Nat.le_refl _ | (simp; done) | (simp; omega) | omega) _) | with_reducible refine bel_grow ?_ _ | with_reducible refine Below.drew ?_ | with_reducible refine below_drewN ?_ _ | with_reducible refine bel_alloc ?_ _ | with_reducible refine bel_trans ?_ (by assumption))))).mono ?_
    rintro e w_3 ⟨rfl, hb_3⟩
    have z_3 := hb_3.size
    try simp at z_3
    have t_ := hB_2.out
    have hB_3 := bel_eld (w := w) (X := _) (by first | ((repeat (first | with_reducible exact Below.refl _ _ | with_reducible assumption | (with_reducible refine bel_set ?_ (by first | exact Nat.le_refl _ | (simp; done) | (simp; omega) | omega) _) | with_reducible refine bel_grow ?_ _ | with_reducible refine Below.drew ?_ | with_reducible refine below_drewN ?_ _ | with_reducible refine bel_alloc ?_ _ | with_reducible refine bel_trans ?_ (by assumption))); done) | (repeat (first | exact Below.refl _ _ | assumption | refine below_drewN ?_ _ | refine bel_grow ?_ _ | refine Below.drew ?_ | refine bel_alloc ?_ _ | refine bel_set ?_ (by first | exact Nat.le_refl _ | (simp; done) | (simp; omega) | omega) _ | refine bel_trans ?_ (by assumption)))) hb_3
    clear t_
    have t_a := f_a.out
    have g_a : Blk w_3 (w.heap.size) 78 #[.int .u64 0, .int .u64 0, .int .u64 0, .int .u64 0, .int .u64 0, .int .u64 0, .int .u64 0, .int .u64 0, .int .u64 0, .int .u64 0, .int .u64 0, .int .u32 0, .int .u32 0, .int .u16 0, .int .u16 0, .int .u64 0, .int .u64 0, .int .u64 0] := by
      refine Blk.kept ?_ hb_3
      (repeat (first | with_reducible assumption | (with_reducible refine Blk.new' ?_; first | with_reducible rfl | (simp; done)) | with_reducible refine Blk.alloc ?_ _ | with_reducible refine Blk.grow ?_ _ | with_reducible refine Blk.drew ?_ | with_reducible refine Blk.drewN ?_ _ | (with_reducible refine Blk.far ?_ (by first | (dsimp only; omega) | (simp; omega)) _) | (with_reducible apply Blk.two) | (with_reducible refine Blk.set' ?_ _ _ ?_) | (with_reducible rfl) | rfl))
    have g_x : Blk w_3 (w_2.heap.size) 66 #[.int .u64 xi1, .int .u64 xi2, .int .u64 xd1, .int .u64 xd2, .int .u64 xc1, .int .u64 xc2, .int .u64 xm1, .int .u64 xm2, .int .u64 xw1, .int .u64 xw2, .int .u64 xtg, .int .u32 xto, .int .u32 xlg, .int .u16 xcd, .int .u16 xfl, .int .u64 xst] := by
      refine Blk.kept ?_ hb_3
      (repeat (first | with_reducible assumption | (with_reducible refine Blk.new' ?_; first | with_reducible rfl | (simp; done)) | with_reducible refine Blk.alloc ?_ _ | with_reducible refine Blk.grow ?_ _ | with_reducible refine Blk.drew ?_ | with_reducible refine Blk.drewN ?_ _ | (with_reducible refine Blk.far ?_ (by first | (dsimp only; omega) | (simp; omega)) _) | (with_reducible apply Blk.two) | (with_reducible refine Blk.set' ?_ _ _ ?_) | (with_reducible rfl) | rfl))
    clear f_a a_l a_0 a_1 a_2 a_3 a_4 a_5 a_6 a_7 a_8 a_9 a_10 a_11 a_12 a_13 a_14 a_15 a_16 a_17 a_f0 a_f1 a_f2 a_f3 a_f4 a_f5 a_f6 a_f7 a_f8 a_f9 a_f10 a_f11 a_f12 a_f13 a_f14 a_f15 a_f16 a_f17 t_a hB_2 hb_3
    have f_a := g_a
    clear g_a
    have f_x := g_x
    clear g_x
    have a_0 : w_3.cell? ⟨w.heap.size, 0, none⟩ = some (.int .u64 0) := (f_a).cell 0
    have a_1 : w_3.cell? ⟨w.heap.size, 1, none⟩ = some (.int .u64 0) := (f_a).cell 1
    have a_2 : w_3.cell? ⟨w.heap.size, 2, none⟩ = some (.int .u64 0) := (f_a).cell 2
    have a_3 : w_3.cell? ⟨w.heap.size, 3, none⟩ = some (.int .u64 0) := (f_a).cell 3
    have a_4 : w_3.cell? ⟨w.heap.size, 4, none⟩ = some (.int .u64 0) := (f_a).cell 4
    have a_5 : w_3.cell? ⟨w.heap.size, 5, none⟩ = some (.int .u64 0) := (f_a).cell 5
    have a_6 : w_3.cell? ⟨w.heap.size, 6, none⟩ = some (.int .u64 0) := (f_a).cell 6
    have a_7 : w_3.cell? ⟨w.heap.size, 7, none⟩ = some (.int .u64 0) := (f_a).cell 7
    have a_8 : w_3.cell? ⟨w.heap.size, 8, none⟩ = some (.int .u64 0) := (f_a).cell 8
    have a_9 : w_3.cell? ⟨w.heap.size, 9, none⟩ = some (.int .u64 0) := (f_a).cell 9
    have a_10 : w_3.cell? ⟨w.heap.size, 10, none⟩ = some (.int .u64 0) := (f_a).cell 10
    have a_11 : w_3.cell? ⟨w.heap.size, 11, none⟩ = some (.int .u32 0) := (f_a).cell 11
    have a_12 : w_3.cell? ⟨w.heap.size, 12, none⟩ = some (.int .u32 0) := (f_a).cell 12
    have a_13 : w_3.cell? ⟨w.heap.size, 13, none⟩ = some (.int .u16 0) := (f_a).cell 13
    have a_14 : w_3.cell? ⟨w.heap.size, 14, none⟩ = some (.int .u16 0) := (f_a).cell 14
    have a_15 : w_3.cell? ⟨w.heap.size, 15, none⟩ = some (.int .u64 0) := (f_a).cell 15
    have a_16 : w_3.cell? ⟨w.heap.size, 16, none⟩ = some (.int .u64 0) := (f_a).cell 16
    have a_17 : w_3.cell? ⟨w.heap.size, 17, none⟩ = some (.int .u64 0) := (f_a).cell 17
    have a_f0 := (f_a).frozen 0
    have a_f1 := (f_a).frozen 1
    have a_f2 := (f_a).frozen 2
    have a_f3 := (f_a).frozen 3
    have a_f4 := (f_a).frozen 4
    have a_f5 := (f_a).frozen 5
    have a_f6 := (f_a).frozen 6
    have a_f7 := (f_a).frozen 7
    have a_f8 := (f_a).frozen 8
    have a_f9 := (f_a).frozen 9
    have a_f10 := (f_a).frozen 10
    have a_f11 := (f_a).frozen 11
    have a_f12 := (f_a).frozen 12
    have a_f13 := (f_a).frozen 13
    have a_f14 := (f_a).frozen 14
    have a_f15 := (f_a).frozen 15
    have a_f16 := (f_a).frozen 16
    have a_f17 := (f_a).frozen 17
    have a_l := (f_a).lt
    replace f_a := Lib.hid f_a
    have x_0 : w_3.cell? ⟨w_2.heap.size, 0, none⟩ = some (.int .u64 xi1) := (f_x).cell 0
    have x_1 : w_3.cell? ⟨w_2.heap.size, 1, none⟩ = some (.int .u64 xi2) := (f_x).cell 1
    have x_2 : w_3.cell? ⟨w_2.heap.size, 2, none⟩ = some (.int .u64 xd1) := (f_x).cell 2
    have x_3 : w_3.cell? ⟨w_2.heap.size, 3, none⟩ = some (.int .u64 xd2) := (f_x).cell 3
    have x_4 : w_3.cell? ⟨w_2.heap.size, 4, none⟩ = some (.int .u64 xc1) := (f_x).cell 4
    have x_5 : w_3.cell? ⟨w_2.heap.size, 5, none⟩ = some (.int .u64 xc2) := (f_x).cell 5
    have x_6 : w_3.cell? ⟨w_2.heap.size, 6, none⟩ = some (.int .u64 xm1) := (f_x).cell 6
    have x_7 : w_3.cell? ⟨w_2.heap.size, 7, none⟩ = some (.int .u64 xm2) := (f_x).cell 7
    have x_8 : w_3.cell? ⟨w_2.heap.size, 8, none⟩ = some (.int .u64 xw1) := (f_x).cell 8
    have x_9 : w_3.cell? ⟨w_2.heap.size, 9, none⟩ = some (.int .u64 xw2) := (f_x).cell 9
    have x_10 : w_3.cell? ⟨w_2.heap.size, 10, none⟩ = some (.int .u64 xtg) := (f_x).cell 10
    have x_11 : w_3.cell? ⟨w_2.heap.size, 11, none⟩ = some (.int .u32 xto) := (f_x).cell 11
    have x_12 : w_3.cell? ⟨w_2.heap.size, 12, none⟩ = some (.int .u32 xlg) := (f_x).cell 12
    have x_13 : w_3.cell? ⟨w_2.heap.size, 13, none⟩ = some (.int .u16 xcd) := (f_x).cell 13
    have x_14 : w_3.cell? ⟨w_2.heap.size, 14, none⟩ = some (.int .u16 xfl) := (f_x).cell 14
    have x_15 : w_3.cell? ⟨w_2.heap.size, 15, none⟩ = some (.int .u64 xst) := (f_x).cell 15
    have x_f0 := (f_x).frozen 0
    have x_f1 := (f_x).frozen 1
    have x_f2 := (f_x).frozen 2
    have x_f3 := (f_x).frozen 3
    have x_f4 := (f_x).frozen 4
    have x_f5 := (f_x).frozen 5
    have x_f6 := (f_x).frozen 6
    have x_f7 := (f_x).frozen 7
    have x_f8 := (f_x).frozen 8
    have x_f9 := (f_x).frozen 9
    have x_f10 := (f_x).frozen 10
    have x_f11 := (f_x).frozen 11
    have x_f12 := (f_x).frozen 12
    have x_f13 := (f_x).frozen 13
    have x_f14 := (f_x).frozen 14
    have x_f15 := (f_x).frozen 15
    have x_l := (f_x).lt
    replace f_x := Lib.hid f_x
    replace hB_3 := Lib.hid hB_3
    as_aux_lemma =>
      go_upto_region 5 with fail
      refine abs_wp (fun X => Below w.heap.size w X ∧ Blk X w.heap.size 78 #[.int .u64 0, .int .u64 0, .int .u64 0, .int .u64 0, .int .u64 0, .int .u64 0, .int .u64 0, .int .u64 0, .int .u64 0, .int .u64 0, .int .u64 0, .int .u32 0, .int .u32 0, .int .u16 0, .int .u16 0, .int .u64 0, .int .u64 0, .int .u64 0] ∧ Blk X w_2.heap.size 66 #[.int .u64 xi1, .int .u64 xi2, .int .u64 xd1, .int .u64 xd2, .int .u64 xc1, .int .u64 xc2, .int .u64 xm1, .int .u64 xm2, .int .u64 xw1, .int .u64 xw2, .int .u64 xtg, .int .u32 xto, .int .u32 xlg, .int .u16 xcd, .int .u16 xfl, .int .u64 xst] ∧ Blk X w_3.heap.size 24 #[.int .u64 kh, .int .u64 kl] ∧ w.heap.size < w_3.heap.size) ?_ ?_
      · have t := hB_3.out
        refine ⟨?_, f_a.out.alloc _, f_x.out.alloc _, Blk.new _ _ _, f_a.out.lt⟩
        (repeat (first | with_reducible exact Below.refl _ _ | with_reducible assumption | (with_reducible refine bel_set ?_ (by first | exact Nat.le_refl _ | (simp; done) | (simp; omega) | omega) _) | with_reducible refine bel_grow ?_ _ | with_reducible refine Below.drew ?_ | with_reducible refine below_drewN ?_ _ | with_reducible refine bel_alloc ?_ _ | with_reducible refine bel_trans ?_ (by assumption)))
      clear hB_3 f_a f_x a_0 a_f0 a_1 a_f1 a_2 a_f2 a_3 a_f3 a_4 a_f4 a_5 a_f5 a_6 a_f6 a_7 a_f7 a_8 a_f8 a_9 a_f9 a_10 a_f10 a_11 a_f11 a_12 a_f12 a_13 a_f13 a_14 a_f14 a_15 a_f15 a_16 a_f16 a_17 a_f17 a_l x_0 x_f0 x_1 x_f1 x_2 x_f2 x_3 x_f3 x_4 x_f4 x_5 x_f5 x_6 x_f6 x_7 x_f7 x_8 x_f8 x_9 x_f9 x_10 x_f10 x_11 x_f11 x_12 x_f12 x_13 x_f13 x_14 x_f14 x_15 x_f15 x_l
      rintro X ⟨bX, ga, gx, gy, l1⟩
      as_aux_lemma =>
        have r_x := loadV_blk (P := Try.prog) (ty := 66) (n := 16) gx rfl
        have r_a := storeV_blk (P := Try.prog) (ty := 78) (n := 18) (vs := #[.int .u64 xi1, .int .u64 xi2, .int .u64 xd1, .int .u64 xd2, .int .u64 xc1, .int .u64 xc2, .int .u64 xm1, .int .u64 xm2, .int .u64 xw1, .int .u64 xw2, .int .u64 xtg, .int .u32 xto, .int .u32 xlg, .int .u16 xcd, .int .u16 xfl, .int .u64 xst, .int .u64 kh, .int .u64 kl]) ga rfl rfl rfl
        have y0 := (gy).cell 0
        have y1 := (gy).cell 1
        have yf0 := (gy).frozen 0
        have yf1 := (gy).frozen 1
        have yl := (gy).lt
        replace ga := Lib.hid ga
        replace bX := Lib.hid bX
        go_wp2_with fail
        refine abs_post (fun Y => Below w.heap.size w Y ∧ Blk Y w.heap.size 78 #[.int .u64 xi1, .int .u64 xi2, .int .u64 xd1, .int .u64 xd2, .int .u64 xc1, .int .u64 xc2, .int .u64 xm1, .int .u64 xm2, .int .u64 xw1, .int .u64 xw2, .int .u64 xtg, .int .u32 xto, .int .u32 xlg, .int .u16 xcd, .int .u16 xfl, .int .u64 xst, .int .u64 kh, .int .u64 kl]) ?_ ?_
        · refine ⟨below_setRow bX.out (Nat.le_refl _) _, ?_⟩
          refine ga.out.setRow ?_
          (simp; done)
        rintro Y ⟨bY, gY⟩
        have z0 := (gY).cell 0
        have z1 := (gY).cell 1
        have z2 := (gY).cell 2
        have z3 := (gY).cell 3
        have z4 := (gY).cell 4
        have z5 := (gY).cell 5
        have z6 := (gY).cell 6
        have z7 := (gY).cell 7
        have z8 := (gY).cell 8
        have z9 := (gY).cell 9
        have z10 := (gY).cell 10
        have z11 := (gY).cell 11
        have z12 := (gY).cell 12
        have z13 := (gY).cell 13
        have z14 := (gY).cell 14
        have z15 := (gY).cell 15
        have z16 := (gY).cell 16
        have z17 := (gY).cell 17
        have zf0 := (gY).frozen 0
        have zf1 := (gY).frozen 1
        have zf2 := (gY).frozen 2
        have zf3 := (gY).frozen 3
        have zf4 := (gY).frozen 4
        have zf5 := (gY).frozen 5
        have zf6 := (gY).frozen 6
        have zf7 := (gY).frozen 7
        have zf8 := (gY).frozen 8
        have zf9 := (gY).frozen 9
        have zf10 := (gY).frozen 10
        have zf11 := (gY).frozen 11
        have zf12 := (gY).frozen 12
        have zf13 := (gY).frozen 13
        have zf14 := (gY).frozen 14
        have zf15 := (gY).frozen 15
        have zf16 := (gY).frozen 16
        have zf17 := (gY).frozen 17
        have zl := (gY).lt
        refine bodyPost_ret (v := .tuple #[.agg #[.int .u64 xi1, .int .u64 xi2, .int .u64 xd1, .int .u64 xd2, .int .u64 xc1, .int .u64 xc2, .int .u64 xm1, .int .u64 xm2, .int .u64 xw1, .int .u64 xw2, .int .u64 xtg, .int .u32 xto, .int .u32 xlg, .int .u16 xcd, .int .u16 xfl, .int .u64 xst, .int .u64 kh, .int .u64 kl], .bool true]) (by simp [results, Try.results34, go_sem, z0, z1, z2, z3, z4, z5, z6, z7, z8, z9, z10, z11, z12, z13, z14, z15, z16, z17, zl]) rfl ⟨rfl, bY⟩
attribute [local go_sem] loadV_ptr storeV_ptr drew_hs
set_option maxRecDepth 8000 in
set_option maxHeartbeats 2000000 in
theorem keptTransfer_k (A B : Option Addr) (n c m k : Nat) (hn : n ≤ maxLen) (h : n ≠ 16) (w : World) : Calls Try.prog 34 #[.slice A n c, .slice B m k] w fun r w' => r = .returned (.tuple #[.agg #[.int .u64 0, .int .u64 0, .int .u64 0, .int .u64 0, .int .u64 0, .int .u64 0, .int .u64 0, .int .u64 0, .int .u64 0, .int .u64 0, .int .u64 0, .int .u32 0, .int .u32 0, .int .u16 0, .int .u16 0, .int .u64 0, .int .u64 0, .int .u64 0], .bool false]) ∧ Below w.heap.size w w' := by
  unfold maxLen at hn
  have h' : ((n : Int) != 16) = true := by rw [bne_iff_ne]; omega
  go_enter Try.func34, Try.ntmps34
  go_wp2_with fail
  refine bodyPost_ret (v := .tuple #[.agg #[.int .u64 0, .int .u64 0, .int .u64 0, .int .u64 0, .int .u64 0, .int .u64 0, .int .u64 0, .int .u64 0, .int .u64 0, .int .u64 0, .int .u64 0, .int .u32 0, .int .u32 0, .int .u16 0, .int .u16 0, .int .u64 0, .int .u64 0, .int .u64 0], .bool false]) (by simp [results, Try.results34, go_sem]) rfl ⟨rfl, by (repeat (first | with_reducible exact Below.refl _ _ | with_reducible assumption | (with_reducible refine bel_set ?_ (by first | exact Nat.le_refl _ | (simp; done) | (simp; omega) | omega) _) | with_reducible refine bel_grow ?_ _ | with_reducible refine Below.drew ?_ | with_reducible refine below_drewN ?_ _ | with_reducible refine bel_alloc ?_ _ | with_reducible refine bel_trans ?_ (by assumption)))⟩
set_option maxRecDepth 8000 in
set_option maxHeartbeats 2000000 in
theorem keptTransfer_v (A B : Option Addr) (c m k : Nat) (hm : m ≤ maxLen) (h : m ≠ 108) (w : World) : Calls Try.prog 34 #[.slice A 16 c, .slice B m k] w fun r w' => r = .returned (.tuple #[.agg #[.int .u64 0, .int .u64 0, .int .u64 0, .int .u64 0, .int .u64 0, .int .u64 0, .int .u64 0, .int .u64 0, .int .u64 0, .int .u64 0, .int .u64 0, .int .u32 0, .int .u32 0, .int .u16 0, .int .u16 0, .int .u64 0, .int .u64 0, .int .u64 0], .bool false]) ∧ Below w.heap.size w w' := by
  unfold maxLen at hm
  have h' : ((m : Int) != 108) = true := by rw [bne_iff_ne]; omega
  go_enter Try.func34, Try.ntmps34
  go_wp2_with fail
  refine bodyPost_ret (v := .tuple #[.agg #[.int .u64 0, .int .u64 0, .int .u64 0, .int .u64 0, .int .u64 0, .int .u64 0, .int .u64 0, .int .u64 0, .int .u64 0, .int .u64 0, .int .u64 0, .int .u32 0, .int .u32 0, .int .u16 0, .int .u16 0, .int .u64 0, .int .u64 0, .int .u64 0], .bool false]) (by simp [results, Try.results34, go_sem]) rfl ⟨rfl, by (repeat (first | with_reducible exact Below.refl _ _ | with_reducible assumption | (with_reducible refine bel_set ?_ (by first | exact Nat.le_refl _ | (simp; done) | (simp; omega) | omega) _) | with_reducible refine bel_grow ?_ _ | with_reducible refine Below.drew ?_ | with_reducible refine below_drewN ?_ _ | with_reducible refine bel_alloc ?_ _ | with_reducible refine bel_trans ?_ (by assumption)))⟩
theorem keptTransfer_all (A B : Option Addr) (n c m k : Nat) (hC : n ≤ c ∧ c ≤ maxLen) (hk : m ≤ k ∧ k ≤ maxLen) (d e : Nat → Int) (hd : ∀ i, 0 ≤ d i ∧ d i < 256) (he : ∀ i, 0 ≤ e i ∧ e i < 256) (w : World) (hs : SlIs w A n (yV d)) (ht : SlIs w B m (yV e)) (b : Bool) (hb : decide (n = 16 ∧ m = 108) = b) :
    Calls Try.prog 34 #[.slice A n c, .slice B m k] w fun r w' => r = .returned (.tuple #[.agg #[.int .u64 (bv b (num (cat d 16 e) 0 8)), .int .u64 (bv b (num (cat d 16 e) 8 8)), .int .u64 (bv b (num (cat d 16 e) 16 8)), .int .u64 (bv b (num (cat d 16 e) 24 8)), .int .u64 (bv b (num (cat d 16 e) 32 8)), .int .u64 (bv b (num (cat d 16 e) 40 8)), .int .u64 (bv b (num (cat d 16 e) 48 8)), .int .u64 (bv b (num (cat d 16 e) 56 8)), .int .u64 (bv b (num (cat d 16 e) 64 8)), .int .u64 (bv b (num (cat d 16 e) 72 8)), .int .u64 (bv b (num (cat d 16 e) 80 8)), .int .u32 (bv b (num (cat d 16 e) 88 4)), .int .u32 (bv b (num (cat d 16 e) 92 4)), .int .u16 (bv b (num (cat d 16 e) 96 2)), .int .u16 (bv b (num (cat d 16 e) 98 2)), .int .u64 (bv b (num (cat d 16 e) 100 8)), .int .u64 (bv b (num e 92 8)), .int .u64 (bv b (num e 100 8))], .bool b]) ∧ Below w.heap.size w w' := by
  cases b with
  | true =>
    obtain ⟨rfl, rfl⟩ := of_decide_eq_true hb
    exact keptTransfer_yes A B c k hC hk d e hd he w hs ht
  | false =>
    have h := of_decide_eq_false hb
    by_cases h1 : n = 16
    · subst h1
      exact keptTransfer_v A B c m k (by omega) (by omega) w
    · exact keptTransfer_k A B n c m k (by omega) h1 w
end Go.Proofs.Ytflaeljjalpnkaa
-- KtG
namespace Go.Proofs.Ytflaeljjalpnkaa
set_option linter.unusedVariables false
set_option linter.unusedSimpArgs false
open Go.RowKit

theorem keepRow_s2 (h l p1 p2 q1 q2 r1 r2 s1 s2 st sd : Int) (hh : Wd h) (hl : Wd l) (hp1 : Wd p1) (hp2 : Wd p2) (hq1 : Wd q1) (hq2 : Wd q2) (hr1 : Wd r1) (hr2 : Wd r2) (hs1 : Wd s1) (hs2 : Wd s2) (hst : Wd st) (w : World) : Calls Try.prog 11 #[.agg #[.int .u64 h, .int .u64 l], .agg #[.int .u64 p1, .int .u64 p2, .int .u64 q1, .int .u64 q2, .int .u64 r1, .int .u64 r2, .int .u64 s1, .int .u64 s2, .int .u64 st, .int .u8 sd]] w fun r w' => ∃ A c B k, r = .returned (.tuple #[.slice A 24 c, .slice B 65 k]) ∧ (24 ≤ c ∧ c ≤ maxLen) ∧ (65 ≤ k ∧ k ≤ maxLen) ∧ SlIs w' A 24 (yV (cat (dgt h l) 16 (nb 8 st))) ∧ SlIs w' B 65 (yV (rowD sd p1 p2 q1 q2 r1 r2 s1 s2 st)) ∧ Below w.heap.size w w' := by
  refine (keepRow_any h l p1 p2 q1 q2 r1 r2 s1 s2 st sd hh hl hp1 hp2 hq1 hq2 hr1 hr2 hs1 hs2 hst w).mono ?_
  rintro e w' ⟨v1, v2, rfl, b1, b2, hb⟩
  obtain ⟨A, c, rfl, e1, m1, s1⟩ := b1
  obtain ⟨B, k, rfl, e2, m2, s2⟩ := b2
  exact ⟨A, c, B, k, rfl, ⟨e1, m1⟩, ⟨e2, m2⟩, s1, s2, hb⟩
theorem keepDue_s2 (e s h l : Int) (he : Wd e) (hs : Wd s) (hh : Wd h) (hl : Wd l) (w : World) : Calls Try.prog 10 #[.agg #[.int .u64 e, .int .u64 s, .int .u64 h, .int .u64 l]] w fun r w' => ∃ A c B k, r = .returned (.tuple #[.slice A 16 c, .slice B 16 k]) ∧ (16 ≤ c ∧ c ≤ maxLen) ∧ (16 ≤ k ∧ k ≤ maxLen) ∧ SlIs w' A 16 (yV (cat (nb 8 e) 8 (nb 8 s))) ∧ SlIs w' B 16 (yV (dgt h l)) ∧ Below w.heap.size w w' := by
  refine (keepDue_any e s h l he hs hh hl w).mono ?_
  rintro e w' ⟨v1, v2, rfl, b1, b2, hb⟩
  obtain ⟨A, c, rfl, e1, m1, s1⟩ := b1
  obtain ⟨B, k, rfl, e2, m2, s2⟩ := b2
  exact ⟨A, c, B, k, rfl, ⟨e1, m1⟩, ⟨e2, m2⟩, s1, s2, hb⟩
theorem keptRow_all (A B : Option Addr) (n c m k : Nat) (hC : n ≤ c ∧ c ≤ maxLen) (hk : m ≤ k ∧ k ≤ maxLen) (d e : Nat → Int) (hd : ∀ i, 0 ≤ d i ∧ d i < 256) (he : ∀ i, 0 ≤ e i ∧ e i < 256) (w : World) (hs : SlIs w A n (yV d)) (ht : SlIs w B m (yV e)) (b : Bool) (hb : decide (n = 24 ∧ m = 65) = b) :
    Calls Try.prog 38 #[.slice A n c, .slice B m k] w fun r w' => r = .returned (.tuple #[.agg #[.int .u64 (bv b (num d 0 8)), .int .u64 (bv b (num d 8 8))], .agg #[.int .u64 (bv b (num e 1 8)), .int .u64 (bv b (num e 9 8)), .int .u64 (bv b (num e 17 8)), .int .u64 (bv b (num e 25 8)), .int .u64 (bv b (num e 33 8)), .int .u64 (bv b (num e 41 8)), .int .u64 (bv b (num e 49 8)), .int .u64 (bv b (num e 57 8)), .int .u64 (bv b (num d 16 8)), .int .u8 (bv b (e 0))], .bool b]) ∧ Below w.heap.size w w' := by
  cases b with
  | true =>
    obtain ⟨rfl, rfl⟩ := of_decide_eq_true hb
    exact keptRow_yes A B c k hC.1 hC.2 hk.1 hk.2 d e hd he w hs ht
  | false =>
    have h := of_decide_eq_false hb
    by_cases h1 : n = 24
    · subst h1
      exact keptRow_v A B c m k hC.1 hC.2 (by omega) (by omega) d hd w hs
    · exact keptRow_k A B n c m k (by omega) h1 w
theorem keptDue_all (A B : Option Addr) (n c m k : Nat) (hC : n ≤ c ∧ c ≤ maxLen) (hk : m ≤ k ∧ k ≤ maxLen) (d e : Nat → Int) (hd : ∀ i, 0 ≤ d i ∧ d i < 256) (he : ∀ i, 0 ≤ e i ∧ e i < 256) (w : World) (hs : SlIs w A n (yV d)) (ht : SlIs w B m (yV e)) (b : Bool) (hb : decide (n = 16 ∧ m = 16) = b) :
    Calls Try.prog 41 #[.slice A n c, .slice B m k] w fun r w' => r = .returned (.tuple #[.agg #[.int .u64 (bv b (num d 0 8)), .int .u64 (bv b (num d 8 8)), .int .u64 (bv b (num e 0 8)), .int .u64 (bv b (num e 8 8))], .bool b]) ∧ Below w.heap.size w w' := by
  cases b with
  | true =>
    obtain ⟨rfl, rfl⟩ := of_decide_eq_true hb
    exact keptDue_yes A B c k hC.1 hC.2 d e hd he w hs ht
  | false =>
    have h := of_decide_eq_false hb
    by_cases h1 : n = 16
    · subst h1
      exact keptDue_v A B c m k hC.1 hC.2 (by omega) (by omega) d e hd he w hs ht
    · exact keptDue_k A B n c m k (by omega) (by omega) h1 e he w ht
section
variable {d e : Nat → Int} {n m : Nat} {b : Bool} (hd : ∀ i, 0 ≤ d i ∧ d i < 256) (he : ∀ i, 0 ≤ e i ∧ e i < 256)
include hd he
theorem keepT_if (hb : decide (n = 16 ∧ m = 108) = b) (h : b = true) : strF (putTransferD (bv b (num (cat d 16 e) 0 8)) (bv b (num (cat d 16 e) 8 8)) (bv b (num (cat d 16 e) 16 8)) (bv b (num (cat d 16 e) 24 8)) (bv b (num (cat d 16 e) 32 8)) (bv b (num (cat d 16 e) 40 8)) (bv b (num (cat d 16 e) 48 8)) (bv b (num (cat d 16 e) 56 8)) (bv b (num (cat d 16 e) 64 8)) (bv b (num (cat d 16 e) 72 8)) (bv b (num (cat d 16 e) 80 8)) (bv b (num (cat d 16 e) 88 4)) (bv b (num (cat d 16 e) 92 4)) (bv b (num (cat d 16 e) 96 2)) (bv b (num (cat d 16 e) 98 2)) (bv b (num (cat d 16 e) 100 8))) 16 = strF d n ∧ strF (cat (shf (putTransferD (bv b (num (cat d 16 e) 0 8)) (bv b (num (cat d 16 e) 8 8)) (bv b (num (cat d 16 e) 16 8)) (bv b (num (cat d 16 e) 24 8)) (bv b (num (cat d 16 e) 32 8)) (bv b (num (cat d 16 e) 40 8)) (bv b (num (cat d 16 e) 48 8)) (bv b (num (cat d 16 e) 56 8)) (bv b (num (cat d 16 e) 64 8)) (bv b (num (cat d 16 e) 72 8)) (bv b (num (cat d 16 e) 80 8)) (bv b (num (cat d 16 e) 88 4)) (bv b (num (cat d 16 e) 92 4)) (bv b (num (cat d 16 e) 96 2)) (bv b (num (cat d 16 e) 98 2)) (bv b (num (cat d 16 e) 100 8))) 16) 92 (dgt (bv b (num e 92 8)) (bv b (num e 100 8)))) 108 = strF e m := by
  subst h
  obtain ⟨rfl, rfl⟩ := of_decide_eq_true hb
  exact ⟨keepT_key hd he, keepT_val hd he⟩
theorem keepR_if (hb : decide (n = 24 ∧ m = 65) = b) (h : b = true) : strF (cat (dgt (bv b (num d 0 8)) (bv b (num d 8 8))) 16 (nb 8 (bv b (num d 16 8)))) 24 = strF d n ∧ strF (rowD (bv b (e 0)) (bv b (num e 1 8)) (bv b (num e 9 8)) (bv b (num e 17 8)) (bv b (num e 25 8)) (bv b (num e 33 8)) (bv b (num e 41 8)) (bv b (num e 49 8)) (bv b (num e 57 8)) (bv b (num d 16 8))) 65 = strF e m := by
  subst h
  obtain ⟨rfl, rfl⟩ := of_decide_eq_true hb
  exact ⟨keepR_key hd, keepR_val he _⟩
theorem keepD_if (hb : decide (n = 16 ∧ m = 16) = b) (h : b = true) : strF (cat (nb 8 (bv b (num d 0 8))) 8 (nb 8 (bv b (num d 8 8)))) 16 = strF d n ∧ strF (dgt (bv b (num e 0 8)) (bv b (num e 8 8))) 16 = strF e m := by
  subst h
  obtain ⟨rfl, rfl⟩ := of_decide_eq_true hb
  exact ⟨keepD_key hd, keepD_val he⟩
end
theorem kb1 {n m : Nat} {a : Bool} (h1 : decide (n + m = 104) = false) (h2 : decide (n = 16 ∧ n + m = 104) = a) : a = false := by subst h2; simp at h1 ⊢; omega
theorem kb2 {n m : Nat} {a : Bool} (h : ¬ n = 16) (h2 : decide (n = 16 ∧ n + m = 104) = a) : a = false := by subst h2; simp [h]
theorem kb3 {n m : Nat} {a : Bool} (h : n = 16) (h1 : decide (n + m = 104) = true) (h2 : decide (n = 16 ∧ n + m = 104) = a) : a = true := by subst h2; simp at h1 ⊢; omega
theorem kb4 {n m : Nat} {c : Bool} (h1 : decide (n + m = 104) = c) (h2 : decide (n = 16 ∧ n + m = 104) = true) : c = true := by subst h1; simp at h2 ⊢; omega
end Go.Proofs.Ytflaeljjalpnkaa
