/-
  RecordReads, walked.
-/
import Derived.Test.YtflaeljjalpnkaaRecT
import Derived.Test.YtflaeljjalpnkaaRecQ
import Derived.Test.YtflaeljjalpnkaaRecE
namespace Go.Proofs.Ytflaeljjalpnkaa
set_option linter.unusedVariables false
set_option linter.unusedSimpArgs false
open Go.RowKit

set_option maxHeartbeats 1000000 in
theorem recordReads_far (A : Option Addr) (n c : Nat) (hn : n ≤ maxLen) (h : 200 < n) (w : World) : Calls Try.prog 6 #[.slice A n c] w fun r w' => r = .returned (.bool true) ∧ Below w.heap.size w w' := by
  unfold maxLen at hn
  have h' : decide ((n : Int) > 200) = true := decide_eq_true (by omega)
  have RX := Lib.hid (fun w => rfixed_any w)
  go_enter Try.func6, Try.ntmps6
  go_wp2_with fail
  refine (RX.out _).mono ?_
  rintro e w1 ⟨rfl, hb1⟩
  go_wp2_with fail
  go_ret
  exact ⟨rfl, hb1⟩
set_option maxRecDepth 8000 in
set_option maxHeartbeats 8000000 in
theorem recordReads_near (A : Option Addr) (n c : Nat) (hmc : n ≤ c) (hC : c ≤ maxLen) (h : n ≤ 200) (e : Nat → Int) (he : ∀ i, 0 ≤ e i ∧ e i < 256) (w : World) (hs : SlIs w A n (yV e)) : Calls Try.prog 6 #[.slice A n c] w fun r w' => r = .returned (.bool true) ∧ Below w.heap.size w w' := by
  have h' : decide ((n : Int) > 200) = false := decide_eq_false (by omega)
  have HFilter := Lib.hid (fun w hs => getFilter_all A n c e he hmc hC w hs)
  have RFilter := Lib.hid (fun w => refGetFilter_all n e he (by omega) w)
  have HResult := Lib.hid (fun w hs => getResult_all A n c e he hmc hC w hs)
  have RResult := Lib.hid (fun w => refGetResult_all n e he (by omega) w)
  have HBalance := Lib.hid (fun w hs => getBalance_all A n c e he hmc hC w hs)
  have RBalance := Lib.hid (fun w => refGetBalance_all n e he (by omega) w)
  have HAccount := Lib.hid (fun w hs => getAccount_all A n c e he hmc hC w hs)
  have RAccount := Lib.hid (fun w => refGetAccount_all n e he (by omega) w)
  have HTransfer := Lib.hid (fun w hs => getTransfer_all A n c e he hmc hC w hs)
  have RTransfer := Lib.hid (fun w => refGetTransfer_all n e he (by omega) w)
  have RX := Lib.hid (fun w => rfixed_any w)
  clear he hmc hC
  generalize gv n 40 (num e 0 8) = fv0 at *
  generalize gv n 40 (num e 8 8) = fv1 at *
  generalize gv n 40 (num e 16 8) = fv2 at *
  generalize gv n 40 (num e 24 8) = fv3 at *
  generalize gv n 40 (num e 32 4) = fv4 at *
  generalize gv n 40 (num e 36 4) = fv5 at *
  generalize gv n 8 (num e 0 4) = rv0 at *
  generalize gv n 8 (num e 4 4) = rv1 at *
  generalize gv n 72 (num e 0 8) = bv0 at *
  generalize gv n 72 (num e 8 8) = bv1 at *
  generalize gv n 72 (num e 16 8) = bv2 at *
  generalize gv n 72 (num e 24 8) = bv3 at *
  generalize gv n 72 (num e 32 8) = bv4 at *
  generalize gv n 72 (num e 40 8) = bv5 at *
  generalize gv n 72 (num e 48 8) = bv6 at *
  generalize gv n 72 (num e 56 8) = bv7 at *
  generalize gv n 72 (num e 64 8) = bv8 at *
  generalize gv n 104 (num e 0 8) = av0 at *
  generalize gv n 104 (num e 8 8) = av1 at *
  generalize gv n 104 (num e 16 8) = av2 at *
  generalize gv n 104 (num e 24 8) = av3 at *
  generalize gv n 104 (num e 32 8) = av4 at *
  generalize gv n 104 (num e 40 8) = av5 at *
  generalize gv n 104 (num e 48 8) = av6 at *
  generalize gv n 104 (num e 56 8) = av7 at *
  generalize gv n 104 (num e 64 8) = av8 at *
  generalize gv n 104 (num e 72 8) = av9 at *
  generalize gv n 104 (num e 80 8) = av10 at *
  generalize gv n 104 (num e 88 4) = av11 at *
  generalize gv n 104 (num e 92 2) = av12 at *
  generalize gv n 104 (num e 94 2) = av13 at *
  generalize gv n 104 (num e 96 8) = av14 at *
  generalize gv n 108 (num e 0 8) = tv0 at *
  generalize gv n 108 (num e 8 8) = tv1 at *
  generalize gv n 108 (num e 16 8) = tv2 at *
  generalize gv n 108 (num e 24 8) = tv3 at *
  generalize gv n 108 (num e 32 8) = tv4 at *
  generalize gv n 108 (num e 40 8) = tv5 at *
  generalize gv n 108 (num e 48 8) = tv6 at *
  generalize gv n 108 (num e 56 8) = tv7 at *
  generalize gv n 108 (num e 64 8) = tv8 at *
  generalize gv n 108 (num e 72 8) = tv9 at *
  generalize gv n 108 (num e 80 8) = tv10 at *
  generalize gv n 108 (num e 88 4) = tv11 at *
  generalize gv n 108 (num e 92 4) = tv12 at *
  generalize gv n 108 (num e 96 2) = tv13 at *
  generalize gv n 108 (num e 98 2) = tv14 at *
  generalize gv n 108 (num e 100 8) = tv15 at *
  generalize decide (n = 40) = fvb at *
  generalize decide (n = 8) = rvb at *
  generalize decide (n = 72) = bvb at *
  generalize decide (n = 104) = avb at *
  generalize decide (n = 108) = tvb at *
  have hq := conv8 hs c
  have s_ := Lib.hid hs
  clear hs
  have hb0 := Below.refl w.heap.size w
  go_enter Try.func6, Try.ntmps6
  replace hb0 := Lib.hid hb0
  go_wp2_with fail
  refine (HAccount.out _ s_.out).mono ?_
  rintro e w_1 ⟨rfl, hb_1⟩
  have z_1 := hb_1.size
  try simp at z_1
  have t_ := hb0.out
  have hB_1 := bel_eld (w := w) (X := _) (by repeat (first | exact Below.refl _ _ | assumption | refine below_drewN ?_ _ | refine bel_grow ?_ _ | refine Below.drew ?_ | refine bel_alloc ?_ _ | refine bel_set ?_ (by first | exact Nat.le_refl _ | (simp; done) | (simp; omega) | omega) _ | refine bel_trans ?_ (by assumption))) hb_1
  clear t_
  have hP_ := bel_eld (w := w) (X := _) (by first | ((repeat (first | with_reducible exact Below.refl _ _ | with_reducible assumption | (with_reducible refine bel_set ?_ (by first | exact Nat.le_refl _ | (simp; done) | (simp; omega) | omega) _) | with_reducible refine bel_grow ?_ _ | with_reducible refine Below.drew ?_ | with_reducible refine below_drewN ?_ _ | with_reducible refine bel_alloc ?_ _ | with_reducible refine bel_trans ?_ (by assumption))); done) | (repeat (first | exact Below.refl _ _ | assumption | refine below_drewN ?_ _ | refine bel_grow ?_ _ | refine Below.drew ?_ | refine bel_alloc ?_ _ | refine bel_set ?_ (by first | exact Nat.le_refl _ | (simp; done) | (simp; omega) | omega) _ | refine bel_trans ?_ (by assumption)))) hb_1
  have k_s_ := Lib.hid (s_.out.below hP_)
  clear s_
  have s_ := k_s_
  clear k_s_
  clear hP_
  clear hb0 hb_1
  replace hB_1 := Lib.hid hB_1
  go_wp2_with fail
  refine (RAccount.out _).mono ?_
  rintro e w_2 ⟨rfl, hb_2⟩
  have z_2 := hb_2.size
  try simp at z_2
  have t_ := hB_1.out
  have hB_2 := bel_eld (w := w) (X := _) (by repeat (first | exact Below.refl _ _ | assumption | refine below_drewN ?_ _ | refine bel_grow ?_ _ | refine Below.drew ?_ | refine bel_alloc ?_ _ | refine bel_set ?_ (by first | exact Nat.le_refl _ | (simp; done) | (simp; omega) | omega) _ | refine bel_trans ?_ (by assumption))) hb_2
  clear t_
  have hP_ := bel_eld (w := w_1) (X := _) (by first | ((repeat (first | with_reducible exact Below.refl _ _ | with_reducible assumption | (with_reducible refine bel_set ?_ (by first | exact Nat.le_refl _ | (simp; done) | (simp; omega) | omega) _) | with_reducible refine bel_grow ?_ _ | with_reducible refine Below.drew ?_ | with_reducible refine below_drewN ?_ _ | with_reducible refine bel_alloc ?_ _ | with_reducible refine bel_trans ?_ (by assumption))); done) | (repeat (first | exact Below.refl _ _ | assumption | refine below_drewN ?_ _ | refine bel_grow ?_ _ | refine Below.drew ?_ | refine bel_alloc ?_ _ | refine bel_set ?_ (by first | exact Nat.le_refl _ | (simp; done) | (simp; omega) | omega) _ | refine bel_trans ?_ (by assumption)))) hb_2
  have k_s_ := Lib.hid (s_.out.below hP_)
  clear s_
  have s_ := k_s_
  clear k_s_
  have g_a1 : Blk w_2 (w_1.heap.size) 56 #[.int .u64 av0, .int .u64 av1, .int .u64 av2, .int .u64 av3, .int .u64 av4, .int .u64 av5, .int .u64 av6, .int .u64 av7, .int .u64 av8, .int .u64 av9, .int .u64 av10, .int .u32 av11, .int .u16 av12, .int .u16 av13, .int .u64 av14] := by
    refine Blk.kept ?_ hb_2
    (repeat (first | with_reducible assumption | (with_reducible refine Blk.new' ?_; first | with_reducible rfl | (simp; done)) | with_reducible refine Blk.alloc ?_ _ | with_reducible refine Blk.grow ?_ _ | with_reducible refine Blk.drew ?_ | with_reducible refine Blk.drewN ?_ _ | (with_reducible refine Blk.far ?_ (by first | (dsimp only; omega) | (simp; omega)) _) | (with_reducible apply Blk.two) | (with_reducible refine Blk.set' ?_ _ _ ?_) | (with_reducible rfl) | rfl))
  clear hP_
  clear hB_1 hb_2
  have f_a1 := g_a1
  clear g_a1
  have a1_0 := (f_a1).cell 0
  have a1_1 := (f_a1).cell 1
  have a1_2 := (f_a1).cell 2
  have a1_3 := (f_a1).cell 3
  have a1_4 := (f_a1).cell 4
  have a1_5 := (f_a1).cell 5
  have a1_6 := (f_a1).cell 6
  have a1_7 := (f_a1).cell 7
  have a1_8 := (f_a1).cell 8
  have a1_9 := (f_a1).cell 9
  have a1_10 := (f_a1).cell 10
  have a1_11 := (f_a1).cell 11
  have a1_12 := (f_a1).cell 12
  have a1_13 := (f_a1).cell 13
  have a1_14 := (f_a1).cell 14
  have a1_f0 := (f_a1).frozen 0
  have a1_f1 := (f_a1).frozen 1
  have a1_f2 := (f_a1).frozen 2
  have a1_f3 := (f_a1).frozen 3
  have a1_f4 := (f_a1).frozen 4
  have a1_f5 := (f_a1).frozen 5
  have a1_f6 := (f_a1).frozen 6
  have a1_f7 := (f_a1).frozen 7
  have a1_f8 := (f_a1).frozen 8
  have a1_f9 := (f_a1).frozen 9
  have a1_f10 := (f_a1).frozen 10
  have a1_f11 := (f_a1).frozen 11
  have a1_f12 := (f_a1).frozen 12
  have a1_f13 := (f_a1).frozen 13
  have a1_f14 := (f_a1).frozen 14
  have a1_l := (f_a1).lt
  replace f_a1 := Lib.hid f_a1
  replace hB_2 := Lib.hid hB_2
  as_aux_lemma =>
    go_wp2_with fail
    refine (HTransfer.out _ (s_.out.below (by first | ((repeat (first | with_reducible exact Below.refl _ _ | with_reducible assumption | (with_reducible refine bel_set ?_ (by first | exact Nat.le_refl _ | (simp; done) | (simp; omega) | omega) _) | with_reducible refine bel_grow ?_ _ | with_reducible refine Below.drew ?_ | with_reducible refine below_drewN ?_ _ | with_reducible refine bel_alloc ?_ _ | with_reducible refine bel_trans ?_ (by assumption))); done) | (repeat (first | exact Below.refl _ _ | assumption | refine below_drewN ?_ _ | refine bel_grow ?_ _ | refine Below.drew ?_ | refine bel_alloc ?_ _ | refine bel_set ?_ (by first | exact Nat.le_refl _ | (simp; done) | (simp; omega) | omega) _ | refine bel_trans ?_ (by assumption)))))).mono ?_
    rintro e w_3 ⟨rfl, hb_3⟩
    have z_3 := hb_3.size
    try simp at z_3
    have t_ := hB_2.out
    have hB_3 := bel_eld (w := w) (X := _) (by repeat (first | exact Below.refl _ _ | assumption | refine below_drewN ?_ _ | refine bel_grow ?_ _ | refine Below.drew ?_ | refine bel_alloc ?_ _ | refine bel_set ?_ (by first | exact Nat.le_refl _ | (simp; done) | (simp; omega) | omega) _ | refine bel_trans ?_ (by assumption))) hb_3
    clear t_
    have hP_ := bel_eld (w := w_2) (X := _) (by first | ((repeat (first | with_reducible exact Below.refl _ _ | with_reducible assumption | (with_reducible refine bel_set ?_ (by first | exact Nat.le_refl _ | (simp; done) | (simp; omega) | omega) _) | with_reducible refine bel_grow ?_ _ | with_reducible refine Below.drew ?_ | with_reducible refine below_drewN ?_ _ | with_reducible refine bel_alloc ?_ _ | with_reducible refine bel_trans ?_ (by assumption))); done) | (repeat (first | exact Below.refl _ _ | assumption | refine below_drewN ?_ _ | refine bel_grow ?_ _ | refine Below.drew ?_ | refine bel_alloc ?_ _ | refine bel_set ?_ (by first | exact Nat.le_refl _ | (simp; done) | (simp; omega) | omega) _ | refine bel_trans ?_ (by assumption)))) hb_3
    have k_s_ := Lib.hid (s_.out.below hP_)
    clear s_
    have s_ := k_s_
    clear k_s_
    have t_a1 := f_a1.out
    have g_a1 : Blk w_3 (w_1.heap.size) 56 #[.int .u64 av0, .int .u64 av1, .int .u64 av2, .int .u64 av3, .int .u64 av4, .int .u64 av5, .int .u64 av6, .int .u64 av7, .int .u64 av8, .int .u64 av9, .int .u64 av10, .int .u32 av11, .int .u16 av12, .int .u16 av13, .int .u64 av14] := Blk.kept t_a1 hP_
    have g_a2 : Blk w_3 (w_2.heap.size) 56 #[.int .u64 av0, .int .u64 av1, .int .u64 av2, .int .u64 av3, .int .u64 av4, .int .u64 av5, .int .u64 av6, .int .u64 av7, .int .u64 av8, .int .u64 av9, .int .u64 av10, .int .u32 av11, .int .u16 av12, .int .u16 av13, .int .u64 av14] := by
      refine Blk.kept ?_ hb_3
      (repeat (first | with_reducible assumption | (with_reducible refine Blk.new' ?_; first | with_reducible rfl | (simp; done)) | with_reducible refine Blk.alloc ?_ _ | with_reducible refine Blk.grow ?_ _ | with_reducible refine Blk.drew ?_ | with_reducible refine Blk.drewN ?_ _ | (with_reducible refine Blk.far ?_ (by first | (dsimp only; omega) | (simp; omega)) _) | (with_reducible apply Blk.two) | (with_reducible refine Blk.set' ?_ _ _ ?_) | (with_reducible rfl) | rfl))
    clear hP_
    clear f_a1 a1_l a1_0 a1_1 a1_2 a1_3 a1_4 a1_5 a1_6 a1_7 a1_8 a1_9 a1_10 a1_11 a1_12 a1_13 a1_14 a1_f0 a1_f1 a1_f2 a1_f3 a1_f4 a1_f5 a1_f6 a1_f7 a1_f8 a1_f9 a1_f10 a1_f11 a1_f12 a1_f13 a1_f14 t_a1 hB_2 hb_3
    have f_a1 := g_a1
    clear g_a1
    have f_a2 := g_a2
    clear g_a2
    have a1_0 := (f_a1).cell 0
    have a1_1 := (f_a1).cell 1
    have a1_2 := (f_a1).cell 2
    have a1_3 := (f_a1).cell 3
    have a1_4 := (f_a1).cell 4
    have a1_5 := (f_a1).cell 5
    have a1_6 := (f_a1).cell 6
    have a1_7 := (f_a1).cell 7
    have a1_8 := (f_a1).cell 8
    have a1_9 := (f_a1).cell 9
    have a1_10 := (f_a1).cell 10
    have a1_11 := (f_a1).cell 11
    have a1_12 := (f_a1).cell 12
    have a1_13 := (f_a1).cell 13
    have a1_14 := (f_a1).cell 14
    have a1_f0 := (f_a1).frozen 0
    have a1_f1 := (f_a1).frozen 1
    have a1_f2 := (f_a1).frozen 2
    have a1_f3 := (f_a1).frozen 3
    have a1_f4 := (f_a1).frozen 4
    have a1_f5 := (f_a1).frozen 5
    have a1_f6 := (f_a1).frozen 6
    have a1_f7 := (f_a1).frozen 7
    have a1_f8 := (f_a1).frozen 8
    have a1_f9 := (f_a1).frozen 9
    have a1_f10 := (f_a1).frozen 10
    have a1_f11 := (f_a1).frozen 11
    have a1_f12 := (f_a1).frozen 12
    have a1_f13 := (f_a1).frozen 13
    have a1_f14 := (f_a1).frozen 14
    have a1_l := (f_a1).lt
    replace f_a1 := Lib.hid f_a1
    have a2_0 := (f_a2).cell 0
    have a2_1 := (f_a2).cell 1
    have a2_2 := (f_a2).cell 2
    have a2_3 := (f_a2).cell 3
    have a2_4 := (f_a2).cell 4
    have a2_5 := (f_a2).cell 5
    have a2_6 := (f_a2).cell 6
    have a2_7 := (f_a2).cell 7
    have a2_8 := (f_a2).cell 8
    have a2_9 := (f_a2).cell 9
    have a2_10 := (f_a2).cell 10
    have a2_11 := (f_a2).cell 11
    have a2_12 := (f_a2).cell 12
    have a2_13 := (f_a2).cell 13
    have a2_14 := (f_a2).cell 14
    have a2_f0 := (f_a2).frozen 0
    have a2_f1 := (f_a2).frozen 1
    have a2_f2 := (f_a2).frozen 2
    have a2_f3 := (f_a2).frozen 3
    have a2_f4 := (f_a2).frozen 4
    have a2_f5 := (f_a2).frozen 5
    have a2_f6 := (f_a2).frozen 6
    have a2_f7 := (f_a2).frozen 7
    have a2_f8 := (f_a2).frozen 8
    have a2_f9 := (f_a2).frozen 9
    have a2_f10 := (f_a2).frozen 10
    have a2_f11 := (f_a2).frozen 11
    have a2_f12 := (f_a2).frozen 12
    have a2_f13 := (f_a2).frozen 13
    have a2_f14 := (f_a2).frozen 14
    have a2_l := (f_a2).lt
    replace f_a2 := Lib.hid f_a2
    replace hB_3 := Lib.hid hB_3
    go_wp2_with fail
    refine (RTransfer.out _).mono ?_
    rintro e w_4 ⟨rfl, hb_4⟩
    have z_4 := hb_4.size
    try simp at z_4
    have t_ := hB_3.out
    have hB_4 := bel_eld (w := w) (X := _) (by repeat (first | exact Below.refl _ _ | assumption | refine below_drewN ?_ _ | refine bel_grow ?_ _ | refine Below.drew ?_ | refine bel_alloc ?_ _ | refine bel_set ?_ (by first | exact Nat.le_refl _ | (simp; done) | (simp; omega) | omega) _ | refine bel_trans ?_ (by assumption))) hb_4
    clear t_
    have hP_ := bel_eld (w := w_3) (X := _) (by first | ((repeat (first | with_reducible exact Below.refl _ _ | with_reducible assumption | (with_reducible refine bel_set ?_ (by first | exact Nat.le_refl _ | (simp; done) | (simp; omega) | omega) _) | with_reducible refine bel_grow ?_ _ | with_reducible refine Below.drew ?_ | with_reducible refine below_drewN ?_ _ | with_reducible refine bel_alloc ?_ _ | with_reducible refine bel_trans ?_ (by assumption))); done) | (repeat (first | exact Below.refl _ _ | assumption | refine below_drewN ?_ _ | refine bel_grow ?_ _ | refine Below.drew ?_ | refine bel_alloc ?_ _ | refine bel_set ?_ (by first | exact Nat.le_refl _ | (simp; done) | (simp; omega) | omega) _ | refine bel_trans ?_ (by assumption)))) hb_4
    have k_s_ := Lib.hid (s_.out.below hP_)
    clear s_
    have s_ := k_s_
    clear k_s_
    have t_a1 := f_a1.out
    have t_a2 := f_a2.out
    have g_a1 : Blk w_4 (w_1.heap.size) 56 #[.int .u64 av0, .int .u64 av1, .int .u64 av2, .int .u64 av3, .int .u64 av4, .int .u64 av5, .int .u64 av6, .int .u64 av7, .int .u64 av8, .int .u64 av9, .int .u64 av10, .int .u32 av11, .int .u16 av12, .int .u16 av13, .int .u64 av14] := Blk.kept t_a1 hP_
    have g_a2 : Blk w_4 (w_2.heap.size) 56 #[.int .u64 av0, .int .u64 av1, .int .u64 av2, .int .u64 av3, .int .u64 av4, .int .u64 av5, .int .u64 av6, .int .u64 av7, .int .u64 av8, .int .u64 av9, .int .u64 av10, .int .u32 av11, .int .u16 av12, .int .u16 av13, .int .u64 av14] := Blk.kept t_a2 hP_
    have g_t1 : Blk w_4 (w_3.heap.size) 66 #[.int .u64 tv0, .int .u64 tv1, .int .u64 tv2, .int .u64 tv3, .int .u64 tv4, .int .u64 tv5, .int .u64 tv6, .int .u64 tv7, .int .u64 tv8, .int .u64 tv9, .int .u64 tv10, .int .u32 tv11, .int .u32 tv12, .int .u16 tv13, .int .u16 tv14, .int .u64 tv15] := by
      refine Blk.kept ?_ hb_4
      (repeat (first | with_reducible assumption | (with_reducible refine Blk.new' ?_; first | with_reducible rfl | (simp; done)) | with_reducible refine Blk.alloc ?_ _ | with_reducible refine Blk.grow ?_ _ | with_reducible refine Blk.drew ?_ | with_reducible refine Blk.drewN ?_ _ | (with_reducible refine Blk.far ?_ (by first | (dsimp only; omega) | (simp; omega)) _) | (with_reducible apply Blk.two) | (with_reducible refine Blk.set' ?_ _ _ ?_) | (with_reducible rfl) | rfl))
    clear hP_
    clear f_a1 a1_l a1_0 a1_1 a1_2 a1_3 a1_4 a1_5 a1_6 a1_7 a1_8 a1_9 a1_10 a1_11 a1_12 a1_13 a1_14 a1_f0 a1_f1 a1_f2 a1_f3 a1_f4 a1_f5 a1_f6 a1_f7 a1_f8 a1_f9 a1_f10 a1_f11 a1_f12 a1_f13 a1_f14 f_a2 a2_l a2_0 a2_1 a2_2 a2_3 a2_4 a2_5 a2_6 a2_7 a2_8 a2_9 a2_10 a2_11 a2_12 a2_13 a2_14 a2_f0 a2_f1 a2_f2 a2_f3 a2_f4 a2_f5 a2_f6 a2_f7 a2_f8 a2_f9 a2_f10 a2_f11 a2_f12 a2_f13 a2_f14 t_a1 t_a2 hB_3 hb_4
    have f_a1 := g_a1
    clear g_a1
    have f_a2 := g_a2
    clear g_a2
    have f_t1 := g_t1
    clear g_t1
    have a1_0 := (f_a1).cell 0
    have a1_1 := (f_a1).cell 1
    have a1_2 := (f_a1).cell 2
    have a1_3 := (f_a1).cell 3
    have a1_4 := (f_a1).cell 4
    have a1_5 := (f_a1).cell 5
    have a1_6 := (f_a1).cell 6
    have a1_7 := (f_a1).cell 7
    have a1_8 := (f_a1).cell 8
    have a1_9 := (f_a1).cell 9
    have a1_10 := (f_a1).cell 10
    have a1_11 := (f_a1).cell 11
    have a1_12 := (f_a1).cell 12
    have a1_13 := (f_a1).cell 13
    have a1_14 := (f_a1).cell 14
    have a1_f0 := (f_a1).frozen 0
    have a1_f1 := (f_a1).frozen 1
    have a1_f2 := (f_a1).frozen 2
    have a1_f3 := (f_a1).frozen 3
    have a1_f4 := (f_a1).frozen 4
    have a1_f5 := (f_a1).frozen 5
    have a1_f6 := (f_a1).frozen 6
    have a1_f7 := (f_a1).frozen 7
    have a1_f8 := (f_a1).frozen 8
    have a1_f9 := (f_a1).frozen 9
    have a1_f10 := (f_a1).frozen 10
    have a1_f11 := (f_a1).frozen 11
    have a1_f12 := (f_a1).frozen 12
    have a1_f13 := (f_a1).frozen 13
    have a1_f14 := (f_a1).frozen 14
    have a1_l := (f_a1).lt
    replace f_a1 := Lib.hid f_a1
    have a2_0 := (f_a2).cell 0
    have a2_1 := (f_a2).cell 1
    have a2_2 := (f_a2).cell 2
    have a2_3 := (f_a2).cell 3
    have a2_4 := (f_a2).cell 4
    have a2_5 := (f_a2).cell 5
    have a2_6 := (f_a2).cell 6
    have a2_7 := (f_a2).cell 7
    have a2_8 := (f_a2).cell 8
    have a2_9 := (f_a2).cell 9
    have a2_10 := (f_a2).cell 10
    have a2_11 := (f_a2).cell 11
    have a2_12 := (f_a2).cell 12
    have a2_13 := (f_a2).cell 13
    have a2_14 := (f_a2).cell 14
    have a2_f0 := (f_a2).frozen 0
    have a2_f1 := (f_a2).frozen 1
    have a2_f2 := (f_a2).frozen 2
    have a2_f3 := (f_a2).frozen 3
    have a2_f4 := (f_a2).frozen 4
    have a2_f5 := (f_a2).frozen 5
    have a2_f6 := (f_a2).frozen 6
    have a2_f7 := (f_a2).frozen 7
    have a2_f8 := (f_a2).frozen 8
    have a2_f9 := (f_a2).frozen 9
    have a2_f10 := (f_a2).frozen 10
    have a2_f11 := (f_a2).frozen 11
    have a2_f12 := (f_a2).frozen 12
    have a2_f13 := (f_a2).frozen 13
    have a2_f14 := (f_a2).frozen 14
    have a2_l := (f_a2).lt
    replace f_a2 := Lib.hid f_a2
    have t1_0 := (f_t1).cell 0
    have t1_1 := (f_t1).cell 1
    have t1_2 := (f_t1).cell 2
    have t1_3 := (f_t1).cell 3
    have t1_4 := (f_t1).cell 4
    have t1_5 := (f_t1).cell 5
    have t1_6 := (f_t1).cell 6
    have t1_7 := (f_t1).cell 7
    have t1_8 := (f_t1).cell 8
    have t1_9 := (f_t1).cell 9
    have t1_10 := (f_t1).cell 10
    have t1_11 := (f_t1).cell 11
    have t1_12 := (f_t1).cell 12
    have t1_13 := (f_t1).cell 13
    have t1_14 := (f_t1).cell 14
    have t1_15 := (f_t1).cell 15
    have t1_f0 := (f_t1).frozen 0
    have t1_f1 := (f_t1).frozen 1
    have t1_f2 := (f_t1).frozen 2
    have t1_f3 := (f_t1).frozen 3
    have t1_f4 := (f_t1).frozen 4
    have t1_f5 := (f_t1).frozen 5
    have t1_f6 := (f_t1).frozen 6
    have t1_f7 := (f_t1).frozen 7
    have t1_f8 := (f_t1).frozen 8
    have t1_f9 := (f_t1).frozen 9
    have t1_f10 := (f_t1).frozen 10
    have t1_f11 := (f_t1).frozen 11
    have t1_f12 := (f_t1).frozen 12
    have t1_f13 := (f_t1).frozen 13
    have t1_f14 := (f_t1).frozen 14
    have t1_f15 := (f_t1).frozen 15
    have t1_l := (f_t1).lt
    replace f_t1 := Lib.hid f_t1
    replace hB_4 := Lib.hid hB_4
    as_aux_lemma =>
      go_wp2_with fail
      refine (HBalance.out _ (s_.out.below (by first | ((repeat (first | with_reducible exact Below.refl _ _ | with_reducible assumption | (with_reducible refine bel_set ?_ (by first | exact Nat.le_refl _ | (simp; done) | (simp; omega) | omega) _) | with_reducible refine bel_grow ?_ _ | with_reducible refine Below.drew ?_ | with_reducible refine below_drewN ?_ _ | with_reducible refine bel_alloc ?_ _ | with_reducible refine bel_trans ?_ (by assumption))); done) | (repeat (first | exact Below.refl _ _ | assumption | refine below_drewN ?_ _ | refine bel_grow ?_ _ | refine Below.drew ?_ | refine bel_alloc ?_ _ | refine bel_set ?_ (by first | exact Nat.le_refl _ | (simp; done) | (simp; omega) | omega) _ | refine bel_trans ?_ (by assumption)))))).mono ?_
      rintro e w_5 ⟨rfl, hb_5⟩
      have z_5 := hb_5.size
      try simp at z_5
      have t_ := hB_4.out
      have hB_5 := bel_eld (w := w) (X := _) (by repeat (first | exact Below.refl _ _ | assumption | refine below_drewN ?_ _ | refine bel_grow ?_ _ | refine Below.drew ?_ | refine bel_alloc ?_ _ | refine bel_set ?_ (by first | exact Nat.le_refl _ | (simp; done) | (simp; omega) | omega) _ | refine bel_trans ?_ (by assumption))) hb_5
      clear t_
      have hP_ := bel_eld (w := w_4) (X := _) (by first | ((repeat (first | with_reducible exact Below.refl _ _ | with_reducible assumption | (with_reducible refine bel_set ?_ (by first | exact Nat.le_refl _ | (simp; done) | (simp; omega) | omega) _) | with_reducible refine bel_grow ?_ _ | with_reducible refine Below.drew ?_ | with_reducible refine below_drewN ?_ _ | with_reducible refine bel_alloc ?_ _ | with_reducible refine bel_trans ?_ (by assumption))); done) | (repeat (first | exact Below.refl _ _ | assumption | refine below_drewN ?_ _ | refine bel_grow ?_ _ | refine Below.drew ?_ | refine bel_alloc ?_ _ | refine bel_set ?_ (by first | exact Nat.le_refl _ | (simp; done) | (simp; omega) | omega) _ | refine bel_trans ?_ (by assumption)))) hb_5
      have k_s_ := Lib.hid (s_.out.below hP_)
      clear s_
      have s_ := k_s_
      clear k_s_
      clear hP_
      clear f_a1 a1_l a1_0 a1_1 a1_2 a1_3 a1_4 a1_5 a1_6 a1_7 a1_8 a1_9 a1_10 a1_11 a1_12 a1_13 a1_14 a1_f0 a1_f1 a1_f2 a1_f3 a1_f4 a1_f5 a1_f6 a1_f7 a1_f8 a1_f9 a1_f10 a1_f11 a1_f12 a1_f13 a1_f14 f_a2 a2_l a2_0 a2_1 a2_2 a2_3 a2_4 a2_5 a2_6 a2_7 a2_8 a2_9 a2_10 a2_11 a2_12 a2_13 a2_14 a2_f0 a2_f1 a2_f2 a2_f3 a2_f4 a2_f5 a2_f6 a2_f7 a2_f8 a2_f9 a2_f10 a2_f11 a2_f12 a2_f13 a2_f14 f_t1 t1_l t1_0 t1_1 t1_2 t1_3 t1_4 t1_5 t1_6 t1_7 t1_8 t1_9 t1_10 t1_11 t1_12 t1_13 t1_14 t1_15 t1_f0 t1_f1 t1_f2 t1_f3 t1_f4 t1_f5 t1_f6 t1_f7 t1_f8 t1_f9 t1_f10 t1_f11 t1_f12 t1_f13 t1_f14 t1_f15 hB_4 hb_5
      replace hB_5 := Lib.hid hB_5
      go_wp2_with fail
      refine (RBalance.out _).mono ?_
      rintro e w_6 ⟨rfl, hb_6⟩
      have z_6 := hb_6.size
      try simp at z_6
      have t_ := hB_5.out
      have hB_6 := bel_eld (w := w) (X := _) (by repeat (first | exact Below.refl _ _ | assumption | refine below_drewN ?_ _ | refine bel_grow ?_ _ | refine Below.drew ?_ | refine bel_alloc ?_ _ | refine bel_set ?_ (by first | exact Nat.le_refl _ | (simp; done) | (simp; omega) | omega) _ | refine bel_trans ?_ (by assumption))) hb_6
      clear t_
      have hP_ := bel_eld (w := w_5) (X := _) (by first | ((repeat (first | with_reducible exact Below.refl _ _ | with_reducible assumption | (with_reducible refine bel_set ?_ (by first | exact Nat.le_refl _ | (simp; done) | (simp; omega) | omega) _) | with_reducible refine bel_grow ?_ _ | with_reducible refine Below.drew ?_ | with_reducible refine below_drewN ?_ _ | with_reducible refine bel_alloc ?_ _ | with_reducible refine bel_trans ?_ (by assumption))); done) | (repeat (first | exact Below.refl _ _ | assumption | refine below_drewN ?_ _ | refine bel_grow ?_ _ | refine Below.drew ?_ | refine bel_alloc ?_ _ | refine bel_set ?_ (by first | exact Nat.le_refl _ | (simp; done) | (simp; omega) | omega) _ | refine bel_trans ?_ (by assumption)))) hb_6
      have k_s_ := Lib.hid (s_.out.below hP_)
      clear s_
      have s_ := k_s_
      clear k_s_
      have g_x1 : Blk w_6 (w_5.heap.size) 28 #[.int .u64 bv0, .int .u64 bv1, .int .u64 bv2, .int .u64 bv3, .int .u64 bv4, .int .u64 bv5, .int .u64 bv6, .int .u64 bv7, .int .u64 bv8] := by
        refine Blk.kept ?_ hb_6
        (repeat (first | with_reducible assumption | (with_reducible refine Blk.new' ?_; first | with_reducible rfl | (simp; done)) | with_reducible refine Blk.alloc ?_ _ | with_reducible refine Blk.grow ?_ _ | with_reducible refine Blk.drew ?_ | with_reducible refine Blk.drewN ?_ _ | (with_reducible refine Blk.far ?_ (by first | (dsimp only; omega) | (simp; omega)) _) | (with_reducible apply Blk.two) | (with_reducible refine Blk.set' ?_ _ _ ?_) | (with_reducible rfl) | rfl))
      clear hP_
      clear hB_5 hb_6
      have f_x1 := g_x1
      clear g_x1
      have x1_0 := (f_x1).cell 0
      have x1_1 := (f_x1).cell 1
      have x1_2 := (f_x1).cell 2
      have x1_3 := (f_x1).cell 3
      have x1_4 := (f_x1).cell 4
      have x1_5 := (f_x1).cell 5
      have x1_6 := (f_x1).cell 6
      have x1_7 := (f_x1).cell 7
      have x1_8 := (f_x1).cell 8
      have x1_f0 := (f_x1).frozen 0
      have x1_f1 := (f_x1).frozen 1
      have x1_f2 := (f_x1).frozen 2
      have x1_f3 := (f_x1).frozen 3
      have x1_f4 := (f_x1).frozen 4
      have x1_f5 := (f_x1).frozen 5
      have x1_f6 := (f_x1).frozen 6
      have x1_f7 := (f_x1).frozen 7
      have x1_f8 := (f_x1).frozen 8
      have x1_l := (f_x1).lt
      replace f_x1 := Lib.hid f_x1
      replace hB_6 := Lib.hid hB_6
      go_wp2_with fail
      refine (HFilter.out _ (s_.out.below (by first | ((repeat (first | with_reducible exact Below.refl _ _ | with_reducible assumption | (with_reducible refine bel_set ?_ (by first | exact Nat.le_refl _ | (simp; done) | (simp; omega) | omega) _) | with_reducible refine bel_grow ?_ _ | with_reducible refine Below.drew ?_ | with_reducible refine below_drewN ?_ _ | with_reducible refine bel_alloc ?_ _ | with_reducible refine bel_trans ?_ (by assumption))); done) | (repeat (first | exact Below.refl _ _ | assumption | refine below_drewN ?_ _ | refine bel_grow ?_ _ | refine Below.drew ?_ | refine bel_alloc ?_ _ | refine bel_set ?_ (by first | exact Nat.le_refl _ | (simp; done) | (simp; omega) | omega) _ | refine bel_trans ?_ (by assumption)))))).mono ?_
      rintro e w_7 ⟨rfl, hb_7⟩
      have z_7 := hb_7.size
      try simp at z_7
      have t_ := hB_6.out
      have hB_7 := bel_eld (w := w) (X := _) (by repeat (first | exact Below.refl _ _ | assumption | refine below_drewN ?_ _ | refine bel_grow ?_ _ | refine Below.drew ?_ | refine bel_alloc ?_ _ | refine bel_set ?_ (by first | exact Nat.le_refl _ | (simp; done) | (simp; omega) | omega) _ | refine bel_trans ?_ (by assumption))) hb_7
      clear t_
      have hP_ := bel_eld (w := w_6) (X := _) (by first | ((repeat (first | with_reducible exact Below.refl _ _ | with_reducible assumption | (with_reducible refine bel_set ?_ (by first | exact Nat.le_refl _ | (simp; done) | (simp; omega) | omega) _) | with_reducible refine bel_grow ?_ _ | with_reducible refine Below.drew ?_ | with_reducible refine below_drewN ?_ _ | with_reducible refine bel_alloc ?_ _ | with_reducible refine bel_trans ?_ (by assumption))); done) | (repeat (first | exact Below.refl _ _ | assumption | refine below_drewN ?_ _ | refine bel_grow ?_ _ | refine Below.drew ?_ | refine bel_alloc ?_ _ | refine bel_set ?_ (by first | exact Nat.le_refl _ | (simp; done) | (simp; omega) | omega) _ | refine bel_trans ?_ (by assumption)))) hb_7
      have k_s_ := Lib.hid (s_.out.below hP_)
      clear s_
      have s_ := k_s_
      clear k_s_
      have t_x1 := f_x1.out
      have g_x1 : Blk w_7 (w_5.heap.size) 28 #[.int .u64 bv0, .int .u64 bv1, .int .u64 bv2, .int .u64 bv3, .int .u64 bv4, .int .u64 bv5, .int .u64 bv6, .int .u64 bv7, .int .u64 bv8] := Blk.kept t_x1 hP_
      have g_x2 : Blk w_7 (w_6.heap.size) 28 #[.int .u64 bv0, .int .u64 bv1, .int .u64 bv2, .int .u64 bv3, .int .u64 bv4, .int .u64 bv5, .int .u64 bv6, .int .u64 bv7, .int .u64 bv8] := by
        refine Blk.kept ?_ hb_7
        (repeat (first | with_reducible assumption | (with_reducible refine Blk.new' ?_; first | with_reducible rfl | (simp; done)) | with_reducible refine Blk.alloc ?_ _ | with_reducible refine Blk.grow ?_ _ | with_reducible refine Blk.drew ?_ | with_reducible refine Blk.drewN ?_ _ | (with_reducible refine Blk.far ?_ (by first | (dsimp only; omega) | (simp; omega)) _) | (with_reducible apply Blk.two) | (with_reducible refine Blk.set' ?_ _ _ ?_) | (with_reducible rfl) | rfl))
      clear hP_
      clear f_x1 x1_l x1_0 x1_1 x1_2 x1_3 x1_4 x1_5 x1_6 x1_7 x1_8 x1_f0 x1_f1 x1_f2 x1_f3 x1_f4 x1_f5 x1_f6 x1_f7 x1_f8 t_x1 hB_6 hb_7
      have f_x1 := g_x1
      clear g_x1
      have f_x2 := g_x2
      clear g_x2
      have x1_0 := (f_x1).cell 0
      have x1_1 := (f_x1).cell 1
      have x1_2 := (f_x1).cell 2
      have x1_3 := (f_x1).cell 3
      have x1_4 := (f_x1).cell 4
      have x1_5 := (f_x1).cell 5
      have x1_6 := (f_x1).cell 6
      have x1_7 := (f_x1).cell 7
      have x1_8 := (f_x1).cell 8
      have x1_f0 := (f_x1).frozen 0
      have x1_f1 := (f_x1).frozen 1
      have x1_f2 := (f_x1).frozen 2
      have x1_f3 := (f_x1).frozen 3
      have x1_f4 := (f_x1).frozen 4
      have x1_f5 := (f_x1).frozen 5
      have x1_f6 := (f_x1).frozen 6
      have x1_f7 := (f_x1).frozen 7
      have x1_f8 := (f_x1).frozen 8
      have x1_l := (f_x1).lt
      replace f_x1 := Lib.hid f_x1
      have x2_0 := (f_x2).cell 0
      have x2_1 := (f_x2).cell 1
      have x2_2 := (f_x2).cell 2
      have x2_3 := (f_x2).cell 3
      have x2_4 := (f_x2).cell 4
      have x2_5 := (f_x2).cell 5
      have x2_6 := (f_x2).cell 6
      have x2_7 := (f_x2).cell 7
      have x2_8 := (f_x2).cell 8
      have x2_f0 := (f_x2).frozen 0
      have x2_f1 := (f_x2).frozen 1
      have x2_f2 := (f_x2).frozen 2
      have x2_f3 := (f_x2).frozen 3
      have x2_f4 := (f_x2).frozen 4
      have x2_f5 := (f_x2).frozen 5
      have x2_f6 := (f_x2).frozen 6
      have x2_f7 := (f_x2).frozen 7
      have x2_f8 := (f_x2).frozen 8
      have x2_l := (f_x2).lt
      replace f_x2 := Lib.hid f_x2
      replace hB_7 := Lib.hid hB_7
      as_aux_lemma =>
        go_wp2_with fail
        refine (RFilter.out _).mono ?_
        rintro e w_8 ⟨rfl, hb_8⟩
        have z_8 := hb_8.size
        try simp at z_8
        have t_ := hB_7.out
        have hB_8 := bel_eld (w := w) (X := _) (by repeat (first | exact Below.refl _ _ | assumption | refine below_drewN ?_ _ | refine bel_grow ?_ _ | refine Below.drew ?_ | refine bel_alloc ?_ _ | refine bel_set ?_ (by first | exact Nat.le_refl _ | (simp; done) | (simp; omega) | omega) _ | refine bel_trans ?_ (by assumption))) hb_8
        clear t_
        have hP_ := bel_eld (w := w_7) (X := _) (by first | ((repeat (first | with_reducible exact Below.refl _ _ | with_reducible assumption | (with_reducible refine bel_set ?_ (by first | exact Nat.le_refl _ | (simp; done) | (simp; omega) | omega) _) | with_reducible refine bel_grow ?_ _ | with_reducible refine Below.drew ?_ | with_reducible refine below_drewN ?_ _ | with_reducible refine bel_alloc ?_ _ | with_reducible refine bel_trans ?_ (by assumption))); done) | (repeat (first | exact Below.refl _ _ | assumption | refine below_drewN ?_ _ | refine bel_grow ?_ _ | refine Below.drew ?_ | refine bel_alloc ?_ _ | refine bel_set ?_ (by first | exact Nat.le_refl _ | (simp; done) | (simp; omega) | omega) _ | refine bel_trans ?_ (by assumption)))) hb_8
        have k_s_ := Lib.hid (s_.out.below hP_)
        clear s_
        have s_ := k_s_
        clear k_s_
        have t_x1 := f_x1.out
        have t_x2 := f_x2.out
        have g_x1 : Blk w_8 (w_5.heap.size) 28 #[.int .u64 bv0, .int .u64 bv1, .int .u64 bv2, .int .u64 bv3, .int .u64 bv4, .int .u64 bv5, .int .u64 bv6, .int .u64 bv7, .int .u64 bv8] := Blk.kept t_x1 hP_
        have g_x2 : Blk w_8 (w_6.heap.size) 28 #[.int .u64 bv0, .int .u64 bv1, .int .u64 bv2, .int .u64 bv3, .int .u64 bv4, .int .u64 bv5, .int .u64 bv6, .int .u64 bv7, .int .u64 bv8] := Blk.kept t_x2 hP_
        have g_f1 : Blk w_8 (w_7.heap.size) 41 #[.int .u64 fv0, .int .u64 fv1, .int .u64 fv2, .int .u64 fv3, .int .u32 fv4, .int .u32 fv5] := by
          refine Blk.kept ?_ hb_8
          (repeat (first | with_reducible assumption | (with_reducible refine Blk.new' ?_; first | with_reducible rfl | (simp; done)) | with_reducible refine Blk.alloc ?_ _ | with_reducible refine Blk.grow ?_ _ | with_reducible refine Blk.drew ?_ | with_reducible refine Blk.drewN ?_ _ | (with_reducible refine Blk.far ?_ (by first | (dsimp only; omega) | (simp; omega)) _) | (with_reducible apply Blk.two) | (with_reducible refine Blk.set' ?_ _ _ ?_) | (with_reducible rfl) | rfl))
        clear hP_
        clear f_x1 x1_l x1_0 x1_1 x1_2 x1_3 x1_4 x1_5 x1_6 x1_7 x1_8 x1_f0 x1_f1 x1_f2 x1_f3 x1_f4 x1_f5 x1_f6 x1_f7 x1_f8 f_x2 x2_l x2_0 x2_1 x2_2 x2_3 x2_4 x2_5 x2_6 x2_7 x2_8 x2_f0 x2_f1 x2_f2 x2_f3 x2_f4 x2_f5 x2_f6 x2_f7 x2_f8 t_x1 t_x2 hB_7 hb_8
        have f_x1 := g_x1
        clear g_x1
        have f_x2 := g_x2
        clear g_x2
        have f_f1 := g_f1
        clear g_f1
        have x1_0 := (f_x1).cell 0
        have x1_1 := (f_x1).cell 1
        have x1_2 := (f_x1).cell 2
        have x1_3 := (f_x1).cell 3
        have x1_4 := (f_x1).cell 4
        have x1_5 := (f_x1).cell 5
        have x1_6 := (f_x1).cell 6
        have x1_7 := (f_x1).cell 7
        have x1_8 := (f_x1).cell 8
        have x1_f0 := (f_x1).frozen 0
        have x1_f1 := (f_x1).frozen 1
        have x1_f2 := (f_x1).frozen 2
        have x1_f3 := (f_x1).frozen 3
        have x1_f4 := (f_x1).frozen 4
        have x1_f5 := (f_x1).frozen 5
        have x1_f6 := (f_x1).frozen 6
        have x1_f7 := (f_x1).frozen 7
        have x1_f8 := (f_x1).frozen 8
        have x1_l := (f_x1).lt
        replace f_x1 := Lib.hid f_x1
        have x2_0 := (f_x2).cell 0
        have x2_1 := (f_x2).cell 1
        have x2_2 := (f_x2).cell 2
        have x2_3 := (f_x2).cell 3
        have x2_4 := (f_x2).cell 4
        have x2_5 := (f_x2).cell 5
        have x2_6 := (f_x2).cell 6
        have x2_7 := (f_x2).cell 7
        have x2_8 := (f_x2).cell 8
        have x2_f0 := (f_x2).frozen 0
        have x2_f1 := (f_x2).frozen 1
        have x2_f2 := (f_x2).frozen 2
        have x2_f3 := (f_x2).frozen 3
        have x2_f4 := (f_x2).frozen 4
        have x2_f5 := (f_x2).frozen 5
        have x2_f6 := (f_x2).frozen 6
        have x2_f7 := (f_x2).frozen 7
        have x2_f8 := (f_x2).frozen 8
        have x2_l := (f_x2).lt
        replace f_x2 := Lib.hid f_x2
        have f1_0 := (f_f1).cell 0
        have f1_1 := (f_f1).cell 1
        have f1_2 := (f_f1).cell 2
        have f1_3 := (f_f1).cell 3
        have f1_4 := (f_f1).cell 4
        have f1_5 := (f_f1).cell 5
        have f1_f0 := (f_f1).frozen 0
        have f1_f1 := (f_f1).frozen 1
        have f1_f2 := (f_f1).frozen 2
        have f1_f3 := (f_f1).frozen 3
        have f1_f4 := (f_f1).frozen 4
        have f1_f5 := (f_f1).frozen 5
        have f1_l := (f_f1).lt
        replace f_f1 := Lib.hid f_f1
        replace hB_8 := Lib.hid hB_8
        go_wp2_with fail
        refine (HResult.out _ (s_.out.below (by first | ((repeat (first | with_reducible exact Below.refl _ _ | with_reducible assumption | (with_reducible refine bel_set ?_ (by first | exact Nat.le_refl _ | (simp; done) | (simp; omega) | omega) _) | with_reducible refine bel_grow ?_ _ | with_reducible refine Below.drew ?_ | with_reducible refine below_drewN ?_ _ | with_reducible refine bel_alloc ?_ _ | with_reducible refine bel_trans ?_ (by assumption))); done) | (repeat (first | exact Below.refl _ _ | assumption | refine below_drewN ?_ _ | refine bel_grow ?_ _ | refine Below.drew ?_ | refine bel_alloc ?_ _ | refine bel_set ?_ (by first | exact Nat.le_refl _ | (simp; done) | (simp; omega) | omega) _ | refine bel_trans ?_ (by assumption)))))).mono ?_
        rintro e w_9 ⟨rfl, hb_9⟩
        have z_9 := hb_9.size
        try simp at z_9
        have t_ := hB_8.out
        have hB_9 := bel_eld (w := w) (X := _) (by repeat (first | exact Below.refl _ _ | assumption | refine below_drewN ?_ _ | refine bel_grow ?_ _ | refine Below.drew ?_ | refine bel_alloc ?_ _ | refine bel_set ?_ (by first | exact Nat.le_refl _ | (simp; done) | (simp; omega) | omega) _ | refine bel_trans ?_ (by assumption))) hb_9
        clear t_
        have hP_ := bel_eld (w := w_8) (X := _) (by first | ((repeat (first | with_reducible exact Below.refl _ _ | with_reducible assumption | (with_reducible refine bel_set ?_ (by first | exact Nat.le_refl _ | (simp; done) | (simp; omega) | omega) _) | with_reducible refine bel_grow ?_ _ | with_reducible refine Below.drew ?_ | with_reducible refine below_drewN ?_ _ | with_reducible refine bel_alloc ?_ _ | with_reducible refine bel_trans ?_ (by assumption))); done) | (repeat (first | exact Below.refl _ _ | assumption | refine below_drewN ?_ _ | refine bel_grow ?_ _ | refine Below.drew ?_ | refine bel_alloc ?_ _ | refine bel_set ?_ (by first | exact Nat.le_refl _ | (simp; done) | (simp; omega) | omega) _ | refine bel_trans ?_ (by assumption)))) hb_9
        have k_s_ := Lib.hid (s_.out.below hP_)
        clear s_
        have s_ := k_s_
        clear k_s_
        have t_x1 := f_x1.out
        have t_x2 := f_x2.out
        have t_f1 := f_f1.out
        have g_x1 : Blk w_9 (w_5.heap.size) 28 #[.int .u64 bv0, .int .u64 bv1, .int .u64 bv2, .int .u64 bv3, .int .u64 bv4, .int .u64 bv5, .int .u64 bv6, .int .u64 bv7, .int .u64 bv8] := Blk.kept t_x1 hP_
        have g_x2 : Blk w_9 (w_6.heap.size) 28 #[.int .u64 bv0, .int .u64 bv1, .int .u64 bv2, .int .u64 bv3, .int .u64 bv4, .int .u64 bv5, .int .u64 bv6, .int .u64 bv7, .int .u64 bv8] := Blk.kept t_x2 hP_
        have g_f1 : Blk w_9 (w_7.heap.size) 41 #[.int .u64 fv0, .int .u64 fv1, .int .u64 fv2, .int .u64 fv3, .int .u32 fv4, .int .u32 fv5] := Blk.kept t_f1 hP_
        have g_f2 : Blk w_9 (w_8.heap.size) 41 #[.int .u64 fv0, .int .u64 fv1, .int .u64 fv2, .int .u64 fv3, .int .u32 fv4, .int .u32 fv5] := by
          refine Blk.kept ?_ hb_9
          (repeat (first | with_reducible assumption | (with_reducible refine Blk.new' ?_; first | with_reducible rfl | (simp; done)) | with_reducible refine Blk.alloc ?_ _ | with_reducible refine Blk.grow ?_ _ | with_reducible refine Blk.drew ?_ | with_reducible refine Blk.drewN ?_ _ | (with_reducible refine Blk.far ?_ (by first | (dsimp only; omega) | (simp; omega)) _) | (with_reducible apply Blk.two) | (with_reducible refine Blk.set' ?_ _ _ ?_) | (with_reducible rfl) | rfl))
        clear hP_
        clear f_x1 x1_l x1_0 x1_1 x1_2 x1_3 x1_4 x1_5 x1_6 x1_7 x1_8 x1_f0 x1_f1 x1_f2 x1_f3 x1_f4 x1_f5 x1_f6 x1_f7 x1_f8 f_x2 x2_l x2_0 x2_1 x2_2 x2_3 x2_4 x2_5 x2_6 x2_7 x2_8 x2_f0 x2_f1 x2_f2 x2_f3 x2_f4 x2_f5 x2_f6 x2_f7 x2_f8 f_f1 f1_l f1_0 f1_1 f1_2 f1_3 f1_4 f1_5 f1_f0 f1_f1 f1_f2 f1_f3 f1_f4 f1_f5 t_x1 t_x2 t_f1 hB_8 hb_9
        have f_x1 := g_x1
        clear g_x1
        have f_x2 := g_x2
        clear g_x2
        have f_f1 := g_f1
        clear g_f1
        have f_f2 := g_f2
        clear g_f2
        have x1_0 := (f_x1).cell 0
        have x1_1 := (f_x1).cell 1
        have x1_2 := (f_x1).cell 2
        have x1_3 := (f_x1).cell 3
        have x1_4 := (f_x1).cell 4
        have x1_5 := (f_x1).cell 5
        have x1_6 := (f_x1).cell 6
        have x1_7 := (f_x1).cell 7
        have x1_8 := (f_x1).cell 8
        have x1_f0 := (f_x1).frozen 0
        have x1_f1 := (f_x1).frozen 1
        have x1_f2 := (f_x1).frozen 2
        have x1_f3 := (f_x1).frozen 3
        have x1_f4 := (f_x1).frozen 4
        have x1_f5 := (f_x1).frozen 5
        have x1_f6 := (f_x1).frozen 6
        have x1_f7 := (f_x1).frozen 7
        have x1_f8 := (f_x1).frozen 8
        have x1_l := (f_x1).lt
        replace f_x1 := Lib.hid f_x1
        have x2_0 := (f_x2).cell 0
        have x2_1 := (f_x2).cell 1
        have x2_2 := (f_x2).cell 2
        have x2_3 := (f_x2).cell 3
        have x2_4 := (f_x2).cell 4
        have x2_5 := (f_x2).cell 5
        have x2_6 := (f_x2).cell 6
        have x2_7 := (f_x2).cell 7
        have x2_8 := (f_x2).cell 8
        have x2_f0 := (f_x2).frozen 0
        have x2_f1 := (f_x2).frozen 1
        have x2_f2 := (f_x2).frozen 2
        have x2_f3 := (f_x2).frozen 3
        have x2_f4 := (f_x2).frozen 4
        have x2_f5 := (f_x2).frozen 5
        have x2_f6 := (f_x2).frozen 6
        have x2_f7 := (f_x2).frozen 7
        have x2_f8 := (f_x2).frozen 8
        have x2_l := (f_x2).lt
        replace f_x2 := Lib.hid f_x2
        have f1_0 := (f_f1).cell 0
        have f1_1 := (f_f1).cell 1
        have f1_2 := (f_f1).cell 2
        have f1_3 := (f_f1).cell 3
        have f1_4 := (f_f1).cell 4
        have f1_5 := (f_f1).cell 5
        have f1_f0 := (f_f1).frozen 0
        have f1_f1 := (f_f1).frozen 1
        have f1_f2 := (f_f1).frozen 2
        have f1_f3 := (f_f1).frozen 3
        have f1_f4 := (f_f1).frozen 4
        have f1_f5 := (f_f1).frozen 5
        have f1_l := (f_f1).lt
        replace f_f1 := Lib.hid f_f1
        have f2_0 := (f_f2).cell 0
        have f2_1 := (f_f2).cell 1
        have f2_2 := (f_f2).cell 2
        have f2_3 := (f_f2).cell 3
        have f2_4 := (f_f2).cell 4
        have f2_5 := (f_f2).cell 5
        have f2_f0 := (f_f2).frozen 0
        have f2_f1 := (f_f2).frozen 1
        have f2_f2 := (f_f2).frozen 2
        have f2_f3 := (f_f2).frozen 3
        have f2_f4 := (f_f2).frozen 4
        have f2_f5 := (f_f2).frozen 5
        have f2_l := (f_f2).lt
        replace f_f2 := Lib.hid f_f2
        replace hB_9 := Lib.hid hB_9
        go_wp2_with fail
        refine (RResult.out _).mono ?_
        rintro e w_10 ⟨rfl, hb_10⟩
        have z_10 := hb_10.size
        try simp at z_10
        have t_ := hB_9.out
        have hB_10 := bel_eld (w := w) (X := _) (by repeat (first | exact Below.refl _ _ | assumption | refine below_drewN ?_ _ | refine bel_grow ?_ _ | refine Below.drew ?_ | refine bel_alloc ?_ _ | refine bel_set ?_ (by first | exact Nat.le_refl _ | (simp; done) | (simp; omega) | omega) _ | refine bel_trans ?_ (by assumption))) hb_10
        clear t_
        have hP_ := bel_eld (w := w_9) (X := _) (by first | ((repeat (first | with_reducible exact Below.refl _ _ | with_reducible assumption | (with_reducible refine bel_set ?_ (by first | exact Nat.le_refl _ | (simp; done) | (simp; omega) | omega) _) | with_reducible refine bel_grow ?_ _ | with_reducible refine Below.drew ?_ | with_reducible refine below_drewN ?_ _ | with_reducible refine bel_alloc ?_ _ | with_reducible refine bel_trans ?_ (by assumption))); done) | (repeat (first | exact Below.refl _ _ | assumption | refine below_drewN ?_ _ | refine bel_grow ?_ _ | refine Below.drew ?_ | refine bel_alloc ?_ _ | refine bel_set ?_ (by first | exact Nat.le_refl _ | (simp; done) | (simp; omega) | omega) _ | refine bel_trans ?_ (by assumption)))) hb_10
        have k_s_ := Lib.hid (s_.out.below hP_)
        clear s_
        have s_ := k_s_
        clear k_s_
        have t_x1 := f_x1.out
        have t_x2 := f_x2.out
        have t_f1 := f_f1.out
        have t_f2 := f_f2.out
        have g_x1 : Blk w_10 (w_5.heap.size) 28 #[.int .u64 bv0, .int .u64 bv1, .int .u64 bv2, .int .u64 bv3, .int .u64 bv4, .int .u64 bv5, .int .u64 bv6, .int .u64 bv7, .int .u64 bv8] := Blk.kept t_x1 hP_
        have g_x2 : Blk w_10 (w_6.heap.size) 28 #[.int .u64 bv0, .int .u64 bv1, .int .u64 bv2, .int .u64 bv3, .int .u64 bv4, .int .u64 bv5, .int .u64 bv6, .int .u64 bv7, .int .u64 bv8] := Blk.kept t_x2 hP_
        have g_f1 : Blk w_10 (w_7.heap.size) 41 #[.int .u64 fv0, .int .u64 fv1, .int .u64 fv2, .int .u64 fv3, .int .u32 fv4, .int .u32 fv5] := Blk.kept t_f1 hP_
        have g_f2 : Blk w_10 (w_8.heap.size) 41 #[.int .u64 fv0, .int .u64 fv1, .int .u64 fv2, .int .u64 fv3, .int .u32 fv4, .int .u32 fv5] := Blk.kept t_f2 hP_
        have g_r1 : Blk w_10 (w_9.heap.size) 44 #[.int .u32 rv0, .int .u32 rv1] := by
          refine Blk.kept ?_ hb_10
          (repeat (first | with_reducible assumption | (with_reducible refine Blk.new' ?_; first | with_reducible rfl | (simp; done)) | with_reducible refine Blk.alloc ?_ _ | with_reducible refine Blk.grow ?_ _ | with_reducible refine Blk.drew ?_ | with_reducible refine Blk.drewN ?_ _ | (with_reducible refine Blk.far ?_ (by first | (dsimp only; omega) | (simp; omega)) _) | (with_reducible apply Blk.two) | (with_reducible refine Blk.set' ?_ _ _ ?_) | (with_reducible rfl) | rfl))
        clear hP_
        clear f_x1 x1_l x1_0 x1_1 x1_2 x1_3 x1_4 x1_5 x1_6 x1_7 x1_8 x1_f0 x1_f1 x1_f2 x1_f3 x1_f4 x1_f5 x1_f6 x1_f7 x1_f8 f_x2 x2_l x2_0 x2_1 x2_2 x2_3 x2_4 x2_5 x2_6 x2_7 x2_8 x2_f0 x2_f1 x2_f2 x2_f3 x2_f4 x2_f5 x2_f6 x2_f7 x2_f8 f_f1 f1_l f1_0 f1_1 f1_2 f1_3 f1_4 f1_5 f1_f0 f1_f1 f1_f2 f1_f3 f1_f4 f1_f5 f_f2 f2_l f2_0 f2_1 f2_2 f2_3 f2_4 f2_5 f2_f0 f2_f1 f2_f2 f2_f3 f2_f4 f2_f5 t_x1 t_x2 t_f1 t_f2 hB_9 hb_10
        have f_x1 := g_x1
        clear g_x1
        have f_x2 := g_x2
        clear g_x2
        have f_f1 := g_f1
        clear g_f1
        have f_f2 := g_f2
        clear g_f2
        have f_r1 := g_r1
        clear g_r1
        have x1_0 := (f_x1).cell 0
        have x1_1 := (f_x1).cell 1
        have x1_2 := (f_x1).cell 2
        have x1_3 := (f_x1).cell 3
        have x1_4 := (f_x1).cell 4
        have x1_5 := (f_x1).cell 5
        have x1_6 := (f_x1).cell 6
        have x1_7 := (f_x1).cell 7
        have x1_8 := (f_x1).cell 8
        have x1_f0 := (f_x1).frozen 0
        have x1_f1 := (f_x1).frozen 1
        have x1_f2 := (f_x1).frozen 2
        have x1_f3 := (f_x1).frozen 3
        have x1_f4 := (f_x1).frozen 4
        have x1_f5 := (f_x1).frozen 5
        have x1_f6 := (f_x1).frozen 6
        have x1_f7 := (f_x1).frozen 7
        have x1_f8 := (f_x1).frozen 8
        have x1_l := (f_x1).lt
        replace f_x1 := Lib.hid f_x1
        have x2_0 := (f_x2).cell 0
        have x2_1 := (f_x2).cell 1
        have x2_2 := (f_x2).cell 2
        have x2_3 := (f_x2).cell 3
        have x2_4 := (f_x2).cell 4
        have x2_5 := (f_x2).cell 5
        have x2_6 := (f_x2).cell 6
        have x2_7 := (f_x2).cell 7
        have x2_8 := (f_x2).cell 8
        have x2_f0 := (f_x2).frozen 0
        have x2_f1 := (f_x2).frozen 1
        have x2_f2 := (f_x2).frozen 2
        have x2_f3 := (f_x2).frozen 3
        have x2_f4 := (f_x2).frozen 4
        have x2_f5 := (f_x2).frozen 5
        have x2_f6 := (f_x2).frozen 6
        have x2_f7 := (f_x2).frozen 7
        have x2_f8 := (f_x2).frozen 8
        have x2_l := (f_x2).lt
        replace f_x2 := Lib.hid f_x2
        have f1_0 := (f_f1).cell 0
        have f1_1 := (f_f1).cell 1
        have f1_2 := (f_f1).cell 2
        have f1_3 := (f_f1).cell 3
        have f1_4 := (f_f1).cell 4
        have f1_5 := (f_f1).cell 5
        have f1_f0 := (f_f1).frozen 0
        have f1_f1 := (f_f1).frozen 1
        have f1_f2 := (f_f1).frozen 2
        have f1_f3 := (f_f1).frozen 3
        have f1_f4 := (f_f1).frozen 4
        have f1_f5 := (f_f1).frozen 5
        have f1_l := (f_f1).lt
        replace f_f1 := Lib.hid f_f1
        have f2_0 := (f_f2).cell 0
        have f2_1 := (f_f2).cell 1
        have f2_2 := (f_f2).cell 2
        have f2_3 := (f_f2).cell 3
        have f2_4 := (f_f2).cell 4
        have f2_5 := (f_f2).cell 5
        have f2_f0 := (f_f2).frozen 0
        have f2_f1 := (f_f2).frozen 1
        have f2_f2 := (f_f2).frozen 2
        have f2_f3 := (f_f2).frozen 3
        have f2_f4 := (f_f2).frozen 4
        have f2_f5 := (f_f2).frozen 5
        have f2_l := (f_f2).lt
        replace f_f2 := Lib.hid f_f2
        have r1_0 := (f_r1).cell 0
        have r1_1 := (f_r1).cell 1
        have r1_f0 := (f_r1).frozen 0
        have r1_f1 := (f_r1).frozen 1
        have r1_l := (f_r1).lt
        replace f_r1 := Lib.hid f_r1
        replace hB_10 := Lib.hid hB_10
        go_wp2_with fail
        refine (RX.out _).mono ?_
        rintro e w_11 ⟨rfl, hb_11⟩
        have z_11 := hb_11.size
        try simp at z_11
        have t_ := hB_10.out
        have hB_11 := bel_eld (w := w) (X := _) (by repeat (first | exact Below.refl _ _ | assumption | refine below_drewN ?_ _ | refine bel_grow ?_ _ | refine Below.drew ?_ | refine bel_alloc ?_ _ | refine bel_set ?_ (by first | exact Nat.le_refl _ | (simp; done) | (simp; omega) | omega) _ | refine bel_trans ?_ (by assumption))) hb_11
        clear t_
        have hP_ := bel_eld (w := w_10) (X := _) (by first | ((repeat (first | with_reducible exact Below.refl _ _ | with_reducible assumption | (with_reducible refine bel_set ?_ (by first | exact Nat.le_refl _ | (simp; done) | (simp; omega) | omega) _) | with_reducible refine bel_grow ?_ _ | with_reducible refine Below.drew ?_ | with_reducible refine below_drewN ?_ _ | with_reducible refine bel_alloc ?_ _ | with_reducible refine bel_trans ?_ (by assumption))); done) | (repeat (first | exact Below.refl _ _ | assumption | refine below_drewN ?_ _ | refine bel_grow ?_ _ | refine Below.drew ?_ | refine bel_alloc ?_ _ | refine bel_set ?_ (by first | exact Nat.le_refl _ | (simp; done) | (simp; omega) | omega) _ | refine bel_trans ?_ (by assumption)))) hb_11
        have k_s_ := Lib.hid (s_.out.below hP_)
        clear s_
        have s_ := k_s_
        clear k_s_
        have t_x1 := f_x1.out
        have t_x2 := f_x2.out
        have t_f1 := f_f1.out
        have t_f2 := f_f2.out
        have t_r1 := f_r1.out
        have g_x1 : Blk w_11 (w_5.heap.size) 28 #[.int .u64 bv0, .int .u64 bv1, .int .u64 bv2, .int .u64 bv3, .int .u64 bv4, .int .u64 bv5, .int .u64 bv6, .int .u64 bv7, .int .u64 bv8] := Blk.kept t_x1 hP_
        have g_x2 : Blk w_11 (w_6.heap.size) 28 #[.int .u64 bv0, .int .u64 bv1, .int .u64 bv2, .int .u64 bv3, .int .u64 bv4, .int .u64 bv5, .int .u64 bv6, .int .u64 bv7, .int .u64 bv8] := Blk.kept t_x2 hP_
        have g_f1 : Blk w_11 (w_7.heap.size) 41 #[.int .u64 fv0, .int .u64 fv1, .int .u64 fv2, .int .u64 fv3, .int .u32 fv4, .int .u32 fv5] := Blk.kept t_f1 hP_
        have g_f2 : Blk w_11 (w_8.heap.size) 41 #[.int .u64 fv0, .int .u64 fv1, .int .u64 fv2, .int .u64 fv3, .int .u32 fv4, .int .u32 fv5] := Blk.kept t_f2 hP_
        have g_r1 : Blk w_11 (w_9.heap.size) 44 #[.int .u32 rv0, .int .u32 rv1] := Blk.kept t_r1 hP_
        have g_r2 : Blk w_11 (w_10.heap.size) 44 #[.int .u32 rv0, .int .u32 rv1] := by
          refine Blk.kept ?_ hb_11
          (repeat (first | with_reducible assumption | (with_reducible refine Blk.new' ?_; first | with_reducible rfl | (simp; done)) | with_reducible refine Blk.alloc ?_ _ | with_reducible refine Blk.grow ?_ _ | with_reducible refine Blk.drew ?_ | with_reducible refine Blk.drewN ?_ _ | (with_reducible refine Blk.far ?_ (by first | (dsimp only; omega) | (simp; omega)) _) | (with_reducible apply Blk.two) | (with_reducible refine Blk.set' ?_ _ _ ?_) | (with_reducible rfl) | rfl))
        clear hP_
        clear f_x1 x1_l x1_0 x1_1 x1_2 x1_3 x1_4 x1_5 x1_6 x1_7 x1_8 x1_f0 x1_f1 x1_f2 x1_f3 x1_f4 x1_f5 x1_f6 x1_f7 x1_f8 f_x2 x2_l x2_0 x2_1 x2_2 x2_3 x2_4 x2_5 x2_6 x2_7 x2_8 x2_f0 x2_f1 x2_f2 x2_f3 x2_f4 x2_f5 x2_f6 x2_f7 x2_f8 f_f1 f1_l f1_0 f1_1 f1_2 f1_3 f1_4 f1_5 f1_f0 f1_f1 f1_f2 f1_f3 f1_f4 f1_f5 f_f2 f2_l f2_0 f2_1 f2_2 f2_3 f2_4 f2_5 f2_f0 f2_f1 f2_f2 f2_f3 f2_f4 f2_f5 f_r1 r1_l r1_0 r1_1 r1_f0 r1_f1 t_x1 t_x2 t_f1 t_f2 t_r1 hB_10 hb_11
        have f_x1 := g_x1
        clear g_x1
        have f_x2 := g_x2
        clear g_x2
        have f_f1 := g_f1
        clear g_f1
        have f_f2 := g_f2
        clear g_f2
        have f_r1 := g_r1
        clear g_r1
        have f_r2 := g_r2
        clear g_r2
        have x1_0 := (f_x1).cell 0
        have x1_1 := (f_x1).cell 1
        have x1_2 := (f_x1).cell 2
        have x1_3 := (f_x1).cell 3
        have x1_4 := (f_x1).cell 4
        have x1_5 := (f_x1).cell 5
        have x1_6 := (f_x1).cell 6
        have x1_7 := (f_x1).cell 7
        have x1_8 := (f_x1).cell 8
        have x1_f0 := (f_x1).frozen 0
        have x1_f1 := (f_x1).frozen 1
        have x1_f2 := (f_x1).frozen 2
        have x1_f3 := (f_x1).frozen 3
        have x1_f4 := (f_x1).frozen 4
        have x1_f5 := (f_x1).frozen 5
        have x1_f6 := (f_x1).frozen 6
        have x1_f7 := (f_x1).frozen 7
        have x1_f8 := (f_x1).frozen 8
        have x1_l := (f_x1).lt
        replace f_x1 := Lib.hid f_x1
        have x2_0 := (f_x2).cell 0
        have x2_1 := (f_x2).cell 1
        have x2_2 := (f_x2).cell 2
        have x2_3 := (f_x2).cell 3
        have x2_4 := (f_x2).cell 4
        have x2_5 := (f_x2).cell 5
        have x2_6 := (f_x2).cell 6
        have x2_7 := (f_x2).cell 7
        have x2_8 := (f_x2).cell 8
        have x2_f0 := (f_x2).frozen 0
        have x2_f1 := (f_x2).frozen 1
        have x2_f2 := (f_x2).frozen 2
        have x2_f3 := (f_x2).frozen 3
        have x2_f4 := (f_x2).frozen 4
        have x2_f5 := (f_x2).frozen 5
        have x2_f6 := (f_x2).frozen 6
        have x2_f7 := (f_x2).frozen 7
        have x2_f8 := (f_x2).frozen 8
        have x2_l := (f_x2).lt
        replace f_x2 := Lib.hid f_x2
        have f1_0 := (f_f1).cell 0
        have f1_1 := (f_f1).cell 1
        have f1_2 := (f_f1).cell 2
        have f1_3 := (f_f1).cell 3
        have f1_4 := (f_f1).cell 4
        have f1_5 := (f_f1).cell 5
        have f1_f0 := (f_f1).frozen 0
        have f1_f1 := (f_f1).frozen 1
        have f1_f2 := (f_f1).frozen 2
        have f1_f3 := (f_f1).frozen 3
        have f1_f4 := (f_f1).frozen 4
        have f1_f5 := (f_f1).frozen 5
        have f1_l := (f_f1).lt
        replace f_f1 := Lib.hid f_f1
        have f2_0 := (f_f2).cell 0
        have f2_1 := (f_f2).cell 1
        have f2_2 := (f_f2).cell 2
        have f2_3 := (f_f2).cell 3
        have f2_4 := (f_f2).cell 4
        have f2_5 := (f_f2).cell 5
        have f2_f0 := (f_f2).frozen 0
        have f2_f1 := (f_f2).frozen 1
        have f2_f2 := (f_f2).frozen 2
        have f2_f3 := (f_f2).frozen 3
        have f2_f4 := (f_f2).frozen 4
        have f2_f5 := (f_f2).frozen 5
        have f2_l := (f_f2).lt
        replace f_f2 := Lib.hid f_f2
        have r1_0 := (f_r1).cell 0
        have r1_1 := (f_r1).cell 1
        have r1_f0 := (f_r1).frozen 0
        have r1_f1 := (f_r1).frozen 1
        have r1_l := (f_r1).lt
        replace f_r1 := Lib.hid f_r1
        have r2_0 := (f_r2).cell 0
        have r2_1 := (f_r2).cell 1
        have r2_f0 := (f_r2).frozen 0
        have r2_f1 := (f_r2).frozen 1
        have r2_l := (f_r2).lt
        replace f_r2 := Lib.hid f_r2
        replace hB_11 := Lib.hid hB_11
        as_aux_lemma =>
          go_wp2_with fail
          go_ret
          exact ⟨rfl, hB_11.out⟩
theorem recordReads_any (A : Option Addr) (n c : Nat) (hmc : n ≤ c ∧ c ≤ maxLen) (e : Nat → Int) (he : ∀ i, 0 ≤ e i ∧ e i < 256) (w : World) (hs : SlIs w A n (yV e)) : Calls Try.prog 6 #[.slice A n c] w fun r w' => r = .returned (.bool true) ∧ Below w.heap.size w w' := by
  by_cases h : n ≤ 200
  · exact recordReads_near A n c hmc.1 hmc.2 h e he w hs
  · exact recordReads_far A n c (by omega) (by omega) w
end Go.Proofs.Ytflaeljjalpnkaa
