/-
  The walk of the statement WideBack.
-/
import Derived.Test.YtlmcneonbdgcnaaWideG
import Derived.Test.YtlmcneonbdgcnaaWideP
namespace Go.Proofs.Ytlmcneonbdgcnaa
set_option linter.unusedVariables false
set_option linter.unusedSimpArgs false
open Go.RowKit

set_option maxHeartbeats 4000000 in
theorem wideBack_any (a b c d : Int) (ha : Wd a) (hb : Wd b) (hc : Wd c) (hd : Wd d) (w : World) : Calls Try.prog 5 #[.agg #[.int .u64 a, .int .u64 b], .agg #[.int .u64 c, .int .u64 d]] w fun r w' =>
      r = .returned (.bool true) ∧ Below w.heap.size w w' := by
  have um : Wd 18446744073709551615 := by unfold Wd; omega
  have ht := sub_u um um ha hb
  have us := add_u ha hb hc hd
  have ue := sub_u ha hb hc hd
  have h1 := Lib.hid (fun w => add_any a b c d ha hb hc hd w)
  have h2 := fun w => add_any c d a b hc hd ha hb w
  rw [(add_comm' a b c d).1, (add_comm' a b c d).2.1, (add_comm' a b c d).2.2] at h2
  replace h2 := Lib.hid h2
  have h3 := Lib.hid (fun w => sub_any (addH a b c d) (addL a b c d) c d us.1 us.2 hc hd w)
  have h4 := Lib.hid (fun w => sub_any a b c d ha hb hc hd w)
  have h5 := Lib.hid (fun w => add_any (subH a b c d) (subL a b c d) c d ue.1 ue.2 hc hd w)
  have h6 := Lib.hid (fun w => rest_any 18446744073709551615 18446744073709551615 a b um um ha hb w)
  have h7 := Lib.hid (fun w => cmp_any a b c d w)
  have h8 := Lib.hid (fun w => cmp_any (subH 18446744073709551615 18446744073709551615 a b) (subL 18446744073709551615 18446744073709551615 a b) c d w)
  have k1 := Lib.hid (back1 ha hb hc hd)
  have k2 := Lib.hid (back2 ha hb hc hd)
  have k3 := Lib.hid (cmp_ge ha hb hc hd)
  have k4 := Lib.hid (rest_lt ha hb hc hd)
  clear ha hb hc hd us ue ht um
  generalize addH a b c d = s0 at *
  generalize addL a b c d = s1 at *
  generalize addB a b c d = s2 at *
  generalize subH a b c d = e0 at *
  generalize subL a b c d = e1 at *
  generalize subB a b c d = e2 at *
  generalize cmpV a b c d = cc at *
  generalize subH 18446744073709551615 18446744073709551615 a b = t0 at *
  generalize subL 18446744073709551615 18446744073709551615 a b = t1 at *
  generalize cmpV t0 t1 c d = cr at *
  generalize subH s0 s1 c d = d0 at *
  generalize subL s0 s1 c d = d1 at *
  generalize subB s0 s1 c d = d2 at *
  generalize addH e0 e1 c d = f0 at *
  generalize addL e0 e1 c d = f1 at *
  generalize addB e0 e1 c d = f2 at *
  have hb0 := Below.refl w.heap.size w
  cases s2
  · cases e2
    · have q1 := k4.out rfl
      have q2 : decide (0 ≤ cc) = false := k3.out.symm
      clear k1 k2 k3 k4
      go_enter Try.func5, Try.ntmps5
      replace hb0 := Lib.hid hb0
      go_wp2_with fail
      refine (h1.out _).mono ?_
      rintro e w_1 ⟨rfl, hb_1⟩
      have z_1 := hb_1.size
      try simp at z_1
      have t_ := hb0.out
      have hB_1 := bel_eld (w := w) (X := _) (by repeat (first | exact Below.refl _ _ | assumption | refine below_drewN ?_ _ | refine bel_grow ?_ _ | refine Below.drew ?_ | refine bel_alloc ?_ _ | refine bel_set ?_ (by first | exact Nat.le_refl _ | (simp; done) | (simp; omega) | omega) _ | refine bel_trans ?_ (by assumption))) hb_1
      clear t_
      have g_a : Blk w_1 (w.heap.size) 26 #[.int .u64 a, .int .u64 b] := by
        refine Blk.kept ?_ hb_1
        (repeat (first | with_reducible assumption | (with_reducible refine Blk.new' ?_; first | with_reducible rfl | (simp; done)) | with_reducible refine Blk.alloc ?_ _ | with_reducible refine Blk.grow ?_ _ | with_reducible refine Blk.drew ?_ | with_reducible refine Blk.drewN ?_ _ | (with_reducible refine Blk.far ?_ (by first | (dsimp only; omega) | (simp; omega)) _) | (with_reducible apply Blk.two)))
      have g_b : Blk w_1 (w.heap.size + 1) 26 #[.int .u64 c, .int .u64 d] := by
        refine Blk.kept ?_ hb_1
        (repeat (first | with_reducible assumption | (with_reducible refine Blk.new' ?_; first | with_reducible rfl | (simp; done)) | with_reducible refine Blk.alloc ?_ _ | with_reducible refine Blk.grow ?_ _ | with_reducible refine Blk.drew ?_ | with_reducible refine Blk.drewN ?_ _ | (with_reducible refine Blk.far ?_ (by first | (dsimp only; omega) | (simp; omega)) _) | (with_reducible apply Blk.two)))
      clear hb0 hb_1
      have f_a := g_a
      clear g_a
      have f_b := g_b
      clear g_b
      have a_0 := (f_a).cell 0
      have a_1 := (f_a).cell 1
      have a_f0 := (f_a).frozen 0
      have a_f1 := (f_a).frozen 1
      have a_l := (f_a).lt
      replace f_a := Lib.hid f_a
      have b_0 := (f_b).cell 0
      have b_1 := (f_b).cell 1
      have b_f0 := (f_b).frozen 0
      have b_f1 := (f_b).frozen 1
      have b_l := (f_b).lt
      replace f_b := Lib.hid f_b
      replace hB_1 := Lib.hid hB_1
      go_wp2_with fail
      refine (h2.out _).mono ?_
      rintro e w_2 ⟨rfl, hb_2⟩
      have z_2 := hb_2.size
      try simp at z_2
      have t_ := hB_1.out
      have hB_2 := bel_eld (w := w) (X := _) (by repeat (first | exact Below.refl _ _ | assumption | refine below_drewN ?_ _ | refine bel_grow ?_ _ | refine Below.drew ?_ | refine bel_alloc ?_ _ | refine bel_set ?_ (by first | exact Nat.le_refl _ | (simp; done) | (simp; omega) | omega) _ | refine bel_trans ?_ (by assumption))) hb_2
      clear t_
      have t_a := f_a.out
      have t_b := f_b.out
      have g_a : Blk w_2 (w.heap.size) 26 #[.int .u64 a, .int .u64 b] := by
        refine Blk.kept ?_ hb_2
        (repeat (first | with_reducible assumption | (with_reducible refine Blk.new' ?_; first | with_reducible rfl | (simp; done)) | with_reducible refine Blk.alloc ?_ _ | with_reducible refine Blk.grow ?_ _ | with_reducible refine Blk.drew ?_ | with_reducible refine Blk.drewN ?_ _ | (with_reducible refine Blk.far ?_ (by first | (dsimp only; omega) | (simp; omega)) _) | (with_reducible apply Blk.two)))
      have g_b : Blk w_2 (w.heap.size + 1) 26 #[.int .u64 c, .int .u64 d] := by
        refine Blk.kept ?_ hb_2
        (repeat (first | with_reducible assumption | (with_reducible refine Blk.new' ?_; first | with_reducible rfl | (simp; done)) | with_reducible refine Blk.alloc ?_ _ | with_reducible refine Blk.grow ?_ _ | with_reducible refine Blk.drew ?_ | with_reducible refine Blk.drewN ?_ _ | (with_reducible refine Blk.far ?_ (by first | (dsimp only; omega) | (simp; omega)) _) | (with_reducible apply Blk.two)))
      have g_s : Blk w_2 (w_1.heap.size) 26 #[.int .u64 s0, .int .u64 s1] := by
        refine Blk.kept ?_ hb_2
        (repeat (first | with_reducible assumption | (with_reducible refine Blk.new' ?_; first | with_reducible rfl | (simp; done)) | with_reducible refine Blk.alloc ?_ _ | with_reducible refine Blk.grow ?_ _ | with_reducible refine Blk.drew ?_ | with_reducible refine Blk.drewN ?_ _ | (with_reducible refine Blk.far ?_ (by first | (dsimp only; omega) | (simp; omega)) _) | (with_reducible apply Blk.two)))
      clear f_a a_l a_0 a_1 a_f0 a_f1 f_b b_l b_0 b_1 b_f0 b_f1 t_a t_b hB_1 hb_2
      have f_a := g_a
      clear g_a
      have f_b := g_b
      clear g_b
      have f_s := g_s
      clear g_s
      have a_0 := (f_a).cell 0
      have a_1 := (f_a).cell 1
      have a_f0 := (f_a).frozen 0
      have a_f1 := (f_a).frozen 1
      have a_l := (f_a).lt
      replace f_a := Lib.hid f_a
      have b_0 := (f_b).cell 0
      have b_1 := (f_b).cell 1
      have b_f0 := (f_b).frozen 0
      have b_f1 := (f_b).frozen 1
      have b_l := (f_b).lt
      replace f_b := Lib.hid f_b
      have s_0 := (f_s).cell 0
      have s_1 := (f_s).cell 1
      have s_f0 := (f_s).frozen 0
      have s_f1 := (f_s).frozen 1
      have s_l := (f_s).lt
      replace f_s := Lib.hid f_s
      replace hB_2 := Lib.hid hB_2
      go_wp2_with fail
      refine (h3.out _).mono ?_
      rintro e w_3 ⟨rfl, hb_3⟩
      have z_3 := hb_3.size
      try simp at z_3
      have t_ := hB_2.out
      have hB_3 := bel_eld (w := w) (X := _) (by repeat (first | exact Below.refl _ _ | assumption | refine below_drewN ?_ _ | refine bel_grow ?_ _ | refine Below.drew ?_ | refine bel_alloc ?_ _ | refine bel_set ?_ (by first | exact Nat.le_refl _ | (simp; done) | (simp; omega) | omega) _ | refine bel_trans ?_ (by assumption))) hb_3
      clear t_
      have t_a := f_a.out
      have t_b := f_b.out
      have t_s := f_s.out
      have g_a : Blk w_3 (w.heap.size) 26 #[.int .u64 a, .int .u64 b] := by
        refine Blk.kept ?_ hb_3
        (repeat (first | with_reducible assumption | (with_reducible refine Blk.new' ?_; first | with_reducible rfl | (simp; done)) | with_reducible refine Blk.alloc ?_ _ | with_reducible refine Blk.grow ?_ _ | with_reducible refine Blk.drew ?_ | with_reducible refine Blk.drewN ?_ _ | (with_reducible refine Blk.far ?_ (by first | (dsimp only; omega) | (simp; omega)) _) | (with_reducible apply Blk.two)))
      have g_b : Blk w_3 (w.heap.size + 1) 26 #[.int .u64 c, .int .u64 d] := by
        refine Blk.kept ?_ hb_3
        (repeat (first | with_reducible assumption | (with_reducible refine Blk.new' ?_; first | with_reducible rfl | (simp; done)) | with_reducible refine Blk.alloc ?_ _ | with_reducible refine Blk.grow ?_ _ | with_reducible refine Blk.drew ?_ | with_reducible refine Blk.drewN ?_ _ | (with_reducible refine Blk.far ?_ (by first | (dsimp only; omega) | (simp; omega)) _) | (with_reducible apply Blk.two)))
      have g_s : Blk w_3 (w_1.heap.size) 26 #[.int .u64 s0, .int .u64 s1] := by
        refine Blk.kept ?_ hb_3
        (repeat (first | with_reducible assumption | (with_reducible refine Blk.new' ?_; first | with_reducible rfl | (simp; done)) | with_reducible refine Blk.alloc ?_ _ | with_reducible refine Blk.grow ?_ _ | with_reducible refine Blk.drew ?_ | with_reducible refine Blk.drewN ?_ _ | (with_reducible refine Blk.far ?_ (by first | (dsimp only; omega) | (simp; omega)) _) | (with_reducible apply Blk.two)))
      have g_t : Blk w_3 (w_2.heap.size) 26 #[.int .u64 s0, .int .u64 s1] := by
        refine Blk.kept ?_ hb_3
        (repeat (first | with_reducible assumption | (with_reducible refine Blk.new' ?_; first | with_reducible rfl | (simp; done)) | with_reducible refine Blk.alloc ?_ _ | with_reducible refine Blk.grow ?_ _ | with_reducible refine Blk.drew ?_ | with_reducible refine Blk.drewN ?_ _ | (with_reducible refine Blk.far ?_ (by first | (dsimp only; omega) | (simp; omega)) _) | (with_reducible apply Blk.two)))
      clear f_a a_l a_0 a_1 a_f0 a_f1 f_b b_l b_0 b_1 b_f0 b_f1 f_s s_l s_0 s_1 s_f0 s_f1 t_a t_b t_s hB_2 hb_3
      have f_a := g_a
      clear g_a
      have f_b := g_b
      clear g_b
      have f_s := g_s
      clear g_s
      have f_t := g_t
      clear g_t
      have a_0 := (f_a).cell 0
      have a_1 := (f_a).cell 1
      have a_f0 := (f_a).frozen 0
      have a_f1 := (f_a).frozen 1
      have a_l := (f_a).lt
      replace f_a := Lib.hid f_a
      have b_0 := (f_b).cell 0
      have b_1 := (f_b).cell 1
      have b_f0 := (f_b).frozen 0
      have b_f1 := (f_b).frozen 1
      have b_l := (f_b).lt
      replace f_b := Lib.hid f_b
      have s_0 := (f_s).cell 0
      have s_1 := (f_s).cell 1
      have s_f0 := (f_s).frozen 0
      have s_f1 := (f_s).frozen 1
      have s_l := (f_s).lt
      replace f_s := Lib.hid f_s
      have t_0 := (f_t).cell 0
      have t_1 := (f_t).cell 1
      have t_f0 := (f_t).frozen 0
      have t_f1 := (f_t).frozen 1
      have t_l := (f_t).lt
      replace f_t := Lib.hid f_t
      replace hB_3 := Lib.hid hB_3
      go_wp2_with fail
      refine (h4.out _).mono ?_
      rintro e w_4 ⟨rfl, hb_4⟩
      have z_4 := hb_4.size
      try simp at z_4
      have t_ := hB_3.out
      have hB_4 := bel_eld (w := w) (X := _) (by repeat (first | exact Below.refl _ _ | assumption | refine below_drewN ?_ _ | refine bel_grow ?_ _ | refine Below.drew ?_ | refine bel_alloc ?_ _ | refine bel_set ?_ (by first | exact Nat.le_refl _ | (simp; done) | (simp; omega) | omega) _ | refine bel_trans ?_ (by assumption))) hb_4
      clear t_
      have t_a := f_a.out
      have t_b := f_b.out
      have t_s := f_s.out
      have t_t := f_t.out
      have g_a : Blk w_4 (w.heap.size) 26 #[.int .u64 a, .int .u64 b] := by
        refine Blk.kept ?_ hb_4
        (repeat (first | with_reducible assumption | (with_reducible refine Blk.new' ?_; first | with_reducible rfl | (simp; done)) | with_reducible refine Blk.alloc ?_ _ | with_reducible refine Blk.grow ?_ _ | with_reducible refine Blk.drew ?_ | with_reducible refine Blk.drewN ?_ _ | (with_reducible refine Blk.far ?_ (by first | (dsimp only; omega) | (simp; omega)) _) | (with_reducible apply Blk.two)))
      have g_b : Blk w_4 (w.heap.size + 1) 26 #[.int .u64 c, .int .u64 d] := by
        refine Blk.kept ?_ hb_4
        (repeat (first | with_reducible assumption | (with_reducible refine Blk.new' ?_; first | with_reducible rfl | (simp; done)) | with_reducible refine Blk.alloc ?_ _ | with_reducible refine Blk.grow ?_ _ | with_reducible refine Blk.drew ?_ | with_reducible refine Blk.drewN ?_ _ | (with_reducible refine Blk.far ?_ (by first | (dsimp only; omega) | (simp; omega)) _) | (with_reducible apply Blk.two)))
      have g_s : Blk w_4 (w_1.heap.size) 26 #[.int .u64 s0, .int .u64 s1] := by
        refine Blk.kept ?_ hb_4
        (repeat (first | with_reducible assumption | (with_reducible refine Blk.new' ?_; first | with_reducible rfl | (simp; done)) | with_reducible refine Blk.alloc ?_ _ | with_reducible refine Blk.grow ?_ _ | with_reducible refine Blk.drew ?_ | with_reducible refine Blk.drewN ?_ _ | (with_reducible refine Blk.far ?_ (by first | (dsimp only; omega) | (simp; omega)) _) | (with_reducible apply Blk.two)))
      have g_t : Blk w_4 (w_2.heap.size) 26 #[.int .u64 s0, .int .u64 s1] := by
        refine Blk.kept ?_ hb_4
        (repeat (first | with_reducible assumption | (with_reducible refine Blk.new' ?_; first | with_reducible rfl | (simp; done)) | with_reducible refine Blk.alloc ?_ _ | with_reducible refine Blk.grow ?_ _ | with_reducible refine Blk.drew ?_ | with_reducible refine Blk.drewN ?_ _ | (with_reducible refine Blk.far ?_ (by first | (dsimp only; omega) | (simp; omega)) _) | (with_reducible apply Blk.two)))
      have g_d : Blk w_4 (w_3.heap.size) 26 #[.int .u64 d0, .int .u64 d1] := by
        refine Blk.kept ?_ hb_4
        (repeat (first | with_reducible assumption | (with_reducible refine Blk.new' ?_; first | with_reducible rfl | (simp; done)) | with_reducible refine Blk.alloc ?_ _ | with_reducible refine Blk.grow ?_ _ | with_reducible refine Blk.drew ?_ | with_reducible refine Blk.drewN ?_ _ | (with_reducible refine Blk.far ?_ (by first | (dsimp only; omega) | (simp; omega)) _) | (with_reducible apply Blk.two)))
      clear f_a a_l a_0 a_1 a_f0 a_f1 f_b b_l b_0 b_1 b_f0 b_f1 f_s s_l s_0 s_1 s_f0 s_f1 f_t t_l t_0 t_1 t_f0 t_f1 t_a t_b t_s t_t hB_3 hb_4
      have f_a := g_a
      clear g_a
      have f_b := g_b
      clear g_b
      have f_s := g_s
      clear g_s
      have f_t := g_t
      clear g_t
      have f_d := g_d
      clear g_d
      have a_0 := (f_a).cell 0
      have a_1 := (f_a).cell 1
      have a_f0 := (f_a).frozen 0
      have a_f1 := (f_a).frozen 1
      have a_l := (f_a).lt
      replace f_a := Lib.hid f_a
      have b_0 := (f_b).cell 0
      have b_1 := (f_b).cell 1
      have b_f0 := (f_b).frozen 0
      have b_f1 := (f_b).frozen 1
      have b_l := (f_b).lt
      replace f_b := Lib.hid f_b
      have s_0 := (f_s).cell 0
      have s_1 := (f_s).cell 1
      have s_f0 := (f_s).frozen 0
      have s_f1 := (f_s).frozen 1
      have s_l := (f_s).lt
      replace f_s := Lib.hid f_s
      have t_0 := (f_t).cell 0
      have t_1 := (f_t).cell 1
      have t_f0 := (f_t).frozen 0
      have t_f1 := (f_t).frozen 1
      have t_l := (f_t).lt
      replace f_t := Lib.hid f_t
      have d_0 := (f_d).cell 0
      have d_1 := (f_d).cell 1
      have d_f0 := (f_d).frozen 0
      have d_f1 := (f_d).frozen 1
      have d_l := (f_d).lt
      replace f_d := Lib.hid f_d
      replace hB_4 := Lib.hid hB_4
      go_wp2_with fail
      refine (h5.out _).mono ?_
      rintro e w_5 ⟨rfl, hb_5⟩
      have z_5 := hb_5.size
      try simp at z_5
      have t_ := hB_4.out
      have hB_5 := bel_eld (w := w) (X := _) (by repeat (first | exact Below.refl _ _ | assumption | refine below_drewN ?_ _ | refine bel_grow ?_ _ | refine Below.drew ?_ | refine bel_alloc ?_ _ | refine bel_set ?_ (by first | exact Nat.le_refl _ | (simp; done) | (simp; omega) | omega) _ | refine bel_trans ?_ (by assumption))) hb_5
      clear t_
      have t_a := f_a.out
      have t_b := f_b.out
      have t_s := f_s.out
      have t_t := f_t.out
      have t_d := f_d.out
      have g_a : Blk w_5 (w.heap.size) 26 #[.int .u64 a, .int .u64 b] := by
        refine Blk.kept ?_ hb_5
        (repeat (first | with_reducible assumption | (with_reducible refine Blk.new' ?_; first | with_reducible rfl | (simp; done)) | with_reducible refine Blk.alloc ?_ _ | with_reducible refine Blk.grow ?_ _ | with_reducible refine Blk.drew ?_ | with_reducible refine Blk.drewN ?_ _ | (with_reducible refine Blk.far ?_ (by first | (dsimp only; omega) | (simp; omega)) _) | (with_reducible apply Blk.two)))
      have g_b : Blk w_5 (w.heap.size + 1) 26 #[.int .u64 c, .int .u64 d] := by
        refine Blk.kept ?_ hb_5
        (repeat (first | with_reducible assumption | (with_reducible refine Blk.new' ?_; first | with_reducible rfl | (simp; done)) | with_reducible refine Blk.alloc ?_ _ | with_reducible refine Blk.grow ?_ _ | with_reducible refine Blk.drew ?_ | with_reducible refine Blk.drewN ?_ _ | (with_reducible refine Blk.far ?_ (by first | (dsimp only; omega) | (simp; omega)) _) | (with_reducible apply Blk.two)))
      have g_s : Blk w_5 (w_1.heap.size) 26 #[.int .u64 s0, .int .u64 s1] := by
        refine Blk.kept ?_ hb_5
        (repeat (first | with_reducible assumption | (with_reducible refine Blk.new' ?_; first | with_reducible rfl | (simp; done)) | with_reducible refine Blk.alloc ?_ _ | with_reducible refine Blk.grow ?_ _ | with_reducible refine Blk.drew ?_ | with_reducible refine Blk.drewN ?_ _ | (with_reducible refine Blk.far ?_ (by first | (dsimp only; omega) | (simp; omega)) _) | (with_reducible apply Blk.two)))
      have g_t : Blk w_5 (w_2.heap.size) 26 #[.int .u64 s0, .int .u64 s1] := by
        refine Blk.kept ?_ hb_5
        (repeat (first | with_reducible assumption | (with_reducible refine Blk.new' ?_; first | with_reducible rfl | (simp; done)) | with_reducible refine Blk.alloc ?_ _ | with_reducible refine Blk.grow ?_ _ | with_reducible refine Blk.drew ?_ | with_reducible refine Blk.drewN ?_ _ | (with_reducible refine Blk.far ?_ (by first | (dsimp only; omega) | (simp; omega)) _) | (with_reducible apply Blk.two)))
      have g_d : Blk w_5 (w_3.heap.size) 26 #[.int .u64 d0, .int .u64 d1] := by
        refine Blk.kept ?_ hb_5
        (repeat (first | with_reducible assumption | (with_reducible refine Blk.new' ?_; first | with_reducible rfl | (simp; done)) | with_reducible refine Blk.alloc ?_ _ | with_reducible refine Blk.grow ?_ _ | with_reducible refine Blk.drew ?_ | with_reducible refine Blk.drewN ?_ _ | (with_reducible refine Blk.far ?_ (by first | (dsimp only; omega) | (simp; omega)) _) | (with_reducible apply Blk.two)))
      have g_e : Blk w_5 (w_4.heap.size) 26 #[.int .u64 e0, .int .u64 e1] := by
        refine Blk.kept ?_ hb_5
        (repeat (first | with_reducible assumption | (with_reducible refine Blk.new' ?_; first | with_reducible rfl | (simp; done)) | with_reducible refine Blk.alloc ?_ _ | with_reducible refine Blk.grow ?_ _ | with_reducible refine Blk.drew ?_ | with_reducible refine Blk.drewN ?_ _ | (with_reducible refine Blk.far ?_ (by first | (dsimp only; omega) | (simp; omega)) _) | (with_reducible apply Blk.two)))
      clear f_a a_l a_0 a_1 a_f0 a_f1 f_b b_l b_0 b_1 b_f0 b_f1 f_s s_l s_0 s_1 s_f0 s_f1 f_t t_l t_0 t_1 t_f0 t_f1 f_d d_l d_0 d_1 d_f0 d_f1 t_a t_b t_s t_t t_d hB_4 hb_5
      have f_a := g_a
      clear g_a
      have f_b := g_b
      clear g_b
      have f_s := g_s
      clear g_s
      have f_t := g_t
      clear g_t
      have f_d := g_d
      clear g_d
      have f_e := g_e
      clear g_e
      have a_0 := (f_a).cell 0
      have a_1 := (f_a).cell 1
      have a_f0 := (f_a).frozen 0
      have a_f1 := (f_a).frozen 1
      have a_l := (f_a).lt
      replace f_a := Lib.hid f_a
      have b_0 := (f_b).cell 0
      have b_1 := (f_b).cell 1
      have b_f0 := (f_b).frozen 0
      have b_f1 := (f_b).frozen 1
      have b_l := (f_b).lt
      replace f_b := Lib.hid f_b
      have s_0 := (f_s).cell 0
      have s_1 := (f_s).cell 1
      have s_f0 := (f_s).frozen 0
      have s_f1 := (f_s).frozen 1
      have s_l := (f_s).lt
      replace f_s := Lib.hid f_s
      have t_0 := (f_t).cell 0
      have t_1 := (f_t).cell 1
      have t_f0 := (f_t).frozen 0
      have t_f1 := (f_t).frozen 1
      have t_l := (f_t).lt
      replace f_t := Lib.hid f_t
      have d_0 := (f_d).cell 0
      have d_1 := (f_d).cell 1
      have d_f0 := (f_d).frozen 0
      have d_f1 := (f_d).frozen 1
      have d_l := (f_d).lt
      replace f_d := Lib.hid f_d
      have e_0 := (f_e).cell 0
      have e_1 := (f_e).cell 1
      have e_f0 := (f_e).frozen 0
      have e_f1 := (f_e).frozen 1
      have e_l := (f_e).lt
      replace f_e := Lib.hid f_e
      replace hB_5 := Lib.hid hB_5
      go_wp2_with fail
      first | (with_reducible refine rgrow2 (by kernel_rfl) (by kernel_rfl) ?_) | (refine rgrow (by kernel_rfl) (by kernel_rfl) ?_)
      repeat (go_big_quiet_step (((first | (go_at_call 8; exact grow_call (wfixed_any _)) | (go_at_call 15; exact grow_call (h6.out _)) | (go_at_call 16; first | (with_reducible exact grow_call (h7.out _)) | (with_reducible exact grow_call (h8.out _))) | (go_at_call 19; exact grow_call (wtop_any _))))))
      refine wpQuiet_nil ?_
      intro dr
      go_wp2_with fail
      go_ret
      exact ⟨rfl, by have t := hB_5.out; (repeat (first | exact Below.refl _ _ | assumption | refine below_drewN ?_ _ | refine bel_grow ?_ _ | refine Below.drew ?_ | refine bel_alloc ?_ _ | refine bel_set ?_ (by first | exact Nat.le_refl _ | (simp; done) | (simp; omega) | omega) _ | refine bel_trans ?_ (by assumption)))⟩
    · obtain ⟨e3, e4, e5⟩ := k2.out rfl
      obtain rfl := e3.symm
      obtain rfl := e4.symm
      obtain rfl := e5.symm
      have q1 : decide (cr < 0) = true := by simpa using k4.out rfl
      have q2 : decide (0 ≤ cc) = true := k3.out.symm
      clear k1 k2 k3 k4
      go_enter Try.func5, Try.ntmps5
      replace hb0 := Lib.hid hb0
      go_wp2_with fail
      refine (h1.out _).mono ?_
      rintro e w_1 ⟨rfl, hb_1⟩
      have z_1 := hb_1.size
      try simp at z_1
      have t_ := hb0.out
      have hB_1 := bel_eld (w := w) (X := _) (by repeat (first | exact Below.refl _ _ | assumption | refine below_drewN ?_ _ | refine bel_grow ?_ _ | refine Below.drew ?_ | refine bel_alloc ?_ _ | refine bel_set ?_ (by first | exact Nat.le_refl _ | (simp; done) | (simp; omega) | omega) _ | refine bel_trans ?_ (by assumption))) hb_1
      clear t_
      have g_a : Blk w_1 (w.heap.size) 26 #[.int .u64 a, .int .u64 b] := by
        refine Blk.kept ?_ hb_1
        (repeat (first | with_reducible assumption | (with_reducible refine Blk.new' ?_; first | with_reducible rfl | (simp; done)) | with_reducible refine Blk.alloc ?_ _ | with_reducible refine Blk.grow ?_ _ | with_reducible refine Blk.drew ?_ | with_reducible refine Blk.drewN ?_ _ | (with_reducible refine Blk.far ?_ (by first | (dsimp only; omega) | (simp; omega)) _) | (with_reducible apply Blk.two)))
      have g_b : Blk w_1 (w.heap.size + 1) 26 #[.int .u64 c, .int .u64 d] := by
        refine Blk.kept ?_ hb_1
        (repeat (first | with_reducible assumption | (with_reducible refine Blk.new' ?_; first | with_reducible rfl | (simp; done)) | with_reducible refine Blk.alloc ?_ _ | with_reducible refine Blk.grow ?_ _ | with_reducible refine Blk.drew ?_ | with_reducible refine Blk.drewN ?_ _ | (with_reducible refine Blk.far ?_ (by first | (dsimp only; omega) | (simp; omega)) _) | (with_reducible apply Blk.two)))
      clear hb0 hb_1
      have f_a := g_a
      clear g_a
      have f_b := g_b
      clear g_b
      have a_0 := (f_a).cell 0
      have a_1 := (f_a).cell 1
      have a_f0 := (f_a).frozen 0
      have a_f1 := (f_a).frozen 1
      have a_l := (f_a).lt
      replace f_a := Lib.hid f_a
      have b_0 := (f_b).cell 0
      have b_1 := (f_b).cell 1
      have b_f0 := (f_b).frozen 0
      have b_f1 := (f_b).frozen 1
      have b_l := (f_b).lt
      replace f_b := Lib.hid f_b
      replace hB_1 := Lib.hid hB_1
      go_wp2_with fail
      refine (h2.out _).mono ?_
      rintro e w_2 ⟨rfl, hb_2⟩
      have z_2 := hb_2.size
      try simp at z_2
      have t_ := hB_1.out
      have hB_2 := bel_eld (w := w) (X := _) (by repeat (first | exact Below.refl _ _ | assumption | refine below_drewN ?_ _ | refine bel_grow ?_ _ | refine Below.drew ?_ | refine bel_alloc ?_ _ | refine bel_set ?_ (by first | exact Nat.le_refl _ | (simp; done) | (simp; omega) | omega) _ | refine bel_trans ?_ (by assumption))) hb_2
      clear t_
      have t_a := f_a.out
      have t_b := f_b.out
      have g_a : Blk w_2 (w.heap.size) 26 #[.int .u64 a, .int .u64 b] := by
        refine Blk.kept ?_ hb_2
        (repeat (first | with_reducible assumption | (with_reducible refine Blk.new' ?_; first | with_reducible rfl | (simp; done)) | with_reducible refine Blk.alloc ?_ _ | with_reducible refine Blk.grow ?_ _ | with_reducible refine Blk.drew ?_ | with_reducible refine Blk.drewN ?_ _ | (with_reducible refine Blk.far ?_ (by first | (dsimp only; omega) | (simp; omega)) _) | (with_reducible apply Blk.two)))
      have g_b : Blk w_2 (w.heap.size + 1) 26 #[.int .u64 c, .int .u64 d] := by
        refine Blk.kept ?_ hb_2
        (repeat (first | with_reducible assumption | (with_reducible refine Blk.new' ?_; first | with_reducible rfl | (simp; done)) | with_reducible refine Blk.alloc ?_ _ | with_reducible refine Blk.grow ?_ _ | with_reducible refine Blk.drew ?_ | with_reducible refine Blk.drewN ?_ _ | (with_reducible refine Blk.far ?_ (by first | (dsimp only; omega) | (simp; omega)) _) | (with_reducible apply Blk.two)))
      have g_s : Blk w_2 (w_1.heap.size) 26 #[.int .u64 s0, .int .u64 s1] := by
        refine Blk.kept ?_ hb_2
        (repeat (first | with_reducible assumption | (with_reducible refine Blk.new' ?_; first | with_reducible rfl | (simp; done)) | with_reducible refine Blk.alloc ?_ _ | with_reducible refine Blk.grow ?_ _ | with_reducible refine Blk.drew ?_ | with_reducible refine Blk.drewN ?_ _ | (with_reducible refine Blk.far ?_ (by first | (dsimp only; omega) | (simp; omega)) _) | (with_reducible apply Blk.two)))
      clear f_a a_l a_0 a_1 a_f0 a_f1 f_b b_l b_0 b_1 b_f0 b_f1 t_a t_b hB_1 hb_2
      have f_a := g_a
      clear g_a
      have f_b := g_b
      clear g_b
      have f_s := g_s
      clear g_s
      have a_0 := (f_a).cell 0
      have a_1 := (f_a).cell 1
      have a_f0 := (f_a).frozen 0
      have a_f1 := (f_a).frozen 1
      have a_l := (f_a).lt
      replace f_a := Lib.hid f_a
      have b_0 := (f_b).cell 0
      have b_1 := (f_b).cell 1
      have b_f0 := (f_b).frozen 0
      have b_f1 := (f_b).frozen 1
      have b_l := (f_b).lt
      replace f_b := Lib.hid f_b
      have s_0 := (f_s).cell 0
      have s_1 := (f_s).cell 1
      have s_f0 := (f_s).frozen 0
      have s_f1 := (f_s).frozen 1
      have s_l := (f_s).lt
      replace f_s := Lib.hid f_s
      replace hB_2 := Lib.hid hB_2
      go_wp2_with fail
      refine (h3.out _).mono ?_
      rintro e w_3 ⟨rfl, hb_3⟩
      have z_3 := hb_3.size
      try simp at z_3
      have t_ := hB_2.out
      have hB_3 := bel_eld (w := w) (X := _) (by repeat (first | exact Below.refl _ _ | assumption | refine below_drewN ?_ _ | refine bel_grow ?_ _ | refine Below.drew ?_ | refine bel_alloc ?_ _ | refine bel_set ?_ (by first | exact Nat.le_refl _ | (simp; done) | (simp; omega) | omega) _ | refine bel_trans ?_ (by assumption))) hb_3
      clear t_
      have t_a := f_a.out
      have t_b := f_b.out
      have t_s := f_s.out
      have g_a : Blk w_3 (w.heap.size) 26 #[.int .u64 a, .int .u64 b] := by
        refine Blk.kept ?_ hb_3
        (repeat (first | with_reducible assumption | (with_reducible refine Blk.new' ?_; first | with_reducible rfl | (simp; done)) | with_reducible refine Blk.alloc ?_ _ | with_reducible refine Blk.grow ?_ _ | with_reducible refine Blk.drew ?_ | with_reducible refine Blk.drewN ?_ _ | (with_reducible refine Blk.far ?_ (by first | (dsimp only; omega) | (simp; omega)) _) | (with_reducible apply Blk.two)))
      have g_b : Blk w_3 (w.heap.size + 1) 26 #[.int .u64 c, .int .u64 d] := by
        refine Blk.kept ?_ hb_3
        (repeat (first | with_reducible assumption | (with_reducible refine Blk.new' ?_; first | with_reducible rfl | (simp; done)) | with_reducible refine Blk.alloc ?_ _ | with_reducible refine Blk.grow ?_ _ | with_reducible refine Blk.drew ?_ | with_reducible refine Blk.drewN ?_ _ | (with_reducible refine Blk.far ?_ (by first | (dsimp only; omega) | (simp; omega)) _) | (with_reducible apply Blk.two)))
      have g_s : Blk w_3 (w_1.heap.size) 26 #[.int .u64 s0, .int .u64 s1] := by
        refine Blk.kept ?_ hb_3
        (repeat (first | with_reducible assumption | (with_reducible refine Blk.new' ?_; first | with_reducible rfl | (simp; done)) | with_reducible refine Blk.alloc ?_ _ | with_reducible refine Blk.grow ?_ _ | with_reducible refine Blk.drew ?_ | with_reducible refine Blk.drewN ?_ _ | (with_reducible refine Blk.far ?_ (by first | (dsimp only; omega) | (simp; omega)) _) | (with_reducible apply Blk.two)))
      have g_t : Blk w_3 (w_2.heap.size) 26 #[.int .u64 s0, .int .u64 s1] := by
        refine Blk.kept ?_ hb_3
        (repeat (first | with_reducible assumption | (with_reducible refine Blk.new' ?_; first | with_reducible rfl | (simp; done)) | with_reducible refine Blk.alloc ?_ _ | with_reducible refine Blk.grow ?_ _ | with_reducible refine Blk.drew ?_ | with_reducible refine Blk.drewN ?_ _ | (with_reducible refine Blk.far ?_ (by first | (dsimp only; omega) | (simp; omega)) _) | (with_reducible apply Blk.two)))
      clear f_a a_l a_0 a_1 a_f0 a_f1 f_b b_l b_0 b_1 b_f0 b_f1 f_s s_l s_0 s_1 s_f0 s_f1 t_a t_b t_s hB_2 hb_3
      have f_a := g_a
      clear g_a
      have f_b := g_b
      clear g_b
      have f_s := g_s
      clear g_s
      have f_t := g_t
      clear g_t
      have a_0 := (f_a).cell 0
      have a_1 := (f_a).cell 1
      have a_f0 := (f_a).frozen 0
      have a_f1 := (f_a).frozen 1
      have a_l := (f_a).lt
      replace f_a := Lib.hid f_a
      have b_0 := (f_b).cell 0
      have b_1 := (f_b).cell 1
      have b_f0 := (f_b).frozen 0
      have b_f1 := (f_b).frozen 1
      have b_l := (f_b).lt
      replace f_b := Lib.hid f_b
      have s_0 := (f_s).cell 0
      have s_1 := (f_s).cell 1
      have s_f0 := (f_s).frozen 0
      have s_f1 := (f_s).frozen 1
      have s_l := (f_s).lt
      replace f_s := Lib.hid f_s
      have t_0 := (f_t).cell 0
      have t_1 := (f_t).cell 1
      have t_f0 := (f_t).frozen 0
      have t_f1 := (f_t).frozen 1
      have t_l := (f_t).lt
      replace f_t := Lib.hid f_t
      replace hB_3 := Lib.hid hB_3
      go_wp2_with fail
      refine (h4.out _).mono ?_
      rintro e w_4 ⟨rfl, hb_4⟩
      have z_4 := hb_4.size
      try simp at z_4
      have t_ := hB_3.out
      have hB_4 := bel_eld (w := w) (X := _) (by repeat (first | exact Below.refl _ _ | assumption | refine below_drewN ?_ _ | refine bel_grow ?_ _ | refine Below.drew ?_ | refine bel_alloc ?_ _ | refine bel_set ?_ (by first | exact Nat.le_refl _ | (simp; done) | (simp; omega) | omega) _ | refine bel_trans ?_ (by assumption))) hb_4
      clear t_
      have t_a := f_a.out
      have t_b := f_b.out
      have t_s := f_s.out
      have t_t := f_t.out
      have g_a : Blk w_4 (w.heap.size) 26 #[.int .u64 a, .int .u64 b] := by
        refine Blk.kept ?_ hb_4
        (repeat (first | with_reducible assumption | (with_reducible refine Blk.new' ?_; first | with_reducible rfl | (simp; done)) | with_reducible refine Blk.alloc ?_ _ | with_reducible refine Blk.grow ?_ _ | with_reducible refine Blk.drew ?_ | with_reducible refine Blk.drewN ?_ _ | (with_reducible refine Blk.far ?_ (by first | (dsimp only; omega) | (simp; omega)) _) | (with_reducible apply Blk.two)))
      have g_b : Blk w_4 (w.heap.size + 1) 26 #[.int .u64 c, .int .u64 d] := by
        refine Blk.kept ?_ hb_4
        (repeat (first | with_reducible assumption | (with_reducible refine Blk.new' ?_; first | with_reducible rfl | (simp; done)) | with_reducible refine Blk.alloc ?_ _ | with_reducible refine Blk.grow ?_ _ | with_reducible refine Blk.drew ?_ | with_reducible refine Blk.drewN ?_ _ | (with_reducible refine Blk.far ?_ (by first | (dsimp only; omega) | (simp; omega)) _) | (with_reducible apply Blk.two)))
      have g_s : Blk w_4 (w_1.heap.size) 26 #[.int .u64 s0, .int .u64 s1] := by
        refine Blk.kept ?_ hb_4
        (repeat (first | with_reducible assumption | (with_reducible refine Blk.new' ?_; first | with_reducible rfl | (simp; done)) | with_reducible refine Blk.alloc ?_ _ | with_reducible refine Blk.grow ?_ _ | with_reducible refine Blk.drew ?_ | with_reducible refine Blk.drewN ?_ _ | (with_reducible refine Blk.far ?_ (by first | (dsimp only; omega) | (simp; omega)) _) | (with_reducible apply Blk.two)))
      have g_t : Blk w_4 (w_2.heap.size) 26 #[.int .u64 s0, .int .u64 s1] := by
        refine Blk.kept ?_ hb_4
        (repeat (first | with_reducible assumption | (with_reducible refine Blk.new' ?_; first | with_reducible rfl | (simp; done)) | with_reducible refine Blk.alloc ?_ _ | with_reducible refine Blk.grow ?_ _ | with_reducible refine Blk.drew ?_ | with_reducible refine Blk.drewN ?_ _ | (with_reducible refine Blk.far ?_ (by first | (dsimp only; omega) | (simp; omega)) _) | (with_reducible apply Blk.two)))
      have g_d : Blk w_4 (w_3.heap.size) 26 #[.int .u64 d0, .int .u64 d1] := by
        refine Blk.kept ?_ hb_4
        (repeat (first | with_reducible assumption | (with_reducible refine Blk.new' ?_; first | with_reducible rfl | (simp; done)) | with_reducible refine Blk.alloc ?_ _ | with_reducible refine Blk.grow ?_ _ | with_reducible refine Blk.drew ?_ | with_reducible refine Blk.drewN ?_ _ | (with_reducible refine Blk.far ?_ (by first | (dsimp only; omega) | (simp; omega)) _) | (with_reducible apply Blk.two)))
      clear f_a a_l a_0 a_1 a_f0 a_f1 f_b b_l b_0 b_1 b_f0 b_f1 f_s s_l s_0 s_1 s_f0 s_f1 f_t t_l t_0 t_1 t_f0 t_f1 t_a t_b t_s t_t hB_3 hb_4
      have f_a := g_a
      clear g_a
      have f_b := g_b
      clear g_b
      have f_s := g_s
      clear g_s
      have f_t := g_t
      clear g_t
      have f_d := g_d
      clear g_d
      have a_0 := (f_a).cell 0
      have a_1 := (f_a).cell 1
      have a_f0 := (f_a).frozen 0
      have a_f1 := (f_a).frozen 1
      have a_l := (f_a).lt
      replace f_a := Lib.hid f_a
      have b_0 := (f_b).cell 0
      have b_1 := (f_b).cell 1
      have b_f0 := (f_b).frozen 0
      have b_f1 := (f_b).frozen 1
      have b_l := (f_b).lt
      replace f_b := Lib.hid f_b
      have s_0 := (f_s).cell 0
      have s_1 := (f_s).cell 1
      have s_f0 := (f_s).frozen 0
      have s_f1 := (f_s).frozen 1
      have s_l := (f_s).lt
      replace f_s := Lib.hid f_s
      have t_0 := (f_t).cell 0
      have t_1 := (f_t).cell 1
      have t_f0 := (f_t).frozen 0
      have t_f1 := (f_t).frozen 1
      have t_l := (f_t).lt
      replace f_t := Lib.hid f_t
      have d_0 := (f_d).cell 0
      have d_1 := (f_d).cell 1
      have d_f0 := (f_d).frozen 0
      have d_f1 := (f_d).frozen 1
      have d_l := (f_d).lt
      replace f_d := Lib.hid f_d
      replace hB_4 := Lib.hid hB_4
      go_wp2_with fail
      refine (h5.out _).mono ?_
      rintro e w_5 ⟨rfl, hb_5⟩
      have z_5 := hb_5.size
      try simp at z_5
      have t_ := hB_4.out
      have hB_5 := bel_eld (w := w) (X := _) (by repeat (first | exact Below.refl _ _ | assumption | refine below_drewN ?_ _ | refine bel_grow ?_ _ | refine Below.drew ?_ | refine bel_alloc ?_ _ | refine bel_set ?_ (by first | exact Nat.le_refl _ | (simp; done) | (simp; omega) | omega) _ | refine bel_trans ?_ (by assumption))) hb_5
      clear t_
      have t_a := f_a.out
      have t_b := f_b.out
      have t_s := f_s.out
      have t_t := f_t.out
      have t_d := f_d.out
      have g_a : Blk w_5 (w.heap.size) 26 #[.int .u64 a, .int .u64 b] := by
        refine Blk.kept ?_ hb_5
        (repeat (first | with_reducible assumption | (with_reducible refine Blk.new' ?_; first | with_reducible rfl | (simp; done)) | with_reducible refine Blk.alloc ?_ _ | with_reducible refine Blk.grow ?_ _ | with_reducible refine Blk.drew ?_ | with_reducible refine Blk.drewN ?_ _ | (with_reducible refine Blk.far ?_ (by first | (dsimp only; omega) | (simp; omega)) _) | (with_reducible apply Blk.two)))
      have g_b : Blk w_5 (w.heap.size + 1) 26 #[.int .u64 c, .int .u64 d] := by
        refine Blk.kept ?_ hb_5
        (repeat (first | with_reducible assumption | (with_reducible refine Blk.new' ?_; first | with_reducible rfl | (simp; done)) | with_reducible refine Blk.alloc ?_ _ | with_reducible refine Blk.grow ?_ _ | with_reducible refine Blk.drew ?_ | with_reducible refine Blk.drewN ?_ _ | (with_reducible refine Blk.far ?_ (by first | (dsimp only; omega) | (simp; omega)) _) | (with_reducible apply Blk.two)))
      have g_s : Blk w_5 (w_1.heap.size) 26 #[.int .u64 s0, .int .u64 s1] := by
        refine Blk.kept ?_ hb_5
        (repeat (first | with_reducible assumption | (with_reducible refine Blk.new' ?_; first | with_reducible rfl | (simp; done)) | with_reducible refine Blk.alloc ?_ _ | with_reducible refine Blk.grow ?_ _ | with_reducible refine Blk.drew ?_ | with_reducible refine Blk.drewN ?_ _ | (with_reducible refine Blk.far ?_ (by first | (dsimp only; omega) | (simp; omega)) _) | (with_reducible apply Blk.two)))
      have g_t : Blk w_5 (w_2.heap.size) 26 #[.int .u64 s0, .int .u64 s1] := by
        refine Blk.kept ?_ hb_5
        (repeat (first | with_reducible assumption | (with_reducible refine Blk.new' ?_; first | with_reducible rfl | (simp; done)) | with_reducible refine Blk.alloc ?_ _ | with_reducible refine Blk.grow ?_ _ | with_reducible refine Blk.drew ?_ | with_reducible refine Blk.drewN ?_ _ | (with_reducible refine Blk.far ?_ (by first | (dsimp only; omega) | (simp; omega)) _) | (with_reducible apply Blk.two)))
      have g_d : Blk w_5 (w_3.heap.size) 26 #[.int .u64 d0, .int .u64 d1] := by
        refine Blk.kept ?_ hb_5
        (repeat (first | with_reducible assumption | (with_reducible refine Blk.new' ?_; first | with_reducible rfl | (simp; done)) | with_reducible refine Blk.alloc ?_ _ | with_reducible refine Blk.grow ?_ _ | with_reducible refine Blk.drew ?_ | with_reducible refine Blk.drewN ?_ _ | (with_reducible refine Blk.far ?_ (by first | (dsimp only; omega) | (simp; omega)) _) | (with_reducible apply Blk.two)))
      have g_e : Blk w_5 (w_4.heap.size) 26 #[.int .u64 e0, .int .u64 e1] := by
        refine Blk.kept ?_ hb_5
        (repeat (first | with_reducible assumption | (with_reducible refine Blk.new' ?_; first | with_reducible rfl | (simp; done)) | with_reducible refine Blk.alloc ?_ _ | with_reducible refine Blk.grow ?_ _ | with_reducible refine Blk.drew ?_ | with_reducible refine Blk.drewN ?_ _ | (with_reducible refine Blk.far ?_ (by first | (dsimp only; omega) | (simp; omega)) _) | (with_reducible apply Blk.two)))
      clear f_a a_l a_0 a_1 a_f0 a_f1 f_b b_l b_0 b_1 b_f0 b_f1 f_s s_l s_0 s_1 s_f0 s_f1 f_t t_l t_0 t_1 t_f0 t_f1 f_d d_l d_0 d_1 d_f0 d_f1 t_a t_b t_s t_t t_d hB_4 hb_5
      have f_a := g_a
      clear g_a
      have f_b := g_b
      clear g_b
      have f_s := g_s
      clear g_s
      have f_t := g_t
      clear g_t
      have f_d := g_d
      clear g_d
      have f_e := g_e
      clear g_e
      have a_0 := (f_a).cell 0
      have a_1 := (f_a).cell 1
      have a_f0 := (f_a).frozen 0
      have a_f1 := (f_a).frozen 1
      have a_l := (f_a).lt
      replace f_a := Lib.hid f_a
      have b_0 := (f_b).cell 0
      have b_1 := (f_b).cell 1
      have b_f0 := (f_b).frozen 0
      have b_f1 := (f_b).frozen 1
      have b_l := (f_b).lt
      replace f_b := Lib.hid f_b
      have s_0 := (f_s).cell 0
      have s_1 := (f_s).cell 1
      have s_f0 := (f_s).frozen 0
      have s_f1 := (f_s).frozen 1
      have s_l := (f_s).lt
      replace f_s := Lib.hid f_s
      have t_0 := (f_t).cell 0
      have t_1 := (f_t).cell 1
      have t_f0 := (f_t).frozen 0
      have t_f1 := (f_t).frozen 1
      have t_l := (f_t).lt
      replace f_t := Lib.hid f_t
      have d_0 := (f_d).cell 0
      have d_1 := (f_d).cell 1
      have d_f0 := (f_d).frozen 0
      have d_f1 := (f_d).frozen 1
      have d_l := (f_d).lt
      replace f_d := Lib.hid f_d
      have e_0 := (f_e).cell 0
      have e_1 := (f_e).cell 1
      have e_f0 := (f_e).frozen 0
      have e_f1 := (f_e).frozen 1
      have e_l := (f_e).lt
      replace f_e := Lib.hid f_e
      replace hB_5 := Lib.hid hB_5
      go_wp2_with fail
      first | (with_reducible refine rgrow2 (by kernel_rfl) (by kernel_rfl) ?_) | (refine rgrow (by kernel_rfl) (by kernel_rfl) ?_)
      repeat (go_big_quiet_step (((first | (go_at_call 8; exact grow_call (wfixed_any _)) | (go_at_call 15; exact grow_call (h6.out _)) | (go_at_call 16; first | (with_reducible exact grow_call (h7.out _)) | (with_reducible exact grow_call (h8.out _))) | (go_at_call 19; exact grow_call (wtop_any _))))))
      refine wpQuiet_nil ?_
      intro dr
      go_wp2_with fail
      go_ret
      exact ⟨rfl, by have t := hB_5.out; (repeat (first | exact Below.refl _ _ | assumption | refine below_drewN ?_ _ | refine bel_grow ?_ _ | refine Below.drew ?_ | refine bel_alloc ?_ _ | refine bel_set ?_ (by first | exact Nat.le_refl _ | (simp; done) | (simp; omega) | omega) _ | refine bel_trans ?_ (by assumption)))⟩
  · cases e2
    · obtain ⟨e3, e4, e5⟩ := k1.out rfl
      obtain rfl := e3.symm
      obtain rfl := e4.symm
      obtain rfl := e5.symm
      have q2 : decide (0 ≤ cc) = false := k3.out.symm
      clear k1 k2 k3 k4
      go_enter Try.func5, Try.ntmps5
      replace hb0 := Lib.hid hb0
      go_wp2_with fail
      refine (h1.out _).mono ?_
      rintro e w_1 ⟨rfl, hb_1⟩
      have z_1 := hb_1.size
      try simp at z_1
      have t_ := hb0.out
      have hB_1 := bel_eld (w := w) (X := _) (by repeat (first | exact Below.refl _ _ | assumption | refine below_drewN ?_ _ | refine bel_grow ?_ _ | refine Below.drew ?_ | refine bel_alloc ?_ _ | refine bel_set ?_ (by first | exact Nat.le_refl _ | (simp; done) | (simp; omega) | omega) _ | refine bel_trans ?_ (by assumption))) hb_1
      clear t_
      have g_a : Blk w_1 (w.heap.size) 26 #[.int .u64 a, .int .u64 b] := by
        refine Blk.kept ?_ hb_1
        (repeat (first | with_reducible assumption | (with_reducible refine Blk.new' ?_; first | with_reducible rfl | (simp; done)) | with_reducible refine Blk.alloc ?_ _ | with_reducible refine Blk.grow ?_ _ | with_reducible refine Blk.drew ?_ | with_reducible refine Blk.drewN ?_ _ | (with_reducible refine Blk.far ?_ (by first | (dsimp only; omega) | (simp; omega)) _) | (with_reducible apply Blk.two)))
      have g_b : Blk w_1 (w.heap.size + 1) 26 #[.int .u64 c, .int .u64 d] := by
        refine Blk.kept ?_ hb_1
        (repeat (first | with_reducible assumption | (with_reducible refine Blk.new' ?_; first | with_reducible rfl | (simp; done)) | with_reducible refine Blk.alloc ?_ _ | with_reducible refine Blk.grow ?_ _ | with_reducible refine Blk.drew ?_ | with_reducible refine Blk.drewN ?_ _ | (with_reducible refine Blk.far ?_ (by first | (dsimp only; omega) | (simp; omega)) _) | (with_reducible apply Blk.two)))
      clear hb0 hb_1
      have f_a := g_a
      clear g_a
      have f_b := g_b
      clear g_b
      have a_0 := (f_a).cell 0
      have a_1 := (f_a).cell 1
      have a_f0 := (f_a).frozen 0
      have a_f1 := (f_a).frozen 1
      have a_l := (f_a).lt
      replace f_a := Lib.hid f_a
      have b_0 := (f_b).cell 0
      have b_1 := (f_b).cell 1
      have b_f0 := (f_b).frozen 0
      have b_f1 := (f_b).frozen 1
      have b_l := (f_b).lt
      replace f_b := Lib.hid f_b
      replace hB_1 := Lib.hid hB_1
      go_wp2_with fail
      refine (h2.out _).mono ?_
      rintro e w_2 ⟨rfl, hb_2⟩
      have z_2 := hb_2.size
      try simp at z_2
      have t_ := hB_1.out
      have hB_2 := bel_eld (w := w) (X := _) (by repeat (first | exact Below.refl _ _ | assumption | refine below_drewN ?_ _ | refine bel_grow ?_ _ | refine Below.drew ?_ | refine bel_alloc ?_ _ | refine bel_set ?_ (by first | exact Nat.le_refl _ | (simp; done) | (simp; omega) | omega) _ | refine bel_trans ?_ (by assumption))) hb_2
      clear t_
      have t_a := f_a.out
      have t_b := f_b.out
      have g_a : Blk w_2 (w.heap.size) 26 #[.int .u64 a, .int .u64 b] := by
        refine Blk.kept ?_ hb_2
        (repeat (first | with_reducible assumption | (with_reducible refine Blk.new' ?_; first | with_reducible rfl | (simp; done)) | with_reducible refine Blk.alloc ?_ _ | with_reducible refine Blk.grow ?_ _ | with_reducible refine Blk.drew ?_ | with_reducible refine Blk.drewN ?_ _ | (with_reducible refine Blk.far ?_ (by first | (dsimp only; omega) | (simp; omega)) _) | (with_reducible apply Blk.two)))
      have g_b : Blk w_2 (w.heap.size + 1) 26 #[.int .u64 c, .int .u64 d] := by
        refine Blk.kept ?_ hb_2
        (repeat (first | with_reducible assumption | (with_reducible refine Blk.new' ?_; first | with_reducible rfl | (simp; done)) | with_reducible refine Blk.alloc ?_ _ | with_reducible refine Blk.grow ?_ _ | with_reducible refine Blk.drew ?_ | with_reducible refine Blk.drewN ?_ _ | (with_reducible refine Blk.far ?_ (by first | (dsimp only; omega) | (simp; omega)) _) | (with_reducible apply Blk.two)))
      have g_s : Blk w_2 (w_1.heap.size) 26 #[.int .u64 s0, .int .u64 s1] := by
        refine Blk.kept ?_ hb_2
        (repeat (first | with_reducible assumption | (with_reducible refine Blk.new' ?_; first | with_reducible rfl | (simp; done)) | with_reducible refine Blk.alloc ?_ _ | with_reducible refine Blk.grow ?_ _ | with_reducible refine Blk.drew ?_ | with_reducible refine Blk.drewN ?_ _ | (with_reducible refine Blk.far ?_ (by first | (dsimp only; omega) | (simp; omega)) _) | (with_reducible apply Blk.two)))
      clear f_a a_l a_0 a_1 a_f0 a_f1 f_b b_l b_0 b_1 b_f0 b_f1 t_a t_b hB_1 hb_2
      have f_a := g_a
      clear g_a
      have f_b := g_b
      clear g_b
      have f_s := g_s
      clear g_s
      have a_0 := (f_a).cell 0
      have a_1 := (f_a).cell 1
      have a_f0 := (f_a).frozen 0
      have a_f1 := (f_a).frozen 1
      have a_l := (f_a).lt
      replace f_a := Lib.hid f_a
      have b_0 := (f_b).cell 0
      have b_1 := (f_b).cell 1
      have b_f0 := (f_b).frozen 0
      have b_f1 := (f_b).frozen 1
      have b_l := (f_b).lt
      replace f_b := Lib.hid f_b
      have s_0 := (f_s).cell 0
      have s_1 := (f_s).cell 1
      have s_f0 := (f_s).frozen 0
      have s_f1 := (f_s).frozen 1
      have s_l := (f_s).lt
      replace f_s := Lib.hid f_s
      replace hB_2 := Lib.hid hB_2
      go_wp2_with fail
      refine (h3.out _).mono ?_
      rintro e w_3 ⟨rfl, hb_3⟩
      have z_3 := hb_3.size
      try simp at z_3
      have t_ := hB_2.out
      have hB_3 := bel_eld (w := w) (X := _) (by repeat (first | exact Below.refl _ _ | assumption | refine below_drewN ?_ _ | refine bel_grow ?_ _ | refine Below.drew ?_ | refine bel_alloc ?_ _ | refine bel_set ?_ (by first | exact Nat.le_refl _ | (simp; done) | (simp; omega) | omega) _ | refine bel_trans ?_ (by assumption))) hb_3
      clear t_
      have t_a := f_a.out
      have t_b := f_b.out
      have t_s := f_s.out
      have g_a : Blk w_3 (w.heap.size) 26 #[.int .u64 a, .int .u64 b] := by
        refine Blk.kept ?_ hb_3
        (repeat (first | with_reducible assumption | (with_reducible refine Blk.new' ?_; first | with_reducible rfl | (simp; done)) | with_reducible refine Blk.alloc ?_ _ | with_reducible refine Blk.grow ?_ _ | with_reducible refine Blk.drew ?_ | with_reducible refine Blk.drewN ?_ _ | (with_reducible refine Blk.far ?_ (by first | (dsimp only; omega) | (simp; omega)) _) | (with_reducible apply Blk.two)))
      have g_b : Blk w_3 (w.heap.size + 1) 26 #[.int .u64 c, .int .u64 d] := by
        refine Blk.kept ?_ hb_3
        (repeat (first | with_reducible assumption | (with_reducible refine Blk.new' ?_; first | with_reducible rfl | (simp; done)) | with_reducible refine Blk.alloc ?_ _ | with_reducible refine Blk.grow ?_ _ | with_reducible refine Blk.drew ?_ | with_reducible refine Blk.drewN ?_ _ | (with_reducible refine Blk.far ?_ (by first | (dsimp only; omega) | (simp; omega)) _) | (with_reducible apply Blk.two)))
      have g_s : Blk w_3 (w_1.heap.size) 26 #[.int .u64 s0, .int .u64 s1] := by
        refine Blk.kept ?_ hb_3
        (repeat (first | with_reducible assumption | (with_reducible refine Blk.new' ?_; first | with_reducible rfl | (simp; done)) | with_reducible refine Blk.alloc ?_ _ | with_reducible refine Blk.grow ?_ _ | with_reducible refine Blk.drew ?_ | with_reducible refine Blk.drewN ?_ _ | (with_reducible refine Blk.far ?_ (by first | (dsimp only; omega) | (simp; omega)) _) | (with_reducible apply Blk.two)))
      have g_t : Blk w_3 (w_2.heap.size) 26 #[.int .u64 s0, .int .u64 s1] := by
        refine Blk.kept ?_ hb_3
        (repeat (first | with_reducible assumption | (with_reducible refine Blk.new' ?_; first | with_reducible rfl | (simp; done)) | with_reducible refine Blk.alloc ?_ _ | with_reducible refine Blk.grow ?_ _ | with_reducible refine Blk.drew ?_ | with_reducible refine Blk.drewN ?_ _ | (with_reducible refine Blk.far ?_ (by first | (dsimp only; omega) | (simp; omega)) _) | (with_reducible apply Blk.two)))
      clear f_a a_l a_0 a_1 a_f0 a_f1 f_b b_l b_0 b_1 b_f0 b_f1 f_s s_l s_0 s_1 s_f0 s_f1 t_a t_b t_s hB_2 hb_3
      have f_a := g_a
      clear g_a
      have f_b := g_b
      clear g_b
      have f_s := g_s
      clear g_s
      have f_t := g_t
      clear g_t
      have a_0 := (f_a).cell 0
      have a_1 := (f_a).cell 1
      have a_f0 := (f_a).frozen 0
      have a_f1 := (f_a).frozen 1
      have a_l := (f_a).lt
      replace f_a := Lib.hid f_a
      have b_0 := (f_b).cell 0
      have b_1 := (f_b).cell 1
      have b_f0 := (f_b).frozen 0
      have b_f1 := (f_b).frozen 1
      have b_l := (f_b).lt
      replace f_b := Lib.hid f_b
      have s_0 := (f_s).cell 0
      have s_1 := (f_s).cell 1
      have s_f0 := (f_s).frozen 0
      have s_f1 := (f_s).frozen 1
      have s_l := (f_s).lt
      replace f_s := Lib.hid f_s
      have t_0 := (f_t).cell 0
      have t_1 := (f_t).cell 1
      have t_f0 := (f_t).frozen 0
      have t_f1 := (f_t).frozen 1
      have t_l := (f_t).lt
      replace f_t := Lib.hid f_t
      replace hB_3 := Lib.hid hB_3
      go_wp2_with fail
      refine (h4.out _).mono ?_
      rintro e w_4 ⟨rfl, hb_4⟩
      have z_4 := hb_4.size
      try simp at z_4
      have t_ := hB_3.out
      have hB_4 := bel_eld (w := w) (X := _) (by repeat (first | exact Below.refl _ _ | assumption | refine below_drewN ?_ _ | refine bel_grow ?_ _ | refine Below.drew ?_ | refine bel_alloc ?_ _ | refine bel_set ?_ (by first | exact Nat.le_refl _ | (simp; done) | (simp; omega) | omega) _ | refine bel_trans ?_ (by assumption))) hb_4
      clear t_
      have t_a := f_a.out
      have t_b := f_b.out
      have t_s := f_s.out
      have t_t := f_t.out
      have g_a : Blk w_4 (w.heap.size) 26 #[.int .u64 a, .int .u64 b] := by
        refine Blk.kept ?_ hb_4
        (repeat (first | with_reducible assumption | (with_reducible refine Blk.new' ?_; first | with_reducible rfl | (simp; done)) | with_reducible refine Blk.alloc ?_ _ | with_reducible refine Blk.grow ?_ _ | with_reducible refine Blk.drew ?_ | with_reducible refine Blk.drewN ?_ _ | (with_reducible refine Blk.far ?_ (by first | (dsimp only; omega) | (simp; omega)) _) | (with_reducible apply Blk.two)))
      have g_b : Blk w_4 (w.heap.size + 1) 26 #[.int .u64 c, .int .u64 d] := by
        refine Blk.kept ?_ hb_4
        (repeat (first | with_reducible assumption | (with_reducible refine Blk.new' ?_; first | with_reducible rfl | (simp; done)) | with_reducible refine Blk.alloc ?_ _ | with_reducible refine Blk.grow ?_ _ | with_reducible refine Blk.drew ?_ | with_reducible refine Blk.drewN ?_ _ | (with_reducible refine Blk.far ?_ (by first | (dsimp only; omega) | (simp; omega)) _) | (with_reducible apply Blk.two)))
      have g_s : Blk w_4 (w_1.heap.size) 26 #[.int .u64 s0, .int .u64 s1] := by
        refine Blk.kept ?_ hb_4
        (repeat (first | with_reducible assumption | (with_reducible refine Blk.new' ?_; first | with_reducible rfl | (simp; done)) | with_reducible refine Blk.alloc ?_ _ | with_reducible refine Blk.grow ?_ _ | with_reducible refine Blk.drew ?_ | with_reducible refine Blk.drewN ?_ _ | (with_reducible refine Blk.far ?_ (by first | (dsimp only; omega) | (simp; omega)) _) | (with_reducible apply Blk.two)))
      have g_t : Blk w_4 (w_2.heap.size) 26 #[.int .u64 s0, .int .u64 s1] := by
        refine Blk.kept ?_ hb_4
        (repeat (first | with_reducible assumption | (with_reducible refine Blk.new' ?_; first | with_reducible rfl | (simp; done)) | with_reducible refine Blk.alloc ?_ _ | with_reducible refine Blk.grow ?_ _ | with_reducible refine Blk.drew ?_ | with_reducible refine Blk.drewN ?_ _ | (with_reducible refine Blk.far ?_ (by first | (dsimp only; omega) | (simp; omega)) _) | (with_reducible apply Blk.two)))
      have g_d : Blk w_4 (w_3.heap.size) 26 #[.int .u64 a, .int .u64 b] := by
        refine Blk.kept ?_ hb_4
        (repeat (first | with_reducible assumption | (with_reducible refine Blk.new' ?_; first | with_reducible rfl | (simp; done)) | with_reducible refine Blk.alloc ?_ _ | with_reducible refine Blk.grow ?_ _ | with_reducible refine Blk.drew ?_ | with_reducible refine Blk.drewN ?_ _ | (with_reducible refine Blk.far ?_ (by first | (dsimp only; omega) | (simp; omega)) _) | (with_reducible apply Blk.two)))
      clear f_a a_l a_0 a_1 a_f0 a_f1 f_b b_l b_0 b_1 b_f0 b_f1 f_s s_l s_0 s_1 s_f0 s_f1 f_t t_l t_0 t_1 t_f0 t_f1 t_a t_b t_s t_t hB_3 hb_4
      have f_a := g_a
      clear g_a
      have f_b := g_b
      clear g_b
      have f_s := g_s
      clear g_s
      have f_t := g_t
      clear g_t
      have f_d := g_d
      clear g_d
      have a_0 := (f_a).cell 0
      have a_1 := (f_a).cell 1
      have a_f0 := (f_a).frozen 0
      have a_f1 := (f_a).frozen 1
      have a_l := (f_a).lt
      replace f_a := Lib.hid f_a
      have b_0 := (f_b).cell 0
      have b_1 := (f_b).cell 1
      have b_f0 := (f_b).frozen 0
      have b_f1 := (f_b).frozen 1
      have b_l := (f_b).lt
      replace f_b := Lib.hid f_b
      have s_0 := (f_s).cell 0
      have s_1 := (f_s).cell 1
      have s_f0 := (f_s).frozen 0
      have s_f1 := (f_s).frozen 1
      have s_l := (f_s).lt
      replace f_s := Lib.hid f_s
      have t_0 := (f_t).cell 0
      have t_1 := (f_t).cell 1
      have t_f0 := (f_t).frozen 0
      have t_f1 := (f_t).frozen 1
      have t_l := (f_t).lt
      replace f_t := Lib.hid f_t
      have d_0 := (f_d).cell 0
      have d_1 := (f_d).cell 1
      have d_f0 := (f_d).frozen 0
      have d_f1 := (f_d).frozen 1
      have d_l := (f_d).lt
      replace f_d := Lib.hid f_d
      replace hB_4 := Lib.hid hB_4
      go_wp2_with fail
      refine (h5.out _).mono ?_
      rintro e w_5 ⟨rfl, hb_5⟩
      have z_5 := hb_5.size
      try simp at z_5
      have t_ := hB_4.out
      have hB_5 := bel_eld (w := w) (X := _) (by repeat (first | exact Below.refl _ _ | assumption | refine below_drewN ?_ _ | refine bel_grow ?_ _ | refine Below.drew ?_ | refine bel_alloc ?_ _ | refine bel_set ?_ (by first | exact Nat.le_refl _ | (simp; done) | (simp; omega) | omega) _ | refine bel_trans ?_ (by assumption))) hb_5
      clear t_
      have t_a := f_a.out
      have t_b := f_b.out
      have t_s := f_s.out
      have t_t := f_t.out
      have t_d := f_d.out
      have g_a : Blk w_5 (w.heap.size) 26 #[.int .u64 a, .int .u64 b] := by
        refine Blk.kept ?_ hb_5
        (repeat (first | with_reducible assumption | (with_reducible refine Blk.new' ?_; first | with_reducible rfl | (simp; done)) | with_reducible refine Blk.alloc ?_ _ | with_reducible refine Blk.grow ?_ _ | with_reducible refine Blk.drew ?_ | with_reducible refine Blk.drewN ?_ _ | (with_reducible refine Blk.far ?_ (by first | (dsimp only; omega) | (simp; omega)) _) | (with_reducible apply Blk.two)))
      have g_b : Blk w_5 (w.heap.size + 1) 26 #[.int .u64 c, .int .u64 d] := by
        refine Blk.kept ?_ hb_5
        (repeat (first | with_reducible assumption | (with_reducible refine Blk.new' ?_; first | with_reducible rfl | (simp; done)) | with_reducible refine Blk.alloc ?_ _ | with_reducible refine Blk.grow ?_ _ | with_reducible refine Blk.drew ?_ | with_reducible refine Blk.drewN ?_ _ | (with_reducible refine Blk.far ?_ (by first | (dsimp only; omega) | (simp; omega)) _) | (with_reducible apply Blk.two)))
      have g_s : Blk w_5 (w_1.heap.size) 26 #[.int .u64 s0, .int .u64 s1] := by
        refine Blk.kept ?_ hb_5
        (repeat (first | with_reducible assumption | (with_reducible refine Blk.new' ?_; first | with_reducible rfl | (simp; done)) | with_reducible refine Blk.alloc ?_ _ | with_reducible refine Blk.grow ?_ _ | with_reducible refine Blk.drew ?_ | with_reducible refine Blk.drewN ?_ _ | (with_reducible refine Blk.far ?_ (by first | (dsimp only; omega) | (simp; omega)) _) | (with_reducible apply Blk.two)))
      have g_t : Blk w_5 (w_2.heap.size) 26 #[.int .u64 s0, .int .u64 s1] := by
        refine Blk.kept ?_ hb_5
        (repeat (first | with_reducible assumption | (with_reducible refine Blk.new' ?_; first | with_reducible rfl | (simp; done)) | with_reducible refine Blk.alloc ?_ _ | with_reducible refine Blk.grow ?_ _ | with_reducible refine Blk.drew ?_ | with_reducible refine Blk.drewN ?_ _ | (with_reducible refine Blk.far ?_ (by first | (dsimp only; omega) | (simp; omega)) _) | (with_reducible apply Blk.two)))
      have g_d : Blk w_5 (w_3.heap.size) 26 #[.int .u64 a, .int .u64 b] := by
        refine Blk.kept ?_ hb_5
        (repeat (first | with_reducible assumption | (with_reducible refine Blk.new' ?_; first | with_reducible rfl | (simp; done)) | with_reducible refine Blk.alloc ?_ _ | with_reducible refine Blk.grow ?_ _ | with_reducible refine Blk.drew ?_ | with_reducible refine Blk.drewN ?_ _ | (with_reducible refine Blk.far ?_ (by first | (dsimp only; omega) | (simp; omega)) _) | (with_reducible apply Blk.two)))
      have g_e : Blk w_5 (w_4.heap.size) 26 #[.int .u64 e0, .int .u64 e1] := by
        refine Blk.kept ?_ hb_5
        (repeat (first | with_reducible assumption | (with_reducible refine Blk.new' ?_; first | with_reducible rfl | (simp; done)) | with_reducible refine Blk.alloc ?_ _ | with_reducible refine Blk.grow ?_ _ | with_reducible refine Blk.drew ?_ | with_reducible refine Blk.drewN ?_ _ | (with_reducible refine Blk.far ?_ (by first | (dsimp only; omega) | (simp; omega)) _) | (with_reducible apply Blk.two)))
      clear f_a a_l a_0 a_1 a_f0 a_f1 f_b b_l b_0 b_1 b_f0 b_f1 f_s s_l s_0 s_1 s_f0 s_f1 f_t t_l t_0 t_1 t_f0 t_f1 f_d d_l d_0 d_1 d_f0 d_f1 t_a t_b t_s t_t t_d hB_4 hb_5
      have f_a := g_a
      clear g_a
      have f_b := g_b
      clear g_b
      have f_s := g_s
      clear g_s
      have f_t := g_t
      clear g_t
      have f_d := g_d
      clear g_d
      have f_e := g_e
      clear g_e
      have a_0 := (f_a).cell 0
      have a_1 := (f_a).cell 1
      have a_f0 := (f_a).frozen 0
      have a_f1 := (f_a).frozen 1
      have a_l := (f_a).lt
      replace f_a := Lib.hid f_a
      have b_0 := (f_b).cell 0
      have b_1 := (f_b).cell 1
      have b_f0 := (f_b).frozen 0
      have b_f1 := (f_b).frozen 1
      have b_l := (f_b).lt
      replace f_b := Lib.hid f_b
      have s_0 := (f_s).cell 0
      have s_1 := (f_s).cell 1
      have s_f0 := (f_s).frozen 0
      have s_f1 := (f_s).frozen 1
      have s_l := (f_s).lt
      replace f_s := Lib.hid f_s
      have t_0 := (f_t).cell 0
      have t_1 := (f_t).cell 1
      have t_f0 := (f_t).frozen 0
      have t_f1 := (f_t).frozen 1
      have t_l := (f_t).lt
      replace f_t := Lib.hid f_t
      have d_0 := (f_d).cell 0
      have d_1 := (f_d).cell 1
      have d_f0 := (f_d).frozen 0
      have d_f1 := (f_d).frozen 1
      have d_l := (f_d).lt
      replace f_d := Lib.hid f_d
      have e_0 := (f_e).cell 0
      have e_1 := (f_e).cell 1
      have e_f0 := (f_e).frozen 0
      have e_f1 := (f_e).frozen 1
      have e_l := (f_e).lt
      replace f_e := Lib.hid f_e
      replace hB_5 := Lib.hid hB_5
      go_wp2_with fail
      first | (with_reducible refine rgrow2 (by kernel_rfl) (by kernel_rfl) ?_) | (refine rgrow (by kernel_rfl) (by kernel_rfl) ?_)
      repeat (go_big_quiet_step (((first | (go_at_call 8; exact grow_call (wfixed_any _)) | (go_at_call 15; exact grow_call (h6.out _)) | (go_at_call 16; first | (with_reducible exact grow_call (h7.out _)) | (with_reducible exact grow_call (h8.out _))) | (go_at_call 19; exact grow_call (wtop_any _))))))
      refine wpQuiet_nil ?_
      intro dr
      go_wp2_with fail
      go_ret
      exact ⟨rfl, by have t := hB_5.out; (repeat (first | exact Below.refl _ _ | assumption | refine below_drewN ?_ _ | refine bel_grow ?_ _ | refine Below.drew ?_ | refine bel_alloc ?_ _ | refine bel_set ?_ (by first | exact Nat.le_refl _ | (simp; done) | (simp; omega) | omega) _ | refine bel_trans ?_ (by assumption)))⟩
    · obtain ⟨e3, e4, e5⟩ := k1.out rfl
      obtain rfl := e3.symm
      obtain rfl := e4.symm
      obtain rfl := e5.symm
      obtain ⟨e6, e7, e8⟩ := k2.out rfl
      obtain rfl := e6.symm
      obtain rfl := e7.symm
      obtain rfl := e8.symm
      have q2 : decide (0 ≤ cc) = true := k3.out.symm
      clear k1 k2 k3 k4
      go_enter Try.func5, Try.ntmps5
      replace hb0 := Lib.hid hb0
      go_wp2_with fail
      refine (h1.out _).mono ?_
      rintro e w_1 ⟨rfl, hb_1⟩
      have z_1 := hb_1.size
      try simp at z_1
      have t_ := hb0.out
      have hB_1 := bel_eld (w := w) (X := _) (by repeat (first | exact Below.refl _ _ | assumption | refine below_drewN ?_ _ | refine bel_grow ?_ _ | refine Below.drew ?_ | refine bel_alloc ?_ _ | refine bel_set ?_ (by first | exact Nat.le_refl _ | (simp; done) | (simp; omega) | omega) _ | refine bel_trans ?_ (by assumption))) hb_1
      clear t_
      have g_a : Blk w_1 (w.heap.size) 26 #[.int .u64 a, .int .u64 b] := by
        refine Blk.kept ?_ hb_1
        (repeat (first | with_reducible assumption | (with_reducible refine Blk.new' ?_; first | with_reducible rfl | (simp; done)) | with_reducible refine Blk.alloc ?_ _ | with_reducible refine Blk.grow ?_ _ | with_reducible refine Blk.drew ?_ | with_reducible refine Blk.drewN ?_ _ | (with_reducible refine Blk.far ?_ (by first | (dsimp only; omega) | (simp; omega)) _) | (with_reducible apply Blk.two)))
      have g_b : Blk w_1 (w.heap.size + 1) 26 #[.int .u64 c, .int .u64 d] := by
        refine Blk.kept ?_ hb_1
        (repeat (first | with_reducible assumption | (with_reducible refine Blk.new' ?_; first | with_reducible rfl | (simp; done)) | with_reducible refine Blk.alloc ?_ _ | with_reducible refine Blk.grow ?_ _ | with_reducible refine Blk.drew ?_ | with_reducible refine Blk.drewN ?_ _ | (with_reducible refine Blk.far ?_ (by first | (dsimp only; omega) | (simp; omega)) _) | (with_reducible apply Blk.two)))
      clear hb0 hb_1
      have f_a := g_a
      clear g_a
      have f_b := g_b
      clear g_b
      have a_0 := (f_a).cell 0
      have a_1 := (f_a).cell 1
      have a_f0 := (f_a).frozen 0
      have a_f1 := (f_a).frozen 1
      have a_l := (f_a).lt
      replace f_a := Lib.hid f_a
      have b_0 := (f_b).cell 0
      have b_1 := (f_b).cell 1
      have b_f0 := (f_b).frozen 0
      have b_f1 := (f_b).frozen 1
      have b_l := (f_b).lt
      replace f_b := Lib.hid f_b
      replace hB_1 := Lib.hid hB_1
      go_wp2_with fail
      refine (h2.out _).mono ?_
      rintro e w_2 ⟨rfl, hb_2⟩
      have z_2 := hb_2.size
      try simp at z_2
      have t_ := hB_1.out
      have hB_2 := bel_eld (w := w) (X := _) (by repeat (first | exact Below.refl _ _ | assumption | refine below_drewN ?_ _ | refine bel_grow ?_ _ | refine Below.drew ?_ | refine bel_alloc ?_ _ | refine bel_set ?_ (by first | exact Nat.le_refl _ | (simp; done) | (simp; omega) | omega) _ | refine bel_trans ?_ (by assumption))) hb_2
      clear t_
      have t_a := f_a.out
      have t_b := f_b.out
      have g_a : Blk w_2 (w.heap.size) 26 #[.int .u64 a, .int .u64 b] := by
        refine Blk.kept ?_ hb_2
        (repeat (first | with_reducible assumption | (with_reducible refine Blk.new' ?_; first | with_reducible rfl | (simp; done)) | with_reducible refine Blk.alloc ?_ _ | with_reducible refine Blk.grow ?_ _ | with_reducible refine Blk.drew ?_ | with_reducible refine Blk.drewN ?_ _ | (with_reducible refine Blk.far ?_ (by first | (dsimp only; omega) | (simp; omega)) _) | (with_reducible apply Blk.two)))
      have g_b : Blk w_2 (w.heap.size + 1) 26 #[.int .u64 c, .int .u64 d] := by
        refine Blk.kept ?_ hb_2
        (repeat (first | with_reducible assumption | (with_reducible refine Blk.new' ?_; first | with_reducible rfl | (simp; done)) | with_reducible refine Blk.alloc ?_ _ | with_reducible refine Blk.grow ?_ _ | with_reducible refine Blk.drew ?_ | with_reducible refine Blk.drewN ?_ _ | (with_reducible refine Blk.far ?_ (by first | (dsimp only; omega) | (simp; omega)) _) | (with_reducible apply Blk.two)))
      have g_s : Blk w_2 (w_1.heap.size) 26 #[.int .u64 s0, .int .u64 s1] := by
        refine Blk.kept ?_ hb_2
        (repeat (first | with_reducible assumption | (with_reducible refine Blk.new' ?_; first | with_reducible rfl | (simp; done)) | with_reducible refine Blk.alloc ?_ _ | with_reducible refine Blk.grow ?_ _ | with_reducible refine Blk.drew ?_ | with_reducible refine Blk.drewN ?_ _ | (with_reducible refine Blk.far ?_ (by first | (dsimp only; omega) | (simp; omega)) _) | (with_reducible apply Blk.two)))
      clear f_a a_l a_0 a_1 a_f0 a_f1 f_b b_l b_0 b_1 b_f0 b_f1 t_a t_b hB_1 hb_2
      have f_a := g_a
      clear g_a
      have f_b := g_b
      clear g_b
      have f_s := g_s
      clear g_s
      have a_0 := (f_a).cell 0
      have a_1 := (f_a).cell 1
      have a_f0 := (f_a).frozen 0
      have a_f1 := (f_a).frozen 1
      have a_l := (f_a).lt
      replace f_a := Lib.hid f_a
      have b_0 := (f_b).cell 0
      have b_1 := (f_b).cell 1
      have b_f0 := (f_b).frozen 0
      have b_f1 := (f_b).frozen 1
      have b_l := (f_b).lt
      replace f_b := Lib.hid f_b
      have s_0 := (f_s).cell 0
      have s_1 := (f_s).cell 1
      have s_f0 := (f_s).frozen 0
      have s_f1 := (f_s).frozen 1
      have s_l := (f_s).lt
      replace f_s := Lib.hid f_s
      replace hB_2 := Lib.hid hB_2
      go_wp2_with fail
      refine (h3.out _).mono ?_
      rintro e w_3 ⟨rfl, hb_3⟩
      have z_3 := hb_3.size
      try simp at z_3
      have t_ := hB_2.out
      have hB_3 := bel_eld (w := w) (X := _) (by repeat (first | exact Below.refl _ _ | assumption | refine below_drewN ?_ _ | refine bel_grow ?_ _ | refine Below.drew ?_ | refine bel_alloc ?_ _ | refine bel_set ?_ (by first | exact Nat.le_refl _ | (simp; done) | (simp; omega) | omega) _ | refine bel_trans ?_ (by assumption))) hb_3
      clear t_
      have t_a := f_a.out
      have t_b := f_b.out
      have t_s := f_s.out
      have g_a : Blk w_3 (w.heap.size) 26 #[.int .u64 a, .int .u64 b] := by
        refine Blk.kept ?_ hb_3
        (repeat (first | with_reducible assumption | (with_reducible refine Blk.new' ?_; first | with_reducible rfl | (simp; done)) | with_reducible refine Blk.alloc ?_ _ | with_reducible refine Blk.grow ?_ _ | with_reducible refine Blk.drew ?_ | with_reducible refine Blk.drewN ?_ _ | (with_reducible refine Blk.far ?_ (by first | (dsimp only; omega) | (simp; omega)) _) | (with_reducible apply Blk.two)))
      have g_b : Blk w_3 (w.heap.size + 1) 26 #[.int .u64 c, .int .u64 d] := by
        refine Blk.kept ?_ hb_3
        (repeat (first | with_reducible assumption | (with_reducible refine Blk.new' ?_; first | with_reducible rfl | (simp; done)) | with_reducible refine Blk.alloc ?_ _ | with_reducible refine Blk.grow ?_ _ | with_reducible refine Blk.drew ?_ | with_reducible refine Blk.drewN ?_ _ | (with_reducible refine Blk.far ?_ (by first | (dsimp only; omega) | (simp; omega)) _) | (with_reducible apply Blk.two)))
      have g_s : Blk w_3 (w_1.heap.size) 26 #[.int .u64 s0, .int .u64 s1] := by
        refine Blk.kept ?_ hb_3
        (repeat (first | with_reducible assumption | (with_reducible refine Blk.new' ?_; first | with_reducible rfl | (simp; done)) | with_reducible refine Blk.alloc ?_ _ | with_reducible refine Blk.grow ?_ _ | with_reducible refine Blk.drew ?_ | with_reducible refine Blk.drewN ?_ _ | (with_reducible refine Blk.far ?_ (by first | (dsimp only; omega) | (simp; omega)) _) | (with_reducible apply Blk.two)))
      have g_t : Blk w_3 (w_2.heap.size) 26 #[.int .u64 s0, .int .u64 s1] := by
        refine Blk.kept ?_ hb_3
        (repeat (first | with_reducible assumption | (with_reducible refine Blk.new' ?_; first | with_reducible rfl | (simp; done)) | with_reducible refine Blk.alloc ?_ _ | with_reducible refine Blk.grow ?_ _ | with_reducible refine Blk.drew ?_ | with_reducible refine Blk.drewN ?_ _ | (with_reducible refine Blk.far ?_ (by first | (dsimp only; omega) | (simp; omega)) _) | (with_reducible apply Blk.two)))
      clear f_a a_l a_0 a_1 a_f0 a_f1 f_b b_l b_0 b_1 b_f0 b_f1 f_s s_l s_0 s_1 s_f0 s_f1 t_a t_b t_s hB_2 hb_3
      have f_a := g_a
      clear g_a
      have f_b := g_b
      clear g_b
      have f_s := g_s
      clear g_s
      have f_t := g_t
      clear g_t
      have a_0 := (f_a).cell 0
      have a_1 := (f_a).cell 1
      have a_f0 := (f_a).frozen 0
      have a_f1 := (f_a).frozen 1
      have a_l := (f_a).lt
      replace f_a := Lib.hid f_a
      have b_0 := (f_b).cell 0
      have b_1 := (f_b).cell 1
      have b_f0 := (f_b).frozen 0
      have b_f1 := (f_b).frozen 1
      have b_l := (f_b).lt
      replace f_b := Lib.hid f_b
      have s_0 := (f_s).cell 0
      have s_1 := (f_s).cell 1
      have s_f0 := (f_s).frozen 0
      have s_f1 := (f_s).frozen 1
      have s_l := (f_s).lt
      replace f_s := Lib.hid f_s
      have t_0 := (f_t).cell 0
      have t_1 := (f_t).cell 1
      have t_f0 := (f_t).frozen 0
      have t_f1 := (f_t).frozen 1
      have t_l := (f_t).lt
      replace f_t := Lib.hid f_t
      replace hB_3 := Lib.hid hB_3
      go_wp2_with fail
      refine (h4.out _).mono ?_
      rintro e w_4 ⟨rfl, hb_4⟩
      have z_4 := hb_4.size
      try simp at z_4
      have t_ := hB_3.out
      have hB_4 := bel_eld (w := w) (X := _) (by repeat (first | exact Below.refl _ _ | assumption | refine below_drewN ?_ _ | refine bel_grow ?_ _ | refine Below.drew ?_ | refine bel_alloc ?_ _ | refine bel_set ?_ (by first | exact Nat.le_refl _ | (simp; done) | (simp; omega) | omega) _ | refine bel_trans ?_ (by assumption))) hb_4
      clear t_
      have t_a := f_a.out
      have t_b := f_b.out
      have t_s := f_s.out
      have t_t := f_t.out
      have g_a : Blk w_4 (w.heap.size) 26 #[.int .u64 a, .int .u64 b] := by
        refine Blk.kept ?_ hb_4
        (repeat (first | with_reducible assumption | (with_reducible refine Blk.new' ?_; first | with_reducible rfl | (simp; done)) | with_reducible refine Blk.alloc ?_ _ | with_reducible refine Blk.grow ?_ _ | with_reducible refine Blk.drew ?_ | with_reducible refine Blk.drewN ?_ _ | (with_reducible refine Blk.far ?_ (by first | (dsimp only; omega) | (simp; omega)) _) | (with_reducible apply Blk.two)))
      have g_b : Blk w_4 (w.heap.size + 1) 26 #[.int .u64 c, .int .u64 d] := by
        refine Blk.kept ?_ hb_4
        (repeat (first | with_reducible assumption | (with_reducible refine Blk.new' ?_; first | with_reducible rfl | (simp; done)) | with_reducible refine Blk.alloc ?_ _ | with_reducible refine Blk.grow ?_ _ | with_reducible refine Blk.drew ?_ | with_reducible refine Blk.drewN ?_ _ | (with_reducible refine Blk.far ?_ (by first | (dsimp only; omega) | (simp; omega)) _) | (with_reducible apply Blk.two)))
      have g_s : Blk w_4 (w_1.heap.size) 26 #[.int .u64 s0, .int .u64 s1] := by
        refine Blk.kept ?_ hb_4
        (repeat (first | with_reducible assumption | (with_reducible refine Blk.new' ?_; first | with_reducible rfl | (simp; done)) | with_reducible refine Blk.alloc ?_ _ | with_reducible refine Blk.grow ?_ _ | with_reducible refine Blk.drew ?_ | with_reducible refine Blk.drewN ?_ _ | (with_reducible refine Blk.far ?_ (by first | (dsimp only; omega) | (simp; omega)) _) | (with_reducible apply Blk.two)))
      have g_t : Blk w_4 (w_2.heap.size) 26 #[.int .u64 s0, .int .u64 s1] := by
        refine Blk.kept ?_ hb_4
        (repeat (first | with_reducible assumption | (with_reducible refine Blk.new' ?_; first | with_reducible rfl | (simp; done)) | with_reducible refine Blk.alloc ?_ _ | with_reducible refine Blk.grow ?_ _ | with_reducible refine Blk.drew ?_ | with_reducible refine Blk.drewN ?_ _ | (with_reducible refine Blk.far ?_ (by first | (dsimp only; omega) | (simp; omega)) _) | (with_reducible apply Blk.two)))
      have g_d : Blk w_4 (w_3.heap.size) 26 #[.int .u64 a, .int .u64 b] := by
        refine Blk.kept ?_ hb_4
        (repeat (first | with_reducible assumption | (with_reducible refine Blk.new' ?_; first | with_reducible rfl | (simp; done)) | with_reducible refine Blk.alloc ?_ _ | with_reducible refine Blk.grow ?_ _ | with_reducible refine Blk.drew ?_ | with_reducible refine Blk.drewN ?_ _ | (with_reducible refine Blk.far ?_ (by first | (dsimp only; omega) | (simp; omega)) _) | (with_reducible apply Blk.two)))
      clear f_a a_l a_0 a_1 a_f0 a_f1 f_b b_l b_0 b_1 b_f0 b_f1 f_s s_l s_0 s_1 s_f0 s_f1 f_t t_l t_0 t_1 t_f0 t_f1 t_a t_b t_s t_t hB_3 hb_4
      have f_a := g_a
      clear g_a
      have f_b := g_b
      clear g_b
      have f_s := g_s
      clear g_s
      have f_t := g_t
      clear g_t
      have f_d := g_d
      clear g_d
      have a_0 := (f_a).cell 0
      have a_1 := (f_a).cell 1
      have a_f0 := (f_a).frozen 0
      have a_f1 := (f_a).frozen 1
      have a_l := (f_a).lt
      replace f_a := Lib.hid f_a
      have b_0 := (f_b).cell 0
      have b_1 := (f_b).cell 1
      have b_f0 := (f_b).frozen 0
      have b_f1 := (f_b).frozen 1
      have b_l := (f_b).lt
      replace f_b := Lib.hid f_b
      have s_0 := (f_s).cell 0
      have s_1 := (f_s).cell 1
      have s_f0 := (f_s).frozen 0
      have s_f1 := (f_s).frozen 1
      have s_l := (f_s).lt
      replace f_s := Lib.hid f_s
      have t_0 := (f_t).cell 0
      have t_1 := (f_t).cell 1
      have t_f0 := (f_t).frozen 0
      have t_f1 := (f_t).frozen 1
      have t_l := (f_t).lt
      replace f_t := Lib.hid f_t
      have d_0 := (f_d).cell 0
      have d_1 := (f_d).cell 1
      have d_f0 := (f_d).frozen 0
      have d_f1 := (f_d).frozen 1
      have d_l := (f_d).lt
      replace f_d := Lib.hid f_d
      replace hB_4 := Lib.hid hB_4
      go_wp2_with fail
      refine (h5.out _).mono ?_
      rintro e w_5 ⟨rfl, hb_5⟩
      have z_5 := hb_5.size
      try simp at z_5
      have t_ := hB_4.out
      have hB_5 := bel_eld (w := w) (X := _) (by repeat (first | exact Below.refl _ _ | assumption | refine below_drewN ?_ _ | refine bel_grow ?_ _ | refine Below.drew ?_ | refine bel_alloc ?_ _ | refine bel_set ?_ (by first | exact Nat.le_refl _ | (simp; done) | (simp; omega) | omega) _ | refine bel_trans ?_ (by assumption))) hb_5
      clear t_
      have t_a := f_a.out
      have t_b := f_b.out
      have t_s := f_s.out
      have t_t := f_t.out
      have t_d := f_d.out
      have g_a : Blk w_5 (w.heap.size) 26 #[.int .u64 a, .int .u64 b] := by
        refine Blk.kept ?_ hb_5
        (repeat (first | with_reducible assumption | (with_reducible refine Blk.new' ?_; first | with_reducible rfl | (simp; done)) | with_reducible refine Blk.alloc ?_ _ | with_reducible refine Blk.grow ?_ _ | with_reducible refine Blk.drew ?_ | with_reducible refine Blk.drewN ?_ _ | (with_reducible refine Blk.far ?_ (by first | (dsimp only; omega) | (simp; omega)) _) | (with_reducible apply Blk.two)))
      have g_b : Blk w_5 (w.heap.size + 1) 26 #[.int .u64 c, .int .u64 d] := by
        refine Blk.kept ?_ hb_5
        (repeat (first | with_reducible assumption | (with_reducible refine Blk.new' ?_; first | with_reducible rfl | (simp; done)) | with_reducible refine Blk.alloc ?_ _ | with_reducible refine Blk.grow ?_ _ | with_reducible refine Blk.drew ?_ | with_reducible refine Blk.drewN ?_ _ | (with_reducible refine Blk.far ?_ (by first | (dsimp only; omega) | (simp; omega)) _) | (with_reducible apply Blk.two)))
      have g_s : Blk w_5 (w_1.heap.size) 26 #[.int .u64 s0, .int .u64 s1] := by
        refine Blk.kept ?_ hb_5
        (repeat (first | with_reducible assumption | (with_reducible refine Blk.new' ?_; first | with_reducible rfl | (simp; done)) | with_reducible refine Blk.alloc ?_ _ | with_reducible refine Blk.grow ?_ _ | with_reducible refine Blk.drew ?_ | with_reducible refine Blk.drewN ?_ _ | (with_reducible refine Blk.far ?_ (by first | (dsimp only; omega) | (simp; omega)) _) | (with_reducible apply Blk.two)))
      have g_t : Blk w_5 (w_2.heap.size) 26 #[.int .u64 s0, .int .u64 s1] := by
        refine Blk.kept ?_ hb_5
        (repeat (first | with_reducible assumption | (with_reducible refine Blk.new' ?_; first | with_reducible rfl | (simp; done)) | with_reducible refine Blk.alloc ?_ _ | with_reducible refine Blk.grow ?_ _ | with_reducible refine Blk.drew ?_ | with_reducible refine Blk.drewN ?_ _ | (with_reducible refine Blk.far ?_ (by first | (dsimp only; omega) | (simp; omega)) _) | (with_reducible apply Blk.two)))
      have g_d : Blk w_5 (w_3.heap.size) 26 #[.int .u64 a, .int .u64 b] := by
        refine Blk.kept ?_ hb_5
        (repeat (first | with_reducible assumption | (with_reducible refine Blk.new' ?_; first | with_reducible rfl | (simp; done)) | with_reducible refine Blk.alloc ?_ _ | with_reducible refine Blk.grow ?_ _ | with_reducible refine Blk.drew ?_ | with_reducible refine Blk.drewN ?_ _ | (with_reducible refine Blk.far ?_ (by first | (dsimp only; omega) | (simp; omega)) _) | (with_reducible apply Blk.two)))
      have g_e : Blk w_5 (w_4.heap.size) 26 #[.int .u64 e0, .int .u64 e1] := by
        refine Blk.kept ?_ hb_5
        (repeat (first | with_reducible assumption | (with_reducible refine Blk.new' ?_; first | with_reducible rfl | (simp; done)) | with_reducible refine Blk.alloc ?_ _ | with_reducible refine Blk.grow ?_ _ | with_reducible refine Blk.drew ?_ | with_reducible refine Blk.drewN ?_ _ | (with_reducible refine Blk.far ?_ (by first | (dsimp only; omega) | (simp; omega)) _) | (with_reducible apply Blk.two)))
      clear f_a a_l a_0 a_1 a_f0 a_f1 f_b b_l b_0 b_1 b_f0 b_f1 f_s s_l s_0 s_1 s_f0 s_f1 f_t t_l t_0 t_1 t_f0 t_f1 f_d d_l d_0 d_1 d_f0 d_f1 t_a t_b t_s t_t t_d hB_4 hb_5
      have f_a := g_a
      clear g_a
      have f_b := g_b
      clear g_b
      have f_s := g_s
      clear g_s
      have f_t := g_t
      clear g_t
      have f_d := g_d
      clear g_d
      have f_e := g_e
      clear g_e
      have a_0 := (f_a).cell 0
      have a_1 := (f_a).cell 1
      have a_f0 := (f_a).frozen 0
      have a_f1 := (f_a).frozen 1
      have a_l := (f_a).lt
      replace f_a := Lib.hid f_a
      have b_0 := (f_b).cell 0
      have b_1 := (f_b).cell 1
      have b_f0 := (f_b).frozen 0
      have b_f1 := (f_b).frozen 1
      have b_l := (f_b).lt
      replace f_b := Lib.hid f_b
      have s_0 := (f_s).cell 0
      have s_1 := (f_s).cell 1
      have s_f0 := (f_s).frozen 0
      have s_f1 := (f_s).frozen 1
      have s_l := (f_s).lt
      replace f_s := Lib.hid f_s
      have t_0 := (f_t).cell 0
      have t_1 := (f_t).cell 1
      have t_f0 := (f_t).frozen 0
      have t_f1 := (f_t).frozen 1
      have t_l := (f_t).lt
      replace f_t := Lib.hid f_t
      have d_0 := (f_d).cell 0
      have d_1 := (f_d).cell 1
      have d_f0 := (f_d).frozen 0
      have d_f1 := (f_d).frozen 1
      have d_l := (f_d).lt
      replace f_d := Lib.hid f_d
      have e_0 := (f_e).cell 0
      have e_1 := (f_e).cell 1
      have e_f0 := (f_e).frozen 0
      have e_f1 := (f_e).frozen 1
      have e_l := (f_e).lt
      replace f_e := Lib.hid f_e
      replace hB_5 := Lib.hid hB_5
      go_wp2_with fail
      first | (with_reducible refine rgrow2 (by kernel_rfl) (by kernel_rfl) ?_) | (refine rgrow (by kernel_rfl) (by kernel_rfl) ?_)
      repeat (go_big_quiet_step (((first | (go_at_call 8; exact grow_call (wfixed_any _)) | (go_at_call 15; exact grow_call (h6.out _)) | (go_at_call 16; first | (with_reducible exact grow_call (h7.out _)) | (with_reducible exact grow_call (h8.out _))) | (go_at_call 19; exact grow_call (wtop_any _))))))
      refine wpQuiet_nil ?_
      intro dr
      go_wp2_with fail
      go_ret
      exact ⟨rfl, by have t := hB_5.out; (repeat (first | exact Below.refl _ _ | assumption | refine below_drewN ?_ _ | refine bel_grow ?_ _ | refine Below.drew ?_ | refine bel_alloc ?_ _ | refine bel_set ?_ (by first | exact Nat.le_refl _ | (simp; done) | (simp; omega) | omega) _ | refine bel_trans ?_ (by assumption)))⟩
end Go.Proofs.Ytlmcneonbdgcnaa
