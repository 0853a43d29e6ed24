/-
  key.Parts, record.KeptDue, walked.
-/
import Derived.Test.YtflaeljjalpnkaaKeyB
import Derived.Test.YtflaeljjalpnkaaWideR
import Derived.Deep.DeepCutAuto
namespace Go.Proofs.Ytflaeljjalpnkaa
set_option linter.unusedVariables false
set_option linter.unusedSimpArgs false
open Go.RowKit

set_option maxHeartbeats 2000000 in
theorem parts_no (A : Option Addr) (n c : Nat) (hn : n ≤ maxLen) (h : n ≠ 24) (w : World) : Calls Try.prog 65 #[.slice A n c] w fun r w' => r = .returned (.tuple #[.agg #[.int .u64 0, .int .u64 0], .int .u64 0, .bool false]) ∧ Below w.heap.size w w' := by
  unfold maxLen at hn
  have h' : ((n : Int) != 24) = true := by rw [bne_iff_ne]; omega
  go_enter Try.func65, Try.ntmps65
  go_wp2
  refine bodyPost_ret (v := .tuple #[.agg #[.int .u64 0, .int .u64 0], .int .u64 0, .bool false]) (by simp [results, Try.results65, go_sem]) rfl ⟨rfl, ?_⟩
  (repeat (first | exact Below.refl _ _ | assumption | refine below_drewN ?_ _ | refine bel_grow ?_ _ | refine Below.drew ?_ | refine bel_alloc ?_ _ | refine bel_set ?_ (by first | exact Nat.le_refl _ | (simp; done) | (simp; omega) | omega) _ | refine bel_trans ?_ (by assumption)))
set_option maxHeartbeats 2000000 in
theorem parts_yes (A : Option Addr) (c : Nat) (e : Nat → Int) (he : ∀ i, 0 ≤ e i ∧ e i < 256) (hmc : 24 ≤ c) (hC : c ≤ maxLen) (w : World) (hs : SlIs w A 24 (yV e)) : Calls Try.prog 65 #[.slice A 24 c] w fun r w' => r = .returned (.tuple #[.agg #[.int .u64 (num e 0 8), .int .u64 (num e 8 8)], .int .u64 (num e 16 8), .bool true]) ∧ Below w.heap.size w w' := by
  unfold maxLen at hC
  obtain ⟨b, o, rfl, hbl, hcl⟩ := hs (by omega)
  have HR := fun W (h : Below w.heap.size w W) => read_any (some ⟨b, o, none⟩) 16 c (by simp [maxLen]) e he W ((slis_at0 hbl hcl 16 (by omega)).below h)
  unfold rdH rdL at HR
  simp only [if_pos, decide_true] at HR
  replace HR := Lib.hid HR
  have H2 := Lib.hid (fun W (h : Below w.heap.size w W) => knum_b (some ⟨b, o + 16, none⟩) 8 (c - 16) (shf e 16) (shf_lo he 16) (by omega) (by omega) W ((slis_at hbl hcl 16 8 (by omega)).below h))
  rw [show num (shf e 16) 0 8 = num e 16 8 from num_shf e 16 8] at H2
  clear hs hcl he
  generalize num e 0 8 = q0 at *
  generalize num e 8 8 = q1 at *
  generalize num e 16 8 = q2 at *
  have hb0 := Below.refl w.heap.size w
  go_enter Try.func65, Try.ntmps65
  replace hb0 := Lib.hid hb0
  go_wp2_with fail
  refine (HR.out _ (bel_alloc (Below.refl _ _) _)).mono ?_
  rintro e w_1 ⟨rfl, hb_1⟩
  have z_1 := hb_1.size
  try simp at z_1
  have t_ := hb0.out
  have hB_1 := bel_eld (w := w) (X := _) (by first | ((repeat (first | with_reducible exact Below.refl _ _ | with_reducible assumption | (with_reducible refine bel_set ?_ (by first | exact Nat.le_refl _ | (simp; done) | (simp; omega) | omega) _) | with_reducible refine bel_grow ?_ _ | with_reducible refine Below.drew ?_ | with_reducible refine below_drewN ?_ _ | with_reducible refine bel_alloc ?_ _ | with_reducible refine bel_trans ?_ (by assumption))); done) | (repeat (first | exact Below.refl _ _ | assumption | refine below_drewN ?_ _ | refine bel_grow ?_ _ | refine Below.drew ?_ | refine bel_alloc ?_ _ | refine bel_set ?_ (by first | exact Nat.le_refl _ | (simp; done) | (simp; omega) | omega) _ | refine bel_trans ?_ (by assumption)))) hb_1
  clear t_
  have g_a : Blk w_1 (w.heap.size) 24 #[.int .u64 0, .int .u64 0] := by
    refine Blk.kept ?_ hb_1
    (repeat (first | with_reducible assumption | (with_reducible refine Blk.new' ?_; first | with_reducible rfl | (simp; done)) | with_reducible refine Blk.alloc ?_ _ | with_reducible refine Blk.grow ?_ _ | with_reducible refine Blk.drew ?_ | with_reducible refine Blk.drewN ?_ _ | (with_reducible refine Blk.far ?_ (by first | (dsimp only; omega) | (simp; omega)) _) | (with_reducible apply Blk.two) | (with_reducible refine Blk.set' ?_ _ _ ?_) | (with_reducible rfl) | rfl))
  clear hb0 hb_1
  have f_a := g_a
  clear g_a
  have a_0 : w_1.cell? ⟨w.heap.size, 0, none⟩ = some (.int .u64 0) := (f_a).cell 0
  have a_1 : w_1.cell? ⟨w.heap.size, 1, none⟩ = some (.int .u64 0) := (f_a).cell 1
  have a_f0 := (f_a).frozen 0
  have a_f1 := (f_a).frozen 1
  have a_l := (f_a).lt
  replace f_a := Lib.hid f_a
  replace hB_1 := Lib.hid hB_1
  go_upto_region 4 with fail
  refine abs_wp (fun X => Below w_1.heap.size w_1 X ∧ Blk X w_1.heap.size 24 #[.int .u64 q0, .int .u64 q1]) ⟨by (repeat (first | with_reducible exact Below.refl _ _ | with_reducible assumption | (with_reducible refine bel_set ?_ (by first | exact Nat.le_refl _ | (simp; done) | (simp; omega) | omega) _) | with_reducible refine bel_grow ?_ _ | with_reducible refine Below.drew ?_ | with_reducible refine below_drewN ?_ _ | with_reducible refine bel_alloc ?_ _ | with_reducible refine bel_trans ?_ (by assumption))), by (repeat (first | with_reducible assumption | (with_reducible refine Blk.new' ?_; first | with_reducible rfl | (simp; done)) | with_reducible refine Blk.alloc ?_ _ | with_reducible refine Blk.grow ?_ _ | with_reducible refine Blk.drew ?_ | with_reducible refine Blk.drewN ?_ _ | (with_reducible refine Blk.far ?_ (by first | (dsimp only; omega) | (simp; omega)) _) | (with_reducible apply Blk.two) | (with_reducible refine Blk.set' ?_ _ _ ?_) | (with_reducible rfl) | rfl))⟩ ?_
  rintro X ⟨b2, gy⟩
  have bX := bel_eld hB_1.out b2
  have ga := f_a.out.kept b2
  clear f_a hB_1 a_l a_0 a_1 a_f0 a_f1
  have a0 := (ga).cell 0
  have a1 := (ga).cell 1
  have af0 := (ga).frozen 0
  have af1 := (ga).frozen 1
  have al := (ga).lt
  have y0 := (gy).cell 0
  have y1 := (gy).cell 1
  have yf0 := (gy).frozen 0
  have yf1 := (gy).frozen 1
  have yl := (gy).lt
  have H3 := Lib.hid (fun d => H2.out (Grow X d) (bX.trans ((grow_below X d).mono bX.size)))
  replace bX := Lib.hid bX
  first | (with_reducible refine rtail2 4 (by kernel_rfl) (by kernel_rfl) ?_) | (refine rtail 4 (by kernel_rfl) (by kernel_rfl) ?_)
  simp only [List.take_succ_cons, List.take_zero, List.drop_succ_cons, List.drop_zero]
  repeat (go_big_quiet_step (((go_at_call 74; exact grow_call (H3.out _)))))
  refine wpQuiet_nil ?_
  intro dr
  go_wp2_with fail
  refine bodyPost_ret (v := .tuple #[.agg #[.int .u64 q0, .int .u64 q1], .int .u64 q2, .bool true]) (by simp [results, Try.results65, go_sem, a0, a1, al]) rfl ⟨rfl, ?_⟩
  have t := bX.out
  (repeat (first | with_reducible exact Below.refl _ _ | with_reducible assumption | (with_reducible refine bel_set ?_ (by first | exact Nat.le_refl _ | (simp; done) | (simp; omega) | omega) _) | with_reducible refine bel_grow ?_ _ | with_reducible refine Below.drew ?_ | with_reducible refine below_drewN ?_ _ | with_reducible refine bel_alloc ?_ _ | with_reducible refine bel_trans ?_ (by assumption)))
end Go.Proofs.Ytflaeljjalpnkaa
