/-
  phase.Check, walked.
-/
import Derived.Test.YtpbnakoimlmhnaaSc
namespace Go.Proofs.Ytpbnakoimlmhnaa
set_option linter.unusedVariables false
set_option linter.unusedSimpArgs false
open Go.RowKit

def chk20 (v1 v2 v3 v4 : Int) : Int := if v1 ≠ 0 then v1 else if v2 ≠ 0 then v2 else if v3 ≠ 0 then v3 else v4
def amt20 (v : Int) (n7 r7 : Bool) (a b : Int) : Int := if v ≠ 0 then 0 else if n7 || r7 then b else a
attribute [local go_sem] loadV_ptr storeV_ptr
attribute [local go_sem ↓] load_Transfer store_Transfer load_Waits store_Waits load_Parties store_Parties
set_option maxRecDepth 8000 in
set_option maxHeartbeats 8000000 in
theorem check_of (xi1 xi2 xd1 xd2 xc1 xc2 xm1 xm2 xw1 xw2 xtg xto xlg xcd xfl xst s yi1 yi2 yd1 yd2 yc1 yc2 ym1 ym2 yw1 yw2 ytg yto ylg ycd yfl yst sv ai1 ai2 ap1 ap2 aq1 aq2 ar1 ar2 as1 as2 atg alg acd afl ast ei1 ei2 ep1 ep2 eq1 eq2 er1 er2 es1 es2 etg elg ecd efl est : Int) (th hd hc n7 r7 : Bool) (v1 v2 v3 v4 : Int)
    (HN : ∀ w, Calls Try.prog 68 #[.agg #[.int .u64 xi1, .int .u64 xi2, .int .u64 xd1, .int .u64 xd2, .int .u64 xc1, .int .u64 xc2, .int .u64 xm1, .int .u64 xm2, .int .u64 xw1, .int .u64 xw2, .int .u64 xtg, .int .u32 xto, .int .u32 xlg, .int .u16 xcd, .int .u16 xfl, .int .u64 xst]] w fun r w' => r = .returned (.int .u32 v1) ∧ Below w.heap.size w w')
    (HF : ∀ w, Calls Try.prog 69 #[.agg #[.int .u64 xi1, .int .u64 xi2, .int .u64 xd1, .int .u64 xd2, .int .u64 xc1, .int .u64 xc2, .int .u64 xm1, .int .u64 xm2, .int .u64 xw1, .int .u64 xw2, .int .u64 xtg, .int .u32 xto, .int .u32 xlg, .int .u16 xcd, .int .u16 xfl, .int .u64 xst], .agg #[.int .u64 yi1, .int .u64 yi2, .int .u64 yd1, .int .u64 yd2, .int .u64 yc1, .int .u64 yc2, .int .u64 ym1, .int .u64 ym2, .int .u64 yw1, .int .u64 yw2, .int .u64 ytg, .int .u32 yto, .int .u32 ylg, .int .u16 ycd, .int .u16 yfl, .int .u64 yst, .bool th, .int .u8 sv]] w fun r w' => r = .returned (.int .u32 v2) ∧ Below w.heap.size w w')
    (HO : ∀ w, Calls Try.prog 70 #[.agg #[.int .u64 yi1, .int .u64 yi2, .int .u64 yd1, .int .u64 yd2, .int .u64 yc1, .int .u64 yc2, .int .u64 ym1, .int .u64 ym2, .int .u64 yw1, .int .u64 yw2, .int .u64 ytg, .int .u32 yto, .int .u32 ylg, .int .u16 ycd, .int .u16 yfl, .int .u64 yst, .bool th, .int .u8 sv], .int .u64 s] w fun r w' => r = .returned (.int .u32 v3) ∧ Below w.heap.size w w')
    (HL : ∀ w, Calls Try.prog 71 #[.agg #[.int .u64 xi1, .int .u64 xi2, .int .u64 xd1, .int .u64 xd2, .int .u64 xc1, .int .u64 xc2, .int .u64 xm1, .int .u64 xm2, .int .u64 xw1, .int .u64 xw2, .int .u64 xtg, .int .u32 xto, .int .u32 xlg, .int .u16 xcd, .int .u16 xfl, .int .u64 xst], .agg #[.int .u64 ai1, .int .u64 ai2, .int .u64 ap1, .int .u64 ap2, .int .u64 aq1, .int .u64 aq2, .int .u64 ar1, .int .u64 ar2, .int .u64 as1, .int .u64 as2, .int .u64 atg, .int .u32 alg, .int .u16 acd, .int .u16 afl, .int .u64 ast, .int .u64 ei1, .int .u64 ei2, .int .u64 ep1, .int .u64 ep2, .int .u64 eq1, .int .u64 eq2, .int .u64 er1, .int .u64 er2, .int .u64 es1, .int .u64 es2, .int .u64 etg, .int .u32 elg, .int .u16 ecd, .int .u16 efl, .int .u64 est, .bool hd, .bool hc]] w fun r w' => r = .returned (.int .u32 v4) ∧ Below w.heap.size w w')
    (hn7 : (bits .and .u16 xfl 4 == 0) = n7) (hr7 : (xm1 == 18446744073709551615 && xm2 == 18446744073709551615) = r7) (w : World) :
    Calls Try.prog 36 #[.agg #[.int .u64 xi1, .int .u64 xi2, .int .u64 xd1, .int .u64 xd2, .int .u64 xc1, .int .u64 xc2, .int .u64 xm1, .int .u64 xm2, .int .u64 xw1, .int .u64 xw2, .int .u64 xtg, .int .u32 xto, .int .u32 xlg, .int .u16 xcd, .int .u16 xfl, .int .u64 xst], .int .u64 s, .agg #[.int .u64 yi1, .int .u64 yi2, .int .u64 yd1, .int .u64 yd2, .int .u64 yc1, .int .u64 yc2, .int .u64 ym1, .int .u64 ym2, .int .u64 yw1, .int .u64 yw2, .int .u64 ytg, .int .u32 yto, .int .u32 ylg, .int .u16 ycd, .int .u16 yfl, .int .u64 yst, .bool th, .int .u8 sv], .agg #[.int .u64 ai1, .int .u64 ai2, .int .u64 ap1, .int .u64 ap2, .int .u64 aq1, .int .u64 aq2, .int .u64 ar1, .int .u64 ar2, .int .u64 as1, .int .u64 as2, .int .u64 atg, .int .u32 alg, .int .u16 acd, .int .u16 afl, .int .u64 ast, .int .u64 ei1, .int .u64 ei2, .int .u64 ep1, .int .u64 ep2, .int .u64 eq1, .int .u64 eq2, .int .u64 er1, .int .u64 er2, .int .u64 es1, .int .u64 es2, .int .u64 etg, .int .u32 elg, .int .u16 ecd, .int .u16 efl, .int .u64 est, .bool hd, .bool hc]] w fun r w' => r = .returned (.tuple #[.int .u32 (chk20 v1 v2 v3 v4), .agg #[.int .u64 (amt20 (chk20 v1 v2 v3 v4) n7 r7 xm1 ym1), .int .u64 (amt20 (chk20 v1 v2 v3 v4) n7 r7 xm2 ym2)]]) ∧ Below w.heap.size w w' := by
  replace HN := Lib.hid HN
  replace HF := Lib.hid HF
  replace HO := Lib.hid HO
  replace HL := Lib.hid HL
  have k7 : (bits .and .u16 xfl 4 != 0) = !n7 := by rw [← hn7]; rfl
  have hb0 := Below.refl w.heap.size w
  go_enter Try.func36, Try.ntmps36
  replace hb0 := Lib.hid hb0
  go_wp2_with fail
  refine (HN.out _).mono ?_
  rintro e w_1 ⟨rfl, hb_1⟩
  have z_1 := hb_1.size
  try simp at z_1
  have t_ := hb0.out
  have hB_1 := bel_eld (w := w) (X := _) (by first | ((repeat (first | with_reducible exact Below.refl _ _ | with_reducible assumption | (with_reducible refine bel_set ?_ (by first | exact Nat.le_refl _ | (simp; done) | (simp; omega) | omega) _) | with_reducible refine bel_grow ?_ _ | with_reducible refine Below.drew ?_ | with_reducible refine below_drewN ?_ _ | with_reducible refine bel_alloc ?_ _ | with_reducible refine bel_trans ?_ (by assumption))); done) | (repeat (first | exact Below.refl _ _ | assumption | refine below_drewN ?_ _ | refine bel_grow ?_ _ | refine Below.drew ?_ | refine bel_alloc ?_ _ | refine bel_set ?_ (by first | exact Nat.le_refl _ | (simp; done) | (simp; omega) | omega) _ | refine bel_trans ?_ (by assumption)))) hb_1
  clear t_
  have g_x : Blk w_1 (w.heap.size) 28 #[.int .u64 xi1, .int .u64 xi2, .int .u64 xd1, .int .u64 xd2, .int .u64 xc1, .int .u64 xc2, .int .u64 xm1, .int .u64 xm2, .int .u64 xw1, .int .u64 xw2, .int .u64 xtg, .int .u32 xto, .int .u32 xlg, .int .u16 xcd, .int .u16 xfl, .int .u64 xst] := by
    refine Blk.kept ?_ hb_1
    (repeat (first | with_reducible assumption | (with_reducible refine Blk.new' ?_; first | with_reducible rfl | (simp; done)) | with_reducible refine Blk.alloc ?_ _ | with_reducible refine Blk.grow ?_ _ | with_reducible refine Blk.drew ?_ | with_reducible refine Blk.drewN ?_ _ | (with_reducible refine Blk.far ?_ (by first | (dsimp only; omega) | (simp; omega)) _) | (with_reducible apply Blk.two) | (with_reducible refine Blk.set' ?_ _ _ ?_) | (with_reducible rfl) | rfl))
  have g_y : Blk w_1 (w.heap.size + 1) 66 #[.int .u64 yi1, .int .u64 yi2, .int .u64 yd1, .int .u64 yd2, .int .u64 yc1, .int .u64 yc2, .int .u64 ym1, .int .u64 ym2, .int .u64 yw1, .int .u64 yw2, .int .u64 ytg, .int .u32 yto, .int .u32 ylg, .int .u16 ycd, .int .u16 yfl, .int .u64 yst, .bool th, .int .u8 sv] := by
    refine Blk.kept ?_ hb_1
    (repeat (first | with_reducible assumption | (with_reducible refine Blk.new' ?_; first | with_reducible rfl | (simp; done)) | with_reducible refine Blk.alloc ?_ _ | with_reducible refine Blk.grow ?_ _ | with_reducible refine Blk.drew ?_ | with_reducible refine Blk.drewN ?_ _ | (with_reducible refine Blk.far ?_ (by first | (dsimp only; omega) | (simp; omega)) _) | (with_reducible apply Blk.two) | (with_reducible refine Blk.set' ?_ _ _ ?_) | (with_reducible rfl) | rfl))
  have g_p : Blk w_1 (w.heap.size + 2) 32 #[.int .u64 ai1, .int .u64 ai2, .int .u64 ap1, .int .u64 ap2, .int .u64 aq1, .int .u64 aq2, .int .u64 ar1, .int .u64 ar2, .int .u64 as1, .int .u64 as2, .int .u64 atg, .int .u32 alg, .int .u16 acd, .int .u16 afl, .int .u64 ast, .int .u64 ei1, .int .u64 ei2, .int .u64 ep1, .int .u64 ep2, .int .u64 eq1, .int .u64 eq2, .int .u64 er1, .int .u64 er2, .int .u64 es1, .int .u64 es2, .int .u64 etg, .int .u32 elg, .int .u16 ecd, .int .u16 efl, .int .u64 est, .bool hd, .bool hc] := by
    refine Blk.kept ?_ hb_1
    (repeat (first | with_reducible assumption | (with_reducible refine Blk.new' ?_; first | with_reducible rfl | (simp; done)) | with_reducible refine Blk.alloc ?_ _ | with_reducible refine Blk.grow ?_ _ | with_reducible refine Blk.drew ?_ | with_reducible refine Blk.drewN ?_ _ | (with_reducible refine Blk.far ?_ (by first | (dsimp only; omega) | (simp; omega)) _) | (with_reducible apply Blk.two) | (with_reducible refine Blk.set' ?_ _ _ ?_) | (with_reducible rfl) | rfl))
  have g_r : Blk w_1 (w.heap.size + 3) 24 #[.int .u64 0, .int .u64 0] := by
    refine Blk.kept ?_ hb_1
    (repeat (first | with_reducible assumption | (with_reducible refine Blk.new' ?_; first | with_reducible rfl | (simp; done)) | with_reducible refine Blk.alloc ?_ _ | with_reducible refine Blk.grow ?_ _ | with_reducible refine Blk.drew ?_ | with_reducible refine Blk.drewN ?_ _ | (with_reducible refine Blk.far ?_ (by first | (dsimp only; omega) | (simp; omega)) _) | (with_reducible apply Blk.two) | (with_reducible refine Blk.set' ?_ _ _ ?_) | (with_reducible rfl) | rfl))
  clear hb0 hb_1
  have f_x := g_x
  clear g_x
  have f_y := g_y
  clear g_y
  have f_p := g_p
  clear g_p
  have f_r := g_r
  clear g_r
  have r_x := rowAt_blk f_x
  have x_l := f_x.lt
  replace f_x := Lib.hid f_x
  have r_y := rowAt_blk f_y
  have y_l := f_y.lt
  replace f_y := Lib.hid f_y
  have r_p := rowAt_blk f_p
  have p_l := f_p.lt
  replace f_p := Lib.hid f_p
  have r_0 : w_1.cell? ⟨w.heap.size + 3, 0, none⟩ = some (.int .u64 0) := (f_r).cell 0
  have r_1 : w_1.cell? ⟨w.heap.size + 3, 1, none⟩ = some (.int .u64 0) := (f_r).cell 1
  have r_f0 := (f_r).frozen 0
  have r_f1 := (f_r).frozen 1
  have r_l := (f_r).lt
  replace f_r := Lib.hid f_r
  replace hB_1 := Lib.hid hB_1
  by_cases hv1 : v1 = 0
  case neg =>
    have g1 : chk20 v1 v2 v3 v4 = v1 := by unfold chk20; simp [hv1]
    have g2 : ∀ a b, amt20 v1 n7 r7 a b = 0 := fun a b => by unfold amt20; rw [if_pos hv1]
    have g3 : (v1 == 0) = false := by simpa using hv1
    have g4 : (v1 != 0) = true := by simpa using hv1
    as_aux_lemma =>
      go_wp2_with fail
      refine bodyPost_ret (v := .tuple #[.int .u32 v1, .agg #[.int .u64 0, .int .u64 0]]) (by simp [results, Try.results36, go_sem, r_0, r_1, r_l]) rfl ⟨by rw [g1, g2, g2], ?_⟩
      have t := hB_1.out
      (repeat (first | with_reducible exact Below.refl _ _ | with_reducible assumption | (with_reducible refine bel_set ?_ (by first | exact Nat.le_refl _ | (simp; done) | (simp; omega) | omega) _) | with_reducible refine bel_grow ?_ _ | with_reducible refine Below.drew ?_ | with_reducible refine below_drewN ?_ _ | with_reducible refine bel_alloc ?_ _ | with_reducible refine bel_trans ?_ (by assumption)))
  case pos =>
  subst hv1
  go_wp2_with fail
  refine (HF.out _).mono ?_
  rintro e w_2 ⟨rfl, hb_2⟩
  have z_2 := hb_2.size
  try simp at z_2
  have t_ := hB_1.out
  have hB_2 := bel_eld (w := w) (X := _) (by first | ((repeat (first | with_reducible exact Below.refl _ _ | with_reducible assumption | (with_reducible refine bel_set ?_ (by first | exact Nat.le_refl _ | (simp; done) | (simp; omega) | omega) _) | with_reducible refine bel_grow ?_ _ | with_reducible refine Below.drew ?_ | with_reducible refine below_drewN ?_ _ | with_reducible refine bel_alloc ?_ _ | with_reducible refine bel_trans ?_ (by assumption))); done) | (repeat (first | exact Below.refl _ _ | assumption | refine below_drewN ?_ _ | refine bel_grow ?_ _ | refine Below.drew ?_ | refine bel_alloc ?_ _ | refine bel_set ?_ (by first | exact Nat.le_refl _ | (simp; done) | (simp; omega) | omega) _ | refine bel_trans ?_ (by assumption)))) hb_2
  clear t_
  have t_x := f_x.out
  have t_y := f_y.out
  have t_p := f_p.out
  have t_r := f_r.out
  have g_x : Blk w_2 (w.heap.size) 28 #[.int .u64 xi1, .int .u64 xi2, .int .u64 xd1, .int .u64 xd2, .int .u64 xc1, .int .u64 xc2, .int .u64 xm1, .int .u64 xm2, .int .u64 xw1, .int .u64 xw2, .int .u64 xtg, .int .u32 xto, .int .u32 xlg, .int .u16 xcd, .int .u16 xfl, .int .u64 xst] := by
    refine Blk.kept ?_ hb_2
    (repeat (first | with_reducible assumption | (with_reducible refine Blk.new' ?_; first | with_reducible rfl | (simp; done)) | with_reducible refine Blk.alloc ?_ _ | with_reducible refine Blk.grow ?_ _ | with_reducible refine Blk.drew ?_ | with_reducible refine Blk.drewN ?_ _ | (with_reducible refine Blk.far ?_ (by first | (dsimp only; omega) | (simp; omega)) _) | (with_reducible apply Blk.two) | (with_reducible refine Blk.set' ?_ _ _ ?_) | (with_reducible rfl) | rfl))
  have g_y : Blk w_2 (w.heap.size + 1) 66 #[.int .u64 yi1, .int .u64 yi2, .int .u64 yd1, .int .u64 yd2, .int .u64 yc1, .int .u64 yc2, .int .u64 ym1, .int .u64 ym2, .int .u64 yw1, .int .u64 yw2, .int .u64 ytg, .int .u32 yto, .int .u32 ylg, .int .u16 ycd, .int .u16 yfl, .int .u64 yst, .bool th, .int .u8 sv] := by
    refine Blk.kept ?_ hb_2
    (repeat (first | with_reducible assumption | (with_reducible refine Blk.new' ?_; first | with_reducible rfl | (simp; done)) | with_reducible refine Blk.alloc ?_ _ | with_reducible refine Blk.grow ?_ _ | with_reducible refine Blk.drew ?_ | with_reducible refine Blk.drewN ?_ _ | (with_reducible refine Blk.far ?_ (by first | (dsimp only; omega) | (simp; omega)) _) | (with_reducible apply Blk.two) | (with_reducible refine Blk.set' ?_ _ _ ?_) | (with_reducible rfl) | rfl))
  have g_p : Blk w_2 (w.heap.size + 2) 32 #[.int .u64 ai1, .int .u64 ai2, .int .u64 ap1, .int .u64 ap2, .int .u64 aq1, .int .u64 aq2, .int .u64 ar1, .int .u64 ar2, .int .u64 as1, .int .u64 as2, .int .u64 atg, .int .u32 alg, .int .u16 acd, .int .u16 afl, .int .u64 ast, .int .u64 ei1, .int .u64 ei2, .int .u64 ep1, .int .u64 ep2, .int .u64 eq1, .int .u64 eq2, .int .u64 er1, .int .u64 er2, .int .u64 es1, .int .u64 es2, .int .u64 etg, .int .u32 elg, .int .u16 ecd, .int .u16 efl, .int .u64 est, .bool hd, .bool hc] := by
    refine Blk.kept ?_ hb_2
    (repeat (first | with_reducible assumption | (with_reducible refine Blk.new' ?_; first | with_reducible rfl | (simp; done)) | with_reducible refine Blk.alloc ?_ _ | with_reducible refine Blk.grow ?_ _ | with_reducible refine Blk.drew ?_ | with_reducible refine Blk.drewN ?_ _ | (with_reducible refine Blk.far ?_ (by first | (dsimp only; omega) | (simp; omega)) _) | (with_reducible apply Blk.two) | (with_reducible refine Blk.set' ?_ _ _ ?_) | (with_reducible rfl) | rfl))
  have g_r : Blk w_2 (w.heap.size + 3) 24 #[.int .u64 0, .int .u64 0] := by
    refine Blk.kept ?_ hb_2
    (repeat (first | with_reducible assumption | (with_reducible refine Blk.new' ?_; first | with_reducible rfl | (simp; done)) | with_reducible refine Blk.alloc ?_ _ | with_reducible refine Blk.grow ?_ _ | with_reducible refine Blk.drew ?_ | with_reducible refine Blk.drewN ?_ _ | (with_reducible refine Blk.far ?_ (by first | (dsimp only; omega) | (simp; omega)) _) | (with_reducible apply Blk.two) | (with_reducible refine Blk.set' ?_ _ _ ?_) | (with_reducible rfl) | rfl))
  clear f_x x_l r_x f_y y_l r_y f_p p_l r_p f_r r_l r_0 r_1 r_f0 r_f1 t_x t_y t_p t_r hB_1 hb_2
  have f_x := g_x
  clear g_x
  have f_y := g_y
  clear g_y
  have f_p := g_p
  clear g_p
  have f_r := g_r
  clear g_r
  have r_x := rowAt_blk f_x
  have x_l := f_x.lt
  replace f_x := Lib.hid f_x
  have r_y := rowAt_blk f_y
  have y_l := f_y.lt
  replace f_y := Lib.hid f_y
  have r_p := rowAt_blk f_p
  have p_l := f_p.lt
  replace f_p := Lib.hid f_p
  have r_0 : w_2.cell? ⟨w.heap.size + 3, 0, none⟩ = some (.int .u64 0) := (f_r).cell 0
  have r_1 : w_2.cell? ⟨w.heap.size + 3, 1, none⟩ = some (.int .u64 0) := (f_r).cell 1
  have r_f0 := (f_r).frozen 0
  have r_f1 := (f_r).frozen 1
  have r_l := (f_r).lt
  replace f_r := Lib.hid f_r
  replace hB_2 := Lib.hid hB_2
  by_cases hv2 : v2 = 0
  case neg =>
    have g1 : chk20 0 v2 v3 v4 = v2 := by unfold chk20; simp [hv2]
    have g2 : ∀ a b, amt20 v2 n7 r7 a b = 0 := fun a b => by unfold amt20; rw [if_pos hv2]
    have g3 : (v2 == 0) = false := by simpa using hv2
    have g4 : (v2 != 0) = true := by simpa using hv2
    as_aux_lemma =>
      go_wp2_with fail
      refine bodyPost_ret (v := .tuple #[.int .u32 v2, .agg #[.int .u64 0, .int .u64 0]]) (by simp [results, Try.results36, go_sem, r_0, r_1, r_l]) rfl ⟨by rw [g1, g2, g2], ?_⟩
      have t := hB_2.out
      (repeat (first | with_reducible exact Below.refl _ _ | with_reducible assumption | (with_reducible refine bel_set ?_ (by first | exact Nat.le_refl _ | (simp; done) | (simp; omega) | omega) _) | with_reducible refine bel_grow ?_ _ | with_reducible refine Below.drew ?_ | with_reducible refine below_drewN ?_ _ | with_reducible refine bel_alloc ?_ _ | with_reducible refine bel_trans ?_ (by assumption)))
  case pos =>
  subst hv2
  go_wp2_with fail
  refine (HO.out _).mono ?_
  rintro e w_3 ⟨rfl, hb_3⟩
  have z_3 := hb_3.size
  try simp at z_3
  have t_ := hB_2.out
  have hB_3 := bel_eld (w := w) (X := _) (by first | ((repeat (first | with_reducible exact Below.refl _ _ | with_reducible assumption | (with_reducible refine bel_set ?_ (by first | exact Nat.le_refl _ | (simp; done) | (simp; omega) | omega) _) | with_reducible refine bel_grow ?_ _ | with_reducible refine Below.drew ?_ | with_reducible refine below_drewN ?_ _ | with_reducible refine bel_alloc ?_ _ | with_reducible refine bel_trans ?_ (by assumption))); done) | (repeat (first | exact Below.refl _ _ | assumption | refine below_drewN ?_ _ | refine bel_grow ?_ _ | refine Below.drew ?_ | refine bel_alloc ?_ _ | refine bel_set ?_ (by first | exact Nat.le_refl _ | (simp; done) | (simp; omega) | omega) _ | refine bel_trans ?_ (by assumption)))) hb_3
  clear t_
  have t_x := f_x.out
  have t_y := f_y.out
  have t_p := f_p.out
  have t_r := f_r.out
  have g_x : Blk w_3 (w.heap.size) 28 #[.int .u64 xi1, .int .u64 xi2, .int .u64 xd1, .int .u64 xd2, .int .u64 xc1, .int .u64 xc2, .int .u64 xm1, .int .u64 xm2, .int .u64 xw1, .int .u64 xw2, .int .u64 xtg, .int .u32 xto, .int .u32 xlg, .int .u16 xcd, .int .u16 xfl, .int .u64 xst] := by
    refine Blk.kept ?_ hb_3
    (repeat (first | with_reducible assumption | (with_reducible refine Blk.new' ?_; first | with_reducible rfl | (simp; done)) | with_reducible refine Blk.alloc ?_ _ | with_reducible refine Blk.grow ?_ _ | with_reducible refine Blk.drew ?_ | with_reducible refine Blk.drewN ?_ _ | (with_reducible refine Blk.far ?_ (by first | (dsimp only; omega) | (simp; omega)) _) | (with_reducible apply Blk.two) | (with_reducible refine Blk.set' ?_ _ _ ?_) | (with_reducible rfl) | rfl))
  have g_y : Blk w_3 (w.heap.size + 1) 66 #[.int .u64 yi1, .int .u64 yi2, .int .u64 yd1, .int .u64 yd2, .int .u64 yc1, .int .u64 yc2, .int .u64 ym1, .int .u64 ym2, .int .u64 yw1, .int .u64 yw2, .int .u64 ytg, .int .u32 yto, .int .u32 ylg, .int .u16 ycd, .int .u16 yfl, .int .u64 yst, .bool th, .int .u8 sv] := by
    refine Blk.kept ?_ hb_3
    (repeat (first | with_reducible assumption | (with_reducible refine Blk.new' ?_; first | with_reducible rfl | (simp; done)) | with_reducible refine Blk.alloc ?_ _ | with_reducible refine Blk.grow ?_ _ | with_reducible refine Blk.drew ?_ | with_reducible refine Blk.drewN ?_ _ | (with_reducible refine Blk.far ?_ (by first | (dsimp only; omega) | (simp; omega)) _) | (with_reducible apply Blk.two) | (with_reducible refine Blk.set' ?_ _ _ ?_) | (with_reducible rfl) | rfl))
  have g_p : Blk w_3 (w.heap.size + 2) 32 #[.int .u64 ai1, .int .u64 ai2, .int .u64 ap1, .int .u64 ap2, .int .u64 aq1, .int .u64 aq2, .int .u64 ar1, .int .u64 ar2, .int .u64 as1, .int .u64 as2, .int .u64 atg, .int .u32 alg, .int .u16 acd, .int .u16 afl, .int .u64 ast, .int .u64 ei1, .int .u64 ei2, .int .u64 ep1, .int .u64 ep2, .int .u64 eq1, .int .u64 eq2, .int .u64 er1, .int .u64 er2, .int .u64 es1, .int .u64 es2, .int .u64 etg, .int .u32 elg, .int .u16 ecd, .int .u16 efl, .int .u64 est, .bool hd, .bool hc] := by
    refine Blk.kept ?_ hb_3
    (repeat (first | with_reducible assumption | (with_reducible refine Blk.new' ?_; first | with_reducible rfl | (simp; done)) | with_reducible refine Blk.alloc ?_ _ | with_reducible refine Blk.grow ?_ _ | with_reducible refine Blk.drew ?_ | with_reducible refine Blk.drewN ?_ _ | (with_reducible refine Blk.far ?_ (by first | (dsimp only; omega) | (simp; omega)) _) | (with_reducible apply Blk.two) | (with_reducible refine Blk.set' ?_ _ _ ?_) | (with_reducible rfl) | rfl))
  have g_r : Blk w_3 (w.heap.size + 3) 24 #[.int .u64 0, .int .u64 0] := by
    refine Blk.kept ?_ hb_3
    (repeat (first | with_reducible assumption | (with_reducible refine Blk.new' ?_; first | with_reducible rfl | (simp; done)) | with_reducible refine Blk.alloc ?_ _ | with_reducible refine Blk.grow ?_ _ | with_reducible refine Blk.drew ?_ | with_reducible refine Blk.drewN ?_ _ | (with_reducible refine Blk.far ?_ (by first | (dsimp only; omega) | (simp; omega)) _) | (with_reducible apply Blk.two) | (with_reducible refine Blk.set' ?_ _ _ ?_) | (with_reducible rfl) | rfl))
  clear f_x x_l r_x f_y y_l r_y f_p p_l r_p f_r r_l r_0 r_1 r_f0 r_f1 t_x t_y t_p t_r hB_2 hb_3
  have f_x := g_x
  clear g_x
  have f_y := g_y
  clear g_y
  have f_p := g_p
  clear g_p
  have f_r := g_r
  clear g_r
  have r_x := rowAt_blk f_x
  have x_l := f_x.lt
  replace f_x := Lib.hid f_x
  have r_y := rowAt_blk f_y
  have y_l := f_y.lt
  replace f_y := Lib.hid f_y
  have r_p := rowAt_blk f_p
  have p_l := f_p.lt
  replace f_p := Lib.hid f_p
  have r_0 : w_3.cell? ⟨w.heap.size + 3, 0, none⟩ = some (.int .u64 0) := (f_r).cell 0
  have r_1 : w_3.cell? ⟨w.heap.size + 3, 1, none⟩ = some (.int .u64 0) := (f_r).cell 1
  have r_f0 := (f_r).frozen 0
  have r_f1 := (f_r).frozen 1
  have r_l := (f_r).lt
  replace f_r := Lib.hid f_r
  replace hB_3 := Lib.hid hB_3
  by_cases hv3 : v3 = 0
  case neg =>
    have g1 : chk20 0 0 v3 v4 = v3 := by unfold chk20; simp [hv3]
    have g2 : ∀ a b, amt20 v3 n7 r7 a b = 0 := fun a b => by unfold amt20; rw [if_pos hv3]
    have g3 : (v3 == 0) = false := by simpa using hv3
    have g4 : (v3 != 0) = true := by simpa using hv3
    as_aux_lemma =>
      go_wp2_with fail
      refine bodyPost_ret (v := .tuple #[.int .u32 v3, .agg #[.int .u64 0, .int .u64 0]]) (by simp [results, Try.results36, go_sem, r_0, r_1, r_l]) rfl ⟨by rw [g1, g2, g2], ?_⟩
      have t := hB_3.out
      (repeat (first | with_reducible exact Below.refl _ _ | with_reducible assumption | (with_reducible refine bel_set ?_ (by first | exact Nat.le_refl _ | (simp; done) | (simp; omega) | omega) _) | with_reducible refine bel_grow ?_ _ | with_reducible refine Below.drew ?_ | with_reducible refine below_drewN ?_ _ | with_reducible refine bel_alloc ?_ _ | with_reducible refine bel_trans ?_ (by assumption)))
  case pos =>
  subst hv3
  go_wp2_with fail
  refine (HL.out _).mono ?_
  rintro e w_4 ⟨rfl, hb_4⟩
  have z_4 := hb_4.size
  try simp at z_4
  have t_ := hB_3.out
  have hB_4 := bel_eld (w := w) (X := _) (by first | ((repeat (first | with_reducible exact Below.refl _ _ | with_reducible assumption | (with_reducible refine bel_set ?_ (by first | exact Nat.le_refl _ | (simp; done) | (simp; omega) | omega) _) | with_reducible refine bel_grow ?_ _ | with_reducible refine Below.drew ?_ | with_reducible refine below_drewN ?_ _ | with_reducible refine bel_alloc ?_ _ | with_reducible refine bel_trans ?_ (by assumption))); done) | (repeat (first | exact Below.refl _ _ | assumption | refine below_drewN ?_ _ | refine bel_grow ?_ _ | refine Below.drew ?_ | refine bel_alloc ?_ _ | refine bel_set ?_ (by first | exact Nat.le_refl _ | (simp; done) | (simp; omega) | omega) _ | refine bel_trans ?_ (by assumption)))) hb_4
  clear t_
  have t_x := f_x.out
  have t_y := f_y.out
  have t_p := f_p.out
  have t_r := f_r.out
  have g_x : Blk w_4 (w.heap.size) 28 #[.int .u64 xi1, .int .u64 xi2, .int .u64 xd1, .int .u64 xd2, .int .u64 xc1, .int .u64 xc2, .int .u64 xm1, .int .u64 xm2, .int .u64 xw1, .int .u64 xw2, .int .u64 xtg, .int .u32 xto, .int .u32 xlg, .int .u16 xcd, .int .u16 xfl, .int .u64 xst] := by
    refine Blk.kept ?_ hb_4
    (repeat (first | with_reducible assumption | (with_reducible refine Blk.new' ?_; first | with_reducible rfl | (simp; done)) | with_reducible refine Blk.alloc ?_ _ | with_reducible refine Blk.grow ?_ _ | with_reducible refine Blk.drew ?_ | with_reducible refine Blk.drewN ?_ _ | (with_reducible refine Blk.far ?_ (by first | (dsimp only; omega) | (simp; omega)) _) | (with_reducible apply Blk.two) | (with_reducible refine Blk.set' ?_ _ _ ?_) | (with_reducible rfl) | rfl))
  have g_y : Blk w_4 (w.heap.size + 1) 66 #[.int .u64 yi1, .int .u64 yi2, .int .u64 yd1, .int .u64 yd2, .int .u64 yc1, .int .u64 yc2, .int .u64 ym1, .int .u64 ym2, .int .u64 yw1, .int .u64 yw2, .int .u64 ytg, .int .u32 yto, .int .u32 ylg, .int .u16 ycd, .int .u16 yfl, .int .u64 yst, .bool th, .int .u8 sv] := by
    refine Blk.kept ?_ hb_4
    (repeat (first | with_reducible assumption | (with_reducible refine Blk.new' ?_; first | with_reducible rfl | (simp; done)) | with_reducible refine Blk.alloc ?_ _ | with_reducible refine Blk.grow ?_ _ | with_reducible refine Blk.drew ?_ | with_reducible refine Blk.drewN ?_ _ | (with_reducible refine Blk.far ?_ (by first | (dsimp only; omega) | (simp; omega)) _) | (with_reducible apply Blk.two) | (with_reducible refine Blk.set' ?_ _ _ ?_) | (with_reducible rfl) | rfl))
  have g_p : Blk w_4 (w.heap.size + 2) 32 #[.int .u64 ai1, .int .u64 ai2, .int .u64 ap1, .int .u64 ap2, .int .u64 aq1, .int .u64 aq2, .int .u64 ar1, .int .u64 ar2, .int .u64 as1, .int .u64 as2, .int .u64 atg, .int .u32 alg, .int .u16 acd, .int .u16 afl, .int .u64 ast, .int .u64 ei1, .int .u64 ei2, .int .u64 ep1, .int .u64 ep2, .int .u64 eq1, .int .u64 eq2, .int .u64 er1, .int .u64 er2, .int .u64 es1, .int .u64 es2, .int .u64 etg, .int .u32 elg, .int .u16 ecd, .int .u16 efl, .int .u64 est, .bool hd, .bool hc] := by
    refine Blk.kept ?_ hb_4
    (repeat (first | with_reducible assumption | (with_reducible refine Blk.new' ?_; first | with_reducible rfl | (simp; done)) | with_reducible refine Blk.alloc ?_ _ | with_reducible refine Blk.grow ?_ _ | with_reducible refine Blk.drew ?_ | with_reducible refine Blk.drewN ?_ _ | (with_reducible refine Blk.far ?_ (by first | (dsimp only; omega) | (simp; omega)) _) | (with_reducible apply Blk.two) | (with_reducible refine Blk.set' ?_ _ _ ?_) | (with_reducible rfl) | rfl))
  have g_r : Blk w_4 (w.heap.size + 3) 24 #[.int .u64 0, .int .u64 0] := by
    refine Blk.kept ?_ hb_4
    (repeat (first | with_reducible assumption | (with_reducible refine Blk.new' ?_; first | with_reducible rfl | (simp; done)) | with_reducible refine Blk.alloc ?_ _ | with_reducible refine Blk.grow ?_ _ | with_reducible refine Blk.drew ?_ | with_reducible refine Blk.drewN ?_ _ | (with_reducible refine Blk.far ?_ (by first | (dsimp only; omega) | (simp; omega)) _) | (with_reducible apply Blk.two) | (with_reducible refine Blk.set' ?_ _ _ ?_) | (with_reducible rfl) | rfl))
  clear f_x x_l r_x f_y y_l r_y f_p p_l r_p f_r r_l r_0 r_1 r_f0 r_f1 t_x t_y t_p t_r hB_3 hb_4
  have f_x := g_x
  clear g_x
  have f_y := g_y
  clear g_y
  have f_p := g_p
  clear g_p
  have f_r := g_r
  clear g_r
  have r_x := rowAt_blk f_x
  have x_l := f_x.lt
  replace f_x := Lib.hid f_x
  have r_y := rowAt_blk f_y
  have y_l := f_y.lt
  replace f_y := Lib.hid f_y
  have r_p := rowAt_blk f_p
  have p_l := f_p.lt
  replace f_p := Lib.hid f_p
  have r_0 : w_4.cell? ⟨w.heap.size + 3, 0, none⟩ = some (.int .u64 0) := (f_r).cell 0
  have r_1 : w_4.cell? ⟨w.heap.size + 3, 1, none⟩ = some (.int .u64 0) := (f_r).cell 1
  have r_f0 := (f_r).frozen 0
  have r_f1 := (f_r).frozen 1
  have r_l := (f_r).lt
  replace f_r := Lib.hid f_r
  replace hB_4 := Lib.hid hB_4
  by_cases hv4 : v4 = 0
  case neg =>
    have g1 : chk20 0 0 0 v4 = v4 := by unfold chk20; simp [hv4]
    have g2 : ∀ a b, amt20 v4 n7 r7 a b = 0 := fun a b => by unfold amt20; rw [if_pos hv4]
    have g3 : (v4 == 0) = false := by simpa using hv4
    have g4 : (v4 != 0) = true := by simpa using hv4
    as_aux_lemma =>
      go_wp2_with fail
      refine bodyPost_ret (v := .tuple #[.int .u32 v4, .agg #[.int .u64 0, .int .u64 0]]) (by simp [results, Try.results36, go_sem, r_0, r_1, r_l]) rfl ⟨by rw [g1, g2, g2], ?_⟩
      have t := hB_4.out
      (repeat (first | with_reducible exact Below.refl _ _ | with_reducible assumption | (with_reducible refine bel_set ?_ (by first | exact Nat.le_refl _ | (simp; done) | (simp; omega) | omega) _) | with_reducible refine bel_grow ?_ _ | with_reducible refine Below.drew ?_ | with_reducible refine below_drewN ?_ _ | with_reducible refine bel_alloc ?_ _ | with_reducible refine bel_trans ?_ (by assumption)))
  case pos =>
  subst hv4
  have g1 : chk20 0 0 0 0 = 0 := rfl
  have g2 : ∀ a b, amt20 0 n7 r7 a b = if n7 || r7 then b else a := fun a b => by unfold amt20; rw [if_neg (by simp)]
  have x6 : w_4.cell? ⟨w.heap.size, 6, none⟩ = some (.int .u64 xm1) := f_x.out.cell 6
  have x7 : w_4.cell? ⟨w.heap.size, 7, none⟩ = some (.int .u64 xm2) := f_x.out.cell 7
  have x14 : w_4.cell? ⟨w.heap.size, 14, none⟩ = some (.int .u16 xfl) := f_x.out.cell 14
  have y6 : w_4.cell? ⟨w.heap.size + 1, 6, none⟩ = some (.int .u64 ym1) := f_y.out.cell 6
  have y7 : w_4.cell? ⟨w.heap.size + 1, 7, none⟩ = some (.int .u64 ym2) := f_y.out.cell 7
  go_upto_region 10 with fail
  go_cut [33] (fun s wx => s = .bool (!n7 && !r7) ∧ Below w_4.heap.size w_4 wx)
  case first =>
    cases n7 <;> cases r7
    all_goals (
      first | (with_reducible refine rgrow2 (by kernel_rfl) (by kernel_rfl) ?_) | (refine rgrow (by kernel_rfl) (by kernel_rfl) ?_)
      repeat (go_big_quiet_step (((first | (go_at_call 65; exact grow_call (wtop_any _))))))
      refine wpQuiet_nil ?_
      intro dr
      go_wp2_with fail
      go_meet
      exact ⟨by first | rfl | simp, by first | exact grow_below _ _ | exact Below.drew (grow_below _ _)⟩)
  case rest =>
  obtain ⟨rfl, hw⟩ := hcut
  have bX := bel_eld hB_4.out hw
  have gr := f_r.out.kept hw
  have u6 := hw.cell (p := ⟨w.heap.size, 6, none⟩) x_l
  have zx6 : wc.cell? ⟨w.heap.size, 6, none⟩ = some (.int .u64 xm1) := (hw.cell (p := ⟨w.heap.size, 6, none⟩) x_l).trans x6
  have zx7 : wc.cell? ⟨w.heap.size, 7, none⟩ = some (.int .u64 xm2) := (hw.cell (p := ⟨w.heap.size, 7, none⟩) x_l).trans x7
  have zy6 : wc.cell? ⟨w.heap.size + 1, 6, none⟩ = some (.int .u64 ym1) := (hw.cell (p := ⟨w.heap.size + 1, 6, none⟩) y_l).trans y6
  have zy7 : wc.cell? ⟨w.heap.size + 1, 7, none⟩ = some (.int .u64 ym2) := (hw.cell (p := ⟨w.heap.size + 1, 7, none⟩) y_l).trans y7
  have n1 : ¬ w.heap.size = w.heap.size + 3 := by omega
  have n2 : ¬ w.heap.size + 1 = w.heap.size + 3 := by omega
  clear x6 x7 x14 y6 y7 u6 r_0 r_1 r_f0 r_f1 r_l f_r f_x f_y f_p hB_4 x_l y_l p_l r_x r_y r_p hw HN HF HO HL
  as_aux_lemma =>
    have c0 := (gr).cell 0
    have c1 := (gr).cell 1
    have cf0 := (gr).frozen 0
    have cf1 := (gr).frozen 1
    have cl := (gr).lt
    replace gr := Lib.hid gr
    replace bX := Lib.hid bX
    cases hq : (!n7 && !r7)
    case false =>
      have hq2 : (n7 || r7) = true := by cases n7 <;> cases r7 <;> simp_all
      go_upto_region 12 with fail
      go_region_held3 (fun w' => w'.cell? ⟨w.heap.size + 1, 6, none⟩ = some (.int .u64 ym1) ∧ w'.cell? ⟨w.heap.size + 1, 7, none⟩ = some (.int .u64 ym2))
        ((repeat' apply And.intro) <;> (first | with_reducible assumption | ((repeat (first | with_reducible refine keepd ?_ | with_reducible refine keeps (by dsimp only; omega) ?_)); with_reducible assumption) | assumption))
        (fail)
      all_goals (
        go_wp2_with fail
        refine abs_post (fun Y => Below w.heap.size w Y ∧ Blk Y (w.heap.size + 3) 24 #[.int .u64 ym1, .int .u64 ym2]) ?_ ?_
        · have t := bX.out
          refine ⟨by (repeat (first | with_reducible exact Below.refl _ _ | with_reducible assumption | (with_reducible refine bel_set ?_ (by first | exact Nat.le_refl _ | (simp; done) | (simp; omega) | omega) _) | with_reducible refine bel_grow ?_ _ | with_reducible refine Below.drew ?_ | with_reducible refine below_drewN ?_ _ | with_reducible refine bel_alloc ?_ _ | with_reducible refine bel_trans ?_ (by assumption))), ?_⟩
          repeat (with_reducible refine Blk.drew ?_)
          exact Blk.two gr.out
        rintro Y ⟨bZ, gP⟩
        have p0 := (gP).cell 0
        have p1 := (gP).cell 1
        have pf0 := (gP).frozen 0
        have pf1 := (gP).frozen 1
        have pl := (gP).lt
        refine bodyPost_ret (v := .tuple #[.int .u32 0, .agg #[.int .u64 ym1, .int .u64 ym2]]) (by simp [results, Try.results36, go_sem, p0, p1, pl]) rfl ⟨by rw [g1, g2, g2, hq2]; rfl, bZ⟩)
    case true =>
      have hq2 : (n7 || r7) = false := by cases n7 <;> cases r7 <;> simp_all
      go_upto_region 11 with fail
      go_region_held3 (fun w' => w'.cell? ⟨w.heap.size, 6, none⟩ = some (.int .u64 xm1) ∧ w'.cell? ⟨w.heap.size, 7, none⟩ = some (.int .u64 xm2))
        ((repeat' apply And.intro) <;> (first | with_reducible assumption | ((repeat (first | with_reducible refine keepd ?_ | with_reducible refine keeps (by dsimp only; omega) ?_)); with_reducible assumption) | assumption))
        (fail)
      all_goals (
        go_wp2_with fail
        refine abs_post (fun Y => Below w.heap.size w Y ∧ Blk Y (w.heap.size + 3) 24 #[.int .u64 xm1, .int .u64 xm2]) ?_ ?_
        · have t := bX.out
          refine ⟨by (repeat (first | with_reducible exact Below.refl _ _ | with_reducible assumption | (with_reducible refine bel_set ?_ (by first | exact Nat.le_refl _ | (simp; done) | (simp; omega) | omega) _) | with_reducible refine bel_grow ?_ _ | with_reducible refine Below.drew ?_ | with_reducible refine below_drewN ?_ _ | with_reducible refine bel_alloc ?_ _ | with_reducible refine bel_trans ?_ (by assumption))), ?_⟩
          repeat (with_reducible refine Blk.drew ?_)
          exact Blk.two gr.out
        rintro Y ⟨bZ, gP⟩
        have p0 := (gP).cell 0
        have p1 := (gP).cell 1
        have pf0 := (gP).frozen 0
        have pf1 := (gP).frozen 1
        have pl := (gP).lt
        refine bodyPost_ret (v := .tuple #[.int .u32 0, .agg #[.int .u64 xm1, .int .u64 xm2]]) (by simp [results, Try.results36, go_sem, p0, p1, pl]) rfl ⟨by rw [g1, g2, g2, hq2]; rfl, bZ⟩)
end Go.Proofs.Ytpbnakoimlmhnaa
