/-
  The document's check, walked.
-/
import Derived.Test.YtpbnakoimlmhnaaPw2
import Derived.Deep.RegionHeld
import Derived.Deep.DeepCutAuto
namespace Go.Proofs.Ytpbnakoimlmhnaa
set_option linter.unusedVariables false
set_option linter.unusedSimpArgs false
open Go.RowKit

attribute [local go_sem] loadV_ptr storeV_ptr one_func drew_hs ext_deb ext_cre ext_cols ext_acc
attribute [local go_sem ↓] load_Cols store_Cols load_Transfer store_Transfer load_Parties store_Parties load_Acct store_Acct
set_option maxRecDepth 20000 in
set_option maxHeartbeats 8000000 in
theorem refcheck_tt (xi1 xi2 xd1 xd2 xc1 xc2 xm1 xm2 xw1 xw2 xtg xto xlg xcd xfl xst ss ai1 ai2 ap1 ap2 aq1 aq2 ar1 ar2 as1 as2 atg alg acd afl ast ei1 ei2 ep1 ep2 eq1 eq2 er1 er2 es1 es2 etg elg ecd efl est n1 n2 rv wv a1 a2 : Int) ( lu lt da ca x0 x42 nt : Bool) (hto : 0 ≤ xto ∧ xto < 4294967296) (hlu : (alg != elg) = lu) (hlt : (xlg != alg) = lt) (hx0 : decide (0 < rv) = x0) (hx42 : decide (rv < 42) = x42)
    (HW : ∀ w, Calls Try.prog 61 #[.agg #[.int .u64 xi1, .int .u64 xi2, .int .u64 xd1, .int .u64 xd2, .int .u64 xc1, .int .u64 xc2, .int .u64 xm1, .int .u64 xm2, .int .u64 xw1, .int .u64 xw2, .int .u64 xtg, .int .u32 xto, .int .u32 xlg, .int .u16 xcd, .int .u16 xfl, .int .u64 xst]] w fun r w' => r = .returned (.int .i64 wv) ∧ Below w.heap.size w w')
    (HBa : ∀ w, Calls Try.prog 45 #[.int .u16 afl, .int .u16 16] w fun r w' => r = .returned (.bool da) ∧ Below w.heap.size w w')
    (HBe : ∀ w, Calls Try.prog 45 #[.int .u16 efl, .int .u16 16] w fun r w' => r = .returned (.bool ca) ∧ Below w.heap.size w w')
    (HA : ∀ w, Calls Try.prog 21 #[.agg #[.int .u64 xi1, .int .u64 xi2, .int .u64 xd1, .int .u64 xd2, .int .u64 xc1, .int .u64 xc2, .int .u64 xm1, .int .u64 xm2, .int .u64 xw1, .int .u64 xw2, .int .u64 xtg, .int .u32 xto, .int .u32 xlg, .int .u16 xcd, .int .u16 xfl, .int .u64 xst], .agg #[.int .u64 ai1, .int .u64 ai2, .int .u64 ap1, .int .u64 ap2, .int .u64 aq1, .int .u64 aq2, .int .u64 ar1, .int .u64 ar2, .int .u64 as1, .int .u64 as2, .int .u64 atg, .int .u32 alg, .int .u16 acd, .int .u16 afl, .int .u64 ast, .int .u64 ei1, .int .u64 ei2, .int .u64 ep1, .int .u64 ep2, .int .u64 eq1, .int .u64 eq2, .int .u64 er1, .int .u64 er2, .int .u64 es1, .int .u64 es2, .int .u64 etg, .int .u32 elg, .int .u16 ecd, .int .u16 efl, .int .u64 est, .bool true, .bool true]] w fun r w' => r = .returned (.agg #[.int .u64 n1, .int .u64 n2]) ∧ Below w.heap.size w w')
    (HR : ∀ w, Calls Try.prog 23 #[.agg #[.int .u64 xi1, .int .u64 xi2, .int .u64 xd1, .int .u64 xd2, .int .u64 xc1, .int .u64 xc2, .int .u64 xm1, .int .u64 xm2, .int .u64 xw1, .int .u64 xw2, .int .u64 xtg, .int .u32 xto, .int .u32 xlg, .int .u16 xcd, .int .u16 xfl, .int .u64 xst], .agg #[.int .u64 n1, .int .u64 n2], .agg #[.int .u64 ai1, .int .u64 ai2, .int .u64 ap1, .int .u64 ap2, .int .u64 aq1, .int .u64 aq2, .int .u64 ar1, .int .u64 ar2, .int .u64 as1, .int .u64 as2, .int .u64 atg, .int .u32 alg, .int .u16 acd, .int .u16 afl, .int .u64 ast, .int .u64 ei1, .int .u64 ei2, .int .u64 ep1, .int .u64 ep2, .int .u64 eq1, .int .u64 eq2, .int .u64 er1, .int .u64 er2, .int .u64 es1, .int .u64 es2, .int .u64 etg, .int .u32 elg, .int .u16 ecd, .int .u16 efl, .int .u64 est, .bool true, .bool true]] w fun r w' => r = .returned (.int .i64 rv) ∧ Below w.heap.size w w')
    (HD : ∀ w, Calls Try.prog 24 #[.agg #[.int .u64 18446744073709551615, .int .u64 ss], .agg #[.int .u64 0, .int .u64 xto]] w fun r w' => r = .returned (.tuple #[.agg #[.int .u64 a1, .int .u64 a2], .bool nt]) ∧ Below w.heap.size w w')
    (w : World) : Calls Try.prog 27 #[.agg #[.int .u64 xi1, .int .u64 xi2, .int .u64 xd1, .int .u64 xd2, .int .u64 xc1, .int .u64 xc2, .int .u64 xm1, .int .u64 xm2, .int .u64 xw1, .int .u64 xw2, .int .u64 xtg, .int .u32 xto, .int .u32 xlg, .int .u16 xcd, .int .u16 xfl, .int .u64 xst], .int .u64 ss, .agg #[.int .u64 ai1, .int .u64 ai2, .int .u64 ap1, .int .u64 ap2, .int .u64 aq1, .int .u64 aq2, .int .u64 ar1, .int .u64 ar2, .int .u64 as1, .int .u64 as2, .int .u64 atg, .int .u32 alg, .int .u16 acd, .int .u16 afl, .int .u64 ast, .int .u64 ei1, .int .u64 ei2, .int .u64 ep1, .int .u64 ep2, .int .u64 eq1, .int .u64 eq2, .int .u64 er1, .int .u64 er2, .int .u64 es1, .int .u64 es2, .int .u64 etg, .int .u32 elg, .int .u16 ecd, .int .u16 efl, .int .u64 est, .bool true, .bool true]] w fun r w' => r = .returned (res19i (rchk19 wv (paccV true true lu lt da ca) (rsumsV rv x0 x42 nt)) n1 n2) ∧ Below w.heap.size w w' := by
  replace HW := Lib.hid HW
  replace HBa := Lib.hid HBa
  replace HBe := Lib.hid HBe
  replace HA := Lib.hid HA
  replace HR := Lib.hid HR
  replace HD := Lib.hid HD
  have e1 : IntKind.u64.wrap xto = xto := by simp [IntKind.wrap, IntKind.bits, IntKind.signed]; omega
  clear hto
  have hb0 := Below.refl w.heap.size w
  go_enter Try.func27, Try.ntmps27
  replace hb0 := Lib.hid hb0
  go_wp2_with fail
  refine (HW.out _).mono ?_
  rintro e w_1 ⟨rfl, hb_1⟩
  have z_1 := hb_1.size
  try simp at z_1
  have t_ := hb0.out
  have hB_1 := bel_eld (w := w) (X := _) (by first | ((repeat (first | with_reducible exact Below.refl _ _ | with_reducible assumption | (with_reducible refine bel_set ?_ (by first | exact Nat.le_refl _ | (simp; done) | (simp; omega) | omega) _) | with_reducible refine bel_grow ?_ _ | with_reducible refine Below.drew ?_ | with_reducible refine below_drewN ?_ _ | with_reducible refine bel_alloc ?_ _ | with_reducible refine bel_trans ?_ (by assumption))); done) | (repeat (first | exact Below.refl _ _ | assumption | refine below_drewN ?_ _ | refine bel_grow ?_ _ | refine Below.drew ?_ | refine bel_alloc ?_ _ | refine bel_set ?_ (by first | exact Nat.le_refl _ | (simp; done) | (simp; omega) | omega) _ | refine bel_trans ?_ (by assumption)))) hb_1
  clear t_
  have g_x : Blk w_1 (w.heap.size) 28 #[.int .u64 xi1, .int .u64 xi2, .int .u64 xd1, .int .u64 xd2, .int .u64 xc1, .int .u64 xc2, .int .u64 xm1, .int .u64 xm2, .int .u64 xw1, .int .u64 xw2, .int .u64 xtg, .int .u32 xto, .int .u32 xlg, .int .u16 xcd, .int .u16 xfl, .int .u64 xst] := by
    refine Blk.kept ?_ hb_1
    (repeat (first | with_reducible assumption | (with_reducible refine Blk.new' ?_; first | with_reducible rfl | (simp; done)) | with_reducible refine Blk.alloc ?_ _ | with_reducible refine Blk.grow ?_ _ | with_reducible refine Blk.drew ?_ | with_reducible refine Blk.drewN ?_ _ | (with_reducible refine Blk.far ?_ (by first | (dsimp only; omega) | (simp; omega)) _) | (with_reducible apply Blk.two) | (with_reducible refine Blk.set' ?_ _ _ ?_) | (with_reducible rfl) | rfl))
  have g_p : Blk w_1 (w.heap.size + 1) 32 #[.int .u64 ai1, .int .u64 ai2, .int .u64 ap1, .int .u64 ap2, .int .u64 aq1, .int .u64 aq2, .int .u64 ar1, .int .u64 ar2, .int .u64 as1, .int .u64 as2, .int .u64 atg, .int .u32 alg, .int .u16 acd, .int .u16 afl, .int .u64 ast, .int .u64 ei1, .int .u64 ei2, .int .u64 ep1, .int .u64 ep2, .int .u64 eq1, .int .u64 eq2, .int .u64 er1, .int .u64 er2, .int .u64 es1, .int .u64 es2, .int .u64 etg, .int .u32 elg, .int .u16 ecd, .int .u16 efl, .int .u64 est, .bool true, .bool true] := by
    refine Blk.kept ?_ hb_1
    (repeat (first | with_reducible assumption | (with_reducible refine Blk.new' ?_; first | with_reducible rfl | (simp; done)) | with_reducible refine Blk.alloc ?_ _ | with_reducible refine Blk.grow ?_ _ | with_reducible refine Blk.drew ?_ | with_reducible refine Blk.drewN ?_ _ | (with_reducible refine Blk.far ?_ (by first | (dsimp only; omega) | (simp; omega)) _) | (with_reducible apply Blk.two) | (with_reducible refine Blk.set' ?_ _ _ ?_) | (with_reducible rfl) | rfl))
  have g_r : Blk w_1 (w.heap.size + 2) 24 #[.int .u64 0, .int .u64 0] := by
    refine Blk.kept ?_ hb_1
    (repeat (first | with_reducible assumption | (with_reducible refine Blk.new' ?_; first | with_reducible rfl | (simp; done)) | with_reducible refine Blk.alloc ?_ _ | with_reducible refine Blk.grow ?_ _ | with_reducible refine Blk.drew ?_ | with_reducible refine Blk.drewN ?_ _ | (with_reducible refine Blk.far ?_ (by first | (dsimp only; omega) | (simp; omega)) _) | (with_reducible apply Blk.two) | (with_reducible refine Blk.set' ?_ _ _ ?_) | (with_reducible rfl) | rfl))
  clear hb0 hb_1
  have f_x := g_x
  clear g_x
  have f_p := g_p
  clear g_p
  have f_r := g_r
  clear g_r
  have r_x := rowAt_blk f_x
  have x_l := f_x.lt
  have x_11 : w_1.cell? ⟨w.heap.size, 11, none⟩ = some (.int .u32 xto) := (f_x).cell 11
  have x_f11 := (f_x).frozen 11
  have x_12 : w_1.cell? ⟨w.heap.size, 12, none⟩ = some (.int .u32 xlg) := (f_x).cell 12
  have x_f12 := (f_x).frozen 12
  replace f_x := Lib.hid f_x
  have r_p := rowAt_blk f_p
  have p_l := f_p.lt
  have p_11 : w_1.cell? ⟨w.heap.size + 1, 11, none⟩ = some (.int .u32 alg) := (f_p).cell 11
  have p_f11 := (f_p).frozen 11
  have p_13 : w_1.cell? ⟨w.heap.size + 1, 13, none⟩ = some (.int .u16 afl) := (f_p).cell 13
  have p_f13 := (f_p).frozen 13
  have p_26 : w_1.cell? ⟨w.heap.size + 1, 26, none⟩ = some (.int .u32 elg) := (f_p).cell 26
  have p_f26 := (f_p).frozen 26
  have p_28 : w_1.cell? ⟨w.heap.size + 1, 28, none⟩ = some (.int .u16 efl) := (f_p).cell 28
  have p_f28 := (f_p).frozen 28
  have p_30 : w_1.cell? ⟨w.heap.size + 1, 30, none⟩ = some (.bool true) := (f_p).cell 30
  have p_f30 := (f_p).frozen 30
  have p_31 : w_1.cell? ⟨w.heap.size + 1, 31, none⟩ = some (.bool true) := (f_p).cell 31
  have p_f31 := (f_p).frozen 31
  replace f_p := Lib.hid f_p
  have r_0 : w_1.cell? ⟨w.heap.size + 2, 0, none⟩ = some (.int .u64 0) := (f_r).cell 0
  have r_1 : w_1.cell? ⟨w.heap.size + 2, 1, none⟩ = some (.int .u64 0) := (f_r).cell 1
  have r_f0 := (f_r).frozen 0
  have r_f1 := (f_r).frozen 1
  have r_l := (f_r).lt
  replace f_r := Lib.hid f_r
  replace hB_1 := Lib.hid hB_1
  by_cases hv1 : wv = 0
  case neg =>
    have g3 : (wv == 0) = false := by simpa using hv1
    have g4 : (wv != 0) = true := by simpa using hv1
    replace hv1 := Lib.hid hv1
    go_wp2_with fail
    refine abs_post (fun Y => Below w.heap.size w Y ∧ Blk Y (w.heap.size + 2) 24 #[.int .u64 0, .int .u64 0]) ?_ ?_
    · have t_B := hB_1.out
      have t_r := f_r.out
      exact ⟨by (repeat (first | with_reducible exact Below.refl _ _ | with_reducible assumption | (with_reducible refine bel_set ?_ (by first | exact Nat.le_refl _ | (simp; done) | (simp; omega) | omega) _) | with_reducible refine bel_grow ?_ _ | with_reducible refine Below.drew ?_ | with_reducible refine bel_alloc ?_ _ | with_reducible refine bel_eld ?_ (by assumption))), by first | exact Blk.two t_r | exact (Blk.two t_r).alloc _ | (repeat (first | with_reducible assumption | exact Hid.out (by assumption) | (with_reducible refine Blk.new' ?_; first | with_reducible rfl | (simp; done)) | with_reducible refine Blk.alloc ?_ _ | with_reducible refine Blk.drew ?_ | (with_reducible refine Blk.far ?_ (by first | (dsimp only; omega) | (simp; omega)) _)))⟩
    rintro Y ⟨bZ, gP⟩
    have p0 := (gP).cell 0
    have p1 := (gP).cell 1
    have pf0 := (gP).frozen 0
    have pf1 := (gP).frozen 1
    have pl := (gP).lt
    refine bodyPost_ret (v := .tuple #[.int .i64 wv, .agg #[.int .u64 0, .int .u64 0]]) (by simp [results, Try.results27, go_sem, p0, p1, pl]) rfl ⟨by (have q := hv1.out; simp [res19i, rchk19, q]), bZ⟩
  case pos =>
  subst hv1
  cases lu
  case true =>
    go_wp2_with fail
    refine abs_post (fun Y => Below w.heap.size w Y ∧ Blk Y (w.heap.size + 2) 24 #[.int .u64 0, .int .u64 0]) ?_ ?_
    · have t_B := hB_1.out
      have t_r := f_r.out
      exact ⟨by (repeat (first | with_reducible exact Below.refl _ _ | with_reducible assumption | (with_reducible refine bel_set ?_ (by first | exact Nat.le_refl _ | (simp; done) | (simp; omega) | omega) _) | with_reducible refine bel_grow ?_ _ | with_reducible refine Below.drew ?_ | with_reducible refine bel_alloc ?_ _ | with_reducible refine bel_eld ?_ (by assumption))), by first | exact Blk.two t_r | exact (Blk.two t_r).alloc _ | (repeat (first | with_reducible assumption | exact Hid.out (by assumption) | (with_reducible refine Blk.new' ?_; first | with_reducible rfl | (simp; done)) | with_reducible refine Blk.alloc ?_ _ | with_reducible refine Blk.drew ?_ | (with_reducible refine Blk.far ?_ (by first | (dsimp only; omega) | (simp; omega)) _)))⟩
    rintro Y ⟨bZ, gP⟩
    have p0 := (gP).cell 0
    have p1 := (gP).cell 1
    have pf0 := (gP).frozen 0
    have pf1 := (gP).frozen 1
    have pl := (gP).lt
    refine bodyPost_ret (v := .tuple #[.int .i64 31, .agg #[.int .u64 0, .int .u64 0]]) (by simp [results, Try.results27, go_sem, p0, p1, pl]) rfl ⟨by simp [res19i, rchk19, paccV, rsumsV], bZ⟩
  case false =>
  cases lt
  case true =>
    go_wp2_with fail
    refine abs_post (fun Y => Below w.heap.size w Y ∧ Blk Y (w.heap.size + 2) 24 #[.int .u64 0, .int .u64 0]) ?_ ?_
    · have t_B := hB_1.out
      have t_r := f_r.out
      exact ⟨by (repeat (first | with_reducible exact Below.refl _ _ | with_reducible assumption | (with_reducible refine bel_set ?_ (by first | exact Nat.le_refl _ | (simp; done) | (simp; omega) | omega) _) | with_reducible refine bel_grow ?_ _ | with_reducible refine Below.drew ?_ | with_reducible refine bel_alloc ?_ _ | with_reducible refine bel_eld ?_ (by assumption))), by first | exact Blk.two t_r | exact (Blk.two t_r).alloc _ | (repeat (first | with_reducible assumption | exact Hid.out (by assumption) | (with_reducible refine Blk.new' ?_; first | with_reducible rfl | (simp; done)) | with_reducible refine Blk.alloc ?_ _ | with_reducible refine Blk.drew ?_ | (with_reducible refine Blk.far ?_ (by first | (dsimp only; omega) | (simp; omega)) _)))⟩
    rintro Y ⟨bZ, gP⟩
    have p0 := (gP).cell 0
    have p1 := (gP).cell 1
    have pf0 := (gP).frozen 0
    have pf1 := (gP).frozen 1
    have pl := (gP).lt
    refine bodyPost_ret (v := .tuple #[.int .i64 32, .agg #[.int .u64 0, .int .u64 0]]) (by simp [results, Try.results27, go_sem, p0, p1, pl]) rfl ⟨by simp [res19i, rchk19, paccV, rsumsV], bZ⟩
  case false =>
  go_wp2_with fail
  refine (HBa.out _).mono ?_
  rintro e w_2 ⟨rfl, hb_2⟩
  have z_2 := hb_2.size
  try simp at z_2
  have t_ := hB_1.out
  have hB_2 := bel_eld (w := w) (X := _) (by first | ((repeat (first | with_reducible exact Below.refl _ _ | with_reducible assumption | (with_reducible refine bel_set ?_ (by first | exact Nat.le_refl _ | (simp; done) | (simp; omega) | omega) _) | with_reducible refine bel_grow ?_ _ | with_reducible refine Below.drew ?_ | with_reducible refine below_drewN ?_ _ | with_reducible refine bel_alloc ?_ _ | with_reducible refine bel_trans ?_ (by assumption))); done) | (repeat (first | exact Below.refl _ _ | assumption | refine below_drewN ?_ _ | refine bel_grow ?_ _ | refine Below.drew ?_ | refine bel_alloc ?_ _ | refine bel_set ?_ (by first | exact Nat.le_refl _ | (simp; done) | (simp; omega) | omega) _ | refine bel_trans ?_ (by assumption)))) hb_2
  clear t_
  have t_x := f_x.out
  have t_p := f_p.out
  have t_r := f_r.out
  have g_x : Blk w_2 (w.heap.size) 28 #[.int .u64 xi1, .int .u64 xi2, .int .u64 xd1, .int .u64 xd2, .int .u64 xc1, .int .u64 xc2, .int .u64 xm1, .int .u64 xm2, .int .u64 xw1, .int .u64 xw2, .int .u64 xtg, .int .u32 xto, .int .u32 xlg, .int .u16 xcd, .int .u16 xfl, .int .u64 xst] := by
    refine Blk.kept ?_ hb_2
    (repeat (first | with_reducible assumption | (with_reducible refine Blk.new' ?_; first | with_reducible rfl | (simp; done)) | with_reducible refine Blk.alloc ?_ _ | with_reducible refine Blk.grow ?_ _ | with_reducible refine Blk.drew ?_ | with_reducible refine Blk.drewN ?_ _ | (with_reducible refine Blk.far ?_ (by first | (dsimp only; omega) | (simp; omega)) _) | (with_reducible apply Blk.two) | (with_reducible refine Blk.set' ?_ _ _ ?_) | (with_reducible rfl) | rfl))
  have g_p : Blk w_2 (w.heap.size + 1) 32 #[.int .u64 ai1, .int .u64 ai2, .int .u64 ap1, .int .u64 ap2, .int .u64 aq1, .int .u64 aq2, .int .u64 ar1, .int .u64 ar2, .int .u64 as1, .int .u64 as2, .int .u64 atg, .int .u32 alg, .int .u16 acd, .int .u16 afl, .int .u64 ast, .int .u64 ei1, .int .u64 ei2, .int .u64 ep1, .int .u64 ep2, .int .u64 eq1, .int .u64 eq2, .int .u64 er1, .int .u64 er2, .int .u64 es1, .int .u64 es2, .int .u64 etg, .int .u32 elg, .int .u16 ecd, .int .u16 efl, .int .u64 est, .bool true, .bool true] := by
    refine Blk.kept ?_ hb_2
    (repeat (first | with_reducible assumption | (with_reducible refine Blk.new' ?_; first | with_reducible rfl | (simp; done)) | with_reducible refine Blk.alloc ?_ _ | with_reducible refine Blk.grow ?_ _ | with_reducible refine Blk.drew ?_ | with_reducible refine Blk.drewN ?_ _ | (with_reducible refine Blk.far ?_ (by first | (dsimp only; omega) | (simp; omega)) _) | (with_reducible apply Blk.two) | (with_reducible refine Blk.set' ?_ _ _ ?_) | (with_reducible rfl) | rfl))
  have g_r : Blk w_2 (w.heap.size + 2) 24 #[.int .u64 0, .int .u64 0] := by
    refine Blk.kept ?_ hb_2
    (repeat (first | with_reducible assumption | (with_reducible refine Blk.new' ?_; first | with_reducible rfl | (simp; done)) | with_reducible refine Blk.alloc ?_ _ | with_reducible refine Blk.grow ?_ _ | with_reducible refine Blk.drew ?_ | with_reducible refine Blk.drewN ?_ _ | (with_reducible refine Blk.far ?_ (by first | (dsimp only; omega) | (simp; omega)) _) | (with_reducible apply Blk.two) | (with_reducible refine Blk.set' ?_ _ _ ?_) | (with_reducible rfl) | rfl))
  clear f_x x_l r_x x_11 x_f11 x_12 x_f12 f_p p_l r_p p_11 p_f11 p_13 p_f13 p_26 p_f26 p_28 p_f28 p_30 p_f30 p_31 p_f31 f_r r_l r_0 r_1 r_f0 r_f1 t_x t_p t_r hB_1 hb_2
  have f_x := g_x
  clear g_x
  have f_p := g_p
  clear g_p
  have f_r := g_r
  clear g_r
  have r_x := rowAt_blk f_x
  have x_l := f_x.lt
  have x_11 : w_2.cell? ⟨w.heap.size, 11, none⟩ = some (.int .u32 xto) := (f_x).cell 11
  have x_f11 := (f_x).frozen 11
  have x_12 : w_2.cell? ⟨w.heap.size, 12, none⟩ = some (.int .u32 xlg) := (f_x).cell 12
  have x_f12 := (f_x).frozen 12
  replace f_x := Lib.hid f_x
  have r_p := rowAt_blk f_p
  have p_l := f_p.lt
  have p_11 : w_2.cell? ⟨w.heap.size + 1, 11, none⟩ = some (.int .u32 alg) := (f_p).cell 11
  have p_f11 := (f_p).frozen 11
  have p_13 : w_2.cell? ⟨w.heap.size + 1, 13, none⟩ = some (.int .u16 afl) := (f_p).cell 13
  have p_f13 := (f_p).frozen 13
  have p_26 : w_2.cell? ⟨w.heap.size + 1, 26, none⟩ = some (.int .u32 elg) := (f_p).cell 26
  have p_f26 := (f_p).frozen 26
  have p_28 : w_2.cell? ⟨w.heap.size + 1, 28, none⟩ = some (.int .u16 efl) := (f_p).cell 28
  have p_f28 := (f_p).frozen 28
  have p_30 : w_2.cell? ⟨w.heap.size + 1, 30, none⟩ = some (.bool true) := (f_p).cell 30
  have p_f30 := (f_p).frozen 30
  have p_31 : w_2.cell? ⟨w.heap.size + 1, 31, none⟩ = some (.bool true) := (f_p).cell 31
  have p_f31 := (f_p).frozen 31
  replace f_p := Lib.hid f_p
  have r_0 : w_2.cell? ⟨w.heap.size + 2, 0, none⟩ = some (.int .u64 0) := (f_r).cell 0
  have r_1 : w_2.cell? ⟨w.heap.size + 2, 1, none⟩ = some (.int .u64 0) := (f_r).cell 1
  have r_f0 := (f_r).frozen 0
  have r_f1 := (f_r).frozen 1
  have r_l := (f_r).lt
  replace f_r := Lib.hid f_r
  replace hB_2 := Lib.hid hB_2
  cases da
  case true =>
    go_wp2_with fail
    refine abs_post (fun Y => Below w.heap.size w Y ∧ Blk Y (w.heap.size + 2) 24 #[.int .u64 0, .int .u64 0]) ?_ ?_
    · have t_B := hB_2.out
      have t_r := f_r.out
      exact ⟨by (repeat (first | with_reducible exact Below.refl _ _ | with_reducible assumption | (with_reducible refine bel_set ?_ (by first | exact Nat.le_refl _ | (simp; done) | (simp; omega) | omega) _) | with_reducible refine bel_grow ?_ _ | with_reducible refine Below.drew ?_ | with_reducible refine bel_alloc ?_ _ | with_reducible refine bel_eld ?_ (by assumption))), by first | exact Blk.two t_r | exact (Blk.two t_r).alloc _ | (repeat (first | with_reducible assumption | exact Hid.out (by assumption) | (with_reducible refine Blk.new' ?_; first | with_reducible rfl | (simp; done)) | with_reducible refine Blk.alloc ?_ _ | with_reducible refine Blk.drew ?_ | (with_reducible refine Blk.far ?_ (by first | (dsimp only; omega) | (simp; omega)) _)))⟩
    rintro Y ⟨bZ, gP⟩
    have p0 := (gP).cell 0
    have p1 := (gP).cell 1
    have pf0 := (gP).frozen 0
    have pf1 := (gP).frozen 1
    have pl := (gP).lt
    refine bodyPost_ret (v := .tuple #[.int .i64 33, .agg #[.int .u64 0, .int .u64 0]]) (by simp [results, Try.results27, go_sem, p0, p1, pl]) rfl ⟨by simp [res19i, rchk19, paccV, rsumsV], bZ⟩
  case false =>
  go_wp2_with fail
  refine (HBe.out _).mono ?_
  rintro e w_3 ⟨rfl, hb_3⟩
  have z_3 := hb_3.size
  try simp at z_3
  have t_ := hB_2.out
  have hB_3 := bel_eld (w := w) (X := _) (by first | ((repeat (first | with_reducible exact Below.refl _ _ | with_reducible assumption | (with_reducible refine bel_set ?_ (by first | exact Nat.le_refl _ | (simp; done) | (simp; omega) | omega) _) | with_reducible refine bel_grow ?_ _ | with_reducible refine Below.drew ?_ | with_reducible refine below_drewN ?_ _ | with_reducible refine bel_alloc ?_ _ | with_reducible refine bel_trans ?_ (by assumption))); done) | (repeat (first | exact Below.refl _ _ | assumption | refine below_drewN ?_ _ | refine bel_grow ?_ _ | refine Below.drew ?_ | refine bel_alloc ?_ _ | refine bel_set ?_ (by first | exact Nat.le_refl _ | (simp; done) | (simp; omega) | omega) _ | refine bel_trans ?_ (by assumption)))) hb_3
  clear t_
  have t_x := f_x.out
  have t_p := f_p.out
  have t_r := f_r.out
  have g_x : Blk w_3 (w.heap.size) 28 #[.int .u64 xi1, .int .u64 xi2, .int .u64 xd1, .int .u64 xd2, .int .u64 xc1, .int .u64 xc2, .int .u64 xm1, .int .u64 xm2, .int .u64 xw1, .int .u64 xw2, .int .u64 xtg, .int .u32 xto, .int .u32 xlg, .int .u16 xcd, .int .u16 xfl, .int .u64 xst] := by
    refine Blk.kept ?_ hb_3
    (repeat (first | with_reducible assumption | (with_reducible refine Blk.new' ?_; first | with_reducible rfl | (simp; done)) | with_reducible refine Blk.alloc ?_ _ | with_reducible refine Blk.grow ?_ _ | with_reducible refine Blk.drew ?_ | with_reducible refine Blk.drewN ?_ _ | (with_reducible refine Blk.far ?_ (by first | (dsimp only; omega) | (simp; omega)) _) | (with_reducible apply Blk.two) | (with_reducible refine Blk.set' ?_ _ _ ?_) | (with_reducible rfl) | rfl))
  have g_p : Blk w_3 (w.heap.size + 1) 32 #[.int .u64 ai1, .int .u64 ai2, .int .u64 ap1, .int .u64 ap2, .int .u64 aq1, .int .u64 aq2, .int .u64 ar1, .int .u64 ar2, .int .u64 as1, .int .u64 as2, .int .u64 atg, .int .u32 alg, .int .u16 acd, .int .u16 afl, .int .u64 ast, .int .u64 ei1, .int .u64 ei2, .int .u64 ep1, .int .u64 ep2, .int .u64 eq1, .int .u64 eq2, .int .u64 er1, .int .u64 er2, .int .u64 es1, .int .u64 es2, .int .u64 etg, .int .u32 elg, .int .u16 ecd, .int .u16 efl, .int .u64 est, .bool true, .bool true] := by
    refine Blk.kept ?_ hb_3
    (repeat (first | with_reducible assumption | (with_reducible refine Blk.new' ?_; first | with_reducible rfl | (simp; done)) | with_reducible refine Blk.alloc ?_ _ | with_reducible refine Blk.grow ?_ _ | with_reducible refine Blk.drew ?_ | with_reducible refine Blk.drewN ?_ _ | (with_reducible refine Blk.far ?_ (by first | (dsimp only; omega) | (simp; omega)) _) | (with_reducible apply Blk.two) | (with_reducible refine Blk.set' ?_ _ _ ?_) | (with_reducible rfl) | rfl))
  have g_r : Blk w_3 (w.heap.size + 2) 24 #[.int .u64 0, .int .u64 0] := by
    refine Blk.kept ?_ hb_3
    (repeat (first | with_reducible assumption | (with_reducible refine Blk.new' ?_; first | with_reducible rfl | (simp; done)) | with_reducible refine Blk.alloc ?_ _ | with_reducible refine Blk.grow ?_ _ | with_reducible refine Blk.drew ?_ | with_reducible refine Blk.drewN ?_ _ | (with_reducible refine Blk.far ?_ (by first | (dsimp only; omega) | (simp; omega)) _) | (with_reducible apply Blk.two) | (with_reducible refine Blk.set' ?_ _ _ ?_) | (with_reducible rfl) | rfl))
  clear f_x x_l r_x x_11 x_f11 x_12 x_f12 f_p p_l r_p p_11 p_f11 p_13 p_f13 p_26 p_f26 p_28 p_f28 p_30 p_f30 p_31 p_f31 f_r r_l r_0 r_1 r_f0 r_f1 t_x t_p t_r hB_2 hb_3
  have f_x := g_x
  clear g_x
  have f_p := g_p
  clear g_p
  have f_r := g_r
  clear g_r
  have r_x := rowAt_blk f_x
  have x_l := f_x.lt
  have x_11 : w_3.cell? ⟨w.heap.size, 11, none⟩ = some (.int .u32 xto) := (f_x).cell 11
  have x_f11 := (f_x).frozen 11
  have x_12 : w_3.cell? ⟨w.heap.size, 12, none⟩ = some (.int .u32 xlg) := (f_x).cell 12
  have x_f12 := (f_x).frozen 12
  replace f_x := Lib.hid f_x
  have r_p := rowAt_blk f_p
  have p_l := f_p.lt
  have p_11 : w_3.cell? ⟨w.heap.size + 1, 11, none⟩ = some (.int .u32 alg) := (f_p).cell 11
  have p_f11 := (f_p).frozen 11
  have p_13 : w_3.cell? ⟨w.heap.size + 1, 13, none⟩ = some (.int .u16 afl) := (f_p).cell 13
  have p_f13 := (f_p).frozen 13
  have p_26 : w_3.cell? ⟨w.heap.size + 1, 26, none⟩ = some (.int .u32 elg) := (f_p).cell 26
  have p_f26 := (f_p).frozen 26
  have p_28 : w_3.cell? ⟨w.heap.size + 1, 28, none⟩ = some (.int .u16 efl) := (f_p).cell 28
  have p_f28 := (f_p).frozen 28
  have p_30 : w_3.cell? ⟨w.heap.size + 1, 30, none⟩ = some (.bool true) := (f_p).cell 30
  have p_f30 := (f_p).frozen 30
  have p_31 : w_3.cell? ⟨w.heap.size + 1, 31, none⟩ = some (.bool true) := (f_p).cell 31
  have p_f31 := (f_p).frozen 31
  replace f_p := Lib.hid f_p
  have r_0 : w_3.cell? ⟨w.heap.size + 2, 0, none⟩ = some (.int .u64 0) := (f_r).cell 0
  have r_1 : w_3.cell? ⟨w.heap.size + 2, 1, none⟩ = some (.int .u64 0) := (f_r).cell 1
  have r_f0 := (f_r).frozen 0
  have r_f1 := (f_r).frozen 1
  have r_l := (f_r).lt
  replace f_r := Lib.hid f_r
  replace hB_3 := Lib.hid hB_3
  cases ca
  case true =>
    go_wp2_with fail
    refine abs_post (fun Y => Below w.heap.size w Y ∧ Blk Y (w.heap.size + 2) 24 #[.int .u64 0, .int .u64 0]) ?_ ?_
    · have t_B := hB_3.out
      have t_r := f_r.out
      exact ⟨by (repeat (first | with_reducible exact Below.refl _ _ | with_reducible assumption | (with_reducible refine bel_set ?_ (by first | exact Nat.le_refl _ | (simp; done) | (simp; omega) | omega) _) | with_reducible refine bel_grow ?_ _ | with_reducible refine Below.drew ?_ | with_reducible refine bel_alloc ?_ _ | with_reducible refine bel_eld ?_ (by assumption))), by first | exact Blk.two t_r | exact (Blk.two t_r).alloc _ | (repeat (first | with_reducible assumption | exact Hid.out (by assumption) | (with_reducible refine Blk.new' ?_; first | with_reducible rfl | (simp; done)) | with_reducible refine Blk.alloc ?_ _ | with_reducible refine Blk.drew ?_ | (with_reducible refine Blk.far ?_ (by first | (dsimp only; omega) | (simp; omega)) _)))⟩
    rintro Y ⟨bZ, gP⟩
    have p0 := (gP).cell 0
    have p1 := (gP).cell 1
    have pf0 := (gP).frozen 0
    have pf1 := (gP).frozen 1
    have pl := (gP).lt
    refine bodyPost_ret (v := .tuple #[.int .i64 34, .agg #[.int .u64 0, .int .u64 0]]) (by simp [results, Try.results27, go_sem, p0, p1, pl]) rfl ⟨by simp [res19i, rchk19, paccV, rsumsV], bZ⟩
  case false =>
  go_wp2_with fail
  refine (HA.out _).mono ?_
  rintro e w_4 ⟨rfl, hb_4⟩
  have z_4 := hb_4.size
  try simp at z_4
  have t_ := hB_3.out
  have hB_4 := bel_eld (w := w) (X := _) (by first | ((repeat (first | with_reducible exact Below.refl _ _ | with_reducible assumption | (with_reducible refine bel_set ?_ (by first | exact Nat.le_refl _ | (simp; done) | (simp; omega) | omega) _) | with_reducible refine bel_grow ?_ _ | with_reducible refine Below.drew ?_ | with_reducible refine below_drewN ?_ _ | with_reducible refine bel_alloc ?_ _ | with_reducible refine bel_trans ?_ (by assumption))); done) | (repeat (first | exact Below.refl _ _ | assumption | refine below_drewN ?_ _ | refine bel_grow ?_ _ | refine Below.drew ?_ | refine bel_alloc ?_ _ | refine bel_set ?_ (by first | exact Nat.le_refl _ | (simp; done) | (simp; omega) | omega) _ | refine bel_trans ?_ (by assumption)))) hb_4
  clear t_
  have t_x := f_x.out
  have t_p := f_p.out
  have t_r := f_r.out
  have g_x : Blk w_4 (w.heap.size) 28 #[.int .u64 xi1, .int .u64 xi2, .int .u64 xd1, .int .u64 xd2, .int .u64 xc1, .int .u64 xc2, .int .u64 xm1, .int .u64 xm2, .int .u64 xw1, .int .u64 xw2, .int .u64 xtg, .int .u32 xto, .int .u32 xlg, .int .u16 xcd, .int .u16 xfl, .int .u64 xst] := by
    refine Blk.kept ?_ hb_4
    (repeat (first | with_reducible assumption | (with_reducible refine Blk.new' ?_; first | with_reducible rfl | (simp; done)) | with_reducible refine Blk.alloc ?_ _ | with_reducible refine Blk.grow ?_ _ | with_reducible refine Blk.drew ?_ | with_reducible refine Blk.drewN ?_ _ | (with_reducible refine Blk.far ?_ (by first | (dsimp only; omega) | (simp; omega)) _) | (with_reducible apply Blk.two) | (with_reducible refine Blk.set' ?_ _ _ ?_) | (with_reducible rfl) | rfl))
  have g_p : Blk w_4 (w.heap.size + 1) 32 #[.int .u64 ai1, .int .u64 ai2, .int .u64 ap1, .int .u64 ap2, .int .u64 aq1, .int .u64 aq2, .int .u64 ar1, .int .u64 ar2, .int .u64 as1, .int .u64 as2, .int .u64 atg, .int .u32 alg, .int .u16 acd, .int .u16 afl, .int .u64 ast, .int .u64 ei1, .int .u64 ei2, .int .u64 ep1, .int .u64 ep2, .int .u64 eq1, .int .u64 eq2, .int .u64 er1, .int .u64 er2, .int .u64 es1, .int .u64 es2, .int .u64 etg, .int .u32 elg, .int .u16 ecd, .int .u16 efl, .int .u64 est, .bool true, .bool true] := by
    refine Blk.kept ?_ hb_4
    (repeat (first | with_reducible assumption | (with_reducible refine Blk.new' ?_; first | with_reducible rfl | (simp; done)) | with_reducible refine Blk.alloc ?_ _ | with_reducible refine Blk.grow ?_ _ | with_reducible refine Blk.drew ?_ | with_reducible refine Blk.drewN ?_ _ | (with_reducible refine Blk.far ?_ (by first | (dsimp only; omega) | (simp; omega)) _) | (with_reducible apply Blk.two) | (with_reducible refine Blk.set' ?_ _ _ ?_) | (with_reducible rfl) | rfl))
  have g_r : Blk w_4 (w.heap.size + 2) 24 #[.int .u64 0, .int .u64 0] := by
    refine Blk.kept ?_ hb_4
    (repeat (first | with_reducible assumption | (with_reducible refine Blk.new' ?_; first | with_reducible rfl | (simp; done)) | with_reducible refine Blk.alloc ?_ _ | with_reducible refine Blk.grow ?_ _ | with_reducible refine Blk.drew ?_ | with_reducible refine Blk.drewN ?_ _ | (with_reducible refine Blk.far ?_ (by first | (dsimp only; omega) | (simp; omega)) _) | (with_reducible apply Blk.two) | (with_reducible refine Blk.set' ?_ _ _ ?_) | (with_reducible rfl) | rfl))
  clear f_x x_l r_x x_11 x_f11 x_12 x_f12 f_p p_l r_p p_11 p_f11 p_13 p_f13 p_26 p_f26 p_28 p_f28 p_30 p_f30 p_31 p_f31 f_r r_l r_0 r_1 r_f0 r_f1 t_x t_p t_r hB_3 hb_4
  have f_x := g_x
  clear g_x
  have f_p := g_p
  clear g_p
  have f_r := g_r
  clear g_r
  have r_x := rowAt_blk f_x
  have x_l := f_x.lt
  have x_11 : w_4.cell? ⟨w.heap.size, 11, none⟩ = some (.int .u32 xto) := (f_x).cell 11
  have x_f11 := (f_x).frozen 11
  have x_12 : w_4.cell? ⟨w.heap.size, 12, none⟩ = some (.int .u32 xlg) := (f_x).cell 12
  have x_f12 := (f_x).frozen 12
  replace f_x := Lib.hid f_x
  have r_p := rowAt_blk f_p
  have p_l := f_p.lt
  have p_11 : w_4.cell? ⟨w.heap.size + 1, 11, none⟩ = some (.int .u32 alg) := (f_p).cell 11
  have p_f11 := (f_p).frozen 11
  have p_13 : w_4.cell? ⟨w.heap.size + 1, 13, none⟩ = some (.int .u16 afl) := (f_p).cell 13
  have p_f13 := (f_p).frozen 13
  have p_26 : w_4.cell? ⟨w.heap.size + 1, 26, none⟩ = some (.int .u32 elg) := (f_p).cell 26
  have p_f26 := (f_p).frozen 26
  have p_28 : w_4.cell? ⟨w.heap.size + 1, 28, none⟩ = some (.int .u16 efl) := (f_p).cell 28
  have p_f28 := (f_p).frozen 28
  have p_30 : w_4.cell? ⟨w.heap.size + 1, 30, none⟩ = some (.bool true) := (f_p).cell 30
  have p_f30 := (f_p).frozen 30
  have p_31 : w_4.cell? ⟨w.heap.size + 1, 31, none⟩ = some (.bool true) := (f_p).cell 31
  have p_f31 := (f_p).frozen 31
  replace f_p := Lib.hid f_p
  have r_0 : w_4.cell? ⟨w.heap.size + 2, 0, none⟩ = some (.int .u64 0) := (f_r).cell 0
  have r_1 : w_4.cell? ⟨w.heap.size + 2, 1, none⟩ = some (.int .u64 0) := (f_r).cell 1
  have r_f0 := (f_r).frozen 0
  have r_f1 := (f_r).frozen 1
  have r_l := (f_r).lt
  replace f_r := Lib.hid f_r
  replace hB_4 := Lib.hid hB_4
  go_wp2_with fail
  refine (HR.out _).mono ?_
  rintro e w_5 ⟨rfl, hb_5⟩
  have z_5 := hb_5.size
  try simp at z_5
  have t_ := hB_4.out
  have hB_5 := bel_eld (w := w) (X := _) (by first | ((repeat (first | with_reducible exact Below.refl _ _ | with_reducible assumption | (with_reducible refine bel_set ?_ (by first | exact Nat.le_refl _ | (simp; done) | (simp; omega) | omega) _) | with_reducible refine bel_grow ?_ _ | with_reducible refine Below.drew ?_ | with_reducible refine below_drewN ?_ _ | with_reducible refine bel_alloc ?_ _ | with_reducible refine bel_trans ?_ (by assumption))); done) | (repeat (first | exact Below.refl _ _ | assumption | refine below_drewN ?_ _ | refine bel_grow ?_ _ | refine Below.drew ?_ | refine bel_alloc ?_ _ | refine bel_set ?_ (by first | exact Nat.le_refl _ | (simp; done) | (simp; omega) | omega) _ | refine bel_trans ?_ (by assumption)))) hb_5
  clear t_
  have t_x := f_x.out
  have t_p := f_p.out
  have t_r := f_r.out
  have g_x : Blk w_5 (w.heap.size) 28 #[.int .u64 xi1, .int .u64 xi2, .int .u64 xd1, .int .u64 xd2, .int .u64 xc1, .int .u64 xc2, .int .u64 xm1, .int .u64 xm2, .int .u64 xw1, .int .u64 xw2, .int .u64 xtg, .int .u32 xto, .int .u32 xlg, .int .u16 xcd, .int .u16 xfl, .int .u64 xst] := by
    refine Blk.kept ?_ hb_5
    (repeat (first | with_reducible assumption | (with_reducible refine Blk.new' ?_; first | with_reducible rfl | (simp; done)) | with_reducible refine Blk.alloc ?_ _ | with_reducible refine Blk.grow ?_ _ | with_reducible refine Blk.drew ?_ | with_reducible refine Blk.drewN ?_ _ | (with_reducible refine Blk.far ?_ (by first | (dsimp only; omega) | (simp; omega)) _) | (with_reducible apply Blk.two) | (with_reducible refine Blk.set' ?_ _ _ ?_) | (with_reducible rfl) | rfl))
  have g_p : Blk w_5 (w.heap.size + 1) 32 #[.int .u64 ai1, .int .u64 ai2, .int .u64 ap1, .int .u64 ap2, .int .u64 aq1, .int .u64 aq2, .int .u64 ar1, .int .u64 ar2, .int .u64 as1, .int .u64 as2, .int .u64 atg, .int .u32 alg, .int .u16 acd, .int .u16 afl, .int .u64 ast, .int .u64 ei1, .int .u64 ei2, .int .u64 ep1, .int .u64 ep2, .int .u64 eq1, .int .u64 eq2, .int .u64 er1, .int .u64 er2, .int .u64 es1, .int .u64 es2, .int .u64 etg, .int .u32 elg, .int .u16 ecd, .int .u16 efl, .int .u64 est, .bool true, .bool true] := by
    refine Blk.kept ?_ hb_5
    (repeat (first | with_reducible assumption | (with_reducible refine Blk.new' ?_; first | with_reducible rfl | (simp; done)) | with_reducible refine Blk.alloc ?_ _ | with_reducible refine Blk.grow ?_ _ | with_reducible refine Blk.drew ?_ | with_reducible refine Blk.drewN ?_ _ | (with_reducible refine Blk.far ?_ (by first | (dsimp only; omega) | (simp; omega)) _) | (with_reducible apply Blk.two) | (with_reducible refine Blk.set' ?_ _ _ ?_) | (with_reducible rfl) | rfl))
  have g_r : Blk w_5 (w.heap.size + 2) 24 #[.int .u64 0, .int .u64 0] := by
    refine Blk.kept ?_ hb_5
    (repeat (first | with_reducible assumption | (with_reducible refine Blk.new' ?_; first | with_reducible rfl | (simp; done)) | with_reducible refine Blk.alloc ?_ _ | with_reducible refine Blk.grow ?_ _ | with_reducible refine Blk.drew ?_ | with_reducible refine Blk.drewN ?_ _ | (with_reducible refine Blk.far ?_ (by first | (dsimp only; omega) | (simp; omega)) _) | (with_reducible apply Blk.two) | (with_reducible refine Blk.set' ?_ _ _ ?_) | (with_reducible rfl) | rfl))
  have g_a : Blk w_5 (w_4.heap.size) 24 #[.int .u64 n1, .int .u64 n2] := by
    refine Blk.kept ?_ hb_5
    (repeat (first | with_reducible assumption | (with_reducible refine Blk.new' ?_; first | with_reducible rfl | (simp; done)) | with_reducible refine Blk.alloc ?_ _ | with_reducible refine Blk.grow ?_ _ | with_reducible refine Blk.drew ?_ | with_reducible refine Blk.drewN ?_ _ | (with_reducible refine Blk.far ?_ (by first | (dsimp only; omega) | (simp; omega)) _) | (with_reducible apply Blk.two) | (with_reducible refine Blk.set' ?_ _ _ ?_) | (with_reducible rfl) | rfl))
  clear f_x x_l r_x x_11 x_f11 x_12 x_f12 f_p p_l r_p p_11 p_f11 p_13 p_f13 p_26 p_f26 p_28 p_f28 p_30 p_f30 p_31 p_f31 f_r r_l r_0 r_1 r_f0 r_f1 t_x t_p t_r hB_4 hb_5
  have f_x := g_x
  clear g_x
  have f_p := g_p
  clear g_p
  have f_r := g_r
  clear g_r
  have f_a := g_a
  clear g_a
  have r_x := rowAt_blk f_x
  have x_l := f_x.lt
  have x_11 : w_5.cell? ⟨w.heap.size, 11, none⟩ = some (.int .u32 xto) := (f_x).cell 11
  have x_f11 := (f_x).frozen 11
  have x_12 : w_5.cell? ⟨w.heap.size, 12, none⟩ = some (.int .u32 xlg) := (f_x).cell 12
  have x_f12 := (f_x).frozen 12
  replace f_x := Lib.hid f_x
  have r_p := rowAt_blk f_p
  have p_l := f_p.lt
  have p_11 : w_5.cell? ⟨w.heap.size + 1, 11, none⟩ = some (.int .u32 alg) := (f_p).cell 11
  have p_f11 := (f_p).frozen 11
  have p_13 : w_5.cell? ⟨w.heap.size + 1, 13, none⟩ = some (.int .u16 afl) := (f_p).cell 13
  have p_f13 := (f_p).frozen 13
  have p_26 : w_5.cell? ⟨w.heap.size + 1, 26, none⟩ = some (.int .u32 elg) := (f_p).cell 26
  have p_f26 := (f_p).frozen 26
  have p_28 : w_5.cell? ⟨w.heap.size + 1, 28, none⟩ = some (.int .u16 efl) := (f_p).cell 28
  have p_f28 := (f_p).frozen 28
  have p_30 : w_5.cell? ⟨w.heap.size + 1, 30, none⟩ = some (.bool true) := (f_p).cell 30
  have p_f30 := (f_p).frozen 30
  have p_31 : w_5.cell? ⟨w.heap.size + 1, 31, none⟩ = some (.bool true) := (f_p).cell 31
  have p_f31 := (f_p).frozen 31
  replace f_p := Lib.hid f_p
  have r_0 : w_5.cell? ⟨w.heap.size + 2, 0, none⟩ = some (.int .u64 0) := (f_r).cell 0
  have r_1 : w_5.cell? ⟨w.heap.size + 2, 1, none⟩ = some (.int .u64 0) := (f_r).cell 1
  have r_f0 := (f_r).frozen 0
  have r_f1 := (f_r).frozen 1
  have r_l := (f_r).lt
  replace f_r := Lib.hid f_r
  have a_0 : w_5.cell? ⟨w_4.heap.size, 0, none⟩ = some (.int .u64 n1) := (f_a).cell 0
  have a_1 : w_5.cell? ⟨w_4.heap.size, 1, none⟩ = some (.int .u64 n2) := (f_a).cell 1
  have a_f0 := (f_a).frozen 0
  have a_f1 := (f_a).frozen 1
  have a_l := (f_a).lt
  replace f_a := Lib.hid f_a
  replace hB_5 := Lib.hid hB_5

  cases x0
  case true =>
    cases x42
    case true =>
      have hq : ¬ rv = 0 := by have q := of_decide_eq_true hx0; omega
      replace hq := Lib.hid hq
      go_wp2_with fail
      refine abs_post (fun Y => Below w.heap.size w Y ∧ Blk Y (w.heap.size + 2) 24 #[.int .u64 0, .int .u64 0]) ?_ ?_
      · have t_B := hB_5.out
        have t_r := f_r.out
        exact ⟨by (repeat (first | with_reducible exact Below.refl _ _ | with_reducible assumption | (with_reducible refine bel_set ?_ (by first | exact Nat.le_refl _ | (simp; done) | (simp; omega) | omega) _) | with_reducible refine bel_grow ?_ _ | with_reducible refine Below.drew ?_ | with_reducible refine bel_alloc ?_ _ | with_reducible refine bel_eld ?_ (by assumption))), by first | exact Blk.two t_r | exact (Blk.two t_r).alloc _ | (repeat (first | with_reducible assumption | exact Hid.out (by assumption) | (with_reducible refine Blk.new' ?_; first | with_reducible rfl | (simp; done)) | with_reducible refine Blk.alloc ?_ _ | with_reducible refine Blk.drew ?_ | (with_reducible refine Blk.far ?_ (by first | (dsimp only; omega) | (simp; omega)) _)))⟩
      rintro Y ⟨bZ, gP⟩
      have p0 := (gP).cell 0
      have p1 := (gP).cell 1
      have pf0 := (gP).frozen 0
      have pf1 := (gP).frozen 1
      have pl := (gP).lt
      refine bodyPost_ret (v := .tuple #[.int .i64 rv, .agg #[.int .u64 0, .int .u64 0]]) (by simp [results, Try.results27, go_sem, p0, p1, pl]) rfl ⟨by (have q := hq.out; simp [res19i, rchk19, paccV, rsumsV, q]), bZ⟩
    case false =>
      have hq : ¬ rv = 0 := by have q := of_decide_eq_true hx0; omega
      replace hq := Lib.hid hq
      go_wp2_with fail
      refine (HD.out _).mono ?_
      rintro e w_6 ⟨rfl, hb_6⟩
      have z_6 := hb_6.size
      try simp at z_6
      have t_ := hB_5.out
      have hB_6 := bel_eld (w := w) (X := _) (by first | ((repeat (first | with_reducible exact Below.refl _ _ | with_reducible assumption | (with_reducible refine bel_set ?_ (by first | exact Nat.le_refl _ | (simp; done) | (simp; omega) | omega) _) | with_reducible refine bel_grow ?_ _ | with_reducible refine Below.drew ?_ | with_reducible refine below_drewN ?_ _ | with_reducible refine bel_alloc ?_ _ | with_reducible refine bel_trans ?_ (by assumption))); done) | (repeat (first | exact Below.refl _ _ | assumption | refine below_drewN ?_ _ | refine bel_grow ?_ _ | refine Below.drew ?_ | refine bel_alloc ?_ _ | refine bel_set ?_ (by first | exact Nat.le_refl _ | (simp; done) | (simp; omega) | omega) _ | refine bel_trans ?_ (by assumption)))) hb_6
      clear t_
      have t_x := f_x.out
      have t_p := f_p.out
      have t_r := f_r.out
      have t_a := f_a.out
      have g_x : Blk w_6 (w.heap.size) 28 #[.int .u64 xi1, .int .u64 xi2, .int .u64 xd1, .int .u64 xd2, .int .u64 xc1, .int .u64 xc2, .int .u64 xm1, .int .u64 xm2, .int .u64 xw1, .int .u64 xw2, .int .u64 xtg, .int .u32 xto, .int .u32 xlg, .int .u16 xcd, .int .u16 xfl, .int .u64 xst] := by
        refine Blk.kept ?_ hb_6
        (repeat (first | with_reducible assumption | (with_reducible refine Blk.new' ?_; first | with_reducible rfl | (simp; done)) | with_reducible refine Blk.alloc ?_ _ | with_reducible refine Blk.grow ?_ _ | with_reducible refine Blk.drew ?_ | with_reducible refine Blk.drewN ?_ _ | (with_reducible refine Blk.far ?_ (by first | (dsimp only; omega) | (simp; omega)) _) | (with_reducible apply Blk.two) | (with_reducible refine Blk.set' ?_ _ _ ?_) | (with_reducible rfl) | rfl))
      have g_p : Blk w_6 (w.heap.size + 1) 32 #[.int .u64 ai1, .int .u64 ai2, .int .u64 ap1, .int .u64 ap2, .int .u64 aq1, .int .u64 aq2, .int .u64 ar1, .int .u64 ar2, .int .u64 as1, .int .u64 as2, .int .u64 atg, .int .u32 alg, .int .u16 acd, .int .u16 afl, .int .u64 ast, .int .u64 ei1, .int .u64 ei2, .int .u64 ep1, .int .u64 ep2, .int .u64 eq1, .int .u64 eq2, .int .u64 er1, .int .u64 er2, .int .u64 es1, .int .u64 es2, .int .u64 etg, .int .u32 elg, .int .u16 ecd, .int .u16 efl, .int .u64 est, .bool true, .bool true] := by
        refine Blk.kept ?_ hb_6
        (repeat (first | with_reducible assumption | (with_reducible refine Blk.new' ?_; first | with_reducible rfl | (simp; done)) | with_reducible refine Blk.alloc ?_ _ | with_reducible refine Blk.grow ?_ _ | with_reducible refine Blk.drew ?_ | with_reducible refine Blk.drewN ?_ _ | (with_reducible refine Blk.far ?_ (by first | (dsimp only; omega) | (simp; omega)) _) | (with_reducible apply Blk.two) | (with_reducible refine Blk.set' ?_ _ _ ?_) | (with_reducible rfl) | rfl))
      have g_r : Blk w_6 (w.heap.size + 2) 24 #[.int .u64 0, .int .u64 0] := by
        refine Blk.kept ?_ hb_6
        (repeat (first | with_reducible assumption | (with_reducible refine Blk.new' ?_; first | with_reducible rfl | (simp; done)) | with_reducible refine Blk.alloc ?_ _ | with_reducible refine Blk.grow ?_ _ | with_reducible refine Blk.drew ?_ | with_reducible refine Blk.drewN ?_ _ | (with_reducible refine Blk.far ?_ (by first | (dsimp only; omega) | (simp; omega)) _) | (with_reducible apply Blk.two) | (with_reducible refine Blk.set' ?_ _ _ ?_) | (with_reducible rfl) | rfl))
      have g_a : Blk w_6 (w_4.heap.size) 24 #[.int .u64 n1, .int .u64 n2] := by
        refine Blk.kept ?_ hb_6
        (repeat (first | with_reducible assumption | (with_reducible refine Blk.new' ?_; first | with_reducible rfl | (simp; done)) | with_reducible refine Blk.alloc ?_ _ | with_reducible refine Blk.grow ?_ _ | with_reducible refine Blk.drew ?_ | with_reducible refine Blk.drewN ?_ _ | (with_reducible refine Blk.far ?_ (by first | (dsimp only; omega) | (simp; omega)) _) | (with_reducible apply Blk.two) | (with_reducible refine Blk.set' ?_ _ _ ?_) | (with_reducible rfl) | rfl))
      clear f_x x_l r_x x_11 x_f11 x_12 x_f12 f_p p_l r_p p_11 p_f11 p_13 p_f13 p_26 p_f26 p_28 p_f28 p_30 p_f30 p_31 p_f31 f_r r_l r_0 r_1 r_f0 r_f1 f_a a_l a_0 a_1 a_f0 a_f1 t_x t_p t_r t_a hB_5 hb_6
      have f_x := g_x
      clear g_x
      have f_p := g_p
      clear g_p
      have f_r := g_r
      clear g_r
      have f_a := g_a
      clear g_a
      have r_x := rowAt_blk f_x
      have x_l := f_x.lt
      have x_11 : w_6.cell? ⟨w.heap.size, 11, none⟩ = some (.int .u32 xto) := (f_x).cell 11
      have x_f11 := (f_x).frozen 11
      have x_12 : w_6.cell? ⟨w.heap.size, 12, none⟩ = some (.int .u32 xlg) := (f_x).cell 12
      have x_f12 := (f_x).frozen 12
      replace f_x := Lib.hid f_x
      have r_p := rowAt_blk f_p
      have p_l := f_p.lt
      have p_11 : w_6.cell? ⟨w.heap.size + 1, 11, none⟩ = some (.int .u32 alg) := (f_p).cell 11
      have p_f11 := (f_p).frozen 11
      have p_13 : w_6.cell? ⟨w.heap.size + 1, 13, none⟩ = some (.int .u16 afl) := (f_p).cell 13
      have p_f13 := (f_p).frozen 13
      have p_26 : w_6.cell? ⟨w.heap.size + 1, 26, none⟩ = some (.int .u32 elg) := (f_p).cell 26
      have p_f26 := (f_p).frozen 26
      have p_28 : w_6.cell? ⟨w.heap.size + 1, 28, none⟩ = some (.int .u16 efl) := (f_p).cell 28
      have p_f28 := (f_p).frozen 28
      have p_30 : w_6.cell? ⟨w.heap.size + 1, 30, none⟩ = some (.bool true) := (f_p).cell 30
      have p_f30 := (f_p).frozen 30
      have p_31 : w_6.cell? ⟨w.heap.size + 1, 31, none⟩ = some (.bool true) := (f_p).cell 31
      have p_f31 := (f_p).frozen 31
      replace f_p := Lib.hid f_p
      have r_0 : w_6.cell? ⟨w.heap.size + 2, 0, none⟩ = some (.int .u64 0) := (f_r).cell 0
      have r_1 : w_6.cell? ⟨w.heap.size + 2, 1, none⟩ = some (.int .u64 0) := (f_r).cell 1
      have r_f0 := (f_r).frozen 0
      have r_f1 := (f_r).frozen 1
      have r_l := (f_r).lt
      replace f_r := Lib.hid f_r
      have a_0 : w_6.cell? ⟨w_4.heap.size, 0, none⟩ = some (.int .u64 n1) := (f_a).cell 0
      have a_1 : w_6.cell? ⟨w_4.heap.size, 1, none⟩ = some (.int .u64 n2) := (f_a).cell 1
      have a_f0 := (f_a).frozen 0
      have a_f1 := (f_a).frozen 1
      have a_l := (f_a).lt
      replace f_a := Lib.hid f_a
      replace hB_6 := Lib.hid hB_6
      cases nt
      case false =>
        go_wp2_with fail
        refine abs_post (fun Y => Below w.heap.size w Y ∧ Blk Y (w.heap.size + 2) 24 #[.int .u64 0, .int .u64 0]) ?_ ?_
        · have t_B := hB_6.out
          have t_r := f_r.out
          exact ⟨by (repeat (first | with_reducible exact Below.refl _ _ | with_reducible assumption | (with_reducible refine bel_set ?_ (by first | exact Nat.le_refl _ | (simp; done) | (simp; omega) | omega) _) | with_reducible refine bel_grow ?_ _ | with_reducible refine Below.drew ?_ | with_reducible refine bel_alloc ?_ _ | with_reducible refine bel_eld ?_ (by assumption))), by first | exact Blk.two t_r | exact (Blk.two t_r).alloc _ | (repeat (first | with_reducible assumption | exact Hid.out (by assumption) | (with_reducible refine Blk.new' ?_; first | with_reducible rfl | (simp; done)) | with_reducible refine Blk.alloc ?_ _ | with_reducible refine Blk.drew ?_ | (with_reducible refine Blk.far ?_ (by first | (dsimp only; omega) | (simp; omega)) _)))⟩
        rintro Y ⟨bZ, gP⟩
        have p0 := (gP).cell 0
        have p1 := (gP).cell 1
        have pf0 := (gP).frozen 0
        have pf1 := (gP).frozen 1
        have pl := (gP).lt
        refine bodyPost_ret (v := .tuple #[.int .i64 41, .agg #[.int .u64 0, .int .u64 0]]) (by simp [results, Try.results27, go_sem, p0, p1, pl]) rfl ⟨by simp [res19i, rchk19, paccV, rsumsV], bZ⟩
      case true =>
        go_wp2_with fail
        refine abs_post (fun Y => Below w.heap.size w Y ∧ Blk Y (w.heap.size + 2) 24 #[.int .u64 0, .int .u64 0]) ?_ ?_
        · have t_B := hB_6.out
          have t_r := f_r.out
          exact ⟨by (repeat (first | with_reducible exact Below.refl _ _ | with_reducible assumption | (with_reducible refine bel_set ?_ (by first | exact Nat.le_refl _ | (simp; done) | (simp; omega) | omega) _) | with_reducible refine bel_grow ?_ _ | with_reducible refine Below.drew ?_ | with_reducible refine bel_alloc ?_ _ | with_reducible refine bel_eld ?_ (by assumption))), by first | exact Blk.two t_r | exact (Blk.two t_r).alloc _ | (repeat (first | with_reducible assumption | exact Hid.out (by assumption) | (with_reducible refine Blk.new' ?_; first | with_reducible rfl | (simp; done)) | with_reducible refine Blk.alloc ?_ _ | with_reducible refine Blk.drew ?_ | (with_reducible refine Blk.far ?_ (by first | (dsimp only; omega) | (simp; omega)) _)))⟩
        rintro Y ⟨bZ, gP⟩
        have p0 := (gP).cell 0
        have p1 := (gP).cell 1
        have pf0 := (gP).frozen 0
        have pf1 := (gP).frozen 1
        have pl := (gP).lt
        refine bodyPost_ret (v := .tuple #[.int .i64 rv, .agg #[.int .u64 0, .int .u64 0]]) (by simp [results, Try.results27, go_sem, p0, p1, pl]) rfl ⟨by (have q := hq.out; simp [res19i, rchk19, paccV, rsumsV, q]), bZ⟩
  case false =>

    go_wp2_with fail
    refine (HD.out _).mono ?_
    rintro e w_6 ⟨rfl, hb_6⟩
    have z_6 := hb_6.size
    try simp at z_6
    have t_ := hB_5.out
    have hB_6 := bel_eld (w := w) (X := _) (by first | ((repeat (first | with_reducible exact Below.refl _ _ | with_reducible assumption | (with_reducible refine bel_set ?_ (by first | exact Nat.le_refl _ | (simp; done) | (simp; omega) | omega) _) | with_reducible refine bel_grow ?_ _ | with_reducible refine Below.drew ?_ | with_reducible refine below_drewN ?_ _ | with_reducible refine bel_alloc ?_ _ | with_reducible refine bel_trans ?_ (by assumption))); done) | (repeat (first | exact Below.refl _ _ | assumption | refine below_drewN ?_ _ | refine bel_grow ?_ _ | refine Below.drew ?_ | refine bel_alloc ?_ _ | refine bel_set ?_ (by first | exact Nat.le_refl _ | (simp; done) | (simp; omega) | omega) _ | refine bel_trans ?_ (by assumption)))) hb_6
    clear t_
    have t_x := f_x.out
    have t_p := f_p.out
    have t_r := f_r.out
    have t_a := f_a.out
    have g_x : Blk w_6 (w.heap.size) 28 #[.int .u64 xi1, .int .u64 xi2, .int .u64 xd1, .int .u64 xd2, .int .u64 xc1, .int .u64 xc2, .int .u64 xm1, .int .u64 xm2, .int .u64 xw1, .int .u64 xw2, .int .u64 xtg, .int .u32 xto, .int .u32 xlg, .int .u16 xcd, .int .u16 xfl, .int .u64 xst] := by
      refine Blk.kept ?_ hb_6
      (repeat (first | with_reducible assumption | (with_reducible refine Blk.new' ?_; first | with_reducible rfl | (simp; done)) | with_reducible refine Blk.alloc ?_ _ | with_reducible refine Blk.grow ?_ _ | with_reducible refine Blk.drew ?_ | with_reducible refine Blk.drewN ?_ _ | (with_reducible refine Blk.far ?_ (by first | (dsimp only; omega) | (simp; omega)) _) | (with_reducible apply Blk.two) | (with_reducible refine Blk.set' ?_ _ _ ?_) | (with_reducible rfl) | rfl))
    have g_p : Blk w_6 (w.heap.size + 1) 32 #[.int .u64 ai1, .int .u64 ai2, .int .u64 ap1, .int .u64 ap2, .int .u64 aq1, .int .u64 aq2, .int .u64 ar1, .int .u64 ar2, .int .u64 as1, .int .u64 as2, .int .u64 atg, .int .u32 alg, .int .u16 acd, .int .u16 afl, .int .u64 ast, .int .u64 ei1, .int .u64 ei2, .int .u64 ep1, .int .u64 ep2, .int .u64 eq1, .int .u64 eq2, .int .u64 er1, .int .u64 er2, .int .u64 es1, .int .u64 es2, .int .u64 etg, .int .u32 elg, .int .u16 ecd, .int .u16 efl, .int .u64 est, .bool true, .bool true] := by
      refine Blk.kept ?_ hb_6
      (repeat (first | with_reducible assumption | (with_reducible refine Blk.new' ?_; first | with_reducible rfl | (simp; done)) | with_reducible refine Blk.alloc ?_ _ | with_reducible refine Blk.grow ?_ _ | with_reducible refine Blk.drew ?_ | with_reducible refine Blk.drewN ?_ _ | (with_reducible refine Blk.far ?_ (by first | (dsimp only; omega) | (simp; omega)) _) | (with_reducible apply Blk.two) | (with_reducible refine Blk.set' ?_ _ _ ?_) | (with_reducible rfl) | rfl))
    have g_r : Blk w_6 (w.heap.size + 2) 24 #[.int .u64 0, .int .u64 0] := by
      refine Blk.kept ?_ hb_6
      (repeat (first | with_reducible assumption | (with_reducible refine Blk.new' ?_; first | with_reducible rfl | (simp; done)) | with_reducible refine Blk.alloc ?_ _ | with_reducible refine Blk.grow ?_ _ | with_reducible refine Blk.drew ?_ | with_reducible refine Blk.drewN ?_ _ | (with_reducible refine Blk.far ?_ (by first | (dsimp only; omega) | (simp; omega)) _) | (with_reducible apply Blk.two) | (with_reducible refine Blk.set' ?_ _ _ ?_) | (with_reducible rfl) | rfl))
    have g_a : Blk w_6 (w_4.heap.size) 24 #[.int .u64 n1, .int .u64 n2] := by
      refine Blk.kept ?_ hb_6
      (repeat (first | with_reducible assumption | (with_reducible refine Blk.new' ?_; first | with_reducible rfl | (simp; done)) | with_reducible refine Blk.alloc ?_ _ | with_reducible refine Blk.grow ?_ _ | with_reducible refine Blk.drew ?_ | with_reducible refine Blk.drewN ?_ _ | (with_reducible refine Blk.far ?_ (by first | (dsimp only; omega) | (simp; omega)) _) | (with_reducible apply Blk.two) | (with_reducible refine Blk.set' ?_ _ _ ?_) | (with_reducible rfl) | rfl))
    clear f_x x_l r_x x_11 x_f11 x_12 x_f12 f_p p_l r_p p_11 p_f11 p_13 p_f13 p_26 p_f26 p_28 p_f28 p_30 p_f30 p_31 p_f31 f_r r_l r_0 r_1 r_f0 r_f1 f_a a_l a_0 a_1 a_f0 a_f1 t_x t_p t_r t_a hB_5 hb_6
    have f_x := g_x
    clear g_x
    have f_p := g_p
    clear g_p
    have f_r := g_r
    clear g_r
    have f_a := g_a
    clear g_a
    have r_x := rowAt_blk f_x
    have x_l := f_x.lt
    have x_11 : w_6.cell? ⟨w.heap.size, 11, none⟩ = some (.int .u32 xto) := (f_x).cell 11
    have x_f11 := (f_x).frozen 11
    have x_12 : w_6.cell? ⟨w.heap.size, 12, none⟩ = some (.int .u32 xlg) := (f_x).cell 12
    have x_f12 := (f_x).frozen 12
    replace f_x := Lib.hid f_x
    have r_p := rowAt_blk f_p
    have p_l := f_p.lt
    have p_11 : w_6.cell? ⟨w.heap.size + 1, 11, none⟩ = some (.int .u32 alg) := (f_p).cell 11
    have p_f11 := (f_p).frozen 11
    have p_13 : w_6.cell? ⟨w.heap.size + 1, 13, none⟩ = some (.int .u16 afl) := (f_p).cell 13
    have p_f13 := (f_p).frozen 13
    have p_26 : w_6.cell? ⟨w.heap.size + 1, 26, none⟩ = some (.int .u32 elg) := (f_p).cell 26
    have p_f26 := (f_p).frozen 26
    have p_28 : w_6.cell? ⟨w.heap.size + 1, 28, none⟩ = some (.int .u16 efl) := (f_p).cell 28
    have p_f28 := (f_p).frozen 28
    have p_30 : w_6.cell? ⟨w.heap.size + 1, 30, none⟩ = some (.bool true) := (f_p).cell 30
    have p_f30 := (f_p).frozen 30
    have p_31 : w_6.cell? ⟨w.heap.size + 1, 31, none⟩ = some (.bool true) := (f_p).cell 31
    have p_f31 := (f_p).frozen 31
    replace f_p := Lib.hid f_p
    have r_0 : w_6.cell? ⟨w.heap.size + 2, 0, none⟩ = some (.int .u64 0) := (f_r).cell 0
    have r_1 : w_6.cell? ⟨w.heap.size + 2, 1, none⟩ = some (.int .u64 0) := (f_r).cell 1
    have r_f0 := (f_r).frozen 0
    have r_f1 := (f_r).frozen 1
    have r_l := (f_r).lt
    replace f_r := Lib.hid f_r
    have a_0 : w_6.cell? ⟨w_4.heap.size, 0, none⟩ = some (.int .u64 n1) := (f_a).cell 0
    have a_1 : w_6.cell? ⟨w_4.heap.size, 1, none⟩ = some (.int .u64 n2) := (f_a).cell 1
    have a_f0 := (f_a).frozen 0
    have a_f1 := (f_a).frozen 1
    have a_l := (f_a).lt
    replace f_a := Lib.hid f_a
    replace hB_6 := Lib.hid hB_6
    cases nt
    case false =>
      go_wp2_with fail
      refine abs_post (fun Y => Below w.heap.size w Y ∧ Blk Y (w.heap.size + 2) 24 #[.int .u64 0, .int .u64 0]) ?_ ?_
      · have t_B := hB_6.out
        have t_r := f_r.out
        exact ⟨by (repeat (first | with_reducible exact Below.refl _ _ | with_reducible assumption | (with_reducible refine bel_set ?_ (by first | exact Nat.le_refl _ | (simp; done) | (simp; omega) | omega) _) | with_reducible refine bel_grow ?_ _ | with_reducible refine Below.drew ?_ | with_reducible refine bel_alloc ?_ _ | with_reducible refine bel_eld ?_ (by assumption))), by first | exact Blk.two t_r | exact (Blk.two t_r).alloc _ | (repeat (first | with_reducible assumption | exact Hid.out (by assumption) | (with_reducible refine Blk.new' ?_; first | with_reducible rfl | (simp; done)) | with_reducible refine Blk.alloc ?_ _ | with_reducible refine Blk.drew ?_ | (with_reducible refine Blk.far ?_ (by first | (dsimp only; omega) | (simp; omega)) _)))⟩
      rintro Y ⟨bZ, gP⟩
      have p0 := (gP).cell 0
      have p1 := (gP).cell 1
      have pf0 := (gP).frozen 0
      have pf1 := (gP).frozen 1
      have pl := (gP).lt
      refine bodyPost_ret (v := .tuple #[.int .i64 41, .agg #[.int .u64 0, .int .u64 0]]) (by simp [results, Try.results27, go_sem, p0, p1, pl]) rfl ⟨by simp [res19i, rchk19, paccV, rsumsV], bZ⟩
    case true =>
      go_upto_region 25 with fail
      (first | (go_region_held (fun w' => w'.cell? ⟨w_4.heap.size, 0, none⟩ = some (.int .u64 n1) ∧ w'.cell? ⟨w_4.heap.size, 1, none⟩ = some (.int .u64 n2))
        (first | ((try go_split_ands); (repeat' apply And.intro) <;> (first | with_reducible assumption | ((repeat (first | with_reducible refine keepd ?_ | with_reducible refine keepdr ?_ | with_reducible refine keepal ?_ | with_reducible refine keepral ?_ | with_reducible refine keeps (by dsimp only; omega) ?_ | with_reducible refine keepr (by dsimp only; omega) ?_ | with_reducible refine keepc (by assumption) ?_ | with_reducible refine keeprc (by assumption) ?_)); with_reducible assumption))))
        (fail)) | fail)
      all_goals (
        go_wp2_with fail
        refine abs_post (fun Y => Below w.heap.size w Y ∧ Blk Y (w.heap.size + 2) 24 #[.int .u64 n1, .int .u64 n2]) ?_ ?_
        · have t_B := hB_6.out
          have t_r := f_r.out
          exact ⟨by (repeat (first | with_reducible exact Below.refl _ _ | with_reducible assumption | (with_reducible refine bel_set ?_ (by first | exact Nat.le_refl _ | (simp; done) | (simp; omega) | omega) _) | with_reducible refine bel_grow ?_ _ | with_reducible refine Below.drew ?_ | with_reducible refine bel_alloc ?_ _ | with_reducible refine bel_eld ?_ (by assumption))), by first | exact Blk.two t_r | exact Blk.two t_r.drew | exact (Blk.two t_r).drew | exact (Blk.two t_r).alloc _ | exact (Blk.two t_r).drew.alloc _ | exact ((Blk.two t_r).alloc _).drew | (repeat (first | with_reducible assumption | exact Hid.out (by assumption) | (with_reducible refine Blk.new' ?_; first | with_reducible rfl | (simp; done)) | with_reducible refine Blk.alloc ?_ _ | with_reducible refine Blk.drew ?_ | (with_reducible refine Blk.far ?_ (by first | (dsimp only; omega) | (simp; omega)) _)))⟩
        rintro Y ⟨bZ, gP⟩
        have p0 := gP.cell 0
        have p1 := gP.cell 1
        have pl := gP.lt
        refine bodyPost_ret (v := .tuple #[.int .i64 0, .agg #[.int .u64 n1, .int .u64 n2]]) (by simp [results, Try.results27, go_sem, p0, p1, pl]) rfl ⟨by simp [res19i, rchk19, paccV, rsumsV], bZ⟩)
end Go.Proofs.Ytpbnakoimlmhnaa
