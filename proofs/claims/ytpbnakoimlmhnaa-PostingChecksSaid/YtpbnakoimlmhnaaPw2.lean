/-
  The document's check, walked: no account, or none.
-/
import Derived.Test.YtpbnakoimlmhnaaPn3
import Derived.Test.YtpbnakoimlmhnaaBk
import Derived.Test.YtpbnakoimlmhnaaEq
import Derived.Deep.RegionHeld
import Derived.Deep.DeepCutAuto
namespace Go.Proofs.Ytpbnakoimlmhnaa
set_option linter.unusedVariables false
set_option linter.unusedSimpArgs false
open Go.RowKit

attribute [local go_sem] loadV_ptr storeV_ptr one_func drew_hs ext_deb ext_cre ext_cols ext_acc
attribute [local go_sem ↓] load_Cols store_Cols load_Transfer store_Transfer load_Parties store_Parties load_Acct store_Acct
def res19i (v n1 n2 : Int) : Value := .tuple #[.int .i64 v, .agg #[.int .u64 (if v = 0 then n1 else 0), .int .u64 (if v = 0 then n2 else 0)]]
def rsumsV (rv : Int) (x0 x42 nt : Bool) : Int := if x0 && x42 then rv else if !nt then 41 else if x0 then rv else 0
def rchk19 (wv a r : Int) : Int := if wv ≠ 0 then wv else if a ≠ 0 then a else r
set_option maxRecDepth 20000 in
set_option maxHeartbeats 8000000 in
theorem refcheck_hd (xi1 xi2 xd1 xd2 xc1 xc2 xm1 xm2 xw1 xw2 xtg xto xlg xcd xfl xst ss ai1 ai2 ap1 ap2 aq1 aq2 ar1 ar2 as1 as2 atg alg acd afl ast ei1 ei2 ep1 ep2 eq1 eq2 er1 er2 es1 es2 etg elg ecd efl est n1 n2 rv wv a1 a2 : Int) (hc lu lt da ca x0 x42 nt : Bool) (hto : 0 ≤ xto ∧ xto < 4294967296) (hlu : (alg != elg) = lu) (hlt : (xlg != alg) = lt) (hx0 : decide (0 < rv) = x0) (hx42 : decide (rv < 42) = x42)
    (HW : ∀ w, Calls Try.prog 61 #[.agg #[.int .u64 xi1, .int .u64 xi2, .int .u64 xd1, .int .u64 xd2, .int .u64 xc1, .int .u64 xc2, .int .u64 xm1, .int .u64 xm2, .int .u64 xw1, .int .u64 xw2, .int .u64 xtg, .int .u32 xto, .int .u32 xlg, .int .u16 xcd, .int .u16 xfl, .int .u64 xst]] w fun r w' => r = .returned (.int .i64 wv) ∧ Below w.heap.size w w')
    (w : World) : Calls Try.prog 27 #[.agg #[.int .u64 xi1, .int .u64 xi2, .int .u64 xd1, .int .u64 xd2, .int .u64 xc1, .int .u64 xc2, .int .u64 xm1, .int .u64 xm2, .int .u64 xw1, .int .u64 xw2, .int .u64 xtg, .int .u32 xto, .int .u32 xlg, .int .u16 xcd, .int .u16 xfl, .int .u64 xst], .int .u64 ss, .agg #[.int .u64 ai1, .int .u64 ai2, .int .u64 ap1, .int .u64 ap2, .int .u64 aq1, .int .u64 aq2, .int .u64 ar1, .int .u64 ar2, .int .u64 as1, .int .u64 as2, .int .u64 atg, .int .u32 alg, .int .u16 acd, .int .u16 afl, .int .u64 ast, .int .u64 ei1, .int .u64 ei2, .int .u64 ep1, .int .u64 ep2, .int .u64 eq1, .int .u64 eq2, .int .u64 er1, .int .u64 er2, .int .u64 es1, .int .u64 es2, .int .u64 etg, .int .u32 elg, .int .u16 ecd, .int .u16 efl, .int .u64 est, .bool false, .bool hc]] w fun r w' => r = .returned (res19i (rchk19 wv (paccV false hc lu lt da ca) (rsumsV rv x0 x42 nt)) n1 n2) ∧ Below w.heap.size w w' := by
  replace HW := Lib.hid HW
  have e1 : IntKind.u64.wrap xto = xto := by simp [IntKind.wrap, IntKind.bits, IntKind.signed]; omega
  clear hto
  clear hlu hlt hx0 hx42 e1
  have hb0 := Below.refl w.heap.size w
  go_enter Try.func27, Try.ntmps27
  replace hb0 := Lib.hid hb0
  go_wp2_with fail
  refine (HW.out _).mono ?_
  rintro e w_1 ⟨rfl, hb_1⟩
  have z_1 := hb_1.size
  try simp at z_1
  have t_ := hb0.out
  have hB_1 := bel_eld (w := w) (X := _) (by first | ((repeat (first | with_reducible exact Below.refl _ _ | with_reducible assumption | (with_reducible refine bel_set ?_ (by first | exact Nat.le_refl _ | (simp; done) | (simp; omega) | omega) _) | with_reducible refine bel_grow ?_ _ | with_reducible refine Below.drew ?_ | with_reducible refine below_drewN ?_ _ | with_reducible refine bel_alloc ?_ _ | with_reducible refine bel_trans ?_ (by assumption))); done) | (repeat (first | exact Below.refl _ _ | assumption | refine below_drewN ?_ _ | refine bel_grow ?_ _ | refine Below.drew ?_ | refine bel_alloc ?_ _ | refine bel_set ?_ (by first | exact Nat.le_refl _ | (simp; done) | (simp; omega) | omega) _ | refine bel_trans ?_ (by assumption)))) hb_1
  clear t_
  have g_x : Blk w_1 (w.heap.size) 28 #[.int .u64 xi1, .int .u64 xi2, .int .u64 xd1, .int .u64 xd2, .int .u64 xc1, .int .u64 xc2, .int .u64 xm1, .int .u64 xm2, .int .u64 xw1, .int .u64 xw2, .int .u64 xtg, .int .u32 xto, .int .u32 xlg, .int .u16 xcd, .int .u16 xfl, .int .u64 xst] := by
    refine Blk.kept ?_ hb_1
    (repeat (first | with_reducible assumption | (with_reducible refine Blk.new' ?_; first | with_reducible rfl | (simp; done)) | with_reducible refine Blk.alloc ?_ _ | with_reducible refine Blk.grow ?_ _ | with_reducible refine Blk.drew ?_ | with_reducible refine Blk.drewN ?_ _ | (with_reducible refine Blk.far ?_ (by first | (dsimp only; omega) | (simp; omega)) _) | (with_reducible apply Blk.two) | (with_reducible refine Blk.set' ?_ _ _ ?_) | (with_reducible rfl) | rfl))
  have g_p : Blk w_1 (w.heap.size + 1) 32 #[.int .u64 ai1, .int .u64 ai2, .int .u64 ap1, .int .u64 ap2, .int .u64 aq1, .int .u64 aq2, .int .u64 ar1, .int .u64 ar2, .int .u64 as1, .int .u64 as2, .int .u64 atg, .int .u32 alg, .int .u16 acd, .int .u16 afl, .int .u64 ast, .int .u64 ei1, .int .u64 ei2, .int .u64 ep1, .int .u64 ep2, .int .u64 eq1, .int .u64 eq2, .int .u64 er1, .int .u64 er2, .int .u64 es1, .int .u64 es2, .int .u64 etg, .int .u32 elg, .int .u16 ecd, .int .u16 efl, .int .u64 est, .bool false, .bool hc] := by
    refine Blk.kept ?_ hb_1
    (repeat (first | with_reducible assumption | (with_reducible refine Blk.new' ?_; first | with_reducible rfl | (simp; done)) | with_reducible refine Blk.alloc ?_ _ | with_reducible refine Blk.grow ?_ _ | with_reducible refine Blk.drew ?_ | with_reducible refine Blk.drewN ?_ _ | (with_reducible refine Blk.far ?_ (by first | (dsimp only; omega) | (simp; omega)) _) | (with_reducible apply Blk.two) | (with_reducible refine Blk.set' ?_ _ _ ?_) | (with_reducible rfl) | rfl))
  have g_r : Blk w_1 (w.heap.size + 2) 24 #[.int .u64 0, .int .u64 0] := by
    refine Blk.kept ?_ hb_1
    (repeat (first | with_reducible assumption | (with_reducible refine Blk.new' ?_; first | with_reducible rfl | (simp; done)) | with_reducible refine Blk.alloc ?_ _ | with_reducible refine Blk.grow ?_ _ | with_reducible refine Blk.drew ?_ | with_reducible refine Blk.drewN ?_ _ | (with_reducible refine Blk.far ?_ (by first | (dsimp only; omega) | (simp; omega)) _) | (with_reducible apply Blk.two) | (with_reducible refine Blk.set' ?_ _ _ ?_) | (with_reducible rfl) | rfl))
  clear hb0 hb_1
  have f_x := g_x
  clear g_x
  have f_p := g_p
  clear g_p
  have f_r := g_r
  clear g_r
  have r_x := rowAt_blk f_x
  have x_l := f_x.lt
  have x_11 : w_1.cell? ⟨w.heap.size, 11, none⟩ = some (.int .u32 xto) := (f_x).cell 11
  have x_f11 := (f_x).frozen 11
  have x_12 : w_1.cell? ⟨w.heap.size, 12, none⟩ = some (.int .u32 xlg) := (f_x).cell 12
  have x_f12 := (f_x).frozen 12
  replace f_x := Lib.hid f_x
  have r_p := rowAt_blk f_p
  have p_l := f_p.lt
  have p_11 : w_1.cell? ⟨w.heap.size + 1, 11, none⟩ = some (.int .u32 alg) := (f_p).cell 11
  have p_f11 := (f_p).frozen 11
  have p_13 : w_1.cell? ⟨w.heap.size + 1, 13, none⟩ = some (.int .u16 afl) := (f_p).cell 13
  have p_f13 := (f_p).frozen 13
  have p_26 : w_1.cell? ⟨w.heap.size + 1, 26, none⟩ = some (.int .u32 elg) := (f_p).cell 26
  have p_f26 := (f_p).frozen 26
  have p_28 : w_1.cell? ⟨w.heap.size + 1, 28, none⟩ = some (.int .u16 efl) := (f_p).cell 28
  have p_f28 := (f_p).frozen 28
  have p_30 : w_1.cell? ⟨w.heap.size + 1, 30, none⟩ = some (.bool false) := (f_p).cell 30
  have p_f30 := (f_p).frozen 30
  have p_31 : w_1.cell? ⟨w.heap.size + 1, 31, none⟩ = some (.bool hc) := (f_p).cell 31
  have p_f31 := (f_p).frozen 31
  replace f_p := Lib.hid f_p
  have r_0 : w_1.cell? ⟨w.heap.size + 2, 0, none⟩ = some (.int .u64 0) := (f_r).cell 0
  have r_1 : w_1.cell? ⟨w.heap.size + 2, 1, none⟩ = some (.int .u64 0) := (f_r).cell 1
  have r_f0 := (f_r).frozen 0
  have r_f1 := (f_r).frozen 1
  have r_l := (f_r).lt
  replace f_r := Lib.hid f_r
  replace hB_1 := Lib.hid hB_1
  by_cases hv1 : wv = 0
  case neg =>
    have g3 : (wv == 0) = false := by simpa using hv1
    have g4 : (wv != 0) = true := by simpa using hv1
    replace hv1 := Lib.hid hv1
    go_wp2_with fail
    refine abs_post (fun Y => Below w.heap.size w Y ∧ Blk Y (w.heap.size + 2) 24 #[.int .u64 0, .int .u64 0]) ?_ ?_
    · have t_B := hB_1.out
      have t_r := f_r.out
      exact ⟨by (repeat (first | with_reducible exact Below.refl _ _ | with_reducible assumption | (with_reducible refine bel_set ?_ (by first | exact Nat.le_refl _ | (simp; done) | (simp; omega) | omega) _) | with_reducible refine bel_grow ?_ _ | with_reducible refine Below.drew ?_ | with_reducible refine bel_alloc ?_ _ | with_reducible refine bel_eld ?_ (by assumption))), by first | exact Blk.two t_r | exact (Blk.two t_r).alloc _ | (repeat (first | with_reducible assumption | exact Hid.out (by assumption) | (with_reducible refine Blk.new' ?_; first | with_reducible rfl | (simp; done)) | with_reducible refine Blk.alloc ?_ _ | with_reducible refine Blk.drew ?_ | (with_reducible refine Blk.far ?_ (by first | (dsimp only; omega) | (simp; omega)) _)))⟩
    rintro Y ⟨bZ, gP⟩
    have p0 := (gP).cell 0
    have p1 := (gP).cell 1
    have pf0 := (gP).frozen 0
    have pf1 := (gP).frozen 1
    have pl := (gP).lt
    refine bodyPost_ret (v := .tuple #[.int .i64 wv, .agg #[.int .u64 0, .int .u64 0]]) (by simp [results, Try.results27, go_sem, p0, p1, pl]) rfl ⟨by (have q := hv1.out; simp [res19i, rchk19, q]), bZ⟩
  case pos =>
  subst hv1
  go_wp2_with fail
  refine abs_post (fun Y => Below w.heap.size w Y ∧ Blk Y (w.heap.size + 2) 24 #[.int .u64 0, .int .u64 0]) ?_ ?_
  · have t_B := hB_1.out
    have t_r := f_r.out
    exact ⟨by (repeat (first | with_reducible exact Below.refl _ _ | with_reducible assumption | (with_reducible refine bel_set ?_ (by first | exact Nat.le_refl _ | (simp; done) | (simp; omega) | omega) _) | with_reducible refine bel_grow ?_ _ | with_reducible refine Below.drew ?_ | with_reducible refine bel_alloc ?_ _ | with_reducible refine bel_eld ?_ (by assumption))), by first | exact Blk.two t_r | exact (Blk.two t_r).alloc _ | (repeat (first | with_reducible assumption | exact Hid.out (by assumption) | (with_reducible refine Blk.new' ?_; first | with_reducible rfl | (simp; done)) | with_reducible refine Blk.alloc ?_ _ | with_reducible refine Blk.drew ?_ | (with_reducible refine Blk.far ?_ (by first | (dsimp only; omega) | (simp; omega)) _)))⟩
  rintro Y ⟨bZ, gP⟩
  have p0 := (gP).cell 0
  have p1 := (gP).cell 1
  have pf0 := (gP).frozen 0
  have pf1 := (gP).frozen 1
  have pl := (gP).lt
  refine bodyPost_ret (v := .tuple #[.int .i64 29, .agg #[.int .u64 0, .int .u64 0]]) (by simp [results, Try.results27, go_sem, p0, p1, pl]) rfl ⟨by simp [res19i, rchk19, paccV, rsumsV], bZ⟩
set_option maxRecDepth 20000 in
set_option maxHeartbeats 8000000 in
theorem refcheck_hc (xi1 xi2 xd1 xd2 xc1 xc2 xm1 xm2 xw1 xw2 xtg xto xlg xcd xfl xst ss ai1 ai2 ap1 ap2 aq1 aq2 ar1 ar2 as1 as2 atg alg acd afl ast ei1 ei2 ep1 ep2 eq1 eq2 er1 er2 es1 es2 etg elg ecd efl est n1 n2 rv wv a1 a2 : Int) ( lu lt da ca x0 x42 nt : Bool) (hto : 0 ≤ xto ∧ xto < 4294967296) (hlu : (alg != elg) = lu) (hlt : (xlg != alg) = lt) (hx0 : decide (0 < rv) = x0) (hx42 : decide (rv < 42) = x42)
    (HW : ∀ w, Calls Try.prog 61 #[.agg #[.int .u64 xi1, .int .u64 xi2, .int .u64 xd1, .int .u64 xd2, .int .u64 xc1, .int .u64 xc2, .int .u64 xm1, .int .u64 xm2, .int .u64 xw1, .int .u64 xw2, .int .u64 xtg, .int .u32 xto, .int .u32 xlg, .int .u16 xcd, .int .u16 xfl, .int .u64 xst]] w fun r w' => r = .returned (.int .i64 wv) ∧ Below w.heap.size w w')
    (w : World) : Calls Try.prog 27 #[.agg #[.int .u64 xi1, .int .u64 xi2, .int .u64 xd1, .int .u64 xd2, .int .u64 xc1, .int .u64 xc2, .int .u64 xm1, .int .u64 xm2, .int .u64 xw1, .int .u64 xw2, .int .u64 xtg, .int .u32 xto, .int .u32 xlg, .int .u16 xcd, .int .u16 xfl, .int .u64 xst], .int .u64 ss, .agg #[.int .u64 ai1, .int .u64 ai2, .int .u64 ap1, .int .u64 ap2, .int .u64 aq1, .int .u64 aq2, .int .u64 ar1, .int .u64 ar2, .int .u64 as1, .int .u64 as2, .int .u64 atg, .int .u32 alg, .int .u16 acd, .int .u16 afl, .int .u64 ast, .int .u64 ei1, .int .u64 ei2, .int .u64 ep1, .int .u64 ep2, .int .u64 eq1, .int .u64 eq2, .int .u64 er1, .int .u64 er2, .int .u64 es1, .int .u64 es2, .int .u64 etg, .int .u32 elg, .int .u16 ecd, .int .u16 efl, .int .u64 est, .bool true, .bool false]] w fun r w' => r = .returned (res19i (rchk19 wv (paccV true false lu lt da ca) (rsumsV rv x0 x42 nt)) n1 n2) ∧ Below w.heap.size w w' := by
  replace HW := Lib.hid HW
  have e1 : IntKind.u64.wrap xto = xto := by simp [IntKind.wrap, IntKind.bits, IntKind.signed]; omega
  clear hto
  clear hlu hlt hx0 hx42 e1
  have hb0 := Below.refl w.heap.size w
  go_enter Try.func27, Try.ntmps27
  replace hb0 := Lib.hid hb0
  go_wp2_with fail
  refine (HW.out _).mono ?_
  rintro e w_1 ⟨rfl, hb_1⟩
  have z_1 := hb_1.size
  try simp at z_1
  have t_ := hb0.out
  have hB_1 := bel_eld (w := w) (X := _) (by first | ((repeat (first | with_reducible exact Below.refl _ _ | with_reducible assumption | (with_reducible refine bel_set ?_ (by first | exact Nat.le_refl _ | (simp; done) | (simp; omega) | omega) _) | with_reducible refine bel_grow ?_ _ | with_reducible refine Below.drew ?_ | with_reducible refine below_drewN ?_ _ | with_reducible refine bel_alloc ?_ _ | with_reducible refine bel_trans ?_ (by assumption))); done) | (repeat (first | exact Below.refl _ _ | assumption | refine below_drewN ?_ _ | refine bel_grow ?_ _ | refine Below.drew ?_ | refine bel_alloc ?_ _ | refine bel_set ?_ (by first | exact Nat.le_refl _ | (simp; done) | (simp; omega) | omega) _ | refine bel_trans ?_ (by assumption)))) hb_1
  clear t_
  have g_x : Blk w_1 (w.heap.size) 28 #[.int .u64 xi1, .int .u64 xi2, .int .u64 xd1, .int .u64 xd2, .int .u64 xc1, .int .u64 xc2, .int .u64 xm1, .int .u64 xm2, .int .u64 xw1, .int .u64 xw2, .int .u64 xtg, .int .u32 xto, .int .u32 xlg, .int .u16 xcd, .int .u16 xfl, .int .u64 xst] := by
    refine Blk.kept ?_ hb_1
    (repeat (first | with_reducible assumption | (with_reducible refine Blk.new' ?_; first | with_reducible rfl | (simp; done)) | with_reducible refine Blk.alloc ?_ _ | with_reducible refine Blk.grow ?_ _ | with_reducible refine Blk.drew ?_ | with_reducible refine Blk.drewN ?_ _ | (with_reducible refine Blk.far ?_ (by first | (dsimp only; omega) | (simp; omega)) _) | (with_reducible apply Blk.two) | (with_reducible refine Blk.set' ?_ _ _ ?_) | (with_reducible rfl) | rfl))
  have g_p : Blk w_1 (w.heap.size + 1) 32 #[.int .u64 ai1, .int .u64 ai2, .int .u64 ap1, .int .u64 ap2, .int .u64 aq1, .int .u64 aq2, .int .u64 ar1, .int .u64 ar2, .int .u64 as1, .int .u64 as2, .int .u64 atg, .int .u32 alg, .int .u16 acd, .int .u16 afl, .int .u64 ast, .int .u64 ei1, .int .u64 ei2, .int .u64 ep1, .int .u64 ep2, .int .u64 eq1, .int .u64 eq2, .int .u64 er1, .int .u64 er2, .int .u64 es1, .int .u64 es2, .int .u64 etg, .int .u32 elg, .int .u16 ecd, .int .u16 efl, .int .u64 est, .bool true, .bool false] := by
    refine Blk.kept ?_ hb_1
    (repeat (first | with_reducible assumption | (with_reducible refine Blk.new' ?_; first | with_reducible rfl | (simp; done)) | with_reducible refine Blk.alloc ?_ _ | with_reducible refine Blk.grow ?_ _ | with_reducible refine Blk.drew ?_ | with_reducible refine Blk.drewN ?_ _ | (with_reducible refine Blk.far ?_ (by first | (dsimp only; omega) | (simp; omega)) _) | (with_reducible apply Blk.two) | (with_reducible refine Blk.set' ?_ _ _ ?_) | (with_reducible rfl) | rfl))
  have g_r : Blk w_1 (w.heap.size + 2) 24 #[.int .u64 0, .int .u64 0] := by
    refine Blk.kept ?_ hb_1
    (repeat (first | with_reducible assumption | (with_reducible refine Blk.new' ?_; first | with_reducible rfl | (simp; done)) | with_reducible refine Blk.alloc ?_ _ | with_reducible refine Blk.grow ?_ _ | with_reducible refine Blk.drew ?_ | with_reducible refine Blk.drewN ?_ _ | (with_reducible refine Blk.far ?_ (by first | (dsimp only; omega) | (simp; omega)) _) | (with_reducible apply Blk.two) | (with_reducible refine Blk.set' ?_ _ _ ?_) | (with_reducible rfl) | rfl))
  clear hb0 hb_1
  have f_x := g_x
  clear g_x
  have f_p := g_p
  clear g_p
  have f_r := g_r
  clear g_r
  have r_x := rowAt_blk f_x
  have x_l := f_x.lt
  have x_11 : w_1.cell? ⟨w.heap.size, 11, none⟩ = some (.int .u32 xto) := (f_x).cell 11
  have x_f11 := (f_x).frozen 11
  have x_12 : w_1.cell? ⟨w.heap.size, 12, none⟩ = some (.int .u32 xlg) := (f_x).cell 12
  have x_f12 := (f_x).frozen 12
  replace f_x := Lib.hid f_x
  have r_p := rowAt_blk f_p
  have p_l := f_p.lt
  have p_11 : w_1.cell? ⟨w.heap.size + 1, 11, none⟩ = some (.int .u32 alg) := (f_p).cell 11
  have p_f11 := (f_p).frozen 11
  have p_13 : w_1.cell? ⟨w.heap.size + 1, 13, none⟩ = some (.int .u16 afl) := (f_p).cell 13
  have p_f13 := (f_p).frozen 13
  have p_26 : w_1.cell? ⟨w.heap.size + 1, 26, none⟩ = some (.int .u32 elg) := (f_p).cell 26
  have p_f26 := (f_p).frozen 26
  have p_28 : w_1.cell? ⟨w.heap.size + 1, 28, none⟩ = some (.int .u16 efl) := (f_p).cell 28
  have p_f28 := (f_p).frozen 28
  have p_30 : w_1.cell? ⟨w.heap.size + 1, 30, none⟩ = some (.bool true) := (f_p).cell 30
  have p_f30 := (f_p).frozen 30
  have p_31 : w_1.cell? ⟨w.heap.size + 1, 31, none⟩ = some (.bool false) := (f_p).cell 31
  have p_f31 := (f_p).frozen 31
  replace f_p := Lib.hid f_p
  have r_0 : w_1.cell? ⟨w.heap.size + 2, 0, none⟩ = some (.int .u64 0) := (f_r).cell 0
  have r_1 : w_1.cell? ⟨w.heap.size + 2, 1, none⟩ = some (.int .u64 0) := (f_r).cell 1
  have r_f0 := (f_r).frozen 0
  have r_f1 := (f_r).frozen 1
  have r_l := (f_r).lt
  replace f_r := Lib.hid f_r
  replace hB_1 := Lib.hid hB_1
  by_cases hv1 : wv = 0
  case neg =>
    have g3 : (wv == 0) = false := by simpa using hv1
    have g4 : (wv != 0) = true := by simpa using hv1
    replace hv1 := Lib.hid hv1
    go_wp2_with fail
    refine abs_post (fun Y => Below w.heap.size w Y ∧ Blk Y (w.heap.size + 2) 24 #[.int .u64 0, .int .u64 0]) ?_ ?_
    · have t_B := hB_1.out
      have t_r := f_r.out
      exact ⟨by (repeat (first | with_reducible exact Below.refl _ _ | with_reducible assumption | (with_reducible refine bel_set ?_ (by first | exact Nat.le_refl _ | (simp; done) | (simp; omega) | omega) _) | with_reducible refine bel_grow ?_ _ | with_reducible refine Below.drew ?_ | with_reducible refine bel_alloc ?_ _ | with_reducible refine bel_eld ?_ (by assumption))), by first | exact Blk.two t_r | exact (Blk.two t_r).alloc _ | (repeat (first | with_reducible assumption | exact Hid.out (by assumption) | (with_reducible refine Blk.new' ?_; first | with_reducible rfl | (simp; done)) | with_reducible refine Blk.alloc ?_ _ | with_reducible refine Blk.drew ?_ | (with_reducible refine Blk.far ?_ (by first | (dsimp only; omega) | (simp; omega)) _)))⟩
    rintro Y ⟨bZ, gP⟩
    have p0 := (gP).cell 0
    have p1 := (gP).cell 1
    have pf0 := (gP).frozen 0
    have pf1 := (gP).frozen 1
    have pl := (gP).lt
    refine bodyPost_ret (v := .tuple #[.int .i64 wv, .agg #[.int .u64 0, .int .u64 0]]) (by simp [results, Try.results27, go_sem, p0, p1, pl]) rfl ⟨by (have q := hv1.out; simp [res19i, rchk19, q]), bZ⟩
  case pos =>
  subst hv1
  go_wp2_with fail
  refine abs_post (fun Y => Below w.heap.size w Y ∧ Blk Y (w.heap.size + 2) 24 #[.int .u64 0, .int .u64 0]) ?_ ?_
  · have t_B := hB_1.out
    have t_r := f_r.out
    exact ⟨by (repeat (first | with_reducible exact Below.refl _ _ | with_reducible assumption | (with_reducible refine bel_set ?_ (by first | exact Nat.le_refl _ | (simp; done) | (simp; omega) | omega) _) | with_reducible refine bel_grow ?_ _ | with_reducible refine Below.drew ?_ | with_reducible refine bel_alloc ?_ _ | with_reducible refine bel_eld ?_ (by assumption))), by first | exact Blk.two t_r | exact (Blk.two t_r).alloc _ | (repeat (first | with_reducible assumption | exact Hid.out (by assumption) | (with_reducible refine Blk.new' ?_; first | with_reducible rfl | (simp; done)) | with_reducible refine Blk.alloc ?_ _ | with_reducible refine Blk.drew ?_ | (with_reducible refine Blk.far ?_ (by first | (dsimp only; omega) | (simp; omega)) _)))⟩
  rintro Y ⟨bZ, gP⟩
  have p0 := (gP).cell 0
  have p1 := (gP).cell 1
  have pf0 := (gP).frozen 0
  have pf1 := (gP).frozen 1
  have pl := (gP).lt
  refine bodyPost_ret (v := .tuple #[.int .i64 30, .agg #[.int .u64 0, .int .u64 0]]) (by simp [results, Try.results27, go_sem, p0, p1, pl]) rfl ⟨by simp [res19i, rchk19, paccV, rsumsV], bZ⟩
end Go.Proofs.Ytpbnakoimlmhnaa
