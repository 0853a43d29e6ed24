/-
  The document's Settle, walked.
-/
import Derived.Test.YtpbnakoimlmhnaaBs1
import Derived.Test.YtpbnakoimlmhnaaBm
import Derived.Deep.DeepCutAuto
namespace Go.Proofs.Ytpbnakoimlmhnaa
set_option linter.unusedVariables false
set_option linter.unusedSimpArgs false
open Go.RowKit

attribute [local go_sem] loadV_ptr storeV_ptr one_func drew_hs ext_deb ext_cre ext_cols ext_acc
attribute [local go_sem ↓] load_Cols store_Cols load_Transfer store_Transfer load_Parties store_Parties load_Acct store_Acct
theorem build_Pz (ρ : Operand → Value) (dst : Option Tmp) (t : TypeId) (pos : String) (after : Array Edge) (guard : Option (Nat × Bool)) (w : World) :
    (execOp ρ { dst, op := Op.build 32 #[], type := t, pos, after, guard }).run Try.prog w = .ok (.value (.agg #[.int .u64 0, .int .u64 0, .int .u64 0, .int .u64 0, .int .u64 0, .int .u64 0, .int .u64 0, .int .u64 0, .int .u64 0, .int .u64 0, .int .u64 0, .int .u32 0, .int .u16 0, .int .u16 0, .int .u64 0, .int .u64 0, .int .u64 0, .int .u64 0, .int .u64 0, .int .u64 0, .int .u64 0, .int .u64 0, .int .u64 0, .int .u64 0, .int .u64 0, .int .u64 0, .int .u32 0, .int .u16 0, .int .u16 0, .int .u64 0, .bool false, .bool false])) w := by
  simp [execOp, go_sem]
attribute [local go_sem ↓] build_Pz
set_option maxRecDepth 8000 in
set_option maxHeartbeats 8000000 in
theorem refsettle_false (xi1 xi2 xd1 xd2 xc1 xc2 xm1 xm2 xw1 xw2 xtg xto xlg xcd xfl xst n1 n2 ai1 ai2 ap1 ap2 aq1 aq2 ar1 ar2 as1 as2 atg alg acd afl ast ei1 ei2 ep1 ep2 eq1 eq2 er1 er2 es1 es2 etg elg ecd efl est fd fc h1 l1 h2 l2 of1 of2 : Int) (hd hc ok1 ok2 b64 b128 : Bool) (hfd : (if b64 = true then of1 else afl) = fd) (hfc : (if b128 = true then of2 else efl) = fc)
    (HA1 : ∀ w, Calls Try.prog 16 #[.agg #[.int .u64 ap1, .int .u64 ap2], .agg #[.int .u64 xm1, .int .u64 xm2]] w fun r w' => r = .returned (.tuple #[.agg #[.int .u64 h1, .int .u64 l1], .bool ok1]) ∧ Below w.heap.size w w')
    (HA2 : ∀ w, Calls Try.prog 16 #[.agg #[.int .u64 er1, .int .u64 er2], .agg #[.int .u64 xm1, .int .u64 xm2]] w fun r w' => r = .returned (.tuple #[.agg #[.int .u64 h2, .int .u64 l2], .bool ok2]) ∧ Below w.heap.size w w')
    (HB64 : ∀ w, Calls Try.prog 45 #[.int .u16 xfl, .int .u16 64] w fun r w' => r = .returned (.bool b64) ∧ Below w.heap.size w w')
    (HB128 : ∀ w, Calls Try.prog 45 #[.int .u16 xfl, .int .u16 128] w fun r w' => r = .returned (.bool b128) ∧ Below w.heap.size w w')
    (HL1 : ∀ w, Calls Try.prog 46 #[.int .u16 afl, .bool false] w fun r w' => r = .returned (.int .u16 of1) ∧ Below w.heap.size w w')
    (HL2 : ∀ w, Calls Try.prog 46 #[.int .u16 efl, .bool false] w fun r w' => r = .returned (.int .u16 of2) ∧ Below w.heap.size w w')
    (w : World) : Calls Try.prog 19 #[.agg #[.int .u64 xi1, .int .u64 xi2, .int .u64 xd1, .int .u64 xd2, .int .u64 xc1, .int .u64 xc2, .int .u64 xm1, .int .u64 xm2, .int .u64 xw1, .int .u64 xw2, .int .u64 xtg, .int .u32 xto, .int .u32 xlg, .int .u16 xcd, .int .u16 xfl, .int .u64 xst], .agg #[.int .u64 n1, .int .u64 n2], .bool false, .agg #[.int .u64 ai1, .int .u64 ai2, .int .u64 ap1, .int .u64 ap2, .int .u64 aq1, .int .u64 aq2, .int .u64 ar1, .int .u64 ar2, .int .u64 as1, .int .u64 as2, .int .u64 atg, .int .u32 alg, .int .u16 acd, .int .u16 afl, .int .u64 ast, .int .u64 ei1, .int .u64 ei2, .int .u64 ep1, .int .u64 ep2, .int .u64 eq1, .int .u64 eq2, .int .u64 er1, .int .u64 er2, .int .u64 es1, .int .u64 es2, .int .u64 etg, .int .u32 elg, .int .u16 ecd, .int .u16 efl, .int .u64 est, .bool hd, .bool hc]] w fun r w' => r = .returned (ite2 (ok1 && ok2) (.tuple #[.agg #[.int .u64 ai1, .int .u64 ai2, .int .u64 h1, .int .u64 l1, .int .u64 aq1, .int .u64 aq2, .int .u64 ar1, .int .u64 ar2, .int .u64 as1, .int .u64 as2, .int .u64 atg, .int .u32 alg, .int .u16 acd, .int .u16 fd, .int .u64 ast, .int .u64 ei1, .int .u64 ei2, .int .u64 ep1, .int .u64 ep2, .int .u64 eq1, .int .u64 eq2, .int .u64 h2, .int .u64 l2, .int .u64 es1, .int .u64 es2, .int .u64 etg, .int .u32 elg, .int .u16 ecd, .int .u16 fc, .int .u64 est, .bool hd, .bool hc], .bool true]) (.tuple #[.agg #[.int .u64 0, .int .u64 0, .int .u64 0, .int .u64 0, .int .u64 0, .int .u64 0, .int .u64 0, .int .u64 0, .int .u64 0, .int .u64 0, .int .u64 0, .int .u32 0, .int .u16 0, .int .u16 0, .int .u64 0, .int .u64 0, .int .u64 0, .int .u64 0, .int .u64 0, .int .u64 0, .int .u64 0, .int .u64 0, .int .u64 0, .int .u64 0, .int .u64 0, .int .u64 0, .int .u32 0, .int .u16 0, .int .u16 0, .int .u64 0, .bool false, .bool false], .bool false])) ∧ Below w.heap.size w w' := by
  replace HA1 := Lib.hid HA1
  replace HA2 := Lib.hid HA2
  replace HB64 := Lib.hid HB64
  replace HB128 := Lib.hid HB128
  replace HL1 := Lib.hid HL1
  replace HL2 := Lib.hid HL2
  replace hfd := Lib.hid hfd
  replace hfc := Lib.hid hfc
  have hb0 := Below.refl w.heap.size w
  go_enter Try.func19, Try.ntmps19
  replace hb0 := Lib.hid hb0
  go_wp2_with fail
  refine (HA1.out _).mono ?_
  rintro e w_1 ⟨rfl, hb_1⟩
  have z_1 := hb_1.size
  try simp at z_1
  have t_ := hb0.out
  have hB_1 := bel_eld (w := w) (X := _) (by first | ((repeat (first | with_reducible exact Below.refl _ _ | with_reducible assumption | (with_reducible refine bel_set ?_ (by first | exact Nat.le_refl _ | (simp; done) | (simp; omega) | omega) _) | with_reducible refine bel_grow ?_ _ | with_reducible refine Below.drew ?_ | with_reducible refine below_drewN ?_ _ | with_reducible refine bel_alloc ?_ _ | with_reducible refine bel_trans ?_ (by assumption))); done) | (repeat (first | exact Below.refl _ _ | assumption | refine below_drewN ?_ _ | refine bel_grow ?_ _ | refine Below.drew ?_ | refine bel_alloc ?_ _ | refine bel_set ?_ (by first | exact Nat.le_refl _ | (simp; done) | (simp; omega) | omega) _ | refine bel_trans ?_ (by assumption)))) hb_1
  clear t_
  have g_x : Blk w_1 (w.heap.size) 28 #[.int .u64 xi1, .int .u64 xi2, .int .u64 xd1, .int .u64 xd2, .int .u64 xc1, .int .u64 xc2, .int .u64 xm1, .int .u64 xm2, .int .u64 xw1, .int .u64 xw2, .int .u64 xtg, .int .u32 xto, .int .u32 xlg, .int .u16 xcd, .int .u16 xfl, .int .u64 xst] := by
    refine Blk.kept ?_ hb_1
    (repeat (first | with_reducible assumption | (with_reducible refine Blk.new' ?_; first | with_reducible rfl | (simp; done)) | with_reducible refine Blk.alloc ?_ _ | with_reducible refine Blk.grow ?_ _ | with_reducible refine Blk.drew ?_ | with_reducible refine Blk.drewN ?_ _ | (with_reducible refine Blk.far ?_ (by first | (dsimp only; omega) | (simp; omega)) _) | (with_reducible apply Blk.two) | (with_reducible refine Blk.set' ?_ _ _ ?_) | (with_reducible rfl) | rfl))
  have g_n : Blk w_1 (w.heap.size + 1) 24 #[.int .u64 n1, .int .u64 n2] := by
    refine Blk.kept ?_ hb_1
    (repeat (first | with_reducible assumption | (with_reducible refine Blk.new' ?_; first | with_reducible rfl | (simp; done)) | with_reducible refine Blk.alloc ?_ _ | with_reducible refine Blk.grow ?_ _ | with_reducible refine Blk.drew ?_ | with_reducible refine Blk.drewN ?_ _ | (with_reducible refine Blk.far ?_ (by first | (dsimp only; omega) | (simp; omega)) _) | (with_reducible apply Blk.two) | (with_reducible refine Blk.set' ?_ _ _ ?_) | (with_reducible rfl) | rfl))
  have g_p : Blk w_1 (w.heap.size + 2) 32 #[.int .u64 ai1, .int .u64 ai2, .int .u64 ap1, .int .u64 ap2, .int .u64 aq1, .int .u64 aq2, .int .u64 ar1, .int .u64 ar2, .int .u64 as1, .int .u64 as2, .int .u64 atg, .int .u32 alg, .int .u16 acd, .int .u16 afl, .int .u64 ast, .int .u64 ei1, .int .u64 ei2, .int .u64 ep1, .int .u64 ep2, .int .u64 eq1, .int .u64 eq2, .int .u64 er1, .int .u64 er2, .int .u64 es1, .int .u64 es2, .int .u64 etg, .int .u32 elg, .int .u16 ecd, .int .u16 efl, .int .u64 est, .bool hd, .bool hc] := by
    refine Blk.kept ?_ hb_1
    (repeat (first | with_reducible assumption | (with_reducible refine Blk.new' ?_; first | with_reducible rfl | (simp; done)) | with_reducible refine Blk.alloc ?_ _ | with_reducible refine Blk.grow ?_ _ | with_reducible refine Blk.drew ?_ | with_reducible refine Blk.drewN ?_ _ | (with_reducible refine Blk.far ?_ (by first | (dsimp only; omega) | (simp; omega)) _) | (with_reducible apply Blk.two) | (with_reducible refine Blk.set' ?_ _ _ ?_) | (with_reducible rfl) | rfl))
  have g_r : Blk w_1 (w.heap.size + 3) 32 #[.int .u64 0, .int .u64 0, .int .u64 0, .int .u64 0, .int .u64 0, .int .u64 0, .int .u64 0, .int .u64 0, .int .u64 0, .int .u64 0, .int .u64 0, .int .u32 0, .int .u16 0, .int .u16 0, .int .u64 0, .int .u64 0, .int .u64 0, .int .u64 0, .int .u64 0, .int .u64 0, .int .u64 0, .int .u64 0, .int .u64 0, .int .u64 0, .int .u64 0, .int .u64 0, .int .u32 0, .int .u16 0, .int .u16 0, .int .u64 0, .bool false, .bool false] := by
    refine Blk.kept ?_ hb_1
    (repeat (first | with_reducible assumption | (with_reducible refine Blk.new' ?_; first | with_reducible rfl | (simp; done)) | with_reducible refine Blk.alloc ?_ _ | with_reducible refine Blk.grow ?_ _ | with_reducible refine Blk.drew ?_ | with_reducible refine Blk.drewN ?_ _ | (with_reducible refine Blk.far ?_ (by first | (dsimp only; omega) | (simp; omega)) _) | (with_reducible apply Blk.two) | (with_reducible refine Blk.set' ?_ _ _ ?_) | (with_reducible rfl) | rfl))
  clear hb0 hb_1
  have f_x := g_x
  clear g_x
  have f_n := g_n
  clear g_n
  have f_p := g_p
  clear g_p
  have f_r := g_r
  clear g_r
  have r_x := rowAt_blk f_x
  have x_l := f_x.lt
  have x_6 : w_1.cell? ⟨w.heap.size, 6, none⟩ = some (.int .u64 xm1) := (f_x).cell 6
  have x_f6 := (f_x).frozen 6
  have x_7 : w_1.cell? ⟨w.heap.size, 7, none⟩ = some (.int .u64 xm2) := (f_x).cell 7
  have x_f7 := (f_x).frozen 7
  have x_14 : w_1.cell? ⟨w.heap.size, 14, none⟩ = some (.int .u16 xfl) := (f_x).cell 14
  have x_f14 := (f_x).frozen 14
  replace f_x := Lib.hid f_x
  have n_0 : w_1.cell? ⟨w.heap.size + 1, 0, none⟩ = some (.int .u64 n1) := (f_n).cell 0
  have n_1 : w_1.cell? ⟨w.heap.size + 1, 1, none⟩ = some (.int .u64 n2) := (f_n).cell 1
  have n_f0 := (f_n).frozen 0
  have n_f1 := (f_n).frozen 1
  have n_l := (f_n).lt
  replace f_n := Lib.hid f_n
  have r_p := rowAt_blk f_p
  have p_l := f_p.lt
  have p_2 : w_1.cell? ⟨w.heap.size + 2, 2, none⟩ = some (.int .u64 ap1) := (f_p).cell 2
  have p_f2 := (f_p).frozen 2
  have p_3 : w_1.cell? ⟨w.heap.size + 2, 3, none⟩ = some (.int .u64 ap2) := (f_p).cell 3
  have p_f3 := (f_p).frozen 3
  have p_4 : w_1.cell? ⟨w.heap.size + 2, 4, none⟩ = some (.int .u64 aq1) := (f_p).cell 4
  have p_f4 := (f_p).frozen 4
  have p_5 : w_1.cell? ⟨w.heap.size + 2, 5, none⟩ = some (.int .u64 aq2) := (f_p).cell 5
  have p_f5 := (f_p).frozen 5
  have p_13 : w_1.cell? ⟨w.heap.size + 2, 13, none⟩ = some (.int .u16 afl) := (f_p).cell 13
  have p_f13 := (f_p).frozen 13
  have p_21 : w_1.cell? ⟨w.heap.size + 2, 21, none⟩ = some (.int .u64 er1) := (f_p).cell 21
  have p_f21 := (f_p).frozen 21
  have p_22 : w_1.cell? ⟨w.heap.size + 2, 22, none⟩ = some (.int .u64 er2) := (f_p).cell 22
  have p_f22 := (f_p).frozen 22
  have p_23 : w_1.cell? ⟨w.heap.size + 2, 23, none⟩ = some (.int .u64 es1) := (f_p).cell 23
  have p_f23 := (f_p).frozen 23
  have p_24 : w_1.cell? ⟨w.heap.size + 2, 24, none⟩ = some (.int .u64 es2) := (f_p).cell 24
  have p_f24 := (f_p).frozen 24
  have p_28 : w_1.cell? ⟨w.heap.size + 2, 28, none⟩ = some (.int .u16 efl) := (f_p).cell 28
  have p_f28 := (f_p).frozen 28
  replace f_p := Lib.hid f_p
  have r_r := rowAt_blk f_r
  have r_l := f_r.lt
  replace f_r := Lib.hid f_r
  replace hB_1 := Lib.hid hB_1
  go_upto_region 3 with fail
  refine abs_wp (fun Y_ => Below w.heap.size w Y_ ∧ Blk Y_ (w.heap.size) 28 #[.int .u64 xi1, .int .u64 xi2, .int .u64 xd1, .int .u64 xd2, .int .u64 xc1, .int .u64 xc2, .int .u64 xm1, .int .u64 xm2, .int .u64 xw1, .int .u64 xw2, .int .u64 xtg, .int .u32 xto, .int .u32 xlg, .int .u16 xcd, .int .u16 xfl, .int .u64 xst] ∧ Blk Y_ (w.heap.size + 1) 24 #[.int .u64 n1, .int .u64 n2] ∧ Blk Y_ (w.heap.size + 3) 32 #[.int .u64 0, .int .u64 0, .int .u64 0, .int .u64 0, .int .u64 0, .int .u64 0, .int .u64 0, .int .u64 0, .int .u64 0, .int .u64 0, .int .u64 0, .int .u32 0, .int .u16 0, .int .u16 0, .int .u64 0, .int .u64 0, .int .u64 0, .int .u64 0, .int .u64 0, .int .u64 0, .int .u64 0, .int .u64 0, .int .u64 0, .int .u64 0, .int .u64 0, .int .u64 0, .int .u32 0, .int .u16 0, .int .u16 0, .int .u64 0, .bool false, .bool false] ∧ Blk Y_ (w.heap.size + 2) 32 #[.int .u64 ai1, .int .u64 ai2, .int .u64 h1, .int .u64 l1, .int .u64 aq1, .int .u64 aq2, .int .u64 ar1, .int .u64 ar2, .int .u64 as1, .int .u64 as2, .int .u64 atg, .int .u32 alg, .int .u16 acd, .int .u16 afl, .int .u64 ast, .int .u64 ei1, .int .u64 ei2, .int .u64 ep1, .int .u64 ep2, .int .u64 eq1, .int .u64 eq2, .int .u64 er1, .int .u64 er2, .int .u64 es1, .int .u64 es2, .int .u64 etg, .int .u32 elg, .int .u16 ecd, .int .u16 efl, .int .u64 est, .bool hd, .bool hc]) ?_ ?_
  · have t_B := hB_1.out
    have t_x := f_x.out
    have t_n := f_n.out
    have t_p := f_p.out
    have t_r := f_r.out
    refine ⟨by (repeat (first | with_reducible exact Below.refl _ _ | with_reducible assumption | (with_reducible refine bel_set ?_ (by first | exact Nat.le_refl _ | (simp; done) | (simp; omega) | omega) _) | with_reducible refine bel_grow ?_ _ | with_reducible refine Below.drew ?_ | with_reducible refine bel_alloc ?_ _ | with_reducible refine bel_eld ?_ (by assumption))), ?_, ?_, ?_, ?_⟩
    · (repeat (first | with_reducible assumption | (with_reducible refine Blk.new' ?_; first | with_reducible rfl | (simp; done)) | with_reducible refine Blk.alloc ?_ _ | with_reducible refine Blk.grow ?_ _ | with_reducible refine Blk.drew ?_ | with_reducible refine Blk.drewN ?_ _ | (with_reducible refine Blk.far ?_ (by first | (dsimp only; omega) | (simp; omega)) _) | (with_reducible apply Blk.two) | (with_reducible refine Blk.kept ?_ (by assumption)) | (with_reducible refine Blk.setRow ?_ (by first | rfl | (simp; done))) | (with_reducible refine Blk.setRow_far ?_ (by first | omega | (simp; omega)) _) | (with_reducible refine Blk.set' ?_ _ _ (by first | rfl | (simp; done)))))
    · (repeat (first | with_reducible assumption | (with_reducible refine Blk.new' ?_; first | with_reducible rfl | (simp; done)) | with_reducible refine Blk.alloc ?_ _ | with_reducible refine Blk.grow ?_ _ | with_reducible refine Blk.drew ?_ | with_reducible refine Blk.drewN ?_ _ | (with_reducible refine Blk.far ?_ (by first | (dsimp only; omega) | (simp; omega)) _) | (with_reducible apply Blk.two) | (with_reducible refine Blk.kept ?_ (by assumption)) | (with_reducible refine Blk.setRow ?_ (by first | rfl | (simp; done))) | (with_reducible refine Blk.setRow_far ?_ (by first | omega | (simp; omega)) _) | (with_reducible refine Blk.set' ?_ _ _ (by first | rfl | (simp; done)))))
    · (repeat (first | with_reducible assumption | (with_reducible refine Blk.new' ?_; first | with_reducible rfl | (simp; done)) | with_reducible refine Blk.alloc ?_ _ | with_reducible refine Blk.grow ?_ _ | with_reducible refine Blk.drew ?_ | with_reducible refine Blk.drewN ?_ _ | (with_reducible refine Blk.far ?_ (by first | (dsimp only; omega) | (simp; omega)) _) | (with_reducible apply Blk.two) | (with_reducible refine Blk.kept ?_ (by assumption)) | (with_reducible refine Blk.setRow ?_ (by first | rfl | (simp; done))) | (with_reducible refine Blk.setRow_far ?_ (by first | omega | (simp; omega)) _) | (with_reducible refine Blk.set' ?_ _ _ (by first | rfl | (simp; done)))))
    · first | exact Blk.eqv ((t_p.set_ 2 _).set_ 3 _) (by first | rfl | simp) | (repeat (first | with_reducible assumption | (with_reducible refine Blk.new' ?_; first | with_reducible rfl | (simp; done)) | with_reducible refine Blk.alloc ?_ _ | with_reducible refine Blk.grow ?_ _ | with_reducible refine Blk.drew ?_ | with_reducible refine Blk.drewN ?_ _ | (with_reducible refine Blk.far ?_ (by first | (dsimp only; omega) | (simp; omega)) _) | (with_reducible apply Blk.two) | (with_reducible refine Blk.kept ?_ (by assumption)) | (with_reducible refine Blk.setRow ?_ (by first | rfl | (simp; done))) | (with_reducible refine Blk.setRow_far ?_ (by first | omega | (simp; omega)) _) | (with_reducible refine Blk.set' ?_ _ _ (by first | rfl | (simp; done)))))
  clear f_x x_l r_x x_6 x_f6 x_7 x_f7 x_14 x_f14 f_n n_l n_0 n_1 n_f0 n_f1 f_p p_l r_p p_2 p_f2 p_3 p_f3 p_4 p_f4 p_5 p_f5 p_13 p_f13 p_21 p_f21 p_22 p_f22 p_23 p_f23 p_24 p_f24 p_28 p_f28 f_r r_l r_r hB_1
  rintro X2 ⟨hB_2, f_x, f_n, f_r, f_p⟩
  have r_x := rowAt_blk f_x
  have x_l := f_x.lt
  have x_6 : X2.cell? ⟨w.heap.size, 6, none⟩ = some (.int .u64 xm1) := (f_x).cell 6
  have x_f6 := (f_x).frozen 6
  have x_7 : X2.cell? ⟨w.heap.size, 7, none⟩ = some (.int .u64 xm2) := (f_x).cell 7
  have x_f7 := (f_x).frozen 7
  have x_14 : X2.cell? ⟨w.heap.size, 14, none⟩ = some (.int .u16 xfl) := (f_x).cell 14
  have x_f14 := (f_x).frozen 14
  replace f_x := Lib.hid f_x
  have n_0 : X2.cell? ⟨w.heap.size + 1, 0, none⟩ = some (.int .u64 n1) := (f_n).cell 0
  have n_1 : X2.cell? ⟨w.heap.size + 1, 1, none⟩ = some (.int .u64 n2) := (f_n).cell 1
  have n_f0 := (f_n).frozen 0
  have n_f1 := (f_n).frozen 1
  have n_l := (f_n).lt
  replace f_n := Lib.hid f_n
  have r_r := rowAt_blk f_r
  have r_l := f_r.lt
  replace f_r := Lib.hid f_r
  have r_p := rowAt_blk f_p
  have p_l := f_p.lt
  have p_2 : X2.cell? ⟨w.heap.size + 2, 2, none⟩ = some (.int .u64 h1) := (f_p).cell 2
  have p_f2 := (f_p).frozen 2
  have p_3 : X2.cell? ⟨w.heap.size + 2, 3, none⟩ = some (.int .u64 l1) := (f_p).cell 3
  have p_f3 := (f_p).frozen 3
  have p_4 : X2.cell? ⟨w.heap.size + 2, 4, none⟩ = some (.int .u64 aq1) := (f_p).cell 4
  have p_f4 := (f_p).frozen 4
  have p_5 : X2.cell? ⟨w.heap.size + 2, 5, none⟩ = some (.int .u64 aq2) := (f_p).cell 5
  have p_f5 := (f_p).frozen 5
  have p_13 : X2.cell? ⟨w.heap.size + 2, 13, none⟩ = some (.int .u16 afl) := (f_p).cell 13
  have p_f13 := (f_p).frozen 13
  have p_21 : X2.cell? ⟨w.heap.size + 2, 21, none⟩ = some (.int .u64 er1) := (f_p).cell 21
  have p_f21 := (f_p).frozen 21
  have p_22 : X2.cell? ⟨w.heap.size + 2, 22, none⟩ = some (.int .u64 er2) := (f_p).cell 22
  have p_f22 := (f_p).frozen 22
  have p_23 : X2.cell? ⟨w.heap.size + 2, 23, none⟩ = some (.int .u64 es1) := (f_p).cell 23
  have p_f23 := (f_p).frozen 23
  have p_24 : X2.cell? ⟨w.heap.size + 2, 24, none⟩ = some (.int .u64 es2) := (f_p).cell 24
  have p_f24 := (f_p).frozen 24
  have p_28 : X2.cell? ⟨w.heap.size + 2, 28, none⟩ = some (.int .u16 efl) := (f_p).cell 28
  have p_f28 := (f_p).frozen 28
  replace f_p := Lib.hid f_p
  replace hB_2 := Lib.hid hB_2
  go_wp2_with fail
  refine (HA2.out _).mono ?_
  rintro e w_3 ⟨rfl, hb_3⟩
  have z_3 := hb_3.size
  try simp at z_3
  have t_ := hB_2.out
  have hB_3 := bel_eld (w := w) (X := _) (by first | ((repeat (first | with_reducible exact Below.refl _ _ | with_reducible assumption | (with_reducible refine bel_set ?_ (by first | exact Nat.le_refl _ | (simp; done) | (simp; omega) | omega) _) | with_reducible refine bel_grow ?_ _ | with_reducible refine Below.drew ?_ | with_reducible refine below_drewN ?_ _ | with_reducible refine bel_alloc ?_ _ | with_reducible refine bel_trans ?_ (by assumption))); done) | (repeat (first | exact Below.refl _ _ | assumption | refine below_drewN ?_ _ | refine bel_grow ?_ _ | refine Below.drew ?_ | refine bel_alloc ?_ _ | refine bel_set ?_ (by first | exact Nat.le_refl _ | (simp; done) | (simp; omega) | omega) _ | refine bel_trans ?_ (by assumption)))) hb_3
  clear t_
  have t_x := f_x.out
  have t_n := f_n.out
  have t_r := f_r.out
  have t_p := f_p.out
  have g_x : Blk w_3 (w.heap.size) 28 #[.int .u64 xi1, .int .u64 xi2, .int .u64 xd1, .int .u64 xd2, .int .u64 xc1, .int .u64 xc2, .int .u64 xm1, .int .u64 xm2, .int .u64 xw1, .int .u64 xw2, .int .u64 xtg, .int .u32 xto, .int .u32 xlg, .int .u16 xcd, .int .u16 xfl, .int .u64 xst] := by
    refine Blk.kept ?_ hb_3
    (repeat (first | with_reducible assumption | (with_reducible refine Blk.new' ?_; first | with_reducible rfl | (simp; done)) | with_reducible refine Blk.alloc ?_ _ | with_reducible refine Blk.grow ?_ _ | with_reducible refine Blk.drew ?_ | with_reducible refine Blk.drewN ?_ _ | (with_reducible refine Blk.far ?_ (by first | (dsimp only; omega) | (simp; omega)) _) | (with_reducible apply Blk.two) | (with_reducible refine Blk.set' ?_ _ _ ?_) | (with_reducible rfl) | rfl))
  have g_n : Blk w_3 (w.heap.size + 1) 24 #[.int .u64 n1, .int .u64 n2] := by
    refine Blk.kept ?_ hb_3
    (repeat (first | with_reducible assumption | (with_reducible refine Blk.new' ?_; first | with_reducible rfl | (simp; done)) | with_reducible refine Blk.alloc ?_ _ | with_reducible refine Blk.grow ?_ _ | with_reducible refine Blk.drew ?_ | with_reducible refine Blk.drewN ?_ _ | (with_reducible refine Blk.far ?_ (by first | (dsimp only; omega) | (simp; omega)) _) | (with_reducible apply Blk.two) | (with_reducible refine Blk.set' ?_ _ _ ?_) | (with_reducible rfl) | rfl))
  have g_r : Blk w_3 (w.heap.size + 3) 32 #[.int .u64 0, .int .u64 0, .int .u64 0, .int .u64 0, .int .u64 0, .int .u64 0, .int .u64 0, .int .u64 0, .int .u64 0, .int .u64 0, .int .u64 0, .int .u32 0, .int .u16 0, .int .u16 0, .int .u64 0, .int .u64 0, .int .u64 0, .int .u64 0, .int .u64 0, .int .u64 0, .int .u64 0, .int .u64 0, .int .u64 0, .int .u64 0, .int .u64 0, .int .u64 0, .int .u32 0, .int .u16 0, .int .u16 0, .int .u64 0, .bool false, .bool false] := by
    refine Blk.kept ?_ hb_3
    (repeat (first | with_reducible assumption | (with_reducible refine Blk.new' ?_; first | with_reducible rfl | (simp; done)) | with_reducible refine Blk.alloc ?_ _ | with_reducible refine Blk.grow ?_ _ | with_reducible refine Blk.drew ?_ | with_reducible refine Blk.drewN ?_ _ | (with_reducible refine Blk.far ?_ (by first | (dsimp only; omega) | (simp; omega)) _) | (with_reducible apply Blk.two) | (with_reducible refine Blk.set' ?_ _ _ ?_) | (with_reducible rfl) | rfl))
  have g_p : Blk w_3 (w.heap.size + 2) 32 #[.int .u64 ai1, .int .u64 ai2, .int .u64 h1, .int .u64 l1, .int .u64 aq1, .int .u64 aq2, .int .u64 ar1, .int .u64 ar2, .int .u64 as1, .int .u64 as2, .int .u64 atg, .int .u32 alg, .int .u16 acd, .int .u16 afl, .int .u64 ast, .int .u64 ei1, .int .u64 ei2, .int .u64 ep1, .int .u64 ep2, .int .u64 eq1, .int .u64 eq2, .int .u64 er1, .int .u64 er2, .int .u64 es1, .int .u64 es2, .int .u64 etg, .int .u32 elg, .int .u16 ecd, .int .u16 efl, .int .u64 est, .bool hd, .bool hc] := by
    refine Blk.kept ?_ hb_3
    (repeat (first | with_reducible assumption | (with_reducible refine Blk.new' ?_; first | with_reducible rfl | (simp; done)) | with_reducible refine Blk.alloc ?_ _ | with_reducible refine Blk.grow ?_ _ | with_reducible refine Blk.drew ?_ | with_reducible refine Blk.drewN ?_ _ | (with_reducible refine Blk.far ?_ (by first | (dsimp only; omega) | (simp; omega)) _) | (with_reducible apply Blk.two) | (with_reducible refine Blk.set' ?_ _ _ ?_) | (with_reducible rfl) | rfl))
  clear f_x x_l r_x x_6 x_f6 x_7 x_f7 x_14 x_f14 f_n n_l n_0 n_1 n_f0 n_f1 f_r r_l r_r f_p p_l r_p p_2 p_f2 p_3 p_f3 p_4 p_f4 p_5 p_f5 p_13 p_f13 p_21 p_f21 p_22 p_f22 p_23 p_f23 p_24 p_f24 p_28 p_f28 t_x t_n t_r t_p hB_2 hb_3
  have f_x := g_x
  clear g_x
  have f_n := g_n
  clear g_n
  have f_r := g_r
  clear g_r
  have f_p := g_p
  clear g_p
  have r_x := rowAt_blk f_x
  have x_l := f_x.lt
  have x_6 : w_3.cell? ⟨w.heap.size, 6, none⟩ = some (.int .u64 xm1) := (f_x).cell 6
  have x_f6 := (f_x).frozen 6
  have x_7 : w_3.cell? ⟨w.heap.size, 7, none⟩ = some (.int .u64 xm2) := (f_x).cell 7
  have x_f7 := (f_x).frozen 7
  have x_14 : w_3.cell? ⟨w.heap.size, 14, none⟩ = some (.int .u16 xfl) := (f_x).cell 14
  have x_f14 := (f_x).frozen 14
  replace f_x := Lib.hid f_x
  have n_0 : w_3.cell? ⟨w.heap.size + 1, 0, none⟩ = some (.int .u64 n1) := (f_n).cell 0
  have n_1 : w_3.cell? ⟨w.heap.size + 1, 1, none⟩ = some (.int .u64 n2) := (f_n).cell 1
  have n_f0 := (f_n).frozen 0
  have n_f1 := (f_n).frozen 1
  have n_l := (f_n).lt
  replace f_n := Lib.hid f_n
  have r_r := rowAt_blk f_r
  have r_l := f_r.lt
  replace f_r := Lib.hid f_r
  have r_p := rowAt_blk f_p
  have p_l := f_p.lt
  have p_2 : w_3.cell? ⟨w.heap.size + 2, 2, none⟩ = some (.int .u64 h1) := (f_p).cell 2
  have p_f2 := (f_p).frozen 2
  have p_3 : w_3.cell? ⟨w.heap.size + 2, 3, none⟩ = some (.int .u64 l1) := (f_p).cell 3
  have p_f3 := (f_p).frozen 3
  have p_4 : w_3.cell? ⟨w.heap.size + 2, 4, none⟩ = some (.int .u64 aq1) := (f_p).cell 4
  have p_f4 := (f_p).frozen 4
  have p_5 : w_3.cell? ⟨w.heap.size + 2, 5, none⟩ = some (.int .u64 aq2) := (f_p).cell 5
  have p_f5 := (f_p).frozen 5
  have p_13 : w_3.cell? ⟨w.heap.size + 2, 13, none⟩ = some (.int .u16 afl) := (f_p).cell 13
  have p_f13 := (f_p).frozen 13
  have p_21 : w_3.cell? ⟨w.heap.size + 2, 21, none⟩ = some (.int .u64 er1) := (f_p).cell 21
  have p_f21 := (f_p).frozen 21
  have p_22 : w_3.cell? ⟨w.heap.size + 2, 22, none⟩ = some (.int .u64 er2) := (f_p).cell 22
  have p_f22 := (f_p).frozen 22
  have p_23 : w_3.cell? ⟨w.heap.size + 2, 23, none⟩ = some (.int .u64 es1) := (f_p).cell 23
  have p_f23 := (f_p).frozen 23
  have p_24 : w_3.cell? ⟨w.heap.size + 2, 24, none⟩ = some (.int .u64 es2) := (f_p).cell 24
  have p_f24 := (f_p).frozen 24
  have p_28 : w_3.cell? ⟨w.heap.size + 2, 28, none⟩ = some (.int .u16 efl) := (f_p).cell 28
  have p_f28 := (f_p).frozen 28
  replace f_p := Lib.hid f_p
  replace hB_3 := Lib.hid hB_3
  go_upto_region 4 with fail
  refine abs_wp (fun Y_ => Below w.heap.size w Y_ ∧ Blk Y_ (w.heap.size) 28 #[.int .u64 xi1, .int .u64 xi2, .int .u64 xd1, .int .u64 xd2, .int .u64 xc1, .int .u64 xc2, .int .u64 xm1, .int .u64 xm2, .int .u64 xw1, .int .u64 xw2, .int .u64 xtg, .int .u32 xto, .int .u32 xlg, .int .u16 xcd, .int .u16 xfl, .int .u64 xst] ∧ Blk Y_ (w.heap.size + 1) 24 #[.int .u64 n1, .int .u64 n2] ∧ Blk Y_ (w.heap.size + 3) 32 #[.int .u64 0, .int .u64 0, .int .u64 0, .int .u64 0, .int .u64 0, .int .u64 0, .int .u64 0, .int .u64 0, .int .u64 0, .int .u64 0, .int .u64 0, .int .u32 0, .int .u16 0, .int .u16 0, .int .u64 0, .int .u64 0, .int .u64 0, .int .u64 0, .int .u64 0, .int .u64 0, .int .u64 0, .int .u64 0, .int .u64 0, .int .u64 0, .int .u64 0, .int .u64 0, .int .u32 0, .int .u16 0, .int .u16 0, .int .u64 0, .bool false, .bool false] ∧ Blk Y_ (w.heap.size + 2) 32 #[.int .u64 ai1, .int .u64 ai2, .int .u64 h1, .int .u64 l1, .int .u64 aq1, .int .u64 aq2, .int .u64 ar1, .int .u64 ar2, .int .u64 as1, .int .u64 as2, .int .u64 atg, .int .u32 alg, .int .u16 acd, .int .u16 afl, .int .u64 ast, .int .u64 ei1, .int .u64 ei2, .int .u64 ep1, .int .u64 ep2, .int .u64 eq1, .int .u64 eq2, .int .u64 h2, .int .u64 l2, .int .u64 es1, .int .u64 es2, .int .u64 etg, .int .u32 elg, .int .u16 ecd, .int .u16 efl, .int .u64 est, .bool hd, .bool hc]) ?_ ?_
  · have t_B := hB_3.out
    have t_x := f_x.out
    have t_n := f_n.out
    have t_r := f_r.out
    have t_p := f_p.out
    refine ⟨by (repeat (first | with_reducible exact Below.refl _ _ | with_reducible assumption | (with_reducible refine bel_set ?_ (by first | exact Nat.le_refl _ | (simp; done) | (simp; omega) | omega) _) | with_reducible refine bel_grow ?_ _ | with_reducible refine Below.drew ?_ | with_reducible refine bel_alloc ?_ _ | with_reducible refine bel_eld ?_ (by assumption))), ?_, ?_, ?_, ?_⟩
    · (repeat (first | with_reducible assumption | (with_reducible refine Blk.new' ?_; first | with_reducible rfl | (simp; done)) | with_reducible refine Blk.alloc ?_ _ | with_reducible refine Blk.grow ?_ _ | with_reducible refine Blk.drew ?_ | with_reducible refine Blk.drewN ?_ _ | (with_reducible refine Blk.far ?_ (by first | (dsimp only; omega) | (simp; omega)) _) | (with_reducible apply Blk.two) | (with_reducible refine Blk.kept ?_ (by assumption)) | (with_reducible refine Blk.setRow ?_ (by first | rfl | (simp; done))) | (with_reducible refine Blk.setRow_far ?_ (by first | omega | (simp; omega)) _) | (with_reducible refine Blk.set' ?_ _ _ (by first | rfl | (simp; done)))))
    · (repeat (first | with_reducible assumption | (with_reducible refine Blk.new' ?_; first | with_reducible rfl | (simp; done)) | with_reducible refine Blk.alloc ?_ _ | with_reducible refine Blk.grow ?_ _ | with_reducible refine Blk.drew ?_ | with_reducible refine Blk.drewN ?_ _ | (with_reducible refine Blk.far ?_ (by first | (dsimp only; omega) | (simp; omega)) _) | (with_reducible apply Blk.two) | (with_reducible refine Blk.kept ?_ (by assumption)) | (with_reducible refine Blk.setRow ?_ (by first | rfl | (simp; done))) | (with_reducible refine Blk.setRow_far ?_ (by first | omega | (simp; omega)) _) | (with_reducible refine Blk.set' ?_ _ _ (by first | rfl | (simp; done)))))
    · (repeat (first | with_reducible assumption | (with_reducible refine Blk.new' ?_; first | with_reducible rfl | (simp; done)) | with_reducible refine Blk.alloc ?_ _ | with_reducible refine Blk.grow ?_ _ | with_reducible refine Blk.drew ?_ | with_reducible refine Blk.drewN ?_ _ | (with_reducible refine Blk.far ?_ (by first | (dsimp only; omega) | (simp; omega)) _) | (with_reducible apply Blk.two) | (with_reducible refine Blk.kept ?_ (by assumption)) | (with_reducible refine Blk.setRow ?_ (by first | rfl | (simp; done))) | (with_reducible refine Blk.setRow_far ?_ (by first | omega | (simp; omega)) _) | (with_reducible refine Blk.set' ?_ _ _ (by first | rfl | (simp; done)))))
    · first | exact Blk.eqv ((t_p.set_ 21 _).set_ 22 _) (by first | rfl | simp) | (repeat (first | with_reducible assumption | (with_reducible refine Blk.new' ?_; first | with_reducible rfl | (simp; done)) | with_reducible refine Blk.alloc ?_ _ | with_reducible refine Blk.grow ?_ _ | with_reducible refine Blk.drew ?_ | with_reducible refine Blk.drewN ?_ _ | (with_reducible refine Blk.far ?_ (by first | (dsimp only; omega) | (simp; omega)) _) | (with_reducible apply Blk.two) | (with_reducible refine Blk.kept ?_ (by assumption)) | (with_reducible refine Blk.setRow ?_ (by first | rfl | (simp; done))) | (with_reducible refine Blk.setRow_far ?_ (by first | omega | (simp; omega)) _) | (with_reducible refine Blk.set' ?_ _ _ (by first | rfl | (simp; done)))))
  clear f_x x_l r_x x_6 x_f6 x_7 x_f7 x_14 x_f14 f_n n_l n_0 n_1 n_f0 n_f1 f_r r_l r_r f_p p_l r_p p_2 p_f2 p_3 p_f3 p_4 p_f4 p_5 p_f5 p_13 p_f13 p_21 p_f21 p_22 p_f22 p_23 p_f23 p_24 p_f24 p_28 p_f28 hB_3
  rintro X4 ⟨hB_4, f_x, f_n, f_r, f_p⟩
  have r_x := rowAt_blk f_x
  have x_l := f_x.lt
  have x_6 : X4.cell? ⟨w.heap.size, 6, none⟩ = some (.int .u64 xm1) := (f_x).cell 6
  have x_f6 := (f_x).frozen 6
  have x_7 : X4.cell? ⟨w.heap.size, 7, none⟩ = some (.int .u64 xm2) := (f_x).cell 7
  have x_f7 := (f_x).frozen 7
  have x_14 : X4.cell? ⟨w.heap.size, 14, none⟩ = some (.int .u16 xfl) := (f_x).cell 14
  have x_f14 := (f_x).frozen 14
  replace f_x := Lib.hid f_x
  have n_0 : X4.cell? ⟨w.heap.size + 1, 0, none⟩ = some (.int .u64 n1) := (f_n).cell 0
  have n_1 : X4.cell? ⟨w.heap.size + 1, 1, none⟩ = some (.int .u64 n2) := (f_n).cell 1
  have n_f0 := (f_n).frozen 0
  have n_f1 := (f_n).frozen 1
  have n_l := (f_n).lt
  replace f_n := Lib.hid f_n
  have r_r := rowAt_blk f_r
  have r_l := f_r.lt
  replace f_r := Lib.hid f_r
  have r_p := rowAt_blk f_p
  have p_l := f_p.lt
  have p_2 : X4.cell? ⟨w.heap.size + 2, 2, none⟩ = some (.int .u64 h1) := (f_p).cell 2
  have p_f2 := (f_p).frozen 2
  have p_3 : X4.cell? ⟨w.heap.size + 2, 3, none⟩ = some (.int .u64 l1) := (f_p).cell 3
  have p_f3 := (f_p).frozen 3
  have p_4 : X4.cell? ⟨w.heap.size + 2, 4, none⟩ = some (.int .u64 aq1) := (f_p).cell 4
  have p_f4 := (f_p).frozen 4
  have p_5 : X4.cell? ⟨w.heap.size + 2, 5, none⟩ = some (.int .u64 aq2) := (f_p).cell 5
  have p_f5 := (f_p).frozen 5
  have p_13 : X4.cell? ⟨w.heap.size + 2, 13, none⟩ = some (.int .u16 afl) := (f_p).cell 13
  have p_f13 := (f_p).frozen 13
  have p_21 : X4.cell? ⟨w.heap.size + 2, 21, none⟩ = some (.int .u64 h2) := (f_p).cell 21
  have p_f21 := (f_p).frozen 21
  have p_22 : X4.cell? ⟨w.heap.size + 2, 22, none⟩ = some (.int .u64 l2) := (f_p).cell 22
  have p_f22 := (f_p).frozen 22
  have p_23 : X4.cell? ⟨w.heap.size + 2, 23, none⟩ = some (.int .u64 es1) := (f_p).cell 23
  have p_f23 := (f_p).frozen 23
  have p_24 : X4.cell? ⟨w.heap.size + 2, 24, none⟩ = some (.int .u64 es2) := (f_p).cell 24
  have p_f24 := (f_p).frozen 24
  have p_28 : X4.cell? ⟨w.heap.size + 2, 28, none⟩ = some (.int .u16 efl) := (f_p).cell 28
  have p_f28 := (f_p).frozen 28
  replace f_p := Lib.hid f_p
  replace hB_4 := Lib.hid hB_4

  cases ok1
  case false =>
    go_wp2_with fail
    refine abs_post (fun Y_ => Below w.heap.size w Y_ ∧ Blk Y_ (w.heap.size + 3) 32 #[.int .u64 0, .int .u64 0, .int .u64 0, .int .u64 0, .int .u64 0, .int .u64 0, .int .u64 0, .int .u64 0, .int .u64 0, .int .u64 0, .int .u64 0, .int .u32 0, .int .u16 0, .int .u16 0, .int .u64 0, .int .u64 0, .int .u64 0, .int .u64 0, .int .u64 0, .int .u64 0, .int .u64 0, .int .u64 0, .int .u64 0, .int .u64 0, .int .u64 0, .int .u64 0, .int .u32 0, .int .u16 0, .int .u16 0, .int .u64 0, .bool false, .bool false]) ?_ ?_
    · have t_B := hB_4.out
      have t_x := f_x.out
      have t_n := f_n.out
      have t_r := f_r.out
      have t_p := f_p.out
      exact ⟨by (repeat (first | with_reducible exact Below.refl _ _ | with_reducible assumption | (with_reducible refine bel_set ?_ (by first | exact Nat.le_refl _ | (simp; done) | (simp; omega) | omega) _) | with_reducible refine bel_grow ?_ _ | with_reducible refine Below.drew ?_ | with_reducible refine bel_alloc ?_ _ | (with_reducible refine below_setRow ?_ (by first | omega | (simp; omega)) _) | with_reducible refine bel_eld ?_ (by assumption))), by (repeat (first | with_reducible assumption | (with_reducible refine Blk.new' ?_; first | with_reducible rfl | (simp; done)) | with_reducible refine Blk.alloc ?_ _ | with_reducible refine Blk.grow ?_ _ | with_reducible refine Blk.drew ?_ | with_reducible refine Blk.drewN ?_ _ | (with_reducible refine Blk.far ?_ (by first | (dsimp only; omega) | (simp; omega)) _) | (with_reducible apply Blk.two) | (with_reducible refine Blk.kept ?_ (by assumption)) | (with_reducible refine Blk.setRow (by assumption) (by first | rfl | (simp; done))) | (with_reducible refine Blk.setRow_far ?_ (by first | omega | (simp; omega)) _) | (with_reducible refine Blk.set' ?_ _ _ (by first | rfl | (simp; done)))))⟩
    rintro Y_ ⟨bZ_, gP_⟩
    have HLV := loadVar_blk (ty := 32) Try.underlying32 rfl (by kernel_rfl) gP_ rfl
    refine bodyPost_ret (v := .tuple #[.agg #[.int .u64 0, .int .u64 0, .int .u64 0, .int .u64 0, .int .u64 0, .int .u64 0, .int .u64 0, .int .u64 0, .int .u64 0, .int .u64 0, .int .u64 0, .int .u32 0, .int .u16 0, .int .u16 0, .int .u64 0, .int .u64 0, .int .u64 0, .int .u64 0, .int .u64 0, .int .u64 0, .int .u64 0, .int .u64 0, .int .u64 0, .int .u64 0, .int .u64 0, .int .u64 0, .int .u32 0, .int .u16 0, .int .u16 0, .int .u64 0, .bool false, .bool false], .bool false]) (results_ct Try.results19 rfl HLV) rfl ⟨by first | rfl | (rw [hk.out]; rfl), bZ_⟩
  case true =>

  cases ok2
  case false =>
    go_wp2_with fail
    refine abs_post (fun Y_ => Below w.heap.size w Y_ ∧ Blk Y_ (w.heap.size + 3) 32 #[.int .u64 0, .int .u64 0, .int .u64 0, .int .u64 0, .int .u64 0, .int .u64 0, .int .u64 0, .int .u64 0, .int .u64 0, .int .u64 0, .int .u64 0, .int .u32 0, .int .u16 0, .int .u16 0, .int .u64 0, .int .u64 0, .int .u64 0, .int .u64 0, .int .u64 0, .int .u64 0, .int .u64 0, .int .u64 0, .int .u64 0, .int .u64 0, .int .u64 0, .int .u64 0, .int .u32 0, .int .u16 0, .int .u16 0, .int .u64 0, .bool false, .bool false]) ?_ ?_
    · have t_B := hB_4.out
      have t_x := f_x.out
      have t_n := f_n.out
      have t_r := f_r.out
      have t_p := f_p.out
      exact ⟨by (repeat (first | with_reducible exact Below.refl _ _ | with_reducible assumption | (with_reducible refine bel_set ?_ (by first | exact Nat.le_refl _ | (simp; done) | (simp; omega) | omega) _) | with_reducible refine bel_grow ?_ _ | with_reducible refine Below.drew ?_ | with_reducible refine bel_alloc ?_ _ | (with_reducible refine below_setRow ?_ (by first | omega | (simp; omega)) _) | with_reducible refine bel_eld ?_ (by assumption))), by (repeat (first | with_reducible assumption | (with_reducible refine Blk.new' ?_; first | with_reducible rfl | (simp; done)) | with_reducible refine Blk.alloc ?_ _ | with_reducible refine Blk.grow ?_ _ | with_reducible refine Blk.drew ?_ | with_reducible refine Blk.drewN ?_ _ | (with_reducible refine Blk.far ?_ (by first | (dsimp only; omega) | (simp; omega)) _) | (with_reducible apply Blk.two) | (with_reducible refine Blk.kept ?_ (by assumption)) | (with_reducible refine Blk.setRow (by assumption) (by first | rfl | (simp; done))) | (with_reducible refine Blk.setRow_far ?_ (by first | omega | (simp; omega)) _) | (with_reducible refine Blk.set' ?_ _ _ (by first | rfl | (simp; done)))))⟩
    rintro Y_ ⟨bZ_, gP_⟩
    have HLV := loadVar_blk (ty := 32) Try.underlying32 rfl (by kernel_rfl) gP_ rfl
    refine bodyPost_ret (v := .tuple #[.agg #[.int .u64 0, .int .u64 0, .int .u64 0, .int .u64 0, .int .u64 0, .int .u64 0, .int .u64 0, .int .u64 0, .int .u64 0, .int .u64 0, .int .u64 0, .int .u32 0, .int .u16 0, .int .u16 0, .int .u64 0, .int .u64 0, .int .u64 0, .int .u64 0, .int .u64 0, .int .u64 0, .int .u64 0, .int .u64 0, .int .u64 0, .int .u64 0, .int .u64 0, .int .u64 0, .int .u32 0, .int .u16 0, .int .u16 0, .int .u64 0, .bool false, .bool false], .bool false]) (results_ct Try.results19 rfl HLV) rfl ⟨by first | rfl | (rw [hk.out]; rfl), bZ_⟩
  case true =>

  replace hfd := hfd.out
  replace hfc := hfc.out
  go_wp2_with fail
  refine (HB64.out _).mono ?_
  rintro e w_5 ⟨rfl, hb_5⟩
  have z_5 := hb_5.size
  try simp at z_5
  have t_ := hB_4.out
  have hB_5 := bel_eld (w := w) (X := _) (by first | ((repeat (first | with_reducible exact Below.refl _ _ | with_reducible assumption | (with_reducible refine bel_set ?_ (by first | exact Nat.le_refl _ | (simp; done) | (simp; omega) | omega) _) | with_reducible refine bel_grow ?_ _ | with_reducible refine Below.drew ?_ | with_reducible refine below_drewN ?_ _ | with_reducible refine bel_alloc ?_ _ | with_reducible refine bel_trans ?_ (by assumption))); done) | (repeat (first | exact Below.refl _ _ | assumption | refine below_drewN ?_ _ | refine bel_grow ?_ _ | refine Below.drew ?_ | refine bel_alloc ?_ _ | refine bel_set ?_ (by first | exact Nat.le_refl _ | (simp; done) | (simp; omega) | omega) _ | refine bel_trans ?_ (by assumption)))) hb_5
  clear t_
  have t_x := f_x.out
  have t_n := f_n.out
  have t_r := f_r.out
  have t_p := f_p.out
  have g_x : Blk w_5 (w.heap.size) 28 #[.int .u64 xi1, .int .u64 xi2, .int .u64 xd1, .int .u64 xd2, .int .u64 xc1, .int .u64 xc2, .int .u64 xm1, .int .u64 xm2, .int .u64 xw1, .int .u64 xw2, .int .u64 xtg, .int .u32 xto, .int .u32 xlg, .int .u16 xcd, .int .u16 xfl, .int .u64 xst] := by
    refine Blk.kept ?_ hb_5
    (repeat (first | with_reducible assumption | (with_reducible refine Blk.new' ?_; first | with_reducible rfl | (simp; done)) | with_reducible refine Blk.alloc ?_ _ | with_reducible refine Blk.grow ?_ _ | with_reducible refine Blk.drew ?_ | with_reducible refine Blk.drewN ?_ _ | (with_reducible refine Blk.far ?_ (by first | (dsimp only; omega) | (simp; omega)) _) | (with_reducible apply Blk.two) | (with_reducible refine Blk.set' ?_ _ _ ?_) | (with_reducible rfl) | rfl))
  have g_n : Blk w_5 (w.heap.size + 1) 24 #[.int .u64 n1, .int .u64 n2] := by
    refine Blk.kept ?_ hb_5
    (repeat (first | with_reducible assumption | (with_reducible refine Blk.new' ?_; first | with_reducible rfl | (simp; done)) | with_reducible refine Blk.alloc ?_ _ | with_reducible refine Blk.grow ?_ _ | with_reducible refine Blk.drew ?_ | with_reducible refine Blk.drewN ?_ _ | (with_reducible refine Blk.far ?_ (by first | (dsimp only; omega) | (simp; omega)) _) | (with_reducible apply Blk.two) | (with_reducible refine Blk.set' ?_ _ _ ?_) | (with_reducible rfl) | rfl))
  have g_r : Blk w_5 (w.heap.size + 3) 32 #[.int .u64 0, .int .u64 0, .int .u64 0, .int .u64 0, .int .u64 0, .int .u64 0, .int .u64 0, .int .u64 0, .int .u64 0, .int .u64 0, .int .u64 0, .int .u32 0, .int .u16 0, .int .u16 0, .int .u64 0, .int .u64 0, .int .u64 0, .int .u64 0, .int .u64 0, .int .u64 0, .int .u64 0, .int .u64 0, .int .u64 0, .int .u64 0, .int .u64 0, .int .u64 0, .int .u32 0, .int .u16 0, .int .u16 0, .int .u64 0, .bool false, .bool false] := by
    refine Blk.kept ?_ hb_5
    (repeat (first | with_reducible assumption | (with_reducible refine Blk.new' ?_; first | with_reducible rfl | (simp; done)) | with_reducible refine Blk.alloc ?_ _ | with_reducible refine Blk.grow ?_ _ | with_reducible refine Blk.drew ?_ | with_reducible refine Blk.drewN ?_ _ | (with_reducible refine Blk.far ?_ (by first | (dsimp only; omega) | (simp; omega)) _) | (with_reducible apply Blk.two) | (with_reducible refine Blk.set' ?_ _ _ ?_) | (with_reducible rfl) | rfl))
  have g_p : Blk w_5 (w.heap.size + 2) 32 #[.int .u64 ai1, .int .u64 ai2, .int .u64 h1, .int .u64 l1, .int .u64 aq1, .int .u64 aq2, .int .u64 ar1, .int .u64 ar2, .int .u64 as1, .int .u64 as2, .int .u64 atg, .int .u32 alg, .int .u16 acd, .int .u16 afl, .int .u64 ast, .int .u64 ei1, .int .u64 ei2, .int .u64 ep1, .int .u64 ep2, .int .u64 eq1, .int .u64 eq2, .int .u64 h2, .int .u64 l2, .int .u64 es1, .int .u64 es2, .int .u64 etg, .int .u32 elg, .int .u16 ecd, .int .u16 efl, .int .u64 est, .bool hd, .bool hc] := by
    refine Blk.kept ?_ hb_5
    (repeat (first | with_reducible assumption | (with_reducible refine Blk.new' ?_; first | with_reducible rfl | (simp; done)) | with_reducible refine Blk.alloc ?_ _ | with_reducible refine Blk.grow ?_ _ | with_reducible refine Blk.drew ?_ | with_reducible refine Blk.drewN ?_ _ | (with_reducible refine Blk.far ?_ (by first | (dsimp only; omega) | (simp; omega)) _) | (with_reducible apply Blk.two) | (with_reducible refine Blk.set' ?_ _ _ ?_) | (with_reducible rfl) | rfl))
  clear f_x x_l r_x x_6 x_f6 x_7 x_f7 x_14 x_f14 f_n n_l n_0 n_1 n_f0 n_f1 f_r r_l r_r f_p p_l r_p p_2 p_f2 p_3 p_f3 p_4 p_f4 p_5 p_f5 p_13 p_f13 p_21 p_f21 p_22 p_f22 p_23 p_f23 p_24 p_f24 p_28 p_f28 t_x t_n t_r t_p hB_4 hb_5
  have f_x := g_x
  clear g_x
  have f_n := g_n
  clear g_n
  have f_r := g_r
  clear g_r
  have f_p := g_p
  clear g_p
  have r_x := rowAt_blk f_x
  have x_l := f_x.lt
  have x_6 : w_5.cell? ⟨w.heap.size, 6, none⟩ = some (.int .u64 xm1) := (f_x).cell 6
  have x_f6 := (f_x).frozen 6
  have x_7 : w_5.cell? ⟨w.heap.size, 7, none⟩ = some (.int .u64 xm2) := (f_x).cell 7
  have x_f7 := (f_x).frozen 7
  have x_14 : w_5.cell? ⟨w.heap.size, 14, none⟩ = some (.int .u16 xfl) := (f_x).cell 14
  have x_f14 := (f_x).frozen 14
  replace f_x := Lib.hid f_x
  have n_0 : w_5.cell? ⟨w.heap.size + 1, 0, none⟩ = some (.int .u64 n1) := (f_n).cell 0
  have n_1 : w_5.cell? ⟨w.heap.size + 1, 1, none⟩ = some (.int .u64 n2) := (f_n).cell 1
  have n_f0 := (f_n).frozen 0
  have n_f1 := (f_n).frozen 1
  have n_l := (f_n).lt
  replace f_n := Lib.hid f_n
  have r_r := rowAt_blk f_r
  have r_l := f_r.lt
  replace f_r := Lib.hid f_r
  have r_p := rowAt_blk f_p
  have p_l := f_p.lt
  have p_2 : w_5.cell? ⟨w.heap.size + 2, 2, none⟩ = some (.int .u64 h1) := (f_p).cell 2
  have p_f2 := (f_p).frozen 2
  have p_3 : w_5.cell? ⟨w.heap.size + 2, 3, none⟩ = some (.int .u64 l1) := (f_p).cell 3
  have p_f3 := (f_p).frozen 3
  have p_4 : w_5.cell? ⟨w.heap.size + 2, 4, none⟩ = some (.int .u64 aq1) := (f_p).cell 4
  have p_f4 := (f_p).frozen 4
  have p_5 : w_5.cell? ⟨w.heap.size + 2, 5, none⟩ = some (.int .u64 aq2) := (f_p).cell 5
  have p_f5 := (f_p).frozen 5
  have p_13 : w_5.cell? ⟨w.heap.size + 2, 13, none⟩ = some (.int .u16 afl) := (f_p).cell 13
  have p_f13 := (f_p).frozen 13
  have p_21 : w_5.cell? ⟨w.heap.size + 2, 21, none⟩ = some (.int .u64 h2) := (f_p).cell 21
  have p_f21 := (f_p).frozen 21
  have p_22 : w_5.cell? ⟨w.heap.size + 2, 22, none⟩ = some (.int .u64 l2) := (f_p).cell 22
  have p_f22 := (f_p).frozen 22
  have p_23 : w_5.cell? ⟨w.heap.size + 2, 23, none⟩ = some (.int .u64 es1) := (f_p).cell 23
  have p_f23 := (f_p).frozen 23
  have p_24 : w_5.cell? ⟨w.heap.size + 2, 24, none⟩ = some (.int .u64 es2) := (f_p).cell 24
  have p_f24 := (f_p).frozen 24
  have p_28 : w_5.cell? ⟨w.heap.size + 2, 28, none⟩ = some (.int .u16 efl) := (f_p).cell 28
  have p_f28 := (f_p).frozen 28
  replace f_p := Lib.hid f_p
  replace hB_5 := Lib.hid hB_5

  cases b64
  case false =>
    go_wp2_with fail
    refine (HB128.out _).mono ?_
    rintro e w_6 ⟨rfl, hb_6⟩
    have z_6 := hb_6.size
    try simp at z_6
    have t_ := hB_5.out
    have hB_6 := bel_eld (w := w) (X := _) (by first | ((repeat (first | with_reducible exact Below.refl _ _ | with_reducible assumption | (with_reducible refine bel_set ?_ (by first | exact Nat.le_refl _ | (simp; done) | (simp; omega) | omega) _) | with_reducible refine bel_grow ?_ _ | with_reducible refine Below.drew ?_ | with_reducible refine below_drewN ?_ _ | with_reducible refine bel_alloc ?_ _ | with_reducible refine bel_trans ?_ (by assumption))); done) | (repeat (first | exact Below.refl _ _ | assumption | refine below_drewN ?_ _ | refine bel_grow ?_ _ | refine Below.drew ?_ | refine bel_alloc ?_ _ | refine bel_set ?_ (by first | exact Nat.le_refl _ | (simp; done) | (simp; omega) | omega) _ | refine bel_trans ?_ (by assumption)))) hb_6
    clear t_
    have t_x := f_x.out
    have t_n := f_n.out
    have t_r := f_r.out
    have t_p := f_p.out
    have g_x : Blk w_6 (w.heap.size) 28 #[.int .u64 xi1, .int .u64 xi2, .int .u64 xd1, .int .u64 xd2, .int .u64 xc1, .int .u64 xc2, .int .u64 xm1, .int .u64 xm2, .int .u64 xw1, .int .u64 xw2, .int .u64 xtg, .int .u32 xto, .int .u32 xlg, .int .u16 xcd, .int .u16 xfl, .int .u64 xst] := by
      refine Blk.kept ?_ hb_6
      (repeat (first | with_reducible assumption | (with_reducible refine Blk.new' ?_; first | with_reducible rfl | (simp; done)) | with_reducible refine Blk.alloc ?_ _ | with_reducible refine Blk.grow ?_ _ | with_reducible refine Blk.drew ?_ | with_reducible refine Blk.drewN ?_ _ | (with_reducible refine Blk.far ?_ (by first | (dsimp only; omega) | (simp; omega)) _) | (with_reducible apply Blk.two) | (with_reducible refine Blk.set' ?_ _ _ ?_) | (with_reducible rfl) | rfl))
    have g_n : Blk w_6 (w.heap.size + 1) 24 #[.int .u64 n1, .int .u64 n2] := by
      refine Blk.kept ?_ hb_6
      (repeat (first | with_reducible assumption | (with_reducible refine Blk.new' ?_; first | with_reducible rfl | (simp; done)) | with_reducible refine Blk.alloc ?_ _ | with_reducible refine Blk.grow ?_ _ | with_reducible refine Blk.drew ?_ | with_reducible refine Blk.drewN ?_ _ | (with_reducible refine Blk.far ?_ (by first | (dsimp only; omega) | (simp; omega)) _) | (with_reducible apply Blk.two) | (with_reducible refine Blk.set' ?_ _ _ ?_) | (with_reducible rfl) | rfl))
    have g_r : Blk w_6 (w.heap.size + 3) 32 #[.int .u64 0, .int .u64 0, .int .u64 0, .int .u64 0, .int .u64 0, .int .u64 0, .int .u64 0, .int .u64 0, .int .u64 0, .int .u64 0, .int .u64 0, .int .u32 0, .int .u16 0, .int .u16 0, .int .u64 0, .int .u64 0, .int .u64 0, .int .u64 0, .int .u64 0, .int .u64 0, .int .u64 0, .int .u64 0, .int .u64 0, .int .u64 0, .int .u64 0, .int .u64 0, .int .u32 0, .int .u16 0, .int .u16 0, .int .u64 0, .bool false, .bool false] := by
      refine Blk.kept ?_ hb_6
      (repeat (first | with_reducible assumption | (with_reducible refine Blk.new' ?_; first | with_reducible rfl | (simp; done)) | with_reducible refine Blk.alloc ?_ _ | with_reducible refine Blk.grow ?_ _ | with_reducible refine Blk.drew ?_ | with_reducible refine Blk.drewN ?_ _ | (with_reducible refine Blk.far ?_ (by first | (dsimp only; omega) | (simp; omega)) _) | (with_reducible apply Blk.two) | (with_reducible refine Blk.set' ?_ _ _ ?_) | (with_reducible rfl) | rfl))
    have g_p : Blk w_6 (w.heap.size + 2) 32 #[.int .u64 ai1, .int .u64 ai2, .int .u64 h1, .int .u64 l1, .int .u64 aq1, .int .u64 aq2, .int .u64 ar1, .int .u64 ar2, .int .u64 as1, .int .u64 as2, .int .u64 atg, .int .u32 alg, .int .u16 acd, .int .u16 afl, .int .u64 ast, .int .u64 ei1, .int .u64 ei2, .int .u64 ep1, .int .u64 ep2, .int .u64 eq1, .int .u64 eq2, .int .u64 h2, .int .u64 l2, .int .u64 es1, .int .u64 es2, .int .u64 etg, .int .u32 elg, .int .u16 ecd, .int .u16 efl, .int .u64 est, .bool hd, .bool hc] := by
      refine Blk.kept ?_ hb_6
      (repeat (first | with_reducible assumption | (with_reducible refine Blk.new' ?_; first | with_reducible rfl | (simp; done)) | with_reducible refine Blk.alloc ?_ _ | with_reducible refine Blk.grow ?_ _ | with_reducible refine Blk.drew ?_ | with_reducible refine Blk.drewN ?_ _ | (with_reducible refine Blk.far ?_ (by first | (dsimp only; omega) | (simp; omega)) _) | (with_reducible apply Blk.two) | (with_reducible refine Blk.set' ?_ _ _ ?_) | (with_reducible rfl) | rfl))
    clear f_x x_l r_x x_6 x_f6 x_7 x_f7 x_14 x_f14 f_n n_l n_0 n_1 n_f0 n_f1 f_r r_l r_r f_p p_l r_p p_2 p_f2 p_3 p_f3 p_4 p_f4 p_5 p_f5 p_13 p_f13 p_21 p_f21 p_22 p_f22 p_23 p_f23 p_24 p_f24 p_28 p_f28 t_x t_n t_r t_p hB_5 hb_6
    have f_x := g_x
    clear g_x
    have f_n := g_n
    clear g_n
    have f_r := g_r
    clear g_r
    have f_p := g_p
    clear g_p
    have r_x := rowAt_blk f_x
    have x_l := f_x.lt
    have x_6 : w_6.cell? ⟨w.heap.size, 6, none⟩ = some (.int .u64 xm1) := (f_x).cell 6
    have x_f6 := (f_x).frozen 6
    have x_7 : w_6.cell? ⟨w.heap.size, 7, none⟩ = some (.int .u64 xm2) := (f_x).cell 7
    have x_f7 := (f_x).frozen 7
    have x_14 : w_6.cell? ⟨w.heap.size, 14, none⟩ = some (.int .u16 xfl) := (f_x).cell 14
    have x_f14 := (f_x).frozen 14
    replace f_x := Lib.hid f_x
    have n_0 : w_6.cell? ⟨w.heap.size + 1, 0, none⟩ = some (.int .u64 n1) := (f_n).cell 0
    have n_1 : w_6.cell? ⟨w.heap.size + 1, 1, none⟩ = some (.int .u64 n2) := (f_n).cell 1
    have n_f0 := (f_n).frozen 0
    have n_f1 := (f_n).frozen 1
    have n_l := (f_n).lt
    replace f_n := Lib.hid f_n
    have r_r := rowAt_blk f_r
    have r_l := f_r.lt
    replace f_r := Lib.hid f_r
    have r_p := rowAt_blk f_p
    have p_l := f_p.lt
    have p_2 : w_6.cell? ⟨w.heap.size + 2, 2, none⟩ = some (.int .u64 h1) := (f_p).cell 2
    have p_f2 := (f_p).frozen 2
    have p_3 : w_6.cell? ⟨w.heap.size + 2, 3, none⟩ = some (.int .u64 l1) := (f_p).cell 3
    have p_f3 := (f_p).frozen 3
    have p_4 : w_6.cell? ⟨w.heap.size + 2, 4, none⟩ = some (.int .u64 aq1) := (f_p).cell 4
    have p_f4 := (f_p).frozen 4
    have p_5 : w_6.cell? ⟨w.heap.size + 2, 5, none⟩ = some (.int .u64 aq2) := (f_p).cell 5
    have p_f5 := (f_p).frozen 5
    have p_13 : w_6.cell? ⟨w.heap.size + 2, 13, none⟩ = some (.int .u16 afl) := (f_p).cell 13
    have p_f13 := (f_p).frozen 13
    have p_21 : w_6.cell? ⟨w.heap.size + 2, 21, none⟩ = some (.int .u64 h2) := (f_p).cell 21
    have p_f21 := (f_p).frozen 21
    have p_22 : w_6.cell? ⟨w.heap.size + 2, 22, none⟩ = some (.int .u64 l2) := (f_p).cell 22
    have p_f22 := (f_p).frozen 22
    have p_23 : w_6.cell? ⟨w.heap.size + 2, 23, none⟩ = some (.int .u64 es1) := (f_p).cell 23
    have p_f23 := (f_p).frozen 23
    have p_24 : w_6.cell? ⟨w.heap.size + 2, 24, none⟩ = some (.int .u64 es2) := (f_p).cell 24
    have p_f24 := (f_p).frozen 24
    have p_28 : w_6.cell? ⟨w.heap.size + 2, 28, none⟩ = some (.int .u16 efl) := (f_p).cell 28
    have p_f28 := (f_p).frozen 28
    replace f_p := Lib.hid f_p
    replace hB_6 := Lib.hid hB_6

    cases b128
    case false =>
      simp only [if_true, if_false, Bool.false_eq_true] at hfd hfc
      subst hfd
      subst hfc
      go_wp2_with fail
      refine abs_post (fun Y_ => Below w.heap.size w Y_ ∧ Blk Y_ (w.heap.size + 3) 32 #[.int .u64 ai1, .int .u64 ai2, .int .u64 h1, .int .u64 l1, .int .u64 aq1, .int .u64 aq2, .int .u64 ar1, .int .u64 ar2, .int .u64 as1, .int .u64 as2, .int .u64 atg, .int .u32 alg, .int .u16 acd, .int .u16 afl, .int .u64 ast, .int .u64 ei1, .int .u64 ei2, .int .u64 ep1, .int .u64 ep2, .int .u64 eq1, .int .u64 eq2, .int .u64 h2, .int .u64 l2, .int .u64 es1, .int .u64 es2, .int .u64 etg, .int .u32 elg, .int .u16 ecd, .int .u16 efl, .int .u64 est, .bool hd, .bool hc]) ?_ ?_
      · have t_B := hB_6.out
        have t_x := f_x.out
        have t_n := f_n.out
        have t_r := f_r.out
        have t_p := f_p.out
        exact ⟨by (repeat (first | with_reducible exact Below.refl _ _ | with_reducible assumption | (with_reducible refine bel_set ?_ (by first | exact Nat.le_refl _ | (simp; done) | (simp; omega) | omega) _) | with_reducible refine bel_grow ?_ _ | with_reducible refine Below.drew ?_ | with_reducible refine bel_alloc ?_ _ | (with_reducible refine below_setRow ?_ (by first | omega | (simp; omega)) _) | with_reducible refine bel_eld ?_ (by assumption))), by (repeat (first | with_reducible assumption | (with_reducible refine Blk.new' ?_; first | with_reducible rfl | (simp; done)) | with_reducible refine Blk.alloc ?_ _ | with_reducible refine Blk.grow ?_ _ | with_reducible refine Blk.drew ?_ | with_reducible refine Blk.drewN ?_ _ | (with_reducible refine Blk.far ?_ (by first | (dsimp only; omega) | (simp; omega)) _) | (with_reducible apply Blk.two) | (with_reducible refine Blk.kept ?_ (by assumption)) | (with_reducible refine Blk.setRow (by assumption) (by first | rfl | (simp; done))) | (with_reducible refine Blk.setRow_far ?_ (by first | omega | (simp; omega)) _) | (with_reducible refine Blk.set' ?_ _ _ (by first | rfl | (simp; done)))))⟩
      rintro Y_ ⟨bZ_, gP_⟩
      have HLV := loadVar_blk (ty := 32) Try.underlying32 rfl (by kernel_rfl) gP_ rfl
      refine bodyPost_ret (v := .tuple #[.agg #[.int .u64 ai1, .int .u64 ai2, .int .u64 h1, .int .u64 l1, .int .u64 aq1, .int .u64 aq2, .int .u64 ar1, .int .u64 ar2, .int .u64 as1, .int .u64 as2, .int .u64 atg, .int .u32 alg, .int .u16 acd, .int .u16 afl, .int .u64 ast, .int .u64 ei1, .int .u64 ei2, .int .u64 ep1, .int .u64 ep2, .int .u64 eq1, .int .u64 eq2, .int .u64 h2, .int .u64 l2, .int .u64 es1, .int .u64 es2, .int .u64 etg, .int .u32 elg, .int .u16 ecd, .int .u16 efl, .int .u64 est, .bool hd, .bool hc], .bool true]) (results_ct Try.results19 rfl HLV) rfl ⟨by first | rfl | (rw [hk.out]; rfl), bZ_⟩
    case true =>
      simp only [if_true, if_false, Bool.false_eq_true] at hfd hfc
      subst hfd
      subst hfc

      go_wp2_with fail
      refine (HL2.out _).mono ?_
      rintro e w_7 ⟨rfl, hb_7⟩
      have z_7 := hb_7.size
      try simp at z_7
      have t_ := hB_6.out
      have hB_7 := bel_eld (w := w) (X := _) (by first | ((repeat (first | with_reducible exact Below.refl _ _ | with_reducible assumption | (with_reducible refine bel_set ?_ (by first | exact Nat.le_refl _ | (simp; done) | (simp; omega) | omega) _) | with_reducible refine bel_grow ?_ _ | with_reducible refine Below.drew ?_ | with_reducible refine below_drewN ?_ _ | with_reducible refine bel_alloc ?_ _ | with_reducible refine bel_trans ?_ (by assumption))); done) | (repeat (first | exact Below.refl _ _ | assumption | refine below_drewN ?_ _ | refine bel_grow ?_ _ | refine Below.drew ?_ | refine bel_alloc ?_ _ | refine bel_set ?_ (by first | exact Nat.le_refl _ | (simp; done) | (simp; omega) | omega) _ | refine bel_trans ?_ (by assumption)))) hb_7
      clear t_
      have t_x := f_x.out
      have t_n := f_n.out
      have t_r := f_r.out
      have t_p := f_p.out
      have g_x : Blk w_7 (w.heap.size) 28 #[.int .u64 xi1, .int .u64 xi2, .int .u64 xd1, .int .u64 xd2, .int .u64 xc1, .int .u64 xc2, .int .u64 xm1, .int .u64 xm2, .int .u64 xw1, .int .u64 xw2, .int .u64 xtg, .int .u32 xto, .int .u32 xlg, .int .u16 xcd, .int .u16 xfl, .int .u64 xst] := by
        refine Blk.kept ?_ hb_7
        (repeat (first | with_reducible assumption | (with_reducible refine Blk.new' ?_; first | with_reducible rfl | (simp; done)) | with_reducible refine Blk.alloc ?_ _ | with_reducible refine Blk.grow ?_ _ | with_reducible refine Blk.drew ?_ | with_reducible refine Blk.drewN ?_ _ | (with_reducible refine Blk.far ?_ (by first | (dsimp only; omega) | (simp; omega)) _) | (with_reducible apply Blk.two) | (with_reducible refine Blk.set' ?_ _ _ ?_) | (with_reducible rfl) | rfl))
      have g_n : Blk w_7 (w.heap.size + 1) 24 #[.int .u64 n1, .int .u64 n2] := by
        refine Blk.kept ?_ hb_7
        (repeat (first | with_reducible assumption | (with_reducible refine Blk.new' ?_; first | with_reducible rfl | (simp; done)) | with_reducible refine Blk.alloc ?_ _ | with_reducible refine Blk.grow ?_ _ | with_reducible refine Blk.drew ?_ | with_reducible refine Blk.drewN ?_ _ | (with_reducible refine Blk.far ?_ (by first | (dsimp only; omega) | (simp; omega)) _) | (with_reducible apply Blk.two) | (with_reducible refine Blk.set' ?_ _ _ ?_) | (with_reducible rfl) | rfl))
      have g_r : Blk w_7 (w.heap.size + 3) 32 #[.int .u64 0, .int .u64 0, .int .u64 0, .int .u64 0, .int .u64 0, .int .u64 0, .int .u64 0, .int .u64 0, .int .u64 0, .int .u64 0, .int .u64 0, .int .u32 0, .int .u16 0, .int .u16 0, .int .u64 0, .int .u64 0, .int .u64 0, .int .u64 0, .int .u64 0, .int .u64 0, .int .u64 0, .int .u64 0, .int .u64 0, .int .u64 0, .int .u64 0, .int .u64 0, .int .u32 0, .int .u16 0, .int .u16 0, .int .u64 0, .bool false, .bool false] := by
        refine Blk.kept ?_ hb_7
        (repeat (first | with_reducible assumption | (with_reducible refine Blk.new' ?_; first | with_reducible rfl | (simp; done)) | with_reducible refine Blk.alloc ?_ _ | with_reducible refine Blk.grow ?_ _ | with_reducible refine Blk.drew ?_ | with_reducible refine Blk.drewN ?_ _ | (with_reducible refine Blk.far ?_ (by first | (dsimp only; omega) | (simp; omega)) _) | (with_reducible apply Blk.two) | (with_reducible refine Blk.set' ?_ _ _ ?_) | (with_reducible rfl) | rfl))
      have g_p : Blk w_7 (w.heap.size + 2) 32 #[.int .u64 ai1, .int .u64 ai2, .int .u64 h1, .int .u64 l1, .int .u64 aq1, .int .u64 aq2, .int .u64 ar1, .int .u64 ar2, .int .u64 as1, .int .u64 as2, .int .u64 atg, .int .u32 alg, .int .u16 acd, .int .u16 afl, .int .u64 ast, .int .u64 ei1, .int .u64 ei2, .int .u64 ep1, .int .u64 ep2, .int .u64 eq1, .int .u64 eq2, .int .u64 h2, .int .u64 l2, .int .u64 es1, .int .u64 es2, .int .u64 etg, .int .u32 elg, .int .u16 ecd, .int .u16 efl, .int .u64 est, .bool hd, .bool hc] := by
        refine Blk.kept ?_ hb_7
        (repeat (first | with_reducible assumption | (with_reducible refine Blk.new' ?_; first | with_reducible rfl | (simp; done)) | with_reducible refine Blk.alloc ?_ _ | with_reducible refine Blk.grow ?_ _ | with_reducible refine Blk.drew ?_ | with_reducible refine Blk.drewN ?_ _ | (with_reducible refine Blk.far ?_ (by first | (dsimp only; omega) | (simp; omega)) _) | (with_reducible apply Blk.two) | (with_reducible refine Blk.set' ?_ _ _ ?_) | (with_reducible rfl) | rfl))
      clear f_x x_l r_x x_6 x_f6 x_7 x_f7 x_14 x_f14 f_n n_l n_0 n_1 n_f0 n_f1 f_r r_l r_r f_p p_l r_p p_2 p_f2 p_3 p_f3 p_4 p_f4 p_5 p_f5 p_13 p_f13 p_21 p_f21 p_22 p_f22 p_23 p_f23 p_24 p_f24 p_28 p_f28 t_x t_n t_r t_p hB_6 hb_7
      have f_x := g_x
      clear g_x
      have f_n := g_n
      clear g_n
      have f_r := g_r
      clear g_r
      have f_p := g_p
      clear g_p
      have r_x := rowAt_blk f_x
      have x_l := f_x.lt
      have x_6 : w_7.cell? ⟨w.heap.size, 6, none⟩ = some (.int .u64 xm1) := (f_x).cell 6
      have x_f6 := (f_x).frozen 6
      have x_7 : w_7.cell? ⟨w.heap.size, 7, none⟩ = some (.int .u64 xm2) := (f_x).cell 7
      have x_f7 := (f_x).frozen 7
      have x_14 : w_7.cell? ⟨w.heap.size, 14, none⟩ = some (.int .u16 xfl) := (f_x).cell 14
      have x_f14 := (f_x).frozen 14
      replace f_x := Lib.hid f_x
      have n_0 : w_7.cell? ⟨w.heap.size + 1, 0, none⟩ = some (.int .u64 n1) := (f_n).cell 0
      have n_1 : w_7.cell? ⟨w.heap.size + 1, 1, none⟩ = some (.int .u64 n2) := (f_n).cell 1
      have n_f0 := (f_n).frozen 0
      have n_f1 := (f_n).frozen 1
      have n_l := (f_n).lt
      replace f_n := Lib.hid f_n
      have r_r := rowAt_blk f_r
      have r_l := f_r.lt
      replace f_r := Lib.hid f_r
      have r_p := rowAt_blk f_p
      have p_l := f_p.lt
      have p_2 : w_7.cell? ⟨w.heap.size + 2, 2, none⟩ = some (.int .u64 h1) := (f_p).cell 2
      have p_f2 := (f_p).frozen 2
      have p_3 : w_7.cell? ⟨w.heap.size + 2, 3, none⟩ = some (.int .u64 l1) := (f_p).cell 3
      have p_f3 := (f_p).frozen 3
      have p_4 : w_7.cell? ⟨w.heap.size + 2, 4, none⟩ = some (.int .u64 aq1) := (f_p).cell 4
      have p_f4 := (f_p).frozen 4
      have p_5 : w_7.cell? ⟨w.heap.size + 2, 5, none⟩ = some (.int .u64 aq2) := (f_p).cell 5
      have p_f5 := (f_p).frozen 5
      have p_13 : w_7.cell? ⟨w.heap.size + 2, 13, none⟩ = some (.int .u16 afl) := (f_p).cell 13
      have p_f13 := (f_p).frozen 13
      have p_21 : w_7.cell? ⟨w.heap.size + 2, 21, none⟩ = some (.int .u64 h2) := (f_p).cell 21
      have p_f21 := (f_p).frozen 21
      have p_22 : w_7.cell? ⟨w.heap.size + 2, 22, none⟩ = some (.int .u64 l2) := (f_p).cell 22
      have p_f22 := (f_p).frozen 22
      have p_23 : w_7.cell? ⟨w.heap.size + 2, 23, none⟩ = some (.int .u64 es1) := (f_p).cell 23
      have p_f23 := (f_p).frozen 23
      have p_24 : w_7.cell? ⟨w.heap.size + 2, 24, none⟩ = some (.int .u64 es2) := (f_p).cell 24
      have p_f24 := (f_p).frozen 24
      have p_28 : w_7.cell? ⟨w.heap.size + 2, 28, none⟩ = some (.int .u16 efl) := (f_p).cell 28
      have p_f28 := (f_p).frozen 28
      replace f_p := Lib.hid f_p
      replace hB_7 := Lib.hid hB_7
      go_upto_region 16 with fail
      refine abs_wp (fun Y_ => Below w.heap.size w Y_ ∧ Blk Y_ (w.heap.size) 28 #[.int .u64 xi1, .int .u64 xi2, .int .u64 xd1, .int .u64 xd2, .int .u64 xc1, .int .u64 xc2, .int .u64 xm1, .int .u64 xm2, .int .u64 xw1, .int .u64 xw2, .int .u64 xtg, .int .u32 xto, .int .u32 xlg, .int .u16 xcd, .int .u16 xfl, .int .u64 xst] ∧ Blk Y_ (w.heap.size + 1) 24 #[.int .u64 n1, .int .u64 n2] ∧ Blk Y_ (w.heap.size + 3) 32 #[.int .u64 0, .int .u64 0, .int .u64 0, .int .u64 0, .int .u64 0, .int .u64 0, .int .u64 0, .int .u64 0, .int .u64 0, .int .u64 0, .int .u64 0, .int .u32 0, .int .u16 0, .int .u16 0, .int .u64 0, .int .u64 0, .int .u64 0, .int .u64 0, .int .u64 0, .int .u64 0, .int .u64 0, .int .u64 0, .int .u64 0, .int .u64 0, .int .u64 0, .int .u64 0, .int .u32 0, .int .u16 0, .int .u16 0, .int .u64 0, .bool false, .bool false] ∧ Blk Y_ (w.heap.size + 2) 32 #[.int .u64 ai1, .int .u64 ai2, .int .u64 h1, .int .u64 l1, .int .u64 aq1, .int .u64 aq2, .int .u64 ar1, .int .u64 ar2, .int .u64 as1, .int .u64 as2, .int .u64 atg, .int .u32 alg, .int .u16 acd, .int .u16 afl, .int .u64 ast, .int .u64 ei1, .int .u64 ei2, .int .u64 ep1, .int .u64 ep2, .int .u64 eq1, .int .u64 eq2, .int .u64 h2, .int .u64 l2, .int .u64 es1, .int .u64 es2, .int .u64 etg, .int .u32 elg, .int .u16 ecd, .int .u16 of2, .int .u64 est, .bool hd, .bool hc]) ?_ ?_
      · have t_B := hB_7.out
        have t_x := f_x.out
        have t_n := f_n.out
        have t_r := f_r.out
        have t_p := f_p.out
        refine ⟨by (repeat (first | with_reducible exact Below.refl _ _ | with_reducible assumption | (with_reducible refine bel_set ?_ (by first | exact Nat.le_refl _ | (simp; done) | (simp; omega) | omega) _) | with_reducible refine bel_grow ?_ _ | with_reducible refine Below.drew ?_ | with_reducible refine bel_alloc ?_ _ | with_reducible refine bel_eld ?_ (by assumption))), ?_, ?_, ?_, ?_⟩
        · (repeat (first | with_reducible assumption | (with_reducible refine Blk.new' ?_; first | with_reducible rfl | (simp; done)) | with_reducible refine Blk.alloc ?_ _ | with_reducible refine Blk.grow ?_ _ | with_reducible refine Blk.drew ?_ | with_reducible refine Blk.drewN ?_ _ | (with_reducible refine Blk.far ?_ (by first | (dsimp only; omega) | (simp; omega)) _) | (with_reducible apply Blk.two) | (with_reducible refine Blk.kept ?_ (by assumption)) | (with_reducible refine Blk.setRow ?_ (by first | rfl | (simp; done))) | (with_reducible refine Blk.setRow_far ?_ (by first | omega | (simp; omega)) _) | (with_reducible refine Blk.set' ?_ _ _ (by first | rfl | (simp; done)))))
        · (repeat (first | with_reducible assumption | (with_reducible refine Blk.new' ?_; first | with_reducible rfl | (simp; done)) | with_reducible refine Blk.alloc ?_ _ | with_reducible refine Blk.grow ?_ _ | with_reducible refine Blk.drew ?_ | with_reducible refine Blk.drewN ?_ _ | (with_reducible refine Blk.far ?_ (by first | (dsimp only; omega) | (simp; omega)) _) | (with_reducible apply Blk.two) | (with_reducible refine Blk.kept ?_ (by assumption)) | (with_reducible refine Blk.setRow ?_ (by first | rfl | (simp; done))) | (with_reducible refine Blk.setRow_far ?_ (by first | omega | (simp; omega)) _) | (with_reducible refine Blk.set' ?_ _ _ (by first | rfl | (simp; done)))))
        · (repeat (first | with_reducible assumption | (with_reducible refine Blk.new' ?_; first | with_reducible rfl | (simp; done)) | with_reducible refine Blk.alloc ?_ _ | with_reducible refine Blk.grow ?_ _ | with_reducible refine Blk.drew ?_ | with_reducible refine Blk.drewN ?_ _ | (with_reducible refine Blk.far ?_ (by first | (dsimp only; omega) | (simp; omega)) _) | (with_reducible apply Blk.two) | (with_reducible refine Blk.kept ?_ (by assumption)) | (with_reducible refine Blk.setRow ?_ (by first | rfl | (simp; done))) | (with_reducible refine Blk.setRow_far ?_ (by first | omega | (simp; omega)) _) | (with_reducible refine Blk.set' ?_ _ _ (by first | rfl | (simp; done)))))
        · first | exact Blk.eqv (t_p.set_ 28 _) (by first | rfl | simp) | (repeat (first | with_reducible assumption | (with_reducible refine Blk.new' ?_; first | with_reducible rfl | (simp; done)) | with_reducible refine Blk.alloc ?_ _ | with_reducible refine Blk.grow ?_ _ | with_reducible refine Blk.drew ?_ | with_reducible refine Blk.drewN ?_ _ | (with_reducible refine Blk.far ?_ (by first | (dsimp only; omega) | (simp; omega)) _) | (with_reducible apply Blk.two) | (with_reducible refine Blk.kept ?_ (by assumption)) | (with_reducible refine Blk.setRow ?_ (by first | rfl | (simp; done))) | (with_reducible refine Blk.setRow_far ?_ (by first | omega | (simp; omega)) _) | (with_reducible refine Blk.set' ?_ _ _ (by first | rfl | (simp; done)))))
      clear f_x x_l r_x x_6 x_f6 x_7 x_f7 x_14 x_f14 f_n n_l n_0 n_1 n_f0 n_f1 f_r r_l r_r f_p p_l r_p p_2 p_f2 p_3 p_f3 p_4 p_f4 p_5 p_f5 p_13 p_f13 p_21 p_f21 p_22 p_f22 p_23 p_f23 p_24 p_f24 p_28 p_f28 hB_7
      rintro Z2 ⟨hB_8, f_x, f_n, f_r, f_p⟩
      have r_x := rowAt_blk f_x
      have x_l := f_x.lt
      have x_6 : Z2.cell? ⟨w.heap.size, 6, none⟩ = some (.int .u64 xm1) := (f_x).cell 6
      have x_f6 := (f_x).frozen 6
      have x_7 : Z2.cell? ⟨w.heap.size, 7, none⟩ = some (.int .u64 xm2) := (f_x).cell 7
      have x_f7 := (f_x).frozen 7
      have x_14 : Z2.cell? ⟨w.heap.size, 14, none⟩ = some (.int .u16 xfl) := (f_x).cell 14
      have x_f14 := (f_x).frozen 14
      replace f_x := Lib.hid f_x
      have n_0 : Z2.cell? ⟨w.heap.size + 1, 0, none⟩ = some (.int .u64 n1) := (f_n).cell 0
      have n_1 : Z2.cell? ⟨w.heap.size + 1, 1, none⟩ = some (.int .u64 n2) := (f_n).cell 1
      have n_f0 := (f_n).frozen 0
      have n_f1 := (f_n).frozen 1
      have n_l := (f_n).lt
      replace f_n := Lib.hid f_n
      have r_r := rowAt_blk f_r
      have r_l := f_r.lt
      replace f_r := Lib.hid f_r
      have r_p := rowAt_blk f_p
      have p_l := f_p.lt
      have p_2 : Z2.cell? ⟨w.heap.size + 2, 2, none⟩ = some (.int .u64 h1) := (f_p).cell 2
      have p_f2 := (f_p).frozen 2
      have p_3 : Z2.cell? ⟨w.heap.size + 2, 3, none⟩ = some (.int .u64 l1) := (f_p).cell 3
      have p_f3 := (f_p).frozen 3
      have p_4 : Z2.cell? ⟨w.heap.size + 2, 4, none⟩ = some (.int .u64 aq1) := (f_p).cell 4
      have p_f4 := (f_p).frozen 4
      have p_5 : Z2.cell? ⟨w.heap.size + 2, 5, none⟩ = some (.int .u64 aq2) := (f_p).cell 5
      have p_f5 := (f_p).frozen 5
      have p_13 : Z2.cell? ⟨w.heap.size + 2, 13, none⟩ = some (.int .u16 afl) := (f_p).cell 13
      have p_f13 := (f_p).frozen 13
      have p_21 : Z2.cell? ⟨w.heap.size + 2, 21, none⟩ = some (.int .u64 h2) := (f_p).cell 21
      have p_f21 := (f_p).frozen 21
      have p_22 : Z2.cell? ⟨w.heap.size + 2, 22, none⟩ = some (.int .u64 l2) := (f_p).cell 22
      have p_f22 := (f_p).frozen 22
      have p_23 : Z2.cell? ⟨w.heap.size + 2, 23, none⟩ = some (.int .u64 es1) := (f_p).cell 23
      have p_f23 := (f_p).frozen 23
      have p_24 : Z2.cell? ⟨w.heap.size + 2, 24, none⟩ = some (.int .u64 es2) := (f_p).cell 24
      have p_f24 := (f_p).frozen 24
      have p_28 : Z2.cell? ⟨w.heap.size + 2, 28, none⟩ = some (.int .u16 of2) := (f_p).cell 28
      have p_f28 := (f_p).frozen 28
      replace f_p := Lib.hid f_p
      replace hB_8 := Lib.hid hB_8
      go_wp2_with fail
      refine abs_post (fun Y_ => Below w.heap.size w Y_ ∧ Blk Y_ (w.heap.size + 3) 32 #[.int .u64 ai1, .int .u64 ai2, .int .u64 h1, .int .u64 l1, .int .u64 aq1, .int .u64 aq2, .int .u64 ar1, .int .u64 ar2, .int .u64 as1, .int .u64 as2, .int .u64 atg, .int .u32 alg, .int .u16 acd, .int .u16 afl, .int .u64 ast, .int .u64 ei1, .int .u64 ei2, .int .u64 ep1, .int .u64 ep2, .int .u64 eq1, .int .u64 eq2, .int .u64 h2, .int .u64 l2, .int .u64 es1, .int .u64 es2, .int .u64 etg, .int .u32 elg, .int .u16 ecd, .int .u16 of2, .int .u64 est, .bool hd, .bool hc]) ?_ ?_
      · have t_B := hB_8.out
        have t_x := f_x.out
        have t_n := f_n.out
        have t_r := f_r.out
        have t_p := f_p.out
        exact ⟨by (repeat (first | with_reducible exact Below.refl _ _ | with_reducible assumption | (with_reducible refine bel_set ?_ (by first | exact Nat.le_refl _ | (simp; done) | (simp; omega) | omega) _) | with_reducible refine bel_grow ?_ _ | with_reducible refine Below.drew ?_ | with_reducible refine bel_alloc ?_ _ | (with_reducible refine below_setRow ?_ (by first | omega | (simp; omega)) _) | with_reducible refine bel_eld ?_ (by assumption))), by (repeat (first | with_reducible assumption | (with_reducible refine Blk.new' ?_; first | with_reducible rfl | (simp; done)) | with_reducible refine Blk.alloc ?_ _ | with_reducible refine Blk.grow ?_ _ | with_reducible refine Blk.drew ?_ | with_reducible refine Blk.drewN ?_ _ | (with_reducible refine Blk.far ?_ (by first | (dsimp only; omega) | (simp; omega)) _) | (with_reducible apply Blk.two) | (with_reducible refine Blk.kept ?_ (by assumption)) | (with_reducible refine Blk.setRow (by assumption) (by first | rfl | (simp; done))) | (with_reducible refine Blk.setRow_far ?_ (by first | omega | (simp; omega)) _) | (with_reducible refine Blk.set' ?_ _ _ (by first | rfl | (simp; done)))))⟩
      rintro Y_ ⟨bZ_, gP_⟩
      have HLV := loadVar_blk (ty := 32) Try.underlying32 rfl (by kernel_rfl) gP_ rfl
      refine bodyPost_ret (v := .tuple #[.agg #[.int .u64 ai1, .int .u64 ai2, .int .u64 h1, .int .u64 l1, .int .u64 aq1, .int .u64 aq2, .int .u64 ar1, .int .u64 ar2, .int .u64 as1, .int .u64 as2, .int .u64 atg, .int .u32 alg, .int .u16 acd, .int .u16 afl, .int .u64 ast, .int .u64 ei1, .int .u64 ei2, .int .u64 ep1, .int .u64 ep2, .int .u64 eq1, .int .u64 eq2, .int .u64 h2, .int .u64 l2, .int .u64 es1, .int .u64 es2, .int .u64 etg, .int .u32 elg, .int .u16 ecd, .int .u16 of2, .int .u64 est, .bool hd, .bool hc], .bool true]) (results_ct Try.results19 rfl HLV) rfl ⟨by first | rfl | (rw [hk.out]; rfl), bZ_⟩
  case true =>

    go_wp2_with fail
    refine (HL1.out _).mono ?_
    rintro e w_6 ⟨rfl, hb_6⟩
    have z_6 := hb_6.size
    try simp at z_6
    have t_ := hB_5.out
    have hB_6 := bel_eld (w := w) (X := _) (by first | ((repeat (first | with_reducible exact Below.refl _ _ | with_reducible assumption | (with_reducible refine bel_set ?_ (by first | exact Nat.le_refl _ | (simp; done) | (simp; omega) | omega) _) | with_reducible refine bel_grow ?_ _ | with_reducible refine Below.drew ?_ | with_reducible refine below_drewN ?_ _ | with_reducible refine bel_alloc ?_ _ | with_reducible refine bel_trans ?_ (by assumption))); done) | (repeat (first | exact Below.refl _ _ | assumption | refine below_drewN ?_ _ | refine bel_grow ?_ _ | refine Below.drew ?_ | refine bel_alloc ?_ _ | refine bel_set ?_ (by first | exact Nat.le_refl _ | (simp; done) | (simp; omega) | omega) _ | refine bel_trans ?_ (by assumption)))) hb_6
    clear t_
    have t_x := f_x.out
    have t_n := f_n.out
    have t_r := f_r.out
    have t_p := f_p.out
    have g_x : Blk w_6 (w.heap.size) 28 #[.int .u64 xi1, .int .u64 xi2, .int .u64 xd1, .int .u64 xd2, .int .u64 xc1, .int .u64 xc2, .int .u64 xm1, .int .u64 xm2, .int .u64 xw1, .int .u64 xw2, .int .u64 xtg, .int .u32 xto, .int .u32 xlg, .int .u16 xcd, .int .u16 xfl, .int .u64 xst] := by
      refine Blk.kept ?_ hb_6
      (repeat (first | with_reducible assumption | (with_reducible refine Blk.new' ?_; first | with_reducible rfl | (simp; done)) | with_reducible refine Blk.alloc ?_ _ | with_reducible refine Blk.grow ?_ _ | with_reducible refine Blk.drew ?_ | with_reducible refine Blk.drewN ?_ _ | (with_reducible refine Blk.far ?_ (by first | (dsimp only; omega) | (simp; omega)) _) | (with_reducible apply Blk.two) | (with_reducible refine Blk.set' ?_ _ _ ?_) | (with_reducible rfl) | rfl))
    have g_n : Blk w_6 (w.heap.size + 1) 24 #[.int .u64 n1, .int .u64 n2] := by
      refine Blk.kept ?_ hb_6
      (repeat (first | with_reducible assumption | (with_reducible refine Blk.new' ?_; first | with_reducible rfl | (simp; done)) | with_reducible refine Blk.alloc ?_ _ | with_reducible refine Blk.grow ?_ _ | with_reducible refine Blk.drew ?_ | with_reducible refine Blk.drewN ?_ _ | (with_reducible refine Blk.far ?_ (by first | (dsimp only; omega) | (simp; omega)) _) | (with_reducible apply Blk.two) | (with_reducible refine Blk.set' ?_ _ _ ?_) | (with_reducible rfl) | rfl))
    have g_r : Blk w_6 (w.heap.size + 3) 32 #[.int .u64 0, .int .u64 0, .int .u64 0, .int .u64 0, .int .u64 0, .int .u64 0, .int .u64 0, .int .u64 0, .int .u64 0, .int .u64 0, .int .u64 0, .int .u32 0, .int .u16 0, .int .u16 0, .int .u64 0, .int .u64 0, .int .u64 0, .int .u64 0, .int .u64 0, .int .u64 0, .int .u64 0, .int .u64 0, .int .u64 0, .int .u64 0, .int .u64 0, .int .u64 0, .int .u32 0, .int .u16 0, .int .u16 0, .int .u64 0, .bool false, .bool false] := by
      refine Blk.kept ?_ hb_6
      (repeat (first | with_reducible assumption | (with_reducible refine Blk.new' ?_; first | with_reducible rfl | (simp; done)) | with_reducible refine Blk.alloc ?_ _ | with_reducible refine Blk.grow ?_ _ | with_reducible refine Blk.drew ?_ | with_reducible refine Blk.drewN ?_ _ | (with_reducible refine Blk.far ?_ (by first | (dsimp only; omega) | (simp; omega)) _) | (with_reducible apply Blk.two) | (with_reducible refine Blk.set' ?_ _ _ ?_) | (with_reducible rfl) | rfl))
    have g_p : Blk w_6 (w.heap.size + 2) 32 #[.int .u64 ai1, .int .u64 ai2, .int .u64 h1, .int .u64 l1, .int .u64 aq1, .int .u64 aq2, .int .u64 ar1, .int .u64 ar2, .int .u64 as1, .int .u64 as2, .int .u64 atg, .int .u32 alg, .int .u16 acd, .int .u16 afl, .int .u64 ast, .int .u64 ei1, .int .u64 ei2, .int .u64 ep1, .int .u64 ep2, .int .u64 eq1, .int .u64 eq2, .int .u64 h2, .int .u64 l2, .int .u64 es1, .int .u64 es2, .int .u64 etg, .int .u32 elg, .int .u16 ecd, .int .u16 efl, .int .u64 est, .bool hd, .bool hc] := by
      refine Blk.kept ?_ hb_6
      (repeat (first | with_reducible assumption | (with_reducible refine Blk.new' ?_; first | with_reducible rfl | (simp; done)) | with_reducible refine Blk.alloc ?_ _ | with_reducible refine Blk.grow ?_ _ | with_reducible refine Blk.drew ?_ | with_reducible refine Blk.drewN ?_ _ | (with_reducible refine Blk.far ?_ (by first | (dsimp only; omega) | (simp; omega)) _) | (with_reducible apply Blk.two) | (with_reducible refine Blk.set' ?_ _ _ ?_) | (with_reducible rfl) | rfl))
    clear f_x x_l r_x x_6 x_f6 x_7 x_f7 x_14 x_f14 f_n n_l n_0 n_1 n_f0 n_f1 f_r r_l r_r f_p p_l r_p p_2 p_f2 p_3 p_f3 p_4 p_f4 p_5 p_f5 p_13 p_f13 p_21 p_f21 p_22 p_f22 p_23 p_f23 p_24 p_f24 p_28 p_f28 t_x t_n t_r t_p hB_5 hb_6
    have f_x := g_x
    clear g_x
    have f_n := g_n
    clear g_n
    have f_r := g_r
    clear g_r
    have f_p := g_p
    clear g_p
    have r_x := rowAt_blk f_x
    have x_l := f_x.lt
    have x_6 : w_6.cell? ⟨w.heap.size, 6, none⟩ = some (.int .u64 xm1) := (f_x).cell 6
    have x_f6 := (f_x).frozen 6
    have x_7 : w_6.cell? ⟨w.heap.size, 7, none⟩ = some (.int .u64 xm2) := (f_x).cell 7
    have x_f7 := (f_x).frozen 7
    have x_14 : w_6.cell? ⟨w.heap.size, 14, none⟩ = some (.int .u16 xfl) := (f_x).cell 14
    have x_f14 := (f_x).frozen 14
    replace f_x := Lib.hid f_x
    have n_0 : w_6.cell? ⟨w.heap.size + 1, 0, none⟩ = some (.int .u64 n1) := (f_n).cell 0
    have n_1 : w_6.cell? ⟨w.heap.size + 1, 1, none⟩ = some (.int .u64 n2) := (f_n).cell 1
    have n_f0 := (f_n).frozen 0
    have n_f1 := (f_n).frozen 1
    have n_l := (f_n).lt
    replace f_n := Lib.hid f_n
    have r_r := rowAt_blk f_r
    have r_l := f_r.lt
    replace f_r := Lib.hid f_r
    have r_p := rowAt_blk f_p
    have p_l := f_p.lt
    have p_2 : w_6.cell? ⟨w.heap.size + 2, 2, none⟩ = some (.int .u64 h1) := (f_p).cell 2
    have p_f2 := (f_p).frozen 2
    have p_3 : w_6.cell? ⟨w.heap.size + 2, 3, none⟩ = some (.int .u64 l1) := (f_p).cell 3
    have p_f3 := (f_p).frozen 3
    have p_4 : w_6.cell? ⟨w.heap.size + 2, 4, none⟩ = some (.int .u64 aq1) := (f_p).cell 4
    have p_f4 := (f_p).frozen 4
    have p_5 : w_6.cell? ⟨w.heap.size + 2, 5, none⟩ = some (.int .u64 aq2) := (f_p).cell 5
    have p_f5 := (f_p).frozen 5
    have p_13 : w_6.cell? ⟨w.heap.size + 2, 13, none⟩ = some (.int .u16 afl) := (f_p).cell 13
    have p_f13 := (f_p).frozen 13
    have p_21 : w_6.cell? ⟨w.heap.size + 2, 21, none⟩ = some (.int .u64 h2) := (f_p).cell 21
    have p_f21 := (f_p).frozen 21
    have p_22 : w_6.cell? ⟨w.heap.size + 2, 22, none⟩ = some (.int .u64 l2) := (f_p).cell 22
    have p_f22 := (f_p).frozen 22
    have p_23 : w_6.cell? ⟨w.heap.size + 2, 23, none⟩ = some (.int .u64 es1) := (f_p).cell 23
    have p_f23 := (f_p).frozen 23
    have p_24 : w_6.cell? ⟨w.heap.size + 2, 24, none⟩ = some (.int .u64 es2) := (f_p).cell 24
    have p_f24 := (f_p).frozen 24
    have p_28 : w_6.cell? ⟨w.heap.size + 2, 28, none⟩ = some (.int .u16 efl) := (f_p).cell 28
    have p_f28 := (f_p).frozen 28
    replace f_p := Lib.hid f_p
    replace hB_6 := Lib.hid hB_6
    go_upto_region 14 with fail
    refine abs_wp (fun Y_ => Below w.heap.size w Y_ ∧ Blk Y_ (w.heap.size) 28 #[.int .u64 xi1, .int .u64 xi2, .int .u64 xd1, .int .u64 xd2, .int .u64 xc1, .int .u64 xc2, .int .u64 xm1, .int .u64 xm2, .int .u64 xw1, .int .u64 xw2, .int .u64 xtg, .int .u32 xto, .int .u32 xlg, .int .u16 xcd, .int .u16 xfl, .int .u64 xst] ∧ Blk Y_ (w.heap.size + 1) 24 #[.int .u64 n1, .int .u64 n2] ∧ Blk Y_ (w.heap.size + 3) 32 #[.int .u64 0, .int .u64 0, .int .u64 0, .int .u64 0, .int .u64 0, .int .u64 0, .int .u64 0, .int .u64 0, .int .u64 0, .int .u64 0, .int .u64 0, .int .u32 0, .int .u16 0, .int .u16 0, .int .u64 0, .int .u64 0, .int .u64 0, .int .u64 0, .int .u64 0, .int .u64 0, .int .u64 0, .int .u64 0, .int .u64 0, .int .u64 0, .int .u64 0, .int .u64 0, .int .u32 0, .int .u16 0, .int .u16 0, .int .u64 0, .bool false, .bool false] ∧ Blk Y_ (w.heap.size + 2) 32 #[.int .u64 ai1, .int .u64 ai2, .int .u64 h1, .int .u64 l1, .int .u64 aq1, .int .u64 aq2, .int .u64 ar1, .int .u64 ar2, .int .u64 as1, .int .u64 as2, .int .u64 atg, .int .u32 alg, .int .u16 acd, .int .u16 of1, .int .u64 ast, .int .u64 ei1, .int .u64 ei2, .int .u64 ep1, .int .u64 ep2, .int .u64 eq1, .int .u64 eq2, .int .u64 h2, .int .u64 l2, .int .u64 es1, .int .u64 es2, .int .u64 etg, .int .u32 elg, .int .u16 ecd, .int .u16 efl, .int .u64 est, .bool hd, .bool hc]) ?_ ?_
    · have t_B := hB_6.out
      have t_x := f_x.out
      have t_n := f_n.out
      have t_r := f_r.out
      have t_p := f_p.out
      refine ⟨by (repeat (first | with_reducible exact Below.refl _ _ | with_reducible assumption | (with_reducible refine bel_set ?_ (by first | exact Nat.le_refl _ | (simp; done) | (simp; omega) | omega) _) | with_reducible refine bel_grow ?_ _ | with_reducible refine Below.drew ?_ | with_reducible refine bel_alloc ?_ _ | with_reducible refine bel_eld ?_ (by assumption))), ?_, ?_, ?_, ?_⟩
      · (repeat (first | with_reducible assumption | (with_reducible refine Blk.new' ?_; first | with_reducible rfl | (simp; done)) | with_reducible refine Blk.alloc ?_ _ | with_reducible refine Blk.grow ?_ _ | with_reducible refine Blk.drew ?_ | with_reducible refine Blk.drewN ?_ _ | (with_reducible refine Blk.far ?_ (by first | (dsimp only; omega) | (simp; omega)) _) | (with_reducible apply Blk.two) | (with_reducible refine Blk.kept ?_ (by assumption)) | (with_reducible refine Blk.setRow ?_ (by first | rfl | (simp; done))) | (with_reducible refine Blk.setRow_far ?_ (by first | omega | (simp; omega)) _) | (with_reducible refine Blk.set' ?_ _ _ (by first | rfl | (simp; done)))))
      · (repeat (first | with_reducible assumption | (with_reducible refine Blk.new' ?_; first | with_reducible rfl | (simp; done)) | with_reducible refine Blk.alloc ?_ _ | with_reducible refine Blk.grow ?_ _ | with_reducible refine Blk.drew ?_ | with_reducible refine Blk.drewN ?_ _ | (with_reducible refine Blk.far ?_ (by first | (dsimp only; omega) | (simp; omega)) _) | (with_reducible apply Blk.two) | (with_reducible refine Blk.kept ?_ (by assumption)) | (with_reducible refine Blk.setRow ?_ (by first | rfl | (simp; done))) | (with_reducible refine Blk.setRow_far ?_ (by first | omega | (simp; omega)) _) | (with_reducible refine Blk.set' ?_ _ _ (by first | rfl | (simp; done)))))
      · (repeat (first | with_reducible assumption | (with_reducible refine Blk.new' ?_; first | with_reducible rfl | (simp; done)) | with_reducible refine Blk.alloc ?_ _ | with_reducible refine Blk.grow ?_ _ | with_reducible refine Blk.drew ?_ | with_reducible refine Blk.drewN ?_ _ | (with_reducible refine Blk.far ?_ (by first | (dsimp only; omega) | (simp; omega)) _) | (with_reducible apply Blk.two) | (with_reducible refine Blk.kept ?_ (by assumption)) | (with_reducible refine Blk.setRow ?_ (by first | rfl | (simp; done))) | (with_reducible refine Blk.setRow_far ?_ (by first | omega | (simp; omega)) _) | (with_reducible refine Blk.set' ?_ _ _ (by first | rfl | (simp; done)))))
      · first | exact Blk.eqv (t_p.set_ 13 _) (by first | rfl | simp) | (repeat (first | with_reducible assumption | (with_reducible refine Blk.new' ?_; first | with_reducible rfl | (simp; done)) | with_reducible refine Blk.alloc ?_ _ | with_reducible refine Blk.grow ?_ _ | with_reducible refine Blk.drew ?_ | with_reducible refine Blk.drewN ?_ _ | (with_reducible refine Blk.far ?_ (by first | (dsimp only; omega) | (simp; omega)) _) | (with_reducible apply Blk.two) | (with_reducible refine Blk.kept ?_ (by assumption)) | (with_reducible refine Blk.setRow ?_ (by first | rfl | (simp; done))) | (with_reducible refine Blk.setRow_far ?_ (by first | omega | (simp; omega)) _) | (with_reducible refine Blk.set' ?_ _ _ (by first | rfl | (simp; done)))))
    clear f_x x_l r_x x_6 x_f6 x_7 x_f7 x_14 x_f14 f_n n_l n_0 n_1 n_f0 n_f1 f_r r_l r_r f_p p_l r_p p_2 p_f2 p_3 p_f3 p_4 p_f4 p_5 p_f5 p_13 p_f13 p_21 p_f21 p_22 p_f22 p_23 p_f23 p_24 p_f24 p_28 p_f28 hB_6
    rintro Z1 ⟨hB_7, f_x, f_n, f_r, f_p⟩
    have r_x := rowAt_blk f_x
    have x_l := f_x.lt
    have x_6 : Z1.cell? ⟨w.heap.size, 6, none⟩ = some (.int .u64 xm1) := (f_x).cell 6
    have x_f6 := (f_x).frozen 6
    have x_7 : Z1.cell? ⟨w.heap.size, 7, none⟩ = some (.int .u64 xm2) := (f_x).cell 7
    have x_f7 := (f_x).frozen 7
    have x_14 : Z1.cell? ⟨w.heap.size, 14, none⟩ = some (.int .u16 xfl) := (f_x).cell 14
    have x_f14 := (f_x).frozen 14
    replace f_x := Lib.hid f_x
    have n_0 : Z1.cell? ⟨w.heap.size + 1, 0, none⟩ = some (.int .u64 n1) := (f_n).cell 0
    have n_1 : Z1.cell? ⟨w.heap.size + 1, 1, none⟩ = some (.int .u64 n2) := (f_n).cell 1
    have n_f0 := (f_n).frozen 0
    have n_f1 := (f_n).frozen 1
    have n_l := (f_n).lt
    replace f_n := Lib.hid f_n
    have r_r := rowAt_blk f_r
    have r_l := f_r.lt
    replace f_r := Lib.hid f_r
    have r_p := rowAt_blk f_p
    have p_l := f_p.lt
    have p_2 : Z1.cell? ⟨w.heap.size + 2, 2, none⟩ = some (.int .u64 h1) := (f_p).cell 2
    have p_f2 := (f_p).frozen 2
    have p_3 : Z1.cell? ⟨w.heap.size + 2, 3, none⟩ = some (.int .u64 l1) := (f_p).cell 3
    have p_f3 := (f_p).frozen 3
    have p_4 : Z1.cell? ⟨w.heap.size + 2, 4, none⟩ = some (.int .u64 aq1) := (f_p).cell 4
    have p_f4 := (f_p).frozen 4
    have p_5 : Z1.cell? ⟨w.heap.size + 2, 5, none⟩ = some (.int .u64 aq2) := (f_p).cell 5
    have p_f5 := (f_p).frozen 5
    have p_13 : Z1.cell? ⟨w.heap.size + 2, 13, none⟩ = some (.int .u16 of1) := (f_p).cell 13
    have p_f13 := (f_p).frozen 13
    have p_21 : Z1.cell? ⟨w.heap.size + 2, 21, none⟩ = some (.int .u64 h2) := (f_p).cell 21
    have p_f21 := (f_p).frozen 21
    have p_22 : Z1.cell? ⟨w.heap.size + 2, 22, none⟩ = some (.int .u64 l2) := (f_p).cell 22
    have p_f22 := (f_p).frozen 22
    have p_23 : Z1.cell? ⟨w.heap.size + 2, 23, none⟩ = some (.int .u64 es1) := (f_p).cell 23
    have p_f23 := (f_p).frozen 23
    have p_24 : Z1.cell? ⟨w.heap.size + 2, 24, none⟩ = some (.int .u64 es2) := (f_p).cell 24
    have p_f24 := (f_p).frozen 24
    have p_28 : Z1.cell? ⟨w.heap.size + 2, 28, none⟩ = some (.int .u16 efl) := (f_p).cell 28
    have p_f28 := (f_p).frozen 28
    replace f_p := Lib.hid f_p
    replace hB_7 := Lib.hid hB_7
    go_wp2_with fail
    refine (HB128.out _).mono ?_
    rintro e w_8 ⟨rfl, hb_8⟩
    have z_8 := hb_8.size
    try simp at z_8
    have t_ := hB_7.out
    have hB_8 := bel_eld (w := w) (X := _) (by first | ((repeat (first | with_reducible exact Below.refl _ _ | with_reducible assumption | (with_reducible refine bel_set ?_ (by first | exact Nat.le_refl _ | (simp; done) | (simp; omega) | omega) _) | with_reducible refine bel_grow ?_ _ | with_reducible refine Below.drew ?_ | with_reducible refine below_drewN ?_ _ | with_reducible refine bel_alloc ?_ _ | with_reducible refine bel_trans ?_ (by assumption))); done) | (repeat (first | exact Below.refl _ _ | assumption | refine below_drewN ?_ _ | refine bel_grow ?_ _ | refine Below.drew ?_ | refine bel_alloc ?_ _ | refine bel_set ?_ (by first | exact Nat.le_refl _ | (simp; done) | (simp; omega) | omega) _ | refine bel_trans ?_ (by assumption)))) hb_8
    clear t_
    have t_x := f_x.out
    have t_n := f_n.out
    have t_r := f_r.out
    have t_p := f_p.out
    have g_x : Blk w_8 (w.heap.size) 28 #[.int .u64 xi1, .int .u64 xi2, .int .u64 xd1, .int .u64 xd2, .int .u64 xc1, .int .u64 xc2, .int .u64 xm1, .int .u64 xm2, .int .u64 xw1, .int .u64 xw2, .int .u64 xtg, .int .u32 xto, .int .u32 xlg, .int .u16 xcd, .int .u16 xfl, .int .u64 xst] := by
      refine Blk.kept ?_ hb_8
      (repeat (first | with_reducible assumption | (with_reducible refine Blk.new' ?_; first | with_reducible rfl | (simp; done)) | with_reducible refine Blk.alloc ?_ _ | with_reducible refine Blk.grow ?_ _ | with_reducible refine Blk.drew ?_ | with_reducible refine Blk.drewN ?_ _ | (with_reducible refine Blk.far ?_ (by first | (dsimp only; omega) | (simp; omega)) _) | (with_reducible apply Blk.two) | (with_reducible refine Blk.set' ?_ _ _ ?_) | (with_reducible rfl) | rfl))
    have g_n : Blk w_8 (w.heap.size + 1) 24 #[.int .u64 n1, .int .u64 n2] := by
      refine Blk.kept ?_ hb_8
      (repeat (first | with_reducible assumption | (with_reducible refine Blk.new' ?_; first | with_reducible rfl | (simp; done)) | with_reducible refine Blk.alloc ?_ _ | with_reducible refine Blk.grow ?_ _ | with_reducible refine Blk.drew ?_ | with_reducible refine Blk.drewN ?_ _ | (with_reducible refine Blk.far ?_ (by first | (dsimp only; omega) | (simp; omega)) _) | (with_reducible apply Blk.two) | (with_reducible refine Blk.set' ?_ _ _ ?_) | (with_reducible rfl) | rfl))
    have g_r : Blk w_8 (w.heap.size + 3) 32 #[.int .u64 0, .int .u64 0, .int .u64 0, .int .u64 0, .int .u64 0, .int .u64 0, .int .u64 0, .int .u64 0, .int .u64 0, .int .u64 0, .int .u64 0, .int .u32 0, .int .u16 0, .int .u16 0, .int .u64 0, .int .u64 0, .int .u64 0, .int .u64 0, .int .u64 0, .int .u64 0, .int .u64 0, .int .u64 0, .int .u64 0, .int .u64 0, .int .u64 0, .int .u64 0, .int .u32 0, .int .u16 0, .int .u16 0, .int .u64 0, .bool false, .bool false] := by
      refine Blk.kept ?_ hb_8
      (repeat (first | with_reducible assumption | (with_reducible refine Blk.new' ?_; first | with_reducible rfl | (simp; done)) | with_reducible refine Blk.alloc ?_ _ | with_reducible refine Blk.grow ?_ _ | with_reducible refine Blk.drew ?_ | with_reducible refine Blk.drewN ?_ _ | (with_reducible refine Blk.far ?_ (by first | (dsimp only; omega) | (simp; omega)) _) | (with_reducible apply Blk.two) | (with_reducible refine Blk.set' ?_ _ _ ?_) | (with_reducible rfl) | rfl))
    have g_p : Blk w_8 (w.heap.size + 2) 32 #[.int .u64 ai1, .int .u64 ai2, .int .u64 h1, .int .u64 l1, .int .u64 aq1, .int .u64 aq2, .int .u64 ar1, .int .u64 ar2, .int .u64 as1, .int .u64 as2, .int .u64 atg, .int .u32 alg, .int .u16 acd, .int .u16 of1, .int .u64 ast, .int .u64 ei1, .int .u64 ei2, .int .u64 ep1, .int .u64 ep2, .int .u64 eq1, .int .u64 eq2, .int .u64 h2, .int .u64 l2, .int .u64 es1, .int .u64 es2, .int .u64 etg, .int .u32 elg, .int .u16 ecd, .int .u16 efl, .int .u64 est, .bool hd, .bool hc] := by
      refine Blk.kept ?_ hb_8
      (repeat (first | with_reducible assumption | (with_reducible refine Blk.new' ?_; first | with_reducible rfl | (simp; done)) | with_reducible refine Blk.alloc ?_ _ | with_reducible refine Blk.grow ?_ _ | with_reducible refine Blk.drew ?_ | with_reducible refine Blk.drewN ?_ _ | (with_reducible refine Blk.far ?_ (by first | (dsimp only; omega) | (simp; omega)) _) | (with_reducible apply Blk.two) | (with_reducible refine Blk.set' ?_ _ _ ?_) | (with_reducible rfl) | rfl))
    clear f_x x_l r_x x_6 x_f6 x_7 x_f7 x_14 x_f14 f_n n_l n_0 n_1 n_f0 n_f1 f_r r_l r_r f_p p_l r_p p_2 p_f2 p_3 p_f3 p_4 p_f4 p_5 p_f5 p_13 p_f13 p_21 p_f21 p_22 p_f22 p_23 p_f23 p_24 p_f24 p_28 p_f28 t_x t_n t_r t_p hB_7 hb_8
    have f_x := g_x
    clear g_x
    have f_n := g_n
    clear g_n
    have f_r := g_r
    clear g_r
    have f_p := g_p
    clear g_p
    have r_x := rowAt_blk f_x
    have x_l := f_x.lt
    have x_6 : w_8.cell? ⟨w.heap.size, 6, none⟩ = some (.int .u64 xm1) := (f_x).cell 6
    have x_f6 := (f_x).frozen 6
    have x_7 : w_8.cell? ⟨w.heap.size, 7, none⟩ = some (.int .u64 xm2) := (f_x).cell 7
    have x_f7 := (f_x).frozen 7
    have x_14 : w_8.cell? ⟨w.heap.size, 14, none⟩ = some (.int .u16 xfl) := (f_x).cell 14
    have x_f14 := (f_x).frozen 14
    replace f_x := Lib.hid f_x
    have n_0 : w_8.cell? ⟨w.heap.size + 1, 0, none⟩ = some (.int .u64 n1) := (f_n).cell 0
    have n_1 : w_8.cell? ⟨w.heap.size + 1, 1, none⟩ = some (.int .u64 n2) := (f_n).cell 1
    have n_f0 := (f_n).frozen 0
    have n_f1 := (f_n).frozen 1
    have n_l := (f_n).lt
    replace f_n := Lib.hid f_n
    have r_r := rowAt_blk f_r
    have r_l := f_r.lt
    replace f_r := Lib.hid f_r
    have r_p := rowAt_blk f_p
    have p_l := f_p.lt
    have p_2 : w_8.cell? ⟨w.heap.size + 2, 2, none⟩ = some (.int .u64 h1) := (f_p).cell 2
    have p_f2 := (f_p).frozen 2
    have p_3 : w_8.cell? ⟨w.heap.size + 2, 3, none⟩ = some (.int .u64 l1) := (f_p).cell 3
    have p_f3 := (f_p).frozen 3
    have p_4 : w_8.cell? ⟨w.heap.size + 2, 4, none⟩ = some (.int .u64 aq1) := (f_p).cell 4
    have p_f4 := (f_p).frozen 4
    have p_5 : w_8.cell? ⟨w.heap.size + 2, 5, none⟩ = some (.int .u64 aq2) := (f_p).cell 5
    have p_f5 := (f_p).frozen 5
    have p_13 : w_8.cell? ⟨w.heap.size + 2, 13, none⟩ = some (.int .u16 of1) := (f_p).cell 13
    have p_f13 := (f_p).frozen 13
    have p_21 : w_8.cell? ⟨w.heap.size + 2, 21, none⟩ = some (.int .u64 h2) := (f_p).cell 21
    have p_f21 := (f_p).frozen 21
    have p_22 : w_8.cell? ⟨w.heap.size + 2, 22, none⟩ = some (.int .u64 l2) := (f_p).cell 22
    have p_f22 := (f_p).frozen 22
    have p_23 : w_8.cell? ⟨w.heap.size + 2, 23, none⟩ = some (.int .u64 es1) := (f_p).cell 23
    have p_f23 := (f_p).frozen 23
    have p_24 : w_8.cell? ⟨w.heap.size + 2, 24, none⟩ = some (.int .u64 es2) := (f_p).cell 24
    have p_f24 := (f_p).frozen 24
    have p_28 : w_8.cell? ⟨w.heap.size + 2, 28, none⟩ = some (.int .u16 efl) := (f_p).cell 28
    have p_f28 := (f_p).frozen 28
    replace f_p := Lib.hid f_p
    replace hB_8 := Lib.hid hB_8

    cases b128
    case false =>
      simp only [if_true, if_false, Bool.false_eq_true] at hfd hfc
      subst hfd
      subst hfc
      go_wp2_with fail
      refine abs_post (fun Y_ => Below w.heap.size w Y_ ∧ Blk Y_ (w.heap.size + 3) 32 #[.int .u64 ai1, .int .u64 ai2, .int .u64 h1, .int .u64 l1, .int .u64 aq1, .int .u64 aq2, .int .u64 ar1, .int .u64 ar2, .int .u64 as1, .int .u64 as2, .int .u64 atg, .int .u32 alg, .int .u16 acd, .int .u16 of1, .int .u64 ast, .int .u64 ei1, .int .u64 ei2, .int .u64 ep1, .int .u64 ep2, .int .u64 eq1, .int .u64 eq2, .int .u64 h2, .int .u64 l2, .int .u64 es1, .int .u64 es2, .int .u64 etg, .int .u32 elg, .int .u16 ecd, .int .u16 efl, .int .u64 est, .bool hd, .bool hc]) ?_ ?_
      · have t_B := hB_8.out
        have t_x := f_x.out
        have t_n := f_n.out
        have t_r := f_r.out
        have t_p := f_p.out
        exact ⟨by (repeat (first | with_reducible exact Below.refl _ _ | with_reducible assumption | (with_reducible refine bel_set ?_ (by first | exact Nat.le_refl _ | (simp; done) | (simp; omega) | omega) _) | with_reducible refine bel_grow ?_ _ | with_reducible refine Below.drew ?_ | with_reducible refine bel_alloc ?_ _ | (with_reducible refine below_setRow ?_ (by first | omega | (simp; omega)) _) | with_reducible refine bel_eld ?_ (by assumption))), by (repeat (first | with_reducible assumption | (with_reducible refine Blk.new' ?_; first | with_reducible rfl | (simp; done)) | with_reducible refine Blk.alloc ?_ _ | with_reducible refine Blk.grow ?_ _ | with_reducible refine Blk.drew ?_ | with_reducible refine Blk.drewN ?_ _ | (with_reducible refine Blk.far ?_ (by first | (dsimp only; omega) | (simp; omega)) _) | (with_reducible apply Blk.two) | (with_reducible refine Blk.kept ?_ (by assumption)) | (with_reducible refine Blk.setRow (by assumption) (by first | rfl | (simp; done))) | (with_reducible refine Blk.setRow_far ?_ (by first | omega | (simp; omega)) _) | (with_reducible refine Blk.set' ?_ _ _ (by first | rfl | (simp; done)))))⟩
      rintro Y_ ⟨bZ_, gP_⟩
      have HLV := loadVar_blk (ty := 32) Try.underlying32 rfl (by kernel_rfl) gP_ rfl
      refine bodyPost_ret (v := .tuple #[.agg #[.int .u64 ai1, .int .u64 ai2, .int .u64 h1, .int .u64 l1, .int .u64 aq1, .int .u64 aq2, .int .u64 ar1, .int .u64 ar2, .int .u64 as1, .int .u64 as2, .int .u64 atg, .int .u32 alg, .int .u16 acd, .int .u16 of1, .int .u64 ast, .int .u64 ei1, .int .u64 ei2, .int .u64 ep1, .int .u64 ep2, .int .u64 eq1, .int .u64 eq2, .int .u64 h2, .int .u64 l2, .int .u64 es1, .int .u64 es2, .int .u64 etg, .int .u32 elg, .int .u16 ecd, .int .u16 efl, .int .u64 est, .bool hd, .bool hc], .bool true]) (results_ct Try.results19 rfl HLV) rfl ⟨by first | rfl | (rw [hk.out]; rfl), bZ_⟩
    case true =>
      simp only [if_true, if_false, Bool.false_eq_true] at hfd hfc
      subst hfd
      subst hfc

      go_wp2_with fail
      refine (HL2.out _).mono ?_
      rintro e w_9 ⟨rfl, hb_9⟩
      have z_9 := hb_9.size
      try simp at z_9
      have t_ := hB_8.out
      have hB_9 := bel_eld (w := w) (X := _) (by first | ((repeat (first | with_reducible exact Below.refl _ _ | with_reducible assumption | (with_reducible refine bel_set ?_ (by first | exact Nat.le_refl _ | (simp; done) | (simp; omega) | omega) _) | with_reducible refine bel_grow ?_ _ | with_reducible refine Below.drew ?_ | with_reducible refine below_drewN ?_ _ | with_reducible refine bel_alloc ?_ _ | with_reducible refine bel_trans ?_ (by assumption))); done) | (repeat (first | exact Below.refl _ _ | assumption | refine below_drewN ?_ _ | refine bel_grow ?_ _ | refine Below.drew ?_ | refine bel_alloc ?_ _ | refine bel_set ?_ (by first | exact Nat.le_refl _ | (simp; done) | (simp; omega) | omega) _ | refine bel_trans ?_ (by assumption)))) hb_9
      clear t_
      have t_x := f_x.out
      have t_n := f_n.out
      have t_r := f_r.out
      have t_p := f_p.out
      have g_x : Blk w_9 (w.heap.size) 28 #[.int .u64 xi1, .int .u64 xi2, .int .u64 xd1, .int .u64 xd2, .int .u64 xc1, .int .u64 xc2, .int .u64 xm1, .int .u64 xm2, .int .u64 xw1, .int .u64 xw2, .int .u64 xtg, .int .u32 xto, .int .u32 xlg, .int .u16 xcd, .int .u16 xfl, .int .u64 xst] := by
        refine Blk.kept ?_ hb_9
        (repeat (first | with_reducible assumption | (with_reducible refine Blk.new' ?_; first | with_reducible rfl | (simp; done)) | with_reducible refine Blk.alloc ?_ _ | with_reducible refine Blk.grow ?_ _ | with_reducible refine Blk.drew ?_ | with_reducible refine Blk.drewN ?_ _ | (with_reducible refine Blk.far ?_ (by first | (dsimp only; omega) | (simp; omega)) _) | (with_reducible apply Blk.two) | (with_reducible refine Blk.set' ?_ _ _ ?_) | (with_reducible rfl) | rfl))
      have g_n : Blk w_9 (w.heap.size + 1) 24 #[.int .u64 n1, .int .u64 n2] := by
        refine Blk.kept ?_ hb_9
        (repeat (first | with_reducible assumption | (with_reducible refine Blk.new' ?_; first | with_reducible rfl | (simp; done)) | with_reducible refine Blk.alloc ?_ _ | with_reducible refine Blk.grow ?_ _ | with_reducible refine Blk.drew ?_ | with_reducible refine Blk.drewN ?_ _ | (with_reducible refine Blk.far ?_ (by first | (dsimp only; omega) | (simp; omega)) _) | (with_reducible apply Blk.two) | (with_reducible refine Blk.set' ?_ _ _ ?_) | (with_reducible rfl) | rfl))
      have g_r : Blk w_9 (w.heap.size + 3) 32 #[.int .u64 0, .int .u64 0, .int .u64 0, .int .u64 0, .int .u64 0, .int .u64 0, .int .u64 0, .int .u64 0, .int .u64 0, .int .u64 0, .int .u64 0, .int .u32 0, .int .u16 0, .int .u16 0, .int .u64 0, .int .u64 0, .int .u64 0, .int .u64 0, .int .u64 0, .int .u64 0, .int .u64 0, .int .u64 0, .int .u64 0, .int .u64 0, .int .u64 0, .int .u64 0, .int .u32 0, .int .u16 0, .int .u16 0, .int .u64 0, .bool false, .bool false] := by
        refine Blk.kept ?_ hb_9
        (repeat (first | with_reducible assumption | (with_reducible refine Blk.new' ?_; first | with_reducible rfl | (simp; done)) | with_reducible refine Blk.alloc ?_ _ | with_reducible refine Blk.grow ?_ _ | with_reducible refine Blk.drew ?_ | with_reducible refine Blk.drewN ?_ _ | (with_reducible refine Blk.far ?_ (by first | (dsimp only; omega) | (simp; omega)) _) | (with_reducible apply Blk.two) | (with_reducible refine Blk.set' ?_ _ _ ?_) | (with_reducible rfl) | rfl))
      have g_p : Blk w_9 (w.heap.size + 2) 32 #[.int .u64 ai1, .int .u64 ai2, .int .u64 h1, .int .u64 l1, .int .u64 aq1, .int .u64 aq2, .int .u64 ar1, .int .u64 ar2, .int .u64 as1, .int .u64 as2, .int .u64 atg, .int .u32 alg, .int .u16 acd, .int .u16 of1, .int .u64 ast, .int .u64 ei1, .int .u64 ei2, .int .u64 ep1, .int .u64 ep2, .int .u64 eq1, .int .u64 eq2, .int .u64 h2, .int .u64 l2, .int .u64 es1, .int .u64 es2, .int .u64 etg, .int .u32 elg, .int .u16 ecd, .int .u16 efl, .int .u64 est, .bool hd, .bool hc] := by
        refine Blk.kept ?_ hb_9
        (repeat (first | with_reducible assumption | (with_reducible refine Blk.new' ?_; first | with_reducible rfl | (simp; done)) | with_reducible refine Blk.alloc ?_ _ | with_reducible refine Blk.grow ?_ _ | with_reducible refine Blk.drew ?_ | with_reducible refine Blk.drewN ?_ _ | (with_reducible refine Blk.far ?_ (by first | (dsimp only; omega) | (simp; omega)) _) | (with_reducible apply Blk.two) | (with_reducible refine Blk.set' ?_ _ _ ?_) | (with_reducible rfl) | rfl))
      clear f_x x_l r_x x_6 x_f6 x_7 x_f7 x_14 x_f14 f_n n_l n_0 n_1 n_f0 n_f1 f_r r_l r_r f_p p_l r_p p_2 p_f2 p_3 p_f3 p_4 p_f4 p_5 p_f5 p_13 p_f13 p_21 p_f21 p_22 p_f22 p_23 p_f23 p_24 p_f24 p_28 p_f28 t_x t_n t_r t_p hB_8 hb_9
      have f_x := g_x
      clear g_x
      have f_n := g_n
      clear g_n
      have f_r := g_r
      clear g_r
      have f_p := g_p
      clear g_p
      have r_x := rowAt_blk f_x
      have x_l := f_x.lt
      have x_6 : w_9.cell? ⟨w.heap.size, 6, none⟩ = some (.int .u64 xm1) := (f_x).cell 6
      have x_f6 := (f_x).frozen 6
      have x_7 : w_9.cell? ⟨w.heap.size, 7, none⟩ = some (.int .u64 xm2) := (f_x).cell 7
      have x_f7 := (f_x).frozen 7
      have x_14 : w_9.cell? ⟨w.heap.size, 14, none⟩ = some (.int .u16 xfl) := (f_x).cell 14
      have x_f14 := (f_x).frozen 14
      replace f_x := Lib.hid f_x
      have n_0 : w_9.cell? ⟨w.heap.size + 1, 0, none⟩ = some (.int .u64 n1) := (f_n).cell 0
      have n_1 : w_9.cell? ⟨w.heap.size + 1, 1, none⟩ = some (.int .u64 n2) := (f_n).cell 1
      have n_f0 := (f_n).frozen 0
      have n_f1 := (f_n).frozen 1
      have n_l := (f_n).lt
      replace f_n := Lib.hid f_n
      have r_r := rowAt_blk f_r
      have r_l := f_r.lt
      replace f_r := Lib.hid f_r
      have r_p := rowAt_blk f_p
      have p_l := f_p.lt
      have p_2 : w_9.cell? ⟨w.heap.size + 2, 2, none⟩ = some (.int .u64 h1) := (f_p).cell 2
      have p_f2 := (f_p).frozen 2
      have p_3 : w_9.cell? ⟨w.heap.size + 2, 3, none⟩ = some (.int .u64 l1) := (f_p).cell 3
      have p_f3 := (f_p).frozen 3
      have p_4 : w_9.cell? ⟨w.heap.size + 2, 4, none⟩ = some (.int .u64 aq1) := (f_p).cell 4
      have p_f4 := (f_p).frozen 4
      have p_5 : w_9.cell? ⟨w.heap.size + 2, 5, none⟩ = some (.int .u64 aq2) := (f_p).cell 5
      have p_f5 := (f_p).frozen 5
      have p_13 : w_9.cell? ⟨w.heap.size + 2, 13, none⟩ = some (.int .u16 of1) := (f_p).cell 13
      have p_f13 := (f_p).frozen 13
      have p_21 : w_9.cell? ⟨w.heap.size + 2, 21, none⟩ = some (.int .u64 h2) := (f_p).cell 21
      have p_f21 := (f_p).frozen 21
      have p_22 : w_9.cell? ⟨w.heap.size + 2, 22, none⟩ = some (.int .u64 l2) := (f_p).cell 22
      have p_f22 := (f_p).frozen 22
      have p_23 : w_9.cell? ⟨w.heap.size + 2, 23, none⟩ = some (.int .u64 es1) := (f_p).cell 23
      have p_f23 := (f_p).frozen 23
      have p_24 : w_9.cell? ⟨w.heap.size + 2, 24, none⟩ = some (.int .u64 es2) := (f_p).cell 24
      have p_f24 := (f_p).frozen 24
      have p_28 : w_9.cell? ⟨w.heap.size + 2, 28, none⟩ = some (.int .u16 efl) := (f_p).cell 28
      have p_f28 := (f_p).frozen 28
      replace f_p := Lib.hid f_p
      replace hB_9 := Lib.hid hB_9
      go_upto_region 16 with fail
      refine abs_wp (fun Y_ => Below w.heap.size w Y_ ∧ Blk Y_ (w.heap.size) 28 #[.int .u64 xi1, .int .u64 xi2, .int .u64 xd1, .int .u64 xd2, .int .u64 xc1, .int .u64 xc2, .int .u64 xm1, .int .u64 xm2, .int .u64 xw1, .int .u64 xw2, .int .u64 xtg, .int .u32 xto, .int .u32 xlg, .int .u16 xcd, .int .u16 xfl, .int .u64 xst] ∧ Blk Y_ (w.heap.size + 1) 24 #[.int .u64 n1, .int .u64 n2] ∧ Blk Y_ (w.heap.size + 3) 32 #[.int .u64 0, .int .u64 0, .int .u64 0, .int .u64 0, .int .u64 0, .int .u64 0, .int .u64 0, .int .u64 0, .int .u64 0, .int .u64 0, .int .u64 0, .int .u32 0, .int .u16 0, .int .u16 0, .int .u64 0, .int .u64 0, .int .u64 0, .int .u64 0, .int .u64 0, .int .u64 0, .int .u64 0, .int .u64 0, .int .u64 0, .int .u64 0, .int .u64 0, .int .u64 0, .int .u32 0, .int .u16 0, .int .u16 0, .int .u64 0, .bool false, .bool false] ∧ Blk Y_ (w.heap.size + 2) 32 #[.int .u64 ai1, .int .u64 ai2, .int .u64 h1, .int .u64 l1, .int .u64 aq1, .int .u64 aq2, .int .u64 ar1, .int .u64 ar2, .int .u64 as1, .int .u64 as2, .int .u64 atg, .int .u32 alg, .int .u16 acd, .int .u16 of1, .int .u64 ast, .int .u64 ei1, .int .u64 ei2, .int .u64 ep1, .int .u64 ep2, .int .u64 eq1, .int .u64 eq2, .int .u64 h2, .int .u64 l2, .int .u64 es1, .int .u64 es2, .int .u64 etg, .int .u32 elg, .int .u16 ecd, .int .u16 of2, .int .u64 est, .bool hd, .bool hc]) ?_ ?_
      · have t_B := hB_9.out
        have t_x := f_x.out
        have t_n := f_n.out
        have t_r := f_r.out
        have t_p := f_p.out
        refine ⟨by (repeat (first | with_reducible exact Below.refl _ _ | with_reducible assumption | (with_reducible refine bel_set ?_ (by first | exact Nat.le_refl _ | (simp; done) | (simp; omega) | omega) _) | with_reducible refine bel_grow ?_ _ | with_reducible refine Below.drew ?_ | with_reducible refine bel_alloc ?_ _ | with_reducible refine bel_eld ?_ (by assumption))), ?_, ?_, ?_, ?_⟩
        · (repeat (first | with_reducible assumption | (with_reducible refine Blk.new' ?_; first | with_reducible rfl | (simp; done)) | with_reducible refine Blk.alloc ?_ _ | with_reducible refine Blk.grow ?_ _ | with_reducible refine Blk.drew ?_ | with_reducible refine Blk.drewN ?_ _ | (with_reducible refine Blk.far ?_ (by first | (dsimp only; omega) | (simp; omega)) _) | (with_reducible apply Blk.two) | (with_reducible refine Blk.kept ?_ (by assumption)) | (with_reducible refine Blk.setRow ?_ (by first | rfl | (simp; done))) | (with_reducible refine Blk.setRow_far ?_ (by first | omega | (simp; omega)) _) | (with_reducible refine Blk.set' ?_ _ _ (by first | rfl | (simp; done)))))
        · (repeat (first | with_reducible assumption | (with_reducible refine Blk.new' ?_; first | with_reducible rfl | (simp; done)) | with_reducible refine Blk.alloc ?_ _ | with_reducible refine Blk.grow ?_ _ | with_reducible refine Blk.drew ?_ | with_reducible refine Blk.drewN ?_ _ | (with_reducible refine Blk.far ?_ (by first | (dsimp only; omega) | (simp; omega)) _) | (with_reducible apply Blk.two) | (with_reducible refine Blk.kept ?_ (by assumption)) | (with_reducible refine Blk.setRow ?_ (by first | rfl | (simp; done))) | (with_reducible refine Blk.setRow_far ?_ (by first | omega | (simp; omega)) _) | (with_reducible refine Blk.set' ?_ _ _ (by first | rfl | (simp; done)))))
        · (repeat (first | with_reducible assumption | (with_reducible refine Blk.new' ?_; first | with_reducible rfl | (simp; done)) | with_reducible refine Blk.alloc ?_ _ | with_reducible refine Blk.grow ?_ _ | with_reducible refine Blk.drew ?_ | with_reducible refine Blk.drewN ?_ _ | (with_reducible refine Blk.far ?_ (by first | (dsimp only; omega) | (simp; omega)) _) | (with_reducible apply Blk.two) | (with_reducible refine Blk.kept ?_ (by assumption)) | (with_reducible refine Blk.setRow ?_ (by first | rfl | (simp; done))) | (with_reducible refine Blk.setRow_far ?_ (by first | omega | (simp; omega)) _) | (with_reducible refine Blk.set' ?_ _ _ (by first | rfl | (simp; done)))))
        · first | exact Blk.eqv (t_p.set_ 28 _) (by first | rfl | simp) | (repeat (first | with_reducible assumption | (with_reducible refine Blk.new' ?_; first | with_reducible rfl | (simp; done)) | with_reducible refine Blk.alloc ?_ _ | with_reducible refine Blk.grow ?_ _ | with_reducible refine Blk.drew ?_ | with_reducible refine Blk.drewN ?_ _ | (with_reducible refine Blk.far ?_ (by first | (dsimp only; omega) | (simp; omega)) _) | (with_reducible apply Blk.two) | (with_reducible refine Blk.kept ?_ (by assumption)) | (with_reducible refine Blk.setRow ?_ (by first | rfl | (simp; done))) | (with_reducible refine Blk.setRow_far ?_ (by first | omega | (simp; omega)) _) | (with_reducible refine Blk.set' ?_ _ _ (by first | rfl | (simp; done)))))
      clear f_x x_l r_x x_6 x_f6 x_7 x_f7 x_14 x_f14 f_n n_l n_0 n_1 n_f0 n_f1 f_r r_l r_r f_p p_l r_p p_2 p_f2 p_3 p_f3 p_4 p_f4 p_5 p_f5 p_13 p_f13 p_21 p_f21 p_22 p_f22 p_23 p_f23 p_24 p_f24 p_28 p_f28 hB_9
      rintro Z2 ⟨hB_10, f_x, f_n, f_r, f_p⟩
      have r_x := rowAt_blk f_x
      have x_l := f_x.lt
      have x_6 : Z2.cell? ⟨w.heap.size, 6, none⟩ = some (.int .u64 xm1) := (f_x).cell 6
      have x_f6 := (f_x).frozen 6
      have x_7 : Z2.cell? ⟨w.heap.size, 7, none⟩ = some (.int .u64 xm2) := (f_x).cell 7
      have x_f7 := (f_x).frozen 7
      have x_14 : Z2.cell? ⟨w.heap.size, 14, none⟩ = some (.int .u16 xfl) := (f_x).cell 14
      have x_f14 := (f_x).frozen 14
      replace f_x := Lib.hid f_x
      have n_0 : Z2.cell? ⟨w.heap.size + 1, 0, none⟩ = some (.int .u64 n1) := (f_n).cell 0
      have n_1 : Z2.cell? ⟨w.heap.size + 1, 1, none⟩ = some (.int .u64 n2) := (f_n).cell 1
      have n_f0 := (f_n).frozen 0
      have n_f1 := (f_n).frozen 1
      have n_l := (f_n).lt
      replace f_n := Lib.hid f_n
      have r_r := rowAt_blk f_r
      have r_l := f_r.lt
      replace f_r := Lib.hid f_r
      have r_p := rowAt_blk f_p
      have p_l := f_p.lt
      have p_2 : Z2.cell? ⟨w.heap.size + 2, 2, none⟩ = some (.int .u64 h1) := (f_p).cell 2
      have p_f2 := (f_p).frozen 2
      have p_3 : Z2.cell? ⟨w.heap.size + 2, 3, none⟩ = some (.int .u64 l1) := (f_p).cell 3
      have p_f3 := (f_p).frozen 3
      have p_4 : Z2.cell? ⟨w.heap.size + 2, 4, none⟩ = some (.int .u64 aq1) := (f_p).cell 4
      have p_f4 := (f_p).frozen 4
      have p_5 : Z2.cell? ⟨w.heap.size + 2, 5, none⟩ = some (.int .u64 aq2) := (f_p).cell 5
      have p_f5 := (f_p).frozen 5
      have p_13 : Z2.cell? ⟨w.heap.size + 2, 13, none⟩ = some (.int .u16 of1) := (f_p).cell 13
      have p_f13 := (f_p).frozen 13
      have p_21 : Z2.cell? ⟨w.heap.size + 2, 21, none⟩ = some (.int .u64 h2) := (f_p).cell 21
      have p_f21 := (f_p).frozen 21
      have p_22 : Z2.cell? ⟨w.heap.size + 2, 22, none⟩ = some (.int .u64 l2) := (f_p).cell 22
      have p_f22 := (f_p).frozen 22
      have p_23 : Z2.cell? ⟨w.heap.size + 2, 23, none⟩ = some (.int .u64 es1) := (f_p).cell 23
      have p_f23 := (f_p).frozen 23
      have p_24 : Z2.cell? ⟨w.heap.size + 2, 24, none⟩ = some (.int .u64 es2) := (f_p).cell 24
      have p_f24 := (f_p).frozen 24
      have p_28 : Z2.cell? ⟨w.heap.size + 2, 28, none⟩ = some (.int .u16 of2) := (f_p).cell 28
      have p_f28 := (f_p).frozen 28
      replace f_p := Lib.hid f_p
      replace hB_10 := Lib.hid hB_10
      go_wp2_with fail
      refine abs_post (fun Y_ => Below w.heap.size w Y_ ∧ Blk Y_ (w.heap.size + 3) 32 #[.int .u64 ai1, .int .u64 ai2, .int .u64 h1, .int .u64 l1, .int .u64 aq1, .int .u64 aq2, .int .u64 ar1, .int .u64 ar2, .int .u64 as1, .int .u64 as2, .int .u64 atg, .int .u32 alg, .int .u16 acd, .int .u16 of1, .int .u64 ast, .int .u64 ei1, .int .u64 ei2, .int .u64 ep1, .int .u64 ep2, .int .u64 eq1, .int .u64 eq2, .int .u64 h2, .int .u64 l2, .int .u64 es1, .int .u64 es2, .int .u64 etg, .int .u32 elg, .int .u16 ecd, .int .u16 of2, .int .u64 est, .bool hd, .bool hc]) ?_ ?_
      · have t_B := hB_10.out
        have t_x := f_x.out
        have t_n := f_n.out
        have t_r := f_r.out
        have t_p := f_p.out
        exact ⟨by (repeat (first | with_reducible exact Below.refl _ _ | with_reducible assumption | (with_reducible refine bel_set ?_ (by first | exact Nat.le_refl _ | (simp; done) | (simp; omega) | omega) _) | with_reducible refine bel_grow ?_ _ | with_reducible refine Below.drew ?_ | with_reducible refine bel_alloc ?_ _ | (with_reducible refine below_setRow ?_ (by first | omega | (simp; omega)) _) | with_reducible refine bel_eld ?_ (by assumption))), by (repeat (first | with_reducible assumption | (with_reducible refine Blk.new' ?_; first | with_reducible rfl | (simp; done)) | with_reducible refine Blk.alloc ?_ _ | with_reducible refine Blk.grow ?_ _ | with_reducible refine Blk.drew ?_ | with_reducible refine Blk.drewN ?_ _ | (with_reducible refine Blk.far ?_ (by first | (dsimp only; omega) | (simp; omega)) _) | (with_reducible apply Blk.two) | (with_reducible refine Blk.kept ?_ (by assumption)) | (with_reducible refine Blk.setRow (by assumption) (by first | rfl | (simp; done))) | (with_reducible refine Blk.setRow_far ?_ (by first | omega | (simp; omega)) _) | (with_reducible refine Blk.set' ?_ _ _ (by first | rfl | (simp; done)))))⟩
      rintro Y_ ⟨bZ_, gP_⟩
      have HLV := loadVar_blk (ty := 32) Try.underlying32 rfl (by kernel_rfl) gP_ rfl
      refine bodyPost_ret (v := .tuple #[.agg #[.int .u64 ai1, .int .u64 ai2, .int .u64 h1, .int .u64 l1, .int .u64 aq1, .int .u64 aq2, .int .u64 ar1, .int .u64 ar2, .int .u64 as1, .int .u64 as2, .int .u64 atg, .int .u32 alg, .int .u16 acd, .int .u16 of1, .int .u64 ast, .int .u64 ei1, .int .u64 ei2, .int .u64 ep1, .int .u64 ep2, .int .u64 eq1, .int .u64 eq2, .int .u64 h2, .int .u64 l2, .int .u64 es1, .int .u64 es2, .int .u64 etg, .int .u32 elg, .int .u16 ecd, .int .u16 of2, .int .u64 est, .bool hd, .bool hc], .bool true]) (results_ct Try.results19 rfl HLV) rfl ⟨by first | rfl | (rw [hk.out]; rfl), bZ_⟩
end Go.Proofs.Ytpbnakoimlmhnaa
