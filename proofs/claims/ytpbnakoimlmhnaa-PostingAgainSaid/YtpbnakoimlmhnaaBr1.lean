/-
  Whether there is room, walked.
-/
import Derived.Test.YtpbnakoimlmhnaaBv
import Derived.Test.YtpbnakoimlmhnaaBk
import Derived.Deep.DeepCutAuto
namespace Go.Proofs.Ytpbnakoimlmhnaa
set_option linter.unusedVariables false
set_option linter.unusedSimpArgs false
open Go.RowKit

attribute [local go_sem] loadV_ptr storeV_ptr one_func drew_hs ext_deb ext_cre ext_cols ext_acc
attribute [local go_sem ↓] load_Cols store_Cols load_Transfer store_Transfer load_Parties store_Parties load_Acct store_Acct
set_option maxRecDepth 8000 in
set_option maxHeartbeats 8000000 in
theorem room_true (xi1 xi2 xd1 xd2 xc1 xc2 xm1 xm2 xw1 xw2 xtg xto xlg xcd xfl xst ai1 ai2 ap1 ap2 aq1 aq2 ar1 ar2 as1 as2 atg alg acd afl ast ei1 ei2 ep1 ep2 eq1 eq2 er1 er2 es1 es2 etg elg ecd efl est n1 n2 dh dl ch cl k1 k2 : Int) (hd hc o1 o2 f1 f2 b2 b4 x1 x2 : Bool) (hpen : (bits .and .u16 xfl 2 != 0) = true) (hb2 : (bits .and .u16 afl 2 != 0) = b2) (hb4 : (bits .and .u16 efl 4 != 0) = b4) (hx1 : decide (0 < k1) = x1) (hx2 : decide (0 < k2) = x2)
    (HTd : ∀ w, Calls Try.prog 52 #[.agg #[.func (.func 73) #[] #[], .func (.func 74) #[] #[], .func (.func 75) #[] #[]], .agg #[.int .u64 ai1, .int .u64 ai2, .int .u64 ap1, .int .u64 ap2, .int .u64 aq1, .int .u64 aq2, .int .u64 ar1, .int .u64 ar2, .int .u64 as1, .int .u64 as2, .int .u64 atg, .int .u32 alg, .int .u16 acd, .int .u16 afl, .int .u64 ast], .agg #[.int .u64 n1, .int .u64 n2]] w fun r w' => r = .returned (.tuple #[.agg #[.int .u64 dh, .int .u64 dl], .bool f1]) ∧ Below w.heap.size w w')
    (HTc : ∀ w, Calls Try.prog 52 #[.agg #[.func (.func 76) #[] #[], .func (.func 75) #[] #[], .func (.func 74) #[] #[]], .agg #[.int .u64 ei1, .int .u64 ei2, .int .u64 ep1, .int .u64 ep2, .int .u64 eq1, .int .u64 eq2, .int .u64 er1, .int .u64 er2, .int .u64 es1, .int .u64 es2, .int .u64 etg, .int .u32 elg, .int .u16 ecd, .int .u16 efl, .int .u64 est], .agg #[.int .u64 n1, .int .u64 n2]] w fun r w' => r = .returned (.tuple #[.agg #[.int .u64 ch, .int .u64 cl], .bool f2]) ∧ Below w.heap.size w w')
    (HO1 : ∀ w, Calls Try.prog 53 #[.func (.func 73) #[] #[], .agg #[.int .u64 ai1, .int .u64 ai2, .int .u64 ap1, .int .u64 ap2, .int .u64 aq1, .int .u64 aq2, .int .u64 ar1, .int .u64 ar2, .int .u64 as1, .int .u64 as2, .int .u64 atg, .int .u32 alg, .int .u16 acd, .int .u16 afl, .int .u64 ast], .agg #[.int .u64 n1, .int .u64 n2]] w fun r w' => r = .returned (.bool o1) ∧ Below w.heap.size w w')
    (HO2 : ∀ w, Calls Try.prog 53 #[.func (.func 76) #[] #[], .agg #[.int .u64 ei1, .int .u64 ei2, .int .u64 ep1, .int .u64 ep2, .int .u64 eq1, .int .u64 eq2, .int .u64 er1, .int .u64 er2, .int .u64 es1, .int .u64 es2, .int .u64 etg, .int .u32 elg, .int .u16 ecd, .int .u16 efl, .int .u64 est], .agg #[.int .u64 n1, .int .u64 n2]] w fun r w' => r = .returned (.bool o2) ∧ Below w.heap.size w w')
    (HC1 : ∀ w, Calls Try.prog 54 #[.agg #[.int .u64 dh, .int .u64 dl], .agg #[.int .u64 as1, .int .u64 as2]] w fun r w' => r = .returned (.int .i64 k1) ∧ Below w.heap.size w w')
    (HC2 : ∀ w, Calls Try.prog 54 #[.agg #[.int .u64 ch, .int .u64 cl], .agg #[.int .u64 eq1, .int .u64 eq2]] w fun r w' => r = .returned (.int .i64 k2) ∧ Below w.heap.size w w')
    (w : World) : Calls Try.prog 22 #[.agg #[.int .u64 xi1, .int .u64 xi2, .int .u64 xd1, .int .u64 xd2, .int .u64 xc1, .int .u64 xc2, .int .u64 xm1, .int .u64 xm2, .int .u64 xw1, .int .u64 xw2, .int .u64 xtg, .int .u32 xto, .int .u32 xlg, .int .u16 xcd, .int .u16 xfl, .int .u64 xst], .agg #[.int .u64 n1, .int .u64 n2], .agg #[.int .u64 ai1, .int .u64 ai2, .int .u64 ap1, .int .u64 ap2, .int .u64 aq1, .int .u64 aq2, .int .u64 ar1, .int .u64 ar2, .int .u64 as1, .int .u64 as2, .int .u64 atg, .int .u32 alg, .int .u16 acd, .int .u16 afl, .int .u64 ast, .int .u64 ei1, .int .u64 ei2, .int .u64 ep1, .int .u64 ep2, .int .u64 eq1, .int .u64 eq2, .int .u64 er1, .int .u64 er2, .int .u64 es1, .int .u64 es2, .int .u64 etg, .int .u32 elg, .int .u16 ecd, .int .u16 efl, .int .u64 est, .bool hd, .bool hc]] w fun r w' => r = .returned (.int .u32 (roomV true o1 o2 (!f1) (!f2) (b2 && x1) (b4 && x2))) ∧ Below w.heap.size w w' := by
  replace HTd := Lib.hid HTd
  replace HTc := Lib.hid HTc
  replace HO1 := Lib.hid HO1
  replace HO2 := Lib.hid HO2
  replace HC1 := Lib.hid HC1
  replace HC2 := Lib.hid HC2
  have HDb := Lib.hid debits_any
  have HCr := Lib.hid credits_any
  have HK1 := Lib.hid (fun w => chosen_any (.func (.func 73) #[] #[]) (.func (.func 74) #[] #[]) (.func (.func 75) #[] #[]) rfl rfl rfl xi1 xi2 xd1 xd2 xc1 xc2 xm1 xm2 xw1 xw2 xtg xto xlg xcd xfl xst true hpen w)
  have HK2 := Lib.hid (fun w => chosen_any (.func (.func 76) #[] #[]) (.func (.func 75) #[] #[]) (.func (.func 74) #[] #[]) rfl rfl rfl xi1 xi2 xd1 xd2 xc1 xc2 xm1 xm2 xw1 xw2 xtg xto xlg xcd xfl xst true hpen w)
  simp only [if_true, if_false, Bool.false_eq_true] at HK1 HK2
  have hb0 := Below.refl w.heap.size w
  go_enter Try.func22, Try.ntmps22
  replace hb0 := Lib.hid hb0
  go_wp2_with fail
  refine (HDb.out _).mono ?_
  rintro e w_1 ⟨rfl, hb_1⟩
  have z_1 := hb_1.size
  try simp at z_1
  have t_ := hb0.out
  have hB_1 := bel_eld (w := w) (X := _) (by first | ((repeat (first | with_reducible exact Below.refl _ _ | with_reducible assumption | (with_reducible refine bel_set ?_ (by first | exact Nat.le_refl _ | (simp; done) | (simp; omega) | omega) _) | with_reducible refine bel_grow ?_ _ | with_reducible refine Below.drew ?_ | with_reducible refine below_drewN ?_ _ | with_reducible refine bel_alloc ?_ _ | with_reducible refine bel_trans ?_ (by assumption))); done) | (repeat (first | exact Below.refl _ _ | assumption | refine below_drewN ?_ _ | refine bel_grow ?_ _ | refine Below.drew ?_ | refine bel_alloc ?_ _ | refine bel_set ?_ (by first | exact Nat.le_refl _ | (simp; done) | (simp; omega) | omega) _ | refine bel_trans ?_ (by assumption)))) hb_1
  clear t_
  have g_x : Blk w_1 (w.heap.size) 28 #[.int .u64 xi1, .int .u64 xi2, .int .u64 xd1, .int .u64 xd2, .int .u64 xc1, .int .u64 xc2, .int .u64 xm1, .int .u64 xm2, .int .u64 xw1, .int .u64 xw2, .int .u64 xtg, .int .u32 xto, .int .u32 xlg, .int .u16 xcd, .int .u16 xfl, .int .u64 xst] := by
    refine Blk.kept ?_ hb_1
    (repeat (first | with_reducible assumption | (with_reducible refine Blk.new' ?_; first | with_reducible rfl | (simp; done)) | with_reducible refine Blk.alloc ?_ _ | with_reducible refine Blk.grow ?_ _ | with_reducible refine Blk.drew ?_ | with_reducible refine Blk.drewN ?_ _ | (with_reducible refine Blk.far ?_ (by first | (dsimp only; omega) | (simp; omega)) _) | (with_reducible apply Blk.two) | (with_reducible refine Blk.set' ?_ _ _ ?_) | (with_reducible rfl) | rfl))
  have g_n : Blk w_1 (w.heap.size + 1) 24 #[.int .u64 n1, .int .u64 n2] := by
    refine Blk.kept ?_ hb_1
    (repeat (first | with_reducible assumption | (with_reducible refine Blk.new' ?_; first | with_reducible rfl | (simp; done)) | with_reducible refine Blk.alloc ?_ _ | with_reducible refine Blk.grow ?_ _ | with_reducible refine Blk.drew ?_ | with_reducible refine Blk.drewN ?_ _ | (with_reducible refine Blk.far ?_ (by first | (dsimp only; omega) | (simp; omega)) _) | (with_reducible apply Blk.two) | (with_reducible refine Blk.set' ?_ _ _ ?_) | (with_reducible rfl) | rfl))
  have g_p : Blk w_1 (w.heap.size + 2) 32 #[.int .u64 ai1, .int .u64 ai2, .int .u64 ap1, .int .u64 ap2, .int .u64 aq1, .int .u64 aq2, .int .u64 ar1, .int .u64 ar2, .int .u64 as1, .int .u64 as2, .int .u64 atg, .int .u32 alg, .int .u16 acd, .int .u16 afl, .int .u64 ast, .int .u64 ei1, .int .u64 ei2, .int .u64 ep1, .int .u64 ep2, .int .u64 eq1, .int .u64 eq2, .int .u64 er1, .int .u64 er2, .int .u64 es1, .int .u64 es2, .int .u64 etg, .int .u32 elg, .int .u16 ecd, .int .u16 efl, .int .u64 est, .bool hd, .bool hc] := by
    refine Blk.kept ?_ hb_1
    (repeat (first | with_reducible assumption | (with_reducible refine Blk.new' ?_; first | with_reducible rfl | (simp; done)) | with_reducible refine Blk.alloc ?_ _ | with_reducible refine Blk.grow ?_ _ | with_reducible refine Blk.drew ?_ | with_reducible refine Blk.drewN ?_ _ | (with_reducible refine Blk.far ?_ (by first | (dsimp only; omega) | (simp; omega)) _) | (with_reducible apply Blk.two) | (with_reducible refine Blk.set' ?_ _ _ ?_) | (with_reducible rfl) | rfl))
  clear hb0 hb_1
  have f_x := g_x
  clear g_x
  have f_n := g_n
  clear g_n
  have f_p := g_p
  clear g_p
  have r_x := rowAt_blk f_x
  have x_l := f_x.lt
  replace f_x := Lib.hid f_x
  have n_0 : w_1.cell? ⟨w.heap.size + 1, 0, none⟩ = some (.int .u64 n1) := (f_n).cell 0
  have n_1 : w_1.cell? ⟨w.heap.size + 1, 1, none⟩ = some (.int .u64 n2) := (f_n).cell 1
  have n_f0 := (f_n).frozen 0
  have n_f1 := (f_n).frozen 1
  have n_l := (f_n).lt
  replace f_n := Lib.hid f_n
  have r_p := rowAt_blk f_p
  have p_l := f_p.lt
  replace f_p := Lib.hid f_p
  replace hB_1 := Lib.hid hB_1
  go_wp2_with fail
  refine (HCr.out _).mono ?_
  rintro e w_2 ⟨rfl, hb_2⟩
  have z_2 := hb_2.size
  try simp at z_2
  have t_ := hB_1.out
  have hB_2 := bel_eld (w := w) (X := _) (by first | ((repeat (first | with_reducible exact Below.refl _ _ | with_reducible assumption | (with_reducible refine bel_set ?_ (by first | exact Nat.le_refl _ | (simp; done) | (simp; omega) | omega) _) | with_reducible refine bel_grow ?_ _ | with_reducible refine Below.drew ?_ | with_reducible refine below_drewN ?_ _ | with_reducible refine bel_alloc ?_ _ | with_reducible refine bel_trans ?_ (by assumption))); done) | (repeat (first | exact Below.refl _ _ | assumption | refine below_drewN ?_ _ | refine bel_grow ?_ _ | refine Below.drew ?_ | refine bel_alloc ?_ _ | refine bel_set ?_ (by first | exact Nat.le_refl _ | (simp; done) | (simp; omega) | omega) _ | refine bel_trans ?_ (by assumption)))) hb_2
  clear t_
  have t_x := f_x.out
  have t_n := f_n.out
  have t_p := f_p.out
  have g_x : Blk w_2 (w.heap.size) 28 #[.int .u64 xi1, .int .u64 xi2, .int .u64 xd1, .int .u64 xd2, .int .u64 xc1, .int .u64 xc2, .int .u64 xm1, .int .u64 xm2, .int .u64 xw1, .int .u64 xw2, .int .u64 xtg, .int .u32 xto, .int .u32 xlg, .int .u16 xcd, .int .u16 xfl, .int .u64 xst] := by
    refine Blk.kept ?_ hb_2
    (repeat (first | with_reducible assumption | (with_reducible refine Blk.new' ?_; first | with_reducible rfl | (simp; done)) | with_reducible refine Blk.alloc ?_ _ | with_reducible refine Blk.grow ?_ _ | with_reducible refine Blk.drew ?_ | with_reducible refine Blk.drewN ?_ _ | (with_reducible refine Blk.far ?_ (by first | (dsimp only; omega) | (simp; omega)) _) | (with_reducible apply Blk.two) | (with_reducible refine Blk.set' ?_ _ _ ?_) | (with_reducible rfl) | rfl))
  have g_n : Blk w_2 (w.heap.size + 1) 24 #[.int .u64 n1, .int .u64 n2] := by
    refine Blk.kept ?_ hb_2
    (repeat (first | with_reducible assumption | (with_reducible refine Blk.new' ?_; first | with_reducible rfl | (simp; done)) | with_reducible refine Blk.alloc ?_ _ | with_reducible refine Blk.grow ?_ _ | with_reducible refine Blk.drew ?_ | with_reducible refine Blk.drewN ?_ _ | (with_reducible refine Blk.far ?_ (by first | (dsimp only; omega) | (simp; omega)) _) | (with_reducible apply Blk.two) | (with_reducible refine Blk.set' ?_ _ _ ?_) | (with_reducible rfl) | rfl))
  have g_p : Blk w_2 (w.heap.size + 2) 32 #[.int .u64 ai1, .int .u64 ai2, .int .u64 ap1, .int .u64 ap2, .int .u64 aq1, .int .u64 aq2, .int .u64 ar1, .int .u64 ar2, .int .u64 as1, .int .u64 as2, .int .u64 atg, .int .u32 alg, .int .u16 acd, .int .u16 afl, .int .u64 ast, .int .u64 ei1, .int .u64 ei2, .int .u64 ep1, .int .u64 ep2, .int .u64 eq1, .int .u64 eq2, .int .u64 er1, .int .u64 er2, .int .u64 es1, .int .u64 es2, .int .u64 etg, .int .u32 elg, .int .u16 ecd, .int .u16 efl, .int .u64 est, .bool hd, .bool hc] := by
    refine Blk.kept ?_ hb_2
    (repeat (first | with_reducible assumption | (with_reducible refine Blk.new' ?_; first | with_reducible rfl | (simp; done)) | with_reducible refine Blk.alloc ?_ _ | with_reducible refine Blk.grow ?_ _ | with_reducible refine Blk.drew ?_ | with_reducible refine Blk.drewN ?_ _ | (with_reducible refine Blk.far ?_ (by first | (dsimp only; omega) | (simp; omega)) _) | (with_reducible apply Blk.two) | (with_reducible refine Blk.set' ?_ _ _ ?_) | (with_reducible rfl) | rfl))
  clear f_x x_l r_x f_n n_l n_0 n_1 n_f0 n_f1 f_p p_l r_p t_x t_n t_p hB_1 hb_2
  have f_x := g_x
  clear g_x
  have f_n := g_n
  clear g_n
  have f_p := g_p
  clear g_p
  have r_x := rowAt_blk f_x
  have x_l := f_x.lt
  replace f_x := Lib.hid f_x
  have n_0 : w_2.cell? ⟨w.heap.size + 1, 0, none⟩ = some (.int .u64 n1) := (f_n).cell 0
  have n_1 : w_2.cell? ⟨w.heap.size + 1, 1, none⟩ = some (.int .u64 n2) := (f_n).cell 1
  have n_f0 := (f_n).frozen 0
  have n_f1 := (f_n).frozen 1
  have n_l := (f_n).lt
  replace f_n := Lib.hid f_n
  have r_p := rowAt_blk f_p
  have p_l := f_p.lt
  replace f_p := Lib.hid f_p
  replace hB_2 := Lib.hid hB_2
  have x14 : w_2.cell? ⟨w.heap.size, 14, none⟩ = some (.int .u16 xfl) := f_x.out.cell 14
  go_wp2_with fail
  refine (HTd.out _).mono ?_
  rintro e w_3 ⟨rfl, hb_3⟩
  have z_3 := hb_3.size
  try simp at z_3
  have t_ := hB_2.out
  have hB_3 := bel_eld (w := w) (X := _) (by first | ((repeat (first | with_reducible exact Below.refl _ _ | with_reducible assumption | (with_reducible refine bel_set ?_ (by first | exact Nat.le_refl _ | (simp; done) | (simp; omega) | omega) _) | with_reducible refine bel_grow ?_ _ | with_reducible refine Below.drew ?_ | with_reducible refine below_drewN ?_ _ | with_reducible refine bel_alloc ?_ _ | with_reducible refine bel_trans ?_ (by assumption))); done) | (repeat (first | exact Below.refl _ _ | assumption | refine below_drewN ?_ _ | refine bel_grow ?_ _ | refine Below.drew ?_ | refine bel_alloc ?_ _ | refine bel_set ?_ (by first | exact Nat.le_refl _ | (simp; done) | (simp; omega) | omega) _ | refine bel_trans ?_ (by assumption)))) hb_3
  clear t_
  have t_x := f_x.out
  have t_n := f_n.out
  have t_p := f_p.out
  have g_x : Blk w_3 (w.heap.size) 28 #[.int .u64 xi1, .int .u64 xi2, .int .u64 xd1, .int .u64 xd2, .int .u64 xc1, .int .u64 xc2, .int .u64 xm1, .int .u64 xm2, .int .u64 xw1, .int .u64 xw2, .int .u64 xtg, .int .u32 xto, .int .u32 xlg, .int .u16 xcd, .int .u16 xfl, .int .u64 xst] := by
    refine Blk.kept ?_ hb_3
    (repeat (first | with_reducible assumption | (with_reducible refine Blk.new' ?_; first | with_reducible rfl | (simp; done)) | with_reducible refine Blk.alloc ?_ _ | with_reducible refine Blk.grow ?_ _ | with_reducible refine Blk.drew ?_ | with_reducible refine Blk.drewN ?_ _ | (with_reducible refine Blk.far ?_ (by first | (dsimp only; omega) | (simp; omega)) _) | (with_reducible apply Blk.two) | (with_reducible refine Blk.set' ?_ _ _ ?_) | (with_reducible rfl) | rfl))
  have g_n : Blk w_3 (w.heap.size + 1) 24 #[.int .u64 n1, .int .u64 n2] := by
    refine Blk.kept ?_ hb_3
    (repeat (first | with_reducible assumption | (with_reducible refine Blk.new' ?_; first | with_reducible rfl | (simp; done)) | with_reducible refine Blk.alloc ?_ _ | with_reducible refine Blk.grow ?_ _ | with_reducible refine Blk.drew ?_ | with_reducible refine Blk.drewN ?_ _ | (with_reducible refine Blk.far ?_ (by first | (dsimp only; omega) | (simp; omega)) _) | (with_reducible apply Blk.two) | (with_reducible refine Blk.set' ?_ _ _ ?_) | (with_reducible rfl) | rfl))
  have g_p : Blk w_3 (w.heap.size + 2) 32 #[.int .u64 ai1, .int .u64 ai2, .int .u64 ap1, .int .u64 ap2, .int .u64 aq1, .int .u64 aq2, .int .u64 ar1, .int .u64 ar2, .int .u64 as1, .int .u64 as2, .int .u64 atg, .int .u32 alg, .int .u16 acd, .int .u16 afl, .int .u64 ast, .int .u64 ei1, .int .u64 ei2, .int .u64 ep1, .int .u64 ep2, .int .u64 eq1, .int .u64 eq2, .int .u64 er1, .int .u64 er2, .int .u64 es1, .int .u64 es2, .int .u64 etg, .int .u32 elg, .int .u16 ecd, .int .u16 efl, .int .u64 est, .bool hd, .bool hc] := by
    refine Blk.kept ?_ hb_3
    (repeat (first | with_reducible assumption | (with_reducible refine Blk.new' ?_; first | with_reducible rfl | (simp; done)) | with_reducible refine Blk.alloc ?_ _ | with_reducible refine Blk.grow ?_ _ | with_reducible refine Blk.drew ?_ | with_reducible refine Blk.drewN ?_ _ | (with_reducible refine Blk.far ?_ (by first | (dsimp only; omega) | (simp; omega)) _) | (with_reducible apply Blk.two) | (with_reducible refine Blk.set' ?_ _ _ ?_) | (with_reducible rfl) | rfl))
  have g_d : Blk w_3 (w_2.heap.size) 76 #[.func (.func 73) #[] #[], .func (.func 74) #[] #[], .func (.func 75) #[] #[]] := by
    refine Blk.kept ?_ hb_3
    (repeat (first | with_reducible assumption | (with_reducible refine Blk.new' ?_; first | with_reducible rfl | (simp; done)) | with_reducible refine Blk.alloc ?_ _ | with_reducible refine Blk.grow ?_ _ | with_reducible refine Blk.drew ?_ | with_reducible refine Blk.drewN ?_ _ | (with_reducible refine Blk.far ?_ (by first | (dsimp only; omega) | (simp; omega)) _) | (with_reducible apply Blk.two) | (with_reducible refine Blk.set' ?_ _ _ ?_) | (with_reducible rfl) | rfl))
  have g_c : Blk w_3 (w_2.heap.size + 1) 76 #[.func (.func 76) #[] #[], .func (.func 75) #[] #[], .func (.func 74) #[] #[]] := by
    refine Blk.kept ?_ hb_3
    (repeat (first | with_reducible assumption | (with_reducible refine Blk.new' ?_; first | with_reducible rfl | (simp; done)) | with_reducible refine Blk.alloc ?_ _ | with_reducible refine Blk.grow ?_ _ | with_reducible refine Blk.drew ?_ | with_reducible refine Blk.drewN ?_ _ | (with_reducible refine Blk.far ?_ (by first | (dsimp only; omega) | (simp; omega)) _) | (with_reducible apply Blk.two) | (with_reducible refine Blk.set' ?_ _ _ ?_) | (with_reducible rfl) | rfl))
  clear f_x x_l r_x f_n n_l n_0 n_1 n_f0 n_f1 f_p p_l r_p t_x t_n t_p hB_2 hb_3
  have f_x := g_x
  clear g_x
  have f_n := g_n
  clear g_n
  have f_p := g_p
  clear g_p
  have f_d := g_d
  clear g_d
  have f_c := g_c
  clear g_c
  have r_x := rowAt_blk f_x
  have x_l := f_x.lt
  replace f_x := Lib.hid f_x
  have n_0 : w_3.cell? ⟨w.heap.size + 1, 0, none⟩ = some (.int .u64 n1) := (f_n).cell 0
  have n_1 : w_3.cell? ⟨w.heap.size + 1, 1, none⟩ = some (.int .u64 n2) := (f_n).cell 1
  have n_f0 := (f_n).frozen 0
  have n_f1 := (f_n).frozen 1
  have n_l := (f_n).lt
  replace f_n := Lib.hid f_n
  have r_p := rowAt_blk f_p
  have p_l := f_p.lt
  replace f_p := Lib.hid f_p
  have r_d := rowAt_blk f_d
  have d_l := f_d.lt
  replace f_d := Lib.hid f_d
  have r_c := rowAt_blk f_c
  have c_l := f_c.lt
  replace f_c := Lib.hid f_c
  replace hB_3 := Lib.hid hB_3
  clear x14
  go_wp2_with fail
  refine (HTc.out _).mono ?_
  rintro e w_4 ⟨rfl, hb_4⟩
  have z_4 := hb_4.size
  try simp at z_4
  have t_ := hB_3.out
  have hB_4 := bel_eld (w := w) (X := _) (by first | ((repeat (first | with_reducible exact Below.refl _ _ | with_reducible assumption | (with_reducible refine bel_set ?_ (by first | exact Nat.le_refl _ | (simp; done) | (simp; omega) | omega) _) | with_reducible refine bel_grow ?_ _ | with_reducible refine Below.drew ?_ | with_reducible refine below_drewN ?_ _ | with_reducible refine bel_alloc ?_ _ | with_reducible refine bel_trans ?_ (by assumption))); done) | (repeat (first | exact Below.refl _ _ | assumption | refine below_drewN ?_ _ | refine bel_grow ?_ _ | refine Below.drew ?_ | refine bel_alloc ?_ _ | refine bel_set ?_ (by first | exact Nat.le_refl _ | (simp; done) | (simp; omega) | omega) _ | refine bel_trans ?_ (by assumption)))) hb_4
  clear t_
  have t_x := f_x.out
  have t_n := f_n.out
  have t_p := f_p.out
  have t_d := f_d.out
  have t_c := f_c.out
  have g_x : Blk w_4 (w.heap.size) 28 #[.int .u64 xi1, .int .u64 xi2, .int .u64 xd1, .int .u64 xd2, .int .u64 xc1, .int .u64 xc2, .int .u64 xm1, .int .u64 xm2, .int .u64 xw1, .int .u64 xw2, .int .u64 xtg, .int .u32 xto, .int .u32 xlg, .int .u16 xcd, .int .u16 xfl, .int .u64 xst] := by
    refine Blk.kept ?_ hb_4
    (repeat (first | with_reducible assumption | (with_reducible refine Blk.new' ?_; first | with_reducible rfl | (simp; done)) | with_reducible refine Blk.alloc ?_ _ | with_reducible refine Blk.grow ?_ _ | with_reducible refine Blk.drew ?_ | with_reducible refine Blk.drewN ?_ _ | (with_reducible refine Blk.far ?_ (by first | (dsimp only; omega) | (simp; omega)) _) | (with_reducible apply Blk.two) | (with_reducible refine Blk.set' ?_ _ _ ?_) | (with_reducible rfl) | rfl))
  have g_n : Blk w_4 (w.heap.size + 1) 24 #[.int .u64 n1, .int .u64 n2] := by
    refine Blk.kept ?_ hb_4
    (repeat (first | with_reducible assumption | (with_reducible refine Blk.new' ?_; first | with_reducible rfl | (simp; done)) | with_reducible refine Blk.alloc ?_ _ | with_reducible refine Blk.grow ?_ _ | with_reducible refine Blk.drew ?_ | with_reducible refine Blk.drewN ?_ _ | (with_reducible refine Blk.far ?_ (by first | (dsimp only; omega) | (simp; omega)) _) | (with_reducible apply Blk.two) | (with_reducible refine Blk.set' ?_ _ _ ?_) | (with_reducible rfl) | rfl))
  have g_p : Blk w_4 (w.heap.size + 2) 32 #[.int .u64 ai1, .int .u64 ai2, .int .u64 ap1, .int .u64 ap2, .int .u64 aq1, .int .u64 aq2, .int .u64 ar1, .int .u64 ar2, .int .u64 as1, .int .u64 as2, .int .u64 atg, .int .u32 alg, .int .u16 acd, .int .u16 afl, .int .u64 ast, .int .u64 ei1, .int .u64 ei2, .int .u64 ep1, .int .u64 ep2, .int .u64 eq1, .int .u64 eq2, .int .u64 er1, .int .u64 er2, .int .u64 es1, .int .u64 es2, .int .u64 etg, .int .u32 elg, .int .u16 ecd, .int .u16 efl, .int .u64 est, .bool hd, .bool hc] := by
    refine Blk.kept ?_ hb_4
    (repeat (first | with_reducible assumption | (with_reducible refine Blk.new' ?_; first | with_reducible rfl | (simp; done)) | with_reducible refine Blk.alloc ?_ _ | with_reducible refine Blk.grow ?_ _ | with_reducible refine Blk.drew ?_ | with_reducible refine Blk.drewN ?_ _ | (with_reducible refine Blk.far ?_ (by first | (dsimp only; omega) | (simp; omega)) _) | (with_reducible apply Blk.two) | (with_reducible refine Blk.set' ?_ _ _ ?_) | (with_reducible rfl) | rfl))
  have g_d : Blk w_4 (w_2.heap.size) 76 #[.func (.func 73) #[] #[], .func (.func 74) #[] #[], .func (.func 75) #[] #[]] := by
    refine Blk.kept ?_ hb_4
    (repeat (first | with_reducible assumption | (with_reducible refine Blk.new' ?_; first | with_reducible rfl | (simp; done)) | with_reducible refine Blk.alloc ?_ _ | with_reducible refine Blk.grow ?_ _ | with_reducible refine Blk.drew ?_ | with_reducible refine Blk.drewN ?_ _ | (with_reducible refine Blk.far ?_ (by first | (dsimp only; omega) | (simp; omega)) _) | (with_reducible apply Blk.two) | (with_reducible refine Blk.set' ?_ _ _ ?_) | (with_reducible rfl) | rfl))
  have g_c : Blk w_4 (w_2.heap.size + 1) 76 #[.func (.func 76) #[] #[], .func (.func 75) #[] #[], .func (.func 74) #[] #[]] := by
    refine Blk.kept ?_ hb_4
    (repeat (first | with_reducible assumption | (with_reducible refine Blk.new' ?_; first | with_reducible rfl | (simp; done)) | with_reducible refine Blk.alloc ?_ _ | with_reducible refine Blk.grow ?_ _ | with_reducible refine Blk.drew ?_ | with_reducible refine Blk.drewN ?_ _ | (with_reducible refine Blk.far ?_ (by first | (dsimp only; omega) | (simp; omega)) _) | (with_reducible apply Blk.two) | (with_reducible refine Blk.set' ?_ _ _ ?_) | (with_reducible rfl) | rfl))
  have g_g : Blk w_4 (w_3.heap.size) 24 #[.int .u64 dh, .int .u64 dl] := by
    refine Blk.kept ?_ hb_4
    (repeat (first | with_reducible assumption | (with_reducible refine Blk.new' ?_; first | with_reducible rfl | (simp; done)) | with_reducible refine Blk.alloc ?_ _ | with_reducible refine Blk.grow ?_ _ | with_reducible refine Blk.drew ?_ | with_reducible refine Blk.drewN ?_ _ | (with_reducible refine Blk.far ?_ (by first | (dsimp only; omega) | (simp; omega)) _) | (with_reducible apply Blk.two) | (with_reducible refine Blk.set' ?_ _ _ ?_) | (with_reducible rfl) | rfl))
  clear f_x x_l r_x f_n n_l n_0 n_1 n_f0 n_f1 f_p p_l r_p f_d d_l r_d f_c c_l r_c t_x t_n t_p t_d t_c hB_3 hb_4
  have f_x := g_x
  clear g_x
  have f_n := g_n
  clear g_n
  have f_p := g_p
  clear g_p
  have f_d := g_d
  clear g_d
  have f_c := g_c
  clear g_c
  have f_g := g_g
  clear g_g
  have r_x := rowAt_blk f_x
  have x_l := f_x.lt
  replace f_x := Lib.hid f_x
  have n_0 : w_4.cell? ⟨w.heap.size + 1, 0, none⟩ = some (.int .u64 n1) := (f_n).cell 0
  have n_1 : w_4.cell? ⟨w.heap.size + 1, 1, none⟩ = some (.int .u64 n2) := (f_n).cell 1
  have n_f0 := (f_n).frozen 0
  have n_f1 := (f_n).frozen 1
  have n_l := (f_n).lt
  replace f_n := Lib.hid f_n
  have r_p := rowAt_blk f_p
  have p_l := f_p.lt
  replace f_p := Lib.hid f_p
  have r_d := rowAt_blk f_d
  have d_l := f_d.lt
  replace f_d := Lib.hid f_d
  have r_c := rowAt_blk f_c
  have c_l := f_c.lt
  replace f_c := Lib.hid f_c
  have g_0 : w_4.cell? ⟨w_3.heap.size, 0, none⟩ = some (.int .u64 dh) := (f_g).cell 0
  have g_1 : w_4.cell? ⟨w_3.heap.size, 1, none⟩ = some (.int .u64 dl) := (f_g).cell 1
  have g_f0 := (f_g).frozen 0
  have g_f1 := (f_g).frozen 1
  have g_l := (f_g).lt
  replace f_g := Lib.hid f_g
  replace hB_4 := Lib.hid hB_4
  go_upto_region 7 with fail
  refine abs_wp (fun Y_ => Below w.heap.size w Y_ ∧ Blk Y_ (w.heap.size) 28 #[.int .u64 xi1, .int .u64 xi2, .int .u64 xd1, .int .u64 xd2, .int .u64 xc1, .int .u64 xc2, .int .u64 xm1, .int .u64 xm2, .int .u64 xw1, .int .u64 xw2, .int .u64 xtg, .int .u32 xto, .int .u32 xlg, .int .u16 xcd, .int .u16 xfl, .int .u64 xst] ∧ Blk Y_ (w.heap.size + 1) 24 #[.int .u64 n1, .int .u64 n2] ∧ Blk Y_ (w.heap.size + 2) 32 #[.int .u64 ai1, .int .u64 ai2, .int .u64 ap1, .int .u64 ap2, .int .u64 aq1, .int .u64 aq2, .int .u64 ar1, .int .u64 ar2, .int .u64 as1, .int .u64 as2, .int .u64 atg, .int .u32 alg, .int .u16 acd, .int .u16 afl, .int .u64 ast, .int .u64 ei1, .int .u64 ei2, .int .u64 ep1, .int .u64 ep2, .int .u64 eq1, .int .u64 eq2, .int .u64 er1, .int .u64 er2, .int .u64 es1, .int .u64 es2, .int .u64 etg, .int .u32 elg, .int .u16 ecd, .int .u16 efl, .int .u64 est, .bool hd, .bool hc] ∧ Blk Y_ (w_2.heap.size) 76 #[.func (.func 73) #[] #[], .func (.func 74) #[] #[], .func (.func 75) #[] #[]] ∧ Blk Y_ (w_2.heap.size + 1) 76 #[.func (.func 76) #[] #[], .func (.func 75) #[] #[], .func (.func 74) #[] #[]] ∧ Blk Y_ (w_3.heap.size) 24 #[.int .u64 dh, .int .u64 dl] ∧ Blk Y_ (w_4.heap.size) 24 #[.int .u64 ch, .int .u64 cl]) ?_ ?_
  · have t_B := hB_4.out
    have t_x := f_x.out
    have t_n := f_n.out
    have t_p := f_p.out
    have t_d := f_d.out
    have t_c := f_c.out
    have t_g := f_g.out
    refine ⟨by (repeat (first | with_reducible exact Below.refl _ _ | with_reducible assumption | (with_reducible refine bel_set ?_ (by first | exact Nat.le_refl _ | (simp; done) | (simp; omega) | omega) _) | with_reducible refine bel_grow ?_ _ | with_reducible refine Below.drew ?_ | with_reducible refine bel_alloc ?_ _ | with_reducible refine bel_eld ?_ (by assumption))), ?_, ?_, ?_, ?_, ?_, ?_, ?_⟩
    · (repeat (first | with_reducible assumption | (with_reducible refine Blk.new' ?_; first | with_reducible rfl | (simp; done)) | with_reducible refine Blk.alloc ?_ _ | with_reducible refine Blk.grow ?_ _ | with_reducible refine Blk.drew ?_ | with_reducible refine Blk.drewN ?_ _ | (with_reducible refine Blk.far ?_ (by first | (dsimp only; omega) | (simp; omega)) _) | (with_reducible apply Blk.two) | (with_reducible refine Blk.kept ?_ (by assumption)) | (with_reducible refine Blk.setRow ?_ (by first | rfl | (simp; done))) | (with_reducible refine Blk.setRow_far ?_ (by first | omega | (simp; omega)) _) | (with_reducible refine Blk.set' ?_ _ _ (by first | rfl | (simp; done)))))
    · (repeat (first | with_reducible assumption | (with_reducible refine Blk.new' ?_; first | with_reducible rfl | (simp; done)) | with_reducible refine Blk.alloc ?_ _ | with_reducible refine Blk.grow ?_ _ | with_reducible refine Blk.drew ?_ | with_reducible refine Blk.drewN ?_ _ | (with_reducible refine Blk.far ?_ (by first | (dsimp only; omega) | (simp; omega)) _) | (with_reducible apply Blk.two) | (with_reducible refine Blk.kept ?_ (by assumption)) | (with_reducible refine Blk.setRow ?_ (by first | rfl | (simp; done))) | (with_reducible refine Blk.setRow_far ?_ (by first | omega | (simp; omega)) _) | (with_reducible refine Blk.set' ?_ _ _ (by first | rfl | (simp; done)))))
    · (repeat (first | with_reducible assumption | (with_reducible refine Blk.new' ?_; first | with_reducible rfl | (simp; done)) | with_reducible refine Blk.alloc ?_ _ | with_reducible refine Blk.grow ?_ _ | with_reducible refine Blk.drew ?_ | with_reducible refine Blk.drewN ?_ _ | (with_reducible refine Blk.far ?_ (by first | (dsimp only; omega) | (simp; omega)) _) | (with_reducible apply Blk.two) | (with_reducible refine Blk.kept ?_ (by assumption)) | (with_reducible refine Blk.setRow ?_ (by first | rfl | (simp; done))) | (with_reducible refine Blk.setRow_far ?_ (by first | omega | (simp; omega)) _) | (with_reducible refine Blk.set' ?_ _ _ (by first | rfl | (simp; done)))))
    · (repeat (first | with_reducible assumption | (with_reducible refine Blk.new' ?_; first | with_reducible rfl | (simp; done)) | with_reducible refine Blk.alloc ?_ _ | with_reducible refine Blk.grow ?_ _ | with_reducible refine Blk.drew ?_ | with_reducible refine Blk.drewN ?_ _ | (with_reducible refine Blk.far ?_ (by first | (dsimp only; omega) | (simp; omega)) _) | (with_reducible apply Blk.two) | (with_reducible refine Blk.kept ?_ (by assumption)) | (with_reducible refine Blk.setRow ?_ (by first | rfl | (simp; done))) | (with_reducible refine Blk.setRow_far ?_ (by first | omega | (simp; omega)) _) | (with_reducible refine Blk.set' ?_ _ _ (by first | rfl | (simp; done)))))
    · (repeat (first | with_reducible assumption | (with_reducible refine Blk.new' ?_; first | with_reducible rfl | (simp; done)) | with_reducible refine Blk.alloc ?_ _ | with_reducible refine Blk.grow ?_ _ | with_reducible refine Blk.drew ?_ | with_reducible refine Blk.drewN ?_ _ | (with_reducible refine Blk.far ?_ (by first | (dsimp only; omega) | (simp; omega)) _) | (with_reducible apply Blk.two) | (with_reducible refine Blk.kept ?_ (by assumption)) | (with_reducible refine Blk.setRow ?_ (by first | rfl | (simp; done))) | (with_reducible refine Blk.setRow_far ?_ (by first | omega | (simp; omega)) _) | (with_reducible refine Blk.set' ?_ _ _ (by first | rfl | (simp; done)))))
    · (repeat (first | with_reducible assumption | (with_reducible refine Blk.new' ?_; first | with_reducible rfl | (simp; done)) | with_reducible refine Blk.alloc ?_ _ | with_reducible refine Blk.grow ?_ _ | with_reducible refine Blk.drew ?_ | with_reducible refine Blk.drewN ?_ _ | (with_reducible refine Blk.far ?_ (by first | (dsimp only; omega) | (simp; omega)) _) | (with_reducible apply Blk.two) | (with_reducible refine Blk.kept ?_ (by assumption)) | (with_reducible refine Blk.setRow ?_ (by first | rfl | (simp; done))) | (with_reducible refine Blk.setRow_far ?_ (by first | omega | (simp; omega)) _) | (with_reducible refine Blk.set' ?_ _ _ (by first | rfl | (simp; done)))))
    · (repeat (first | with_reducible assumption | (with_reducible refine Blk.new' ?_; first | with_reducible rfl | (simp; done)) | with_reducible refine Blk.alloc ?_ _ | with_reducible refine Blk.grow ?_ _ | with_reducible refine Blk.drew ?_ | with_reducible refine Blk.drewN ?_ _ | (with_reducible refine Blk.far ?_ (by first | (dsimp only; omega) | (simp; omega)) _) | (with_reducible apply Blk.two) | (with_reducible refine Blk.kept ?_ (by assumption)) | (with_reducible refine Blk.setRow ?_ (by first | rfl | (simp; done))) | (with_reducible refine Blk.setRow_far ?_ (by first | omega | (simp; omega)) _) | (with_reducible refine Blk.set' ?_ _ _ (by first | rfl | (simp; done)))))
  clear f_x x_l r_x f_n n_l n_0 n_1 n_f0 n_f1 f_p p_l r_p f_d d_l r_d f_c c_l r_c f_g g_l g_0 g_1 g_f0 g_f1 hB_4
  rintro w5 ⟨hB_5, f_x, f_n, f_p, f_d, f_c, f_g, f_k⟩
  have r_x := rowAt_blk f_x
  have x_l := f_x.lt
  replace f_x := Lib.hid f_x
  have n_0 : w5.cell? ⟨w.heap.size + 1, 0, none⟩ = some (.int .u64 n1) := (f_n).cell 0
  have n_1 : w5.cell? ⟨w.heap.size + 1, 1, none⟩ = some (.int .u64 n2) := (f_n).cell 1
  have n_f0 := (f_n).frozen 0
  have n_f1 := (f_n).frozen 1
  have n_l := (f_n).lt
  replace f_n := Lib.hid f_n
  have r_p := rowAt_blk f_p
  have p_l := f_p.lt
  replace f_p := Lib.hid f_p
  have r_d := rowAt_blk f_d
  have d_l := f_d.lt
  replace f_d := Lib.hid f_d
  have r_c := rowAt_blk f_c
  have c_l := f_c.lt
  replace f_c := Lib.hid f_c
  have g_0 : w5.cell? ⟨w_3.heap.size, 0, none⟩ = some (.int .u64 dh) := (f_g).cell 0
  have g_1 : w5.cell? ⟨w_3.heap.size, 1, none⟩ = some (.int .u64 dl) := (f_g).cell 1
  have g_f0 := (f_g).frozen 0
  have g_f1 := (f_g).frozen 1
  have g_l := (f_g).lt
  replace f_g := Lib.hid f_g
  have k_0 : w5.cell? ⟨w_4.heap.size, 0, none⟩ = some (.int .u64 ch) := (f_k).cell 0
  have k_1 : w5.cell? ⟨w_4.heap.size, 1, none⟩ = some (.int .u64 cl) := (f_k).cell 1
  have k_f0 := (f_k).frozen 0
  have k_f1 := (f_k).frozen 1
  have k_l := (f_k).lt
  replace f_k := Lib.hid f_k
  replace hB_5 := Lib.hid hB_5
  cases o1
  case true =>
    first | (with_reducible refine rgrow2 (by kernel_rfl) (by kernel_rfl) ?_) | (refine rgrow (by kernel_rfl) (by kernel_rfl) ?_)
    repeat (go_big_quiet_step (((first | (go_at_call 41; exact grow_call (HK1.out _)) | (go_at_call 53; exact grow_call (HO1.out _))))))
    refine wpQuiet_nil ?_
    intro dr
    go_wp2_with fail
    go_ret
    exact ⟨rfl, by have t_B := hB_5.out; (repeat (first | with_reducible exact Below.refl _ _ | with_reducible assumption | (with_reducible refine bel_set ?_ (by first | exact Nat.le_refl _ | (simp; done) | (simp; omega) | omega) _) | with_reducible refine bel_grow ?_ _ | with_reducible refine Below.drew ?_ | with_reducible refine bel_alloc ?_ _ | with_reducible refine bel_eld ?_ (by assumption)))⟩
  case false =>
  first | (with_reducible refine rgrow2 (by kernel_rfl) (by kernel_rfl) ?_) | (refine rgrow (by kernel_rfl) (by kernel_rfl) ?_)
  repeat (go_big_quiet_step (((first | (go_at_call 41; exact grow_call (HK1.out _)) | (go_at_call 53; exact grow_call (HO1.out _))))))
  refine wpQuiet_nil ?_
  intro dr
  go_upto_region 9 with fail
  refine abs_wp (fun Y_ => Below w.heap.size w Y_ ∧ Blk Y_ (w.heap.size) 28 #[.int .u64 xi1, .int .u64 xi2, .int .u64 xd1, .int .u64 xd2, .int .u64 xc1, .int .u64 xc2, .int .u64 xm1, .int .u64 xm2, .int .u64 xw1, .int .u64 xw2, .int .u64 xtg, .int .u32 xto, .int .u32 xlg, .int .u16 xcd, .int .u16 xfl, .int .u64 xst] ∧ Blk Y_ (w.heap.size + 1) 24 #[.int .u64 n1, .int .u64 n2] ∧ Blk Y_ (w.heap.size + 2) 32 #[.int .u64 ai1, .int .u64 ai2, .int .u64 ap1, .int .u64 ap2, .int .u64 aq1, .int .u64 aq2, .int .u64 ar1, .int .u64 ar2, .int .u64 as1, .int .u64 as2, .int .u64 atg, .int .u32 alg, .int .u16 acd, .int .u16 afl, .int .u64 ast, .int .u64 ei1, .int .u64 ei2, .int .u64 ep1, .int .u64 ep2, .int .u64 eq1, .int .u64 eq2, .int .u64 er1, .int .u64 er2, .int .u64 es1, .int .u64 es2, .int .u64 etg, .int .u32 elg, .int .u16 ecd, .int .u16 efl, .int .u64 est, .bool hd, .bool hc] ∧ Blk Y_ (w_2.heap.size) 76 #[.func (.func 73) #[] #[], .func (.func 74) #[] #[], .func (.func 75) #[] #[]] ∧ Blk Y_ (w_2.heap.size + 1) 76 #[.func (.func 76) #[] #[], .func (.func 75) #[] #[], .func (.func 74) #[] #[]] ∧ Blk Y_ (w_3.heap.size) 24 #[.int .u64 dh, .int .u64 dl] ∧ Blk Y_ (w_4.heap.size) 24 #[.int .u64 ch, .int .u64 cl]) ?_ ?_
  · have t_B := hB_5.out
    have t_x := f_x.out
    have t_n := f_n.out
    have t_p := f_p.out
    have t_d := f_d.out
    have t_c := f_c.out
    have t_g := f_g.out
    have t_k := f_k.out
    refine ⟨by (repeat (first | with_reducible exact Below.refl _ _ | with_reducible assumption | (with_reducible refine bel_set ?_ (by first | exact Nat.le_refl _ | (simp; done) | (simp; omega) | omega) _) | with_reducible refine bel_grow ?_ _ | with_reducible refine Below.drew ?_ | with_reducible refine bel_alloc ?_ _ | with_reducible refine bel_eld ?_ (by assumption))), ?_, ?_, ?_, ?_, ?_, ?_, ?_⟩
    · (repeat (first | with_reducible assumption | (with_reducible refine Blk.new' ?_; first | with_reducible rfl | (simp; done)) | with_reducible refine Blk.alloc ?_ _ | with_reducible refine Blk.grow ?_ _ | with_reducible refine Blk.drew ?_ | with_reducible refine Blk.drewN ?_ _ | (with_reducible refine Blk.far ?_ (by first | (dsimp only; omega) | (simp; omega)) _) | (with_reducible apply Blk.two) | (with_reducible refine Blk.kept ?_ (by assumption)) | (with_reducible refine Blk.setRow ?_ (by first | rfl | (simp; done))) | (with_reducible refine Blk.setRow_far ?_ (by first | omega | (simp; omega)) _) | (with_reducible refine Blk.set' ?_ _ _ (by first | rfl | (simp; done)))))
    · (repeat (first | with_reducible assumption | (with_reducible refine Blk.new' ?_; first | with_reducible rfl | (simp; done)) | with_reducible refine Blk.alloc ?_ _ | with_reducible refine Blk.grow ?_ _ | with_reducible refine Blk.drew ?_ | with_reducible refine Blk.drewN ?_ _ | (with_reducible refine Blk.far ?_ (by first | (dsimp only; omega) | (simp; omega)) _) | (with_reducible apply Blk.two) | (with_reducible refine Blk.kept ?_ (by assumption)) | (with_reducible refine Blk.setRow ?_ (by first | rfl | (simp; done))) | (with_reducible refine Blk.setRow_far ?_ (by first | omega | (simp; omega)) _) | (with_reducible refine Blk.set' ?_ _ _ (by first | rfl | (simp; done)))))
    · (repeat (first | with_reducible assumption | (with_reducible refine Blk.new' ?_; first | with_reducible rfl | (simp; done)) | with_reducible refine Blk.alloc ?_ _ | with_reducible refine Blk.grow ?_ _ | with_reducible refine Blk.drew ?_ | with_reducible refine Blk.drewN ?_ _ | (with_reducible refine Blk.far ?_ (by first | (dsimp only; omega) | (simp; omega)) _) | (with_reducible apply Blk.two) | (with_reducible refine Blk.kept ?_ (by assumption)) | (with_reducible refine Blk.setRow ?_ (by first | rfl | (simp; done))) | (with_reducible refine Blk.setRow_far ?_ (by first | omega | (simp; omega)) _) | (with_reducible refine Blk.set' ?_ _ _ (by first | rfl | (simp; done)))))
    · (repeat (first | with_reducible assumption | (with_reducible refine Blk.new' ?_; first | with_reducible rfl | (simp; done)) | with_reducible refine Blk.alloc ?_ _ | with_reducible refine Blk.grow ?_ _ | with_reducible refine Blk.drew ?_ | with_reducible refine Blk.drewN ?_ _ | (with_reducible refine Blk.far ?_ (by first | (dsimp only; omega) | (simp; omega)) _) | (with_reducible apply Blk.two) | (with_reducible refine Blk.kept ?_ (by assumption)) | (with_reducible refine Blk.setRow ?_ (by first | rfl | (simp; done))) | (with_reducible refine Blk.setRow_far ?_ (by first | omega | (simp; omega)) _) | (with_reducible refine Blk.set' ?_ _ _ (by first | rfl | (simp; done)))))
    · (repeat (first | with_reducible assumption | (with_reducible refine Blk.new' ?_; first | with_reducible rfl | (simp; done)) | with_reducible refine Blk.alloc ?_ _ | with_reducible refine Blk.grow ?_ _ | with_reducible refine Blk.drew ?_ | with_reducible refine Blk.drewN ?_ _ | (with_reducible refine Blk.far ?_ (by first | (dsimp only; omega) | (simp; omega)) _) | (with_reducible apply Blk.two) | (with_reducible refine Blk.kept ?_ (by assumption)) | (with_reducible refine Blk.setRow ?_ (by first | rfl | (simp; done))) | (with_reducible refine Blk.setRow_far ?_ (by first | omega | (simp; omega)) _) | (with_reducible refine Blk.set' ?_ _ _ (by first | rfl | (simp; done)))))
    · (repeat (first | with_reducible assumption | (with_reducible refine Blk.new' ?_; first | with_reducible rfl | (simp; done)) | with_reducible refine Blk.alloc ?_ _ | with_reducible refine Blk.grow ?_ _ | with_reducible refine Blk.drew ?_ | with_reducible refine Blk.drewN ?_ _ | (with_reducible refine Blk.far ?_ (by first | (dsimp only; omega) | (simp; omega)) _) | (with_reducible apply Blk.two) | (with_reducible refine Blk.kept ?_ (by assumption)) | (with_reducible refine Blk.setRow ?_ (by first | rfl | (simp; done))) | (with_reducible refine Blk.setRow_far ?_ (by first | omega | (simp; omega)) _) | (with_reducible refine Blk.set' ?_ _ _ (by first | rfl | (simp; done)))))
    · (repeat (first | with_reducible assumption | (with_reducible refine Blk.new' ?_; first | with_reducible rfl | (simp; done)) | with_reducible refine Blk.alloc ?_ _ | with_reducible refine Blk.grow ?_ _ | with_reducible refine Blk.drew ?_ | with_reducible refine Blk.drewN ?_ _ | (with_reducible refine Blk.far ?_ (by first | (dsimp only; omega) | (simp; omega)) _) | (with_reducible apply Blk.two) | (with_reducible refine Blk.kept ?_ (by assumption)) | (with_reducible refine Blk.setRow ?_ (by first | rfl | (simp; done))) | (with_reducible refine Blk.setRow_far ?_ (by first | omega | (simp; omega)) _) | (with_reducible refine Blk.set' ?_ _ _ (by first | rfl | (simp; done)))))
  clear f_x x_l r_x f_n n_l n_0 n_1 n_f0 n_f1 f_p p_l r_p f_d d_l r_d f_c c_l r_c f_g g_l g_0 g_1 g_f0 g_f1 f_k k_l k_0 k_1 k_f0 k_f1 hB_5
  rintro w6 ⟨hB_6, f_x, f_n, f_p, f_d, f_c, f_g, f_k⟩
  have r_x := rowAt_blk f_x
  have x_l := f_x.lt
  replace f_x := Lib.hid f_x
  have n_0 : w6.cell? ⟨w.heap.size + 1, 0, none⟩ = some (.int .u64 n1) := (f_n).cell 0
  have n_1 : w6.cell? ⟨w.heap.size + 1, 1, none⟩ = some (.int .u64 n2) := (f_n).cell 1
  have n_f0 := (f_n).frozen 0
  have n_f1 := (f_n).frozen 1
  have n_l := (f_n).lt
  replace f_n := Lib.hid f_n
  have r_p := rowAt_blk f_p
  have p_l := f_p.lt
  replace f_p := Lib.hid f_p
  have r_d := rowAt_blk f_d
  have d_l := f_d.lt
  replace f_d := Lib.hid f_d
  have r_c := rowAt_blk f_c
  have c_l := f_c.lt
  replace f_c := Lib.hid f_c
  have g_0 : w6.cell? ⟨w_3.heap.size, 0, none⟩ = some (.int .u64 dh) := (f_g).cell 0
  have g_1 : w6.cell? ⟨w_3.heap.size, 1, none⟩ = some (.int .u64 dl) := (f_g).cell 1
  have g_f0 := (f_g).frozen 0
  have g_f1 := (f_g).frozen 1
  have g_l := (f_g).lt
  replace f_g := Lib.hid f_g
  have k_0 : w6.cell? ⟨w_4.heap.size, 0, none⟩ = some (.int .u64 ch) := (f_k).cell 0
  have k_1 : w6.cell? ⟨w_4.heap.size, 1, none⟩ = some (.int .u64 cl) := (f_k).cell 1
  have k_f0 := (f_k).frozen 0
  have k_f1 := (f_k).frozen 1
  have k_l := (f_k).lt
  replace f_k := Lib.hid f_k
  replace hB_6 := Lib.hid hB_6
  cases o2
  case true =>
    first | (with_reducible refine rgrow2 (by kernel_rfl) (by kernel_rfl) ?_) | (refine rgrow (by kernel_rfl) (by kernel_rfl) ?_)
    repeat (go_big_quiet_step (((first | (go_at_call 41; exact grow_call (HK2.out _)) | (go_at_call 53; exact grow_call (HO2.out _))))))
    refine wpQuiet_nil ?_
    intro dr
    go_wp2_with fail
    go_ret
    exact ⟨rfl, by have t_B := hB_6.out; (repeat (first | with_reducible exact Below.refl _ _ | with_reducible assumption | (with_reducible refine bel_set ?_ (by first | exact Nat.le_refl _ | (simp; done) | (simp; omega) | omega) _) | with_reducible refine bel_grow ?_ _ | with_reducible refine Below.drew ?_ | with_reducible refine bel_alloc ?_ _ | with_reducible refine bel_eld ?_ (by assumption)))⟩
  case false =>
  first | (with_reducible refine rgrow2 (by kernel_rfl) (by kernel_rfl) ?_) | (refine rgrow (by kernel_rfl) (by kernel_rfl) ?_)
  repeat (go_big_quiet_step (((first | (go_at_call 41; exact grow_call (HK2.out _)) | (go_at_call 53; exact grow_call (HO2.out _))))))
  refine wpQuiet_nil ?_
  intro dr
  clear HTd HTc HO1 HO2 HK1 HK2 HDb HCr
  have ca1 : w6.cell? ⟨w.heap.size + 2, 8, none⟩ = some (.int .u64 as1) := f_p.out.cell 8
  have ca2 : w6.cell? ⟨w.heap.size + 2, 9, none⟩ = some (.int .u64 as2) := f_p.out.cell 9
  have ca3 : w6.cell? ⟨w.heap.size + 2, 13, none⟩ = some (.int .u16 afl) := f_p.out.cell 13
  have ce1 : w6.cell? ⟨w.heap.size + 2, 19, none⟩ = some (.int .u64 eq1) := f_p.out.cell 19
  have ce2 : w6.cell? ⟨w.heap.size + 2, 20, none⟩ = some (.int .u64 eq2) := f_p.out.cell 20
  have ce3 : w6.cell? ⟨w.heap.size + 2, 28, none⟩ = some (.int .u16 efl) := f_p.out.cell 28
  cases f1
  case false =>
    go_wp2_with fail
    go_ret
    exact ⟨rfl, by have t_B := hB_6.out; (repeat (first | with_reducible exact Below.refl _ _ | with_reducible assumption | (with_reducible refine bel_set ?_ (by first | exact Nat.le_refl _ | (simp; done) | (simp; omega) | omega) _) | with_reducible refine bel_grow ?_ _ | with_reducible refine Below.drew ?_ | with_reducible refine bel_alloc ?_ _ | with_reducible refine bel_eld ?_ (by assumption)))⟩
  case true =>
  cases f2
  case false =>
    go_wp2_with fail
    go_ret
    exact ⟨rfl, by have t_B := hB_6.out; (repeat (first | with_reducible exact Below.refl _ _ | with_reducible assumption | (with_reducible refine bel_set ?_ (by first | exact Nat.le_refl _ | (simp; done) | (simp; omega) | omega) _) | with_reducible refine bel_grow ?_ _ | with_reducible refine Below.drew ?_ | with_reducible refine bel_alloc ?_ _ | with_reducible refine bel_eld ?_ (by assumption)))⟩
  case true =>
  cases b2
  case true =>
    cases x1
    case true =>
      go_wp2_with (go_at_call 54; first | ((with_reducible refine (grow_call (HC1.out _)).mono ?_); rintro e w8 ⟨rfl, d8, rfl⟩) | ((with_reducible refine (gro (HC1.out _)).mono ?_); rintro e w8 ⟨rfl, d8, rfl⟩))
      go_ret
      exact ⟨rfl, by have t_B := hB_6.out; (repeat (first | with_reducible exact Below.refl _ _ | with_reducible assumption | (with_reducible refine bel_set ?_ (by first | exact Nat.le_refl _ | (simp; done) | (simp; omega) | omega) _) | with_reducible refine bel_grow ?_ _ | with_reducible refine Below.drew ?_ | with_reducible refine bel_alloc ?_ _ | with_reducible refine bel_eld ?_ (by assumption)))⟩
    case false =>
      cases b4
      case true =>
        cases x2
        all_goals (
          go_wp2_with (first | (go_at_call 54; first | ((with_reducible refine (grow_call (HC1.out _)).mono ?_); rintro e w8 ⟨rfl, d8, rfl⟩) | ((with_reducible refine (gro (HC1.out _)).mono ?_); rintro e w8 ⟨rfl, d8, rfl⟩)) | (go_at_call 54; first | ((with_reducible refine (grow_call (HC2.out _)).mono ?_); rintro e w9 ⟨rfl, d9, rfl⟩) | ((with_reducible refine (gro (HC2.out _)).mono ?_); rintro e w9 ⟨rfl, d9, rfl⟩)))
          go_ret
          exact ⟨rfl, by have t_B := hB_6.out; (repeat (first | with_reducible exact Below.refl _ _ | with_reducible assumption | (with_reducible refine bel_set ?_ (by first | exact Nat.le_refl _ | (simp; done) | (simp; omega) | omega) _) | with_reducible refine bel_grow ?_ _ | with_reducible refine Below.drew ?_ | with_reducible refine bel_alloc ?_ _ | with_reducible refine bel_eld ?_ (by assumption)))⟩)
      case false =>
        go_wp2_with (go_at_call 54; first | ((with_reducible refine (grow_call (HC1.out _)).mono ?_); rintro e w8 ⟨rfl, d8, rfl⟩) | ((with_reducible refine (gro (HC1.out _)).mono ?_); rintro e w8 ⟨rfl, d8, rfl⟩))
        go_ret
        exact ⟨rfl, by have t_B := hB_6.out; (repeat (first | with_reducible exact Below.refl _ _ | with_reducible assumption | (with_reducible refine bel_set ?_ (by first | exact Nat.le_refl _ | (simp; done) | (simp; omega) | omega) _) | with_reducible refine bel_grow ?_ _ | with_reducible refine Below.drew ?_ | with_reducible refine bel_alloc ?_ _ | with_reducible refine bel_eld ?_ (by assumption)))⟩
  case false =>
    cases b4
    case true =>
      cases x2
      all_goals (
        go_wp2_with (go_at_call 54; first | ((with_reducible refine (grow_call (HC2.out _)).mono ?_); rintro e w8 ⟨rfl, d8, rfl⟩) | ((with_reducible refine (gro (HC2.out _)).mono ?_); rintro e w8 ⟨rfl, d8, rfl⟩))
        go_ret
        exact ⟨rfl, by have t_B := hB_6.out; (repeat (first | with_reducible exact Below.refl _ _ | with_reducible assumption | (with_reducible refine bel_set ?_ (by first | exact Nat.le_refl _ | (simp; done) | (simp; omega) | omega) _) | with_reducible refine bel_grow ?_ _ | with_reducible refine Below.drew ?_ | with_reducible refine bel_alloc ?_ _ | with_reducible refine bel_eld ?_ (by assumption)))⟩)
    case false =>
      go_wp2_with fail
      go_ret
      exact ⟨rfl, by have t_B := hB_6.out; (repeat (first | with_reducible exact Below.refl _ _ | with_reducible assumption | (with_reducible refine bel_set ?_ (by first | exact Nat.le_refl _ | (simp; done) | (simp; omega) | omega) _) | with_reducible refine bel_grow ?_ _ | with_reducible refine Below.drew ?_ | with_reducible refine bel_alloc ?_ _ | with_reducible refine bel_eld ?_ (by assumption)))⟩
end Go.Proofs.Ytpbnakoimlmhnaa
