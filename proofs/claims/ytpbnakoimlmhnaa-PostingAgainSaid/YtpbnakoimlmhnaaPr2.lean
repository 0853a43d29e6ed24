/-
  PostingAgain, walked.
-/
import Derived.Test.YtpbnakoimlmhnaaBk
import Derived.Test.YtpbnakoimlmhnaaEq
import Derived.Test.YtpbnakoimlmhnaaPc0
import Derived.Deep.DeepCutAuto
import Derived.Deep.RegionHeld
namespace Go.Proofs.Ytpbnakoimlmhnaa
set_option linter.unusedVariables false
set_option linter.unusedSimpArgs false
open Go.RowKit

attribute [local go_sem] loadV_ptr storeV_ptr one_func drew_hs ext_deb ext_cre ext_cols ext_acc
attribute [local go_sem ↓] load_Cols store_Cols load_Transfer store_Transfer load_Parties store_Parties load_Acct store_Acct
attribute [local go_sem] bK_is
attribute [local go_sem ↓] load_Kept store_Kept build_Kept
attribute [local go_sem ↓] run_storeC
set_option maxRecDepth 20000 in
set_option maxHeartbeats 8000000 in
theorem pagain_of (xi1 xi2 xd1 xd2 xc1 xc2 xm1 xm2 xw1 xw2 xtg xto xlg xcd xfl xst n1 n2 fa fb fr tv lm fg qa qb qc qd : Int) (ea : IntKind.u64.wrap lm = lm) (eb : IntKind.u64.wrap fg = fg) (ec : IntKind.u64.wrap (1 + lm) = 1 + lm) (ed : IntKind.u64.wrap (1 + fg) = 1 + fg) (ee : IntKind.u32.wrap (fg.tdiv 2) = fg / 2) (ef : IntKind.u32.wrap (1 + fg / 2) = 1 + fg / 2) (eg : IntKind.u64.wrap (tv.tdiv 2) = tv / 2) (eh : IntKind.u64.wrap (1 + tv / 2) = 1 + tv / 2) (qA : bits .xor .u64 xm2 (1 + lm) = qa) (qB : bits .xor .u64 xtg (1 + fg) = qb) (qC : bits .xor .u32 xto (1 + fg / 2) = qc) (qD : bits .xor .u64 xw1 (1 + tv / 2) = qd)
    (HX : ∀ w, Calls Try.prog 28 #[] w fun r w' => r = .returned (.bool true) ∧ Below w.heap.size w w')
    (HM : ∀ w, Calls Try.prog 30 #[.agg #[.int .u64 xi1, .int .u64 xi2, .int .u64 xd1, .int .u64 xd2, .int .u64 xc1, .int .u64 xc2, .int .u64 xm1, .int .u64 xm2, .int .u64 xw1, .int .u64 xw2, .int .u64 xtg, .int .u32 xto, .int .u32 xlg, .int .u16 xcd, .int .u16 xfl, .int .u64 xst], .agg #[.int .u64 n1, .int .u64 n2], .int .u64 fr] w fun r w' => r = .returned (.agg #[.int .u64 xi1, .int .u64 xi2, .int .u64 xd1, .int .u64 xd2, .int .u64 xc1, .int .u64 xc2, .int .u64 n1, .int .u64 n2, .int .u64 xw1, .int .u64 xw2, .int .u64 xtg, .int .u32 xto, .int .u32 xlg, .int .u16 xcd, .int .u16 xfl, .int .u64 fr, .int .u64 xm1, .int .u64 xm2]) ∧ Below w.heap.size w w')
    (H0 : ∀ w, Calls Try.prog 31 #[.agg #[.int .u64 xi1, .int .u64 xi2, .int .u64 xd1, .int .u64 xd2, .int .u64 xc1, .int .u64 xc2, .int .u64 xm1, .int .u64 xm2, .int .u64 xw1, .int .u64 xw2, .int .u64 xtg, .int .u32 xto, .int .u32 xlg, .int .u16 xcd, .int .u16 xfl, .int .u64 xst], .agg #[.int .u64 xi1, .int .u64 xi2, .int .u64 xd1, .int .u64 xd2, .int .u64 xc1, .int .u64 xc2, .int .u64 n1, .int .u64 n2, .int .u64 xw1, .int .u64 xw2, .int .u64 xtg, .int .u32 xto, .int .u32 xlg, .int .u16 xcd, .int .u16 xfl, .int .u64 fr, .int .u64 xm1, .int .u64 xm2]] w fun r w' => r = .returned (.int .u32 16) ∧ Below w.heap.size w w')
    (HA : ∀ w, Calls Try.prog 31 #[.agg #[.int .u64 xi1, .int .u64 xi2, .int .u64 xd1, .int .u64 xd2, .int .u64 xc1, .int .u64 xc2, .int .u64 xm1, .int .u64 qa, .int .u64 xw1, .int .u64 xw2, .int .u64 xtg, .int .u32 xto, .int .u32 xlg, .int .u16 xcd, .int .u16 xfl, .int .u64 xst], .agg #[.int .u64 xi1, .int .u64 xi2, .int .u64 xd1, .int .u64 xd2, .int .u64 xc1, .int .u64 xc2, .int .u64 n1, .int .u64 n2, .int .u64 xw1, .int .u64 xw2, .int .u64 xtg, .int .u32 xto, .int .u32 xlg, .int .u16 xcd, .int .u16 xfl, .int .u64 fr, .int .u64 xm1, .int .u64 xm2]] w fun r w' => r = .returned (.int .u32 12) ∧ Below w.heap.size w w')
    (HB : ∀ w, Calls Try.prog 31 #[.agg #[.int .u64 xi1, .int .u64 xi2, .int .u64 xd1, .int .u64 xd2, .int .u64 xc1, .int .u64 xc2, .int .u64 xm1, .int .u64 xm2, .int .u64 xw1, .int .u64 xw2, .int .u64 qb, .int .u32 xto, .int .u32 xlg, .int .u16 xcd, .int .u16 xfl, .int .u64 xst], .agg #[.int .u64 xi1, .int .u64 xi2, .int .u64 xd1, .int .u64 xd2, .int .u64 xc1, .int .u64 xc2, .int .u64 n1, .int .u64 n2, .int .u64 xw1, .int .u64 xw2, .int .u64 xtg, .int .u32 xto, .int .u32 xlg, .int .u16 xcd, .int .u16 xfl, .int .u64 fr, .int .u64 xm1, .int .u64 xm2]] w fun r w' => r = .returned (.int .u32 13) ∧ Below w.heap.size w w')
    (HC : ∀ w, Calls Try.prog 31 #[.agg #[.int .u64 xi1, .int .u64 xi2, .int .u64 xd1, .int .u64 xd2, .int .u64 xc1, .int .u64 xc2, .int .u64 xm1, .int .u64 xm2, .int .u64 xw1, .int .u64 xw2, .int .u64 xtg, .int .u32 qc, .int .u32 xlg, .int .u16 xcd, .int .u16 xfl, .int .u64 xst], .agg #[.int .u64 xi1, .int .u64 xi2, .int .u64 xd1, .int .u64 xd2, .int .u64 xc1, .int .u64 xc2, .int .u64 n1, .int .u64 n2, .int .u64 xw1, .int .u64 xw2, .int .u64 xtg, .int .u32 xto, .int .u32 xlg, .int .u16 xcd, .int .u16 xfl, .int .u64 fr, .int .u64 xm1, .int .u64 xm2]] w fun r w' => r = .returned (.int .u32 9) ∧ Below w.heap.size w w')
    (HD : ∀ w, Calls Try.prog 31 #[.agg #[.int .u64 xi1, .int .u64 xi2, .int .u64 xd1, .int .u64 xd2, .int .u64 xc1, .int .u64 xc2, .int .u64 xm1, .int .u64 xm2, .int .u64 qd, .int .u64 xw2, .int .u64 xtg, .int .u32 xto, .int .u32 xlg, .int .u16 xcd, .int .u16 xfl, .int .u64 xst], .agg #[.int .u64 xi1, .int .u64 xi2, .int .u64 xd1, .int .u64 xd2, .int .u64 xc1, .int .u64 xc2, .int .u64 n1, .int .u64 n2, .int .u64 xw1, .int .u64 xw2, .int .u64 xtg, .int .u32 xto, .int .u32 xlg, .int .u16 xcd, .int .u16 xfl, .int .u64 fr, .int .u64 xm1, .int .u64 xm2]] w fun r w' => r = .returned (.int .u32 8) ∧ Below w.heap.size w w')
    (w : World) : Calls Try.prog 11 #[.agg #[.int .u64 xi1, .int .u64 xi2, .int .u64 xd1, .int .u64 xd2, .int .u64 xc1, .int .u64 xc2, .int .u64 xm1, .int .u64 xm2, .int .u64 xw1, .int .u64 xw2, .int .u64 xtg, .int .u32 xto, .int .u32 xlg, .int .u16 xcd, .int .u16 xfl, .int .u64 xst], .agg #[.int .u64 n1, .int .u64 n2], .agg #[.int .u64 fa, .int .u64 fb, .int .u64 fr, .int .u64 tv, .int .u32 lm, .int .u32 fg]] w fun r w' => r = .returned (.bool true) ∧ Below w.heap.size w w' := by
  replace HX := Lib.hid HX
  replace HM := Lib.hid HM
  replace H0 := Lib.hid H0
  replace HA := Lib.hid HA
  replace HB := Lib.hid HB
  replace HC := Lib.hid HC
  replace HD := Lib.hid HD
  have hb0 := Below.refl w.heap.size w
  go_enter Try.func11, Try.ntmps11
  go_upto_region 1 with fail
  replace hb0 := Lib.hid hb0
  refine abs_wp (fun Y_ => Below w.heap.size w Y_ ∧ Blk Y_ (w.heap.size) 28 #[.int .u64 xi1, .int .u64 xi2, .int .u64 xd1, .int .u64 xd2, .int .u64 xc1, .int .u64 xc2, .int .u64 xm1, .int .u64 xm2, .int .u64 xw1, .int .u64 xw2, .int .u64 xtg, .int .u32 xto, .int .u32 xlg, .int .u16 xcd, .int .u16 xfl, .int .u64 xst] ∧ Blk Y_ (w.heap.size + 1) 24 #[.int .u64 n1, .int .u64 n2] ∧ Blk Y_ (w.heap.size + 2) 56 #[.int .u64 fa, .int .u64 fb, .int .u64 fr, .int .u64 tv, .int .u32 lm, .int .u32 fg]) ?_ ?_
  · have t_B := hb0.out
    refine ⟨by (repeat (first | with_reducible exact Below.refl _ _ | with_reducible assumption | (with_reducible refine bel_set ?_ (by first | exact Nat.le_refl _ | (simp; done) | (simp; omega) | omega) _) | with_reducible refine bel_grow ?_ _ | with_reducible refine Below.drew ?_ | with_reducible refine bel_alloc ?_ _ | with_reducible refine bel_eld ?_ (by assumption))), ?_, ?_, ?_⟩
    · (repeat (first | with_reducible assumption | (with_reducible refine Blk.new' ?_; first | with_reducible rfl | (simp; done)) | with_reducible refine Blk.alloc ?_ _ | with_reducible refine Blk.grow ?_ _ | with_reducible refine Blk.drew ?_ | with_reducible refine Blk.drewN ?_ _ | (with_reducible refine Blk.far ?_ (by first | (dsimp only; omega) | (simp; omega)) _) | (with_reducible apply Blk.two) | (with_reducible refine Blk.kept ?_ (by assumption)) | (with_reducible refine Blk.setRow ?_ (by first | rfl | (simp; done))) | (with_reducible refine Blk.setRow_far ?_ (by first | omega | (simp; omega)) _) | (with_reducible refine Blk.set' ?_ _ _ (by first | rfl | (simp; done)))))
    · (repeat (first | with_reducible assumption | (with_reducible refine Blk.new' ?_; first | with_reducible rfl | (simp; done)) | with_reducible refine Blk.alloc ?_ _ | with_reducible refine Blk.grow ?_ _ | with_reducible refine Blk.drew ?_ | with_reducible refine Blk.drewN ?_ _ | (with_reducible refine Blk.far ?_ (by first | (dsimp only; omega) | (simp; omega)) _) | (with_reducible apply Blk.two) | (with_reducible refine Blk.kept ?_ (by assumption)) | (with_reducible refine Blk.setRow ?_ (by first | rfl | (simp; done))) | (with_reducible refine Blk.setRow_far ?_ (by first | omega | (simp; omega)) _) | (with_reducible refine Blk.set' ?_ _ _ (by first | rfl | (simp; done)))))
    · (repeat (first | with_reducible assumption | (with_reducible refine Blk.new' ?_; first | with_reducible rfl | (simp; done)) | with_reducible refine Blk.alloc ?_ _ | with_reducible refine Blk.grow ?_ _ | with_reducible refine Blk.drew ?_ | with_reducible refine Blk.drewN ?_ _ | (with_reducible refine Blk.far ?_ (by first | (dsimp only; omega) | (simp; omega)) _) | (with_reducible apply Blk.two) | (with_reducible refine Blk.kept ?_ (by assumption)) | (with_reducible refine Blk.setRow ?_ (by first | rfl | (simp; done))) | (with_reducible refine Blk.setRow_far ?_ (by first | omega | (simp; omega)) _) | (with_reducible refine Blk.set' ?_ _ _ (by first | rfl | (simp; done)))))
  clear hb0
  rintro X0 ⟨hB_1, f_x, f_n, f_f⟩
  have r_x := rowAt_blk f_x
  have x_l := f_x.lt
  have x_6 : X0.cell? ⟨w.heap.size, 6, none⟩ = some (.int .u64 xm1) := (f_x).cell 6
  have x_f6 := (f_x).frozen 6
  have x_7 : X0.cell? ⟨w.heap.size, 7, none⟩ = some (.int .u64 xm2) := (f_x).cell 7
  have x_f7 := (f_x).frozen 7
  replace f_x := Lib.hid f_x
  have n_0 : X0.cell? ⟨w.heap.size + 1, 0, none⟩ = some (.int .u64 n1) := (f_n).cell 0
  have n_1 : X0.cell? ⟨w.heap.size + 1, 1, none⟩ = some (.int .u64 n2) := (f_n).cell 1
  have n_f0 := (f_n).frozen 0
  have n_f1 := (f_n).frozen 1
  have n_l := (f_n).lt
  replace f_n := Lib.hid f_n
  have f_0 : X0.cell? ⟨w.heap.size + 2, 0, none⟩ = some (.int .u64 fa) := (f_f).cell 0
  have f_1 : X0.cell? ⟨w.heap.size + 2, 1, none⟩ = some (.int .u64 fb) := (f_f).cell 1
  have f_2 : X0.cell? ⟨w.heap.size + 2, 2, none⟩ = some (.int .u64 fr) := (f_f).cell 2
  have f_3 : X0.cell? ⟨w.heap.size + 2, 3, none⟩ = some (.int .u64 tv) := (f_f).cell 3
  have f_4 : X0.cell? ⟨w.heap.size + 2, 4, none⟩ = some (.int .u32 lm) := (f_f).cell 4
  have f_5 : X0.cell? ⟨w.heap.size + 2, 5, none⟩ = some (.int .u32 fg) := (f_f).cell 5
  have f_f0 := (f_f).frozen 0
  have f_f1 := (f_f).frozen 1
  have f_f2 := (f_f).frozen 2
  have f_f3 := (f_f).frozen 3
  have f_f4 := (f_f).frozen 4
  have f_f5 := (f_f).frozen 5
  have f_l := (f_f).lt
  replace f_f := Lib.hid f_f
  replace hB_1 := Lib.hid hB_1
  go_wp2_with fail
  refine (HM.out _).mono ?_
  rintro e w_2 ⟨rfl, hb_2⟩
  have z_2 := hb_2.size
  try simp at z_2
  have t_ := hB_1.out
  have hB_2 := bel_eld (w := w) (X := _) (by first | ((repeat (first | with_reducible exact Below.refl _ _ | with_reducible assumption | (with_reducible refine bel_set ?_ (by first | exact Nat.le_refl _ | (simp; done) | (simp; omega) | omega) _) | with_reducible refine bel_grow ?_ _ | with_reducible refine Below.drew ?_ | with_reducible refine below_drewN ?_ _ | with_reducible refine bel_alloc ?_ _ | with_reducible refine bel_trans ?_ (by assumption))); done) | (repeat (first | exact Below.refl _ _ | assumption | refine below_drewN ?_ _ | refine bel_grow ?_ _ | refine Below.drew ?_ | refine bel_alloc ?_ _ | refine bel_set ?_ (by first | exact Nat.le_refl _ | (simp; done) | (simp; omega) | omega) _ | refine bel_trans ?_ (by assumption)))) hb_2
  clear t_
  have t_x := f_x.out
  have t_n := f_n.out
  have t_f := f_f.out
  have g_x : Blk w_2 (w.heap.size) 28 #[.int .u64 xi1, .int .u64 xi2, .int .u64 xd1, .int .u64 xd2, .int .u64 xc1, .int .u64 xc2, .int .u64 xm1, .int .u64 xm2, .int .u64 xw1, .int .u64 xw2, .int .u64 xtg, .int .u32 xto, .int .u32 xlg, .int .u16 xcd, .int .u16 xfl, .int .u64 xst] := by
    refine Blk.kept ?_ hb_2
    (repeat (first | with_reducible assumption | (with_reducible refine Blk.new' ?_; first | with_reducible rfl | (simp; done)) | with_reducible refine Blk.alloc ?_ _ | with_reducible refine Blk.grow ?_ _ | with_reducible refine Blk.drew ?_ | with_reducible refine Blk.drewN ?_ _ | (with_reducible refine Blk.far ?_ (by first | (dsimp only; omega) | (simp; omega)) _) | (with_reducible apply Blk.two) | (with_reducible refine Blk.set' ?_ _ _ ?_) | (with_reducible rfl) | rfl))
  have g_n : Blk w_2 (w.heap.size + 1) 24 #[.int .u64 n1, .int .u64 n2] := by
    refine Blk.kept ?_ hb_2
    (repeat (first | with_reducible assumption | (with_reducible refine Blk.new' ?_; first | with_reducible rfl | (simp; done)) | with_reducible refine Blk.alloc ?_ _ | with_reducible refine Blk.grow ?_ _ | with_reducible refine Blk.drew ?_ | with_reducible refine Blk.drewN ?_ _ | (with_reducible refine Blk.far ?_ (by first | (dsimp only; omega) | (simp; omega)) _) | (with_reducible apply Blk.two) | (with_reducible refine Blk.set' ?_ _ _ ?_) | (with_reducible rfl) | rfl))
  have g_f : Blk w_2 (w.heap.size + 2) 56 #[.int .u64 fa, .int .u64 fb, .int .u64 fr, .int .u64 tv, .int .u32 lm, .int .u32 fg] := by
    refine Blk.kept ?_ hb_2
    (repeat (first | with_reducible assumption | (with_reducible refine Blk.new' ?_; first | with_reducible rfl | (simp; done)) | with_reducible refine Blk.alloc ?_ _ | with_reducible refine Blk.grow ?_ _ | with_reducible refine Blk.drew ?_ | with_reducible refine Blk.drewN ?_ _ | (with_reducible refine Blk.far ?_ (by first | (dsimp only; omega) | (simp; omega)) _) | (with_reducible apply Blk.two) | (with_reducible refine Blk.set' ?_ _ _ ?_) | (with_reducible rfl) | rfl))
  clear f_x x_l r_x x_6 x_f6 x_7 x_f7 f_n n_l n_0 n_1 n_f0 n_f1 f_f f_l f_0 f_1 f_2 f_3 f_4 f_5 f_f0 f_f1 f_f2 f_f3 f_f4 f_f5 t_x t_n t_f hB_1 hb_2
  have f_x := g_x
  clear g_x
  have f_n := g_n
  clear g_n
  have f_f := g_f
  clear g_f
  have r_x := rowAt_blk f_x
  have x_l := f_x.lt
  have x_6 : w_2.cell? ⟨w.heap.size, 6, none⟩ = some (.int .u64 xm1) := (f_x).cell 6
  have x_f6 := (f_x).frozen 6
  have x_7 : w_2.cell? ⟨w.heap.size, 7, none⟩ = some (.int .u64 xm2) := (f_x).cell 7
  have x_f7 := (f_x).frozen 7
  replace f_x := Lib.hid f_x
  have n_0 : w_2.cell? ⟨w.heap.size + 1, 0, none⟩ = some (.int .u64 n1) := (f_n).cell 0
  have n_1 : w_2.cell? ⟨w.heap.size + 1, 1, none⟩ = some (.int .u64 n2) := (f_n).cell 1
  have n_f0 := (f_n).frozen 0
  have n_f1 := (f_n).frozen 1
  have n_l := (f_n).lt
  replace f_n := Lib.hid f_n
  have f_0 : w_2.cell? ⟨w.heap.size + 2, 0, none⟩ = some (.int .u64 fa) := (f_f).cell 0
  have f_1 : w_2.cell? ⟨w.heap.size + 2, 1, none⟩ = some (.int .u64 fb) := (f_f).cell 1
  have f_2 : w_2.cell? ⟨w.heap.size + 2, 2, none⟩ = some (.int .u64 fr) := (f_f).cell 2
  have f_3 : w_2.cell? ⟨w.heap.size + 2, 3, none⟩ = some (.int .u64 tv) := (f_f).cell 3
  have f_4 : w_2.cell? ⟨w.heap.size + 2, 4, none⟩ = some (.int .u32 lm) := (f_f).cell 4
  have f_5 : w_2.cell? ⟨w.heap.size + 2, 5, none⟩ = some (.int .u32 fg) := (f_f).cell 5
  have f_f0 := (f_f).frozen 0
  have f_f1 := (f_f).frozen 1
  have f_f2 := (f_f).frozen 2
  have f_f3 := (f_f).frozen 3
  have f_f4 := (f_f).frozen 4
  have f_f5 := (f_f).frozen 5
  have f_l := (f_f).lt
  replace f_f := Lib.hid f_f
  replace hB_2 := Lib.hid hB_2
  have zf2 := f_l
  go_upto_region 2 with fail
  refine abs_wp (fun Y_ => Below w.heap.size w Y_ ∧ Blk Y_ (w.heap.size) 28 #[.int .u64 xi1, .int .u64 xi2, .int .u64 xd1, .int .u64 xd2, .int .u64 xc1, .int .u64 xc2, .int .u64 xm1, .int .u64 xm2, .int .u64 xw1, .int .u64 xw2, .int .u64 xtg, .int .u32 xto, .int .u32 xlg, .int .u16 xcd, .int .u16 xfl, .int .u64 xst] ∧ Blk Y_ (w.heap.size + 1) 24 #[.int .u64 n1, .int .u64 n2] ∧ Blk Y_ (w.heap.size + 2) 56 #[.int .u64 fa, .int .u64 fb, .int .u64 fr, .int .u64 tv, .int .u32 lm, .int .u32 fg] ∧ Blk Y_ (w_2.heap.size) 58 #[.int .u64 xi1, .int .u64 xi2, .int .u64 xd1, .int .u64 xd2, .int .u64 xc1, .int .u64 xc2, .int .u64 n1, .int .u64 n2, .int .u64 xw1, .int .u64 xw2, .int .u64 xtg, .int .u32 xto, .int .u32 xlg, .int .u16 xcd, .int .u16 xfl, .int .u64 fr, .int .u64 xm1, .int .u64 xm2]) ?_ ?_
  · have t_B := hB_2.out
    have t_x := f_x.out
    have t_n := f_n.out
    have t_f := f_f.out
    refine ⟨by (repeat (first | with_reducible exact Below.refl _ _ | with_reducible assumption | (with_reducible refine bel_set ?_ (by first | exact Nat.le_refl _ | (simp; done) | (simp; omega) | omega) _) | with_reducible refine bel_grow ?_ _ | with_reducible refine Below.drew ?_ | with_reducible refine bel_alloc ?_ _ | with_reducible refine bel_eld ?_ (by assumption))), ?_, ?_, ?_, ?_⟩
    · (repeat (first | with_reducible assumption | (with_reducible refine Blk.new' ?_; first | with_reducible rfl | (simp; done)) | with_reducible refine Blk.alloc ?_ _ | with_reducible refine Blk.grow ?_ _ | with_reducible refine Blk.drew ?_ | with_reducible refine Blk.drewN ?_ _ | (with_reducible refine Blk.far ?_ (by first | (dsimp only; omega) | (simp; omega)) _) | (with_reducible apply Blk.two) | (with_reducible refine Blk.kept ?_ (by assumption)) | (with_reducible refine Blk.setRow ?_ (by first | rfl | (simp; done))) | (with_reducible refine Blk.setRow_far ?_ (by first | omega | (simp; omega)) _) | (with_reducible refine Blk.set' ?_ _ _ (by first | rfl | (simp; done)))))
    · (repeat (first | with_reducible assumption | (with_reducible refine Blk.new' ?_; first | with_reducible rfl | (simp; done)) | with_reducible refine Blk.alloc ?_ _ | with_reducible refine Blk.grow ?_ _ | with_reducible refine Blk.drew ?_ | with_reducible refine Blk.drewN ?_ _ | (with_reducible refine Blk.far ?_ (by first | (dsimp only; omega) | (simp; omega)) _) | (with_reducible apply Blk.two) | (with_reducible refine Blk.kept ?_ (by assumption)) | (with_reducible refine Blk.setRow ?_ (by first | rfl | (simp; done))) | (with_reducible refine Blk.setRow_far ?_ (by first | omega | (simp; omega)) _) | (with_reducible refine Blk.set' ?_ _ _ (by first | rfl | (simp; done)))))
    · (repeat (first | with_reducible assumption | (with_reducible refine Blk.new' ?_; first | with_reducible rfl | (simp; done)) | with_reducible refine Blk.alloc ?_ _ | with_reducible refine Blk.grow ?_ _ | with_reducible refine Blk.drew ?_ | with_reducible refine Blk.drewN ?_ _ | (with_reducible refine Blk.far ?_ (by first | (dsimp only; omega) | (simp; omega)) _) | (with_reducible apply Blk.two) | (with_reducible refine Blk.kept ?_ (by assumption)) | (with_reducible refine Blk.setRow ?_ (by first | rfl | (simp; done))) | (with_reducible refine Blk.setRow_far ?_ (by first | omega | (simp; omega)) _) | (with_reducible refine Blk.set' ?_ _ _ (by first | rfl | (simp; done)))))
    · (repeat (first | with_reducible assumption | (with_reducible refine Blk.new' ?_; first | with_reducible rfl | (simp; done)) | with_reducible refine Blk.alloc ?_ _ | with_reducible refine Blk.grow ?_ _ | with_reducible refine Blk.drew ?_ | with_reducible refine Blk.drewN ?_ _ | (with_reducible refine Blk.far ?_ (by first | (dsimp only; omega) | (simp; omega)) _) | (with_reducible apply Blk.two) | (with_reducible refine Blk.kept ?_ (by assumption)) | (with_reducible refine Blk.setRow ?_ (by first | rfl | (simp; done))) | (with_reducible refine Blk.setRow_far ?_ (by first | omega | (simp; omega)) _) | (with_reducible refine Blk.set' ?_ _ _ (by first | rfl | (simp; done)))))
  clear f_x x_l r_x x_6 x_f6 x_7 x_f7 f_n n_l n_0 n_1 n_f0 n_f1 f_f f_l f_0 f_1 f_2 f_3 f_4 f_5 f_f0 f_f1 f_f2 f_f3 f_f4 f_f5 hB_2
  rintro X1 ⟨hB_3, f_x, f_n, f_f, f_k⟩
  have r_x := rowAt_blk f_x
  have x_l := f_x.lt
  have x_6 : X1.cell? ⟨w.heap.size, 6, none⟩ = some (.int .u64 xm1) := (f_x).cell 6
  have x_f6 := (f_x).frozen 6
  have x_7 : X1.cell? ⟨w.heap.size, 7, none⟩ = some (.int .u64 xm2) := (f_x).cell 7
  have x_f7 := (f_x).frozen 7
  replace f_x := Lib.hid f_x
  have n_0 : X1.cell? ⟨w.heap.size + 1, 0, none⟩ = some (.int .u64 n1) := (f_n).cell 0
  have n_1 : X1.cell? ⟨w.heap.size + 1, 1, none⟩ = some (.int .u64 n2) := (f_n).cell 1
  have n_f0 := (f_n).frozen 0
  have n_f1 := (f_n).frozen 1
  have n_l := (f_n).lt
  replace f_n := Lib.hid f_n
  have f_0 : X1.cell? ⟨w.heap.size + 2, 0, none⟩ = some (.int .u64 fa) := (f_f).cell 0
  have f_1 : X1.cell? ⟨w.heap.size + 2, 1, none⟩ = some (.int .u64 fb) := (f_f).cell 1
  have f_2 : X1.cell? ⟨w.heap.size + 2, 2, none⟩ = some (.int .u64 fr) := (f_f).cell 2
  have f_3 : X1.cell? ⟨w.heap.size + 2, 3, none⟩ = some (.int .u64 tv) := (f_f).cell 3
  have f_4 : X1.cell? ⟨w.heap.size + 2, 4, none⟩ = some (.int .u32 lm) := (f_f).cell 4
  have f_5 : X1.cell? ⟨w.heap.size + 2, 5, none⟩ = some (.int .u32 fg) := (f_f).cell 5
  have f_f0 := (f_f).frozen 0
  have f_f1 := (f_f).frozen 1
  have f_f2 := (f_f).frozen 2
  have f_f3 := (f_f).frozen 3
  have f_f4 := (f_f).frozen 4
  have f_f5 := (f_f).frozen 5
  have f_l := (f_f).lt
  replace f_f := Lib.hid f_f
  have r_k := rowAt_blk f_k
  have k_l := f_k.lt
  have k_6 : X1.cell? ⟨w_2.heap.size, 6, none⟩ = some (.int .u64 n1) := (f_k).cell 6
  have k_f6 := (f_k).frozen 6
  have k_7 : X1.cell? ⟨w_2.heap.size, 7, none⟩ = some (.int .u64 n2) := (f_k).cell 7
  have k_f7 := (f_k).frozen 7
  have k_15 : X1.cell? ⟨w_2.heap.size, 15, none⟩ = some (.int .u64 fr) := (f_k).cell 15
  have k_f15 := (f_k).frozen 15
  have k_16 : X1.cell? ⟨w_2.heap.size, 16, none⟩ = some (.int .u64 xm1) := (f_k).cell 16
  have k_f16 := (f_k).frozen 16
  have k_17 : X1.cell? ⟨w_2.heap.size, 17, none⟩ = some (.int .u64 xm2) := (f_k).cell 17
  have k_f17 := (f_k).frozen 17
  replace f_k := Lib.hid f_k
  replace hB_3 := Lib.hid hB_3
  go_wp2_with fail
  refine (H0.out _).mono ?_
  rintro e w_4 ⟨rfl, hb_4⟩
  have z_4 := hb_4.size
  try simp at z_4
  have t_ := hB_3.out
  have hB_4 := bel_eld (w := w) (X := _) (by first | ((repeat (first | with_reducible exact Below.refl _ _ | with_reducible assumption | (with_reducible refine bel_set ?_ (by first | exact Nat.le_refl _ | (simp; done) | (simp; omega) | omega) _) | with_reducible refine bel_grow ?_ _ | with_reducible refine Below.drew ?_ | with_reducible refine below_drewN ?_ _ | with_reducible refine bel_alloc ?_ _ | with_reducible refine bel_trans ?_ (by assumption))); done) | (repeat (first | exact Below.refl _ _ | assumption | refine below_drewN ?_ _ | refine bel_grow ?_ _ | refine Below.drew ?_ | refine bel_alloc ?_ _ | refine bel_set ?_ (by first | exact Nat.le_refl _ | (simp; done) | (simp; omega) | omega) _ | refine bel_trans ?_ (by assumption)))) hb_4
  clear t_
  have t_x := f_x.out
  have t_n := f_n.out
  have t_f := f_f.out
  have t_k := f_k.out
  have g_x : Blk w_4 (w.heap.size) 28 #[.int .u64 xi1, .int .u64 xi2, .int .u64 xd1, .int .u64 xd2, .int .u64 xc1, .int .u64 xc2, .int .u64 xm1, .int .u64 xm2, .int .u64 xw1, .int .u64 xw2, .int .u64 xtg, .int .u32 xto, .int .u32 xlg, .int .u16 xcd, .int .u16 xfl, .int .u64 xst] := by
    refine Blk.kept ?_ hb_4
    (repeat (first | with_reducible assumption | (with_reducible refine Blk.new' ?_; first | with_reducible rfl | (simp; done)) | with_reducible refine Blk.alloc ?_ _ | with_reducible refine Blk.grow ?_ _ | with_reducible refine Blk.drew ?_ | with_reducible refine Blk.drewN ?_ _ | (with_reducible refine Blk.far ?_ (by first | (dsimp only; omega) | (simp; omega)) _) | (with_reducible apply Blk.two) | (with_reducible refine Blk.set' ?_ _ _ ?_) | (with_reducible rfl) | rfl))
  have g_n : Blk w_4 (w.heap.size + 1) 24 #[.int .u64 n1, .int .u64 n2] := by
    refine Blk.kept ?_ hb_4
    (repeat (first | with_reducible assumption | (with_reducible refine Blk.new' ?_; first | with_reducible rfl | (simp; done)) | with_reducible refine Blk.alloc ?_ _ | with_reducible refine Blk.grow ?_ _ | with_reducible refine Blk.drew ?_ | with_reducible refine Blk.drewN ?_ _ | (with_reducible refine Blk.far ?_ (by first | (dsimp only; omega) | (simp; omega)) _) | (with_reducible apply Blk.two) | (with_reducible refine Blk.set' ?_ _ _ ?_) | (with_reducible rfl) | rfl))
  have g_f : Blk w_4 (w.heap.size + 2) 56 #[.int .u64 fa, .int .u64 fb, .int .u64 fr, .int .u64 tv, .int .u32 lm, .int .u32 fg] := by
    refine Blk.kept ?_ hb_4
    (repeat (first | with_reducible assumption | (with_reducible refine Blk.new' ?_; first | with_reducible rfl | (simp; done)) | with_reducible refine Blk.alloc ?_ _ | with_reducible refine Blk.grow ?_ _ | with_reducible refine Blk.drew ?_ | with_reducible refine Blk.drewN ?_ _ | (with_reducible refine Blk.far ?_ (by first | (dsimp only; omega) | (simp; omega)) _) | (with_reducible apply Blk.two) | (with_reducible refine Blk.set' ?_ _ _ ?_) | (with_reducible rfl) | rfl))
  have g_k : Blk w_4 (w_2.heap.size) 58 #[.int .u64 xi1, .int .u64 xi2, .int .u64 xd1, .int .u64 xd2, .int .u64 xc1, .int .u64 xc2, .int .u64 n1, .int .u64 n2, .int .u64 xw1, .int .u64 xw2, .int .u64 xtg, .int .u32 xto, .int .u32 xlg, .int .u16 xcd, .int .u16 xfl, .int .u64 fr, .int .u64 xm1, .int .u64 xm2] := by
    refine Blk.kept ?_ hb_4
    (repeat (first | with_reducible assumption | (with_reducible refine Blk.new' ?_; first | with_reducible rfl | (simp; done)) | with_reducible refine Blk.alloc ?_ _ | with_reducible refine Blk.grow ?_ _ | with_reducible refine Blk.drew ?_ | with_reducible refine Blk.drewN ?_ _ | (with_reducible refine Blk.far ?_ (by first | (dsimp only; omega) | (simp; omega)) _) | (with_reducible apply Blk.two) | (with_reducible refine Blk.set' ?_ _ _ ?_) | (with_reducible rfl) | rfl))
  clear f_x x_l r_x x_6 x_f6 x_7 x_f7 f_n n_l n_0 n_1 n_f0 n_f1 f_f f_l f_0 f_1 f_2 f_3 f_4 f_5 f_f0 f_f1 f_f2 f_f3 f_f4 f_f5 f_k k_l r_k k_6 k_f6 k_7 k_f7 k_15 k_f15 k_16 k_f16 k_17 k_f17 t_x t_n t_f t_k hB_3 hb_4
  have f_x := g_x
  clear g_x
  have f_n := g_n
  clear g_n
  have f_f := g_f
  clear g_f
  have f_k := g_k
  clear g_k
  have r_x := rowAt_blk f_x
  have x_l := f_x.lt
  have x_6 : w_4.cell? ⟨w.heap.size, 6, none⟩ = some (.int .u64 xm1) := (f_x).cell 6
  have x_f6 := (f_x).frozen 6
  have x_7 : w_4.cell? ⟨w.heap.size, 7, none⟩ = some (.int .u64 xm2) := (f_x).cell 7
  have x_f7 := (f_x).frozen 7
  replace f_x := Lib.hid f_x
  have n_0 : w_4.cell? ⟨w.heap.size + 1, 0, none⟩ = some (.int .u64 n1) := (f_n).cell 0
  have n_1 : w_4.cell? ⟨w.heap.size + 1, 1, none⟩ = some (.int .u64 n2) := (f_n).cell 1
  have n_f0 := (f_n).frozen 0
  have n_f1 := (f_n).frozen 1
  have n_l := (f_n).lt
  replace f_n := Lib.hid f_n
  have f_0 : w_4.cell? ⟨w.heap.size + 2, 0, none⟩ = some (.int .u64 fa) := (f_f).cell 0
  have f_1 : w_4.cell? ⟨w.heap.size + 2, 1, none⟩ = some (.int .u64 fb) := (f_f).cell 1
  have f_2 : w_4.cell? ⟨w.heap.size + 2, 2, none⟩ = some (.int .u64 fr) := (f_f).cell 2
  have f_3 : w_4.cell? ⟨w.heap.size + 2, 3, none⟩ = some (.int .u64 tv) := (f_f).cell 3
  have f_4 : w_4.cell? ⟨w.heap.size + 2, 4, none⟩ = some (.int .u32 lm) := (f_f).cell 4
  have f_5 : w_4.cell? ⟨w.heap.size + 2, 5, none⟩ = some (.int .u32 fg) := (f_f).cell 5
  have f_f0 := (f_f).frozen 0
  have f_f1 := (f_f).frozen 1
  have f_f2 := (f_f).frozen 2
  have f_f3 := (f_f).frozen 3
  have f_f4 := (f_f).frozen 4
  have f_f5 := (f_f).frozen 5
  have f_l := (f_f).lt
  replace f_f := Lib.hid f_f
  have r_k := rowAt_blk f_k
  have k_l := f_k.lt
  have k_6 : w_4.cell? ⟨w_2.heap.size, 6, none⟩ = some (.int .u64 n1) := (f_k).cell 6
  have k_f6 := (f_k).frozen 6
  have k_7 : w_4.cell? ⟨w_2.heap.size, 7, none⟩ = some (.int .u64 n2) := (f_k).cell 7
  have k_f7 := (f_k).frozen 7
  have k_15 : w_4.cell? ⟨w_2.heap.size, 15, none⟩ = some (.int .u64 fr) := (f_k).cell 15
  have k_f15 := (f_k).frozen 15
  have k_16 : w_4.cell? ⟨w_2.heap.size, 16, none⟩ = some (.int .u64 xm1) := (f_k).cell 16
  have k_f16 := (f_k).frozen 16
  have k_17 : w_4.cell? ⟨w_2.heap.size, 17, none⟩ = some (.int .u64 xm2) := (f_k).cell 17
  have k_f17 := (f_k).frozen 17
  replace f_k := Lib.hid f_k
  replace hB_4 := Lib.hid hB_4
  have zk4 := k_l
  go_upto_region 4 with fail
  go_cut [8, 9, 10, 11] (fun s8 s9 s10 s11 wx => ∃ ga gb gc gd, s8 = .pointer (some ⟨ga, 0, none⟩) ∧ s9 = .pointer (some ⟨gb, 0, none⟩) ∧ s10 = .pointer (some ⟨gc, 0, none⟩) ∧ s11 = .pointer (some ⟨gd, 0, none⟩) ∧ w_4.heap.size ≤ ga ∧ w_4.heap.size ≤ gb ∧ w_4.heap.size ≤ gc ∧ w_4.heap.size ≤ gd ∧ ga ≠ gb ∧ ga ≠ gc ∧ ga ≠ gd ∧ gb ≠ gc ∧ gb ≠ gd ∧ gc ≠ gd ∧ Blk wx ga 28 #[.int .u64 xi1, .int .u64 xi2, .int .u64 xd1, .int .u64 xd2, .int .u64 xc1, .int .u64 xc2, .int .u64 xm1, .int .u64 xm2, .int .u64 xw1, .int .u64 xw2, .int .u64 xtg, .int .u32 xto, .int .u32 xlg, .int .u16 xcd, .int .u16 xfl, .int .u64 xst] ∧ Blk wx gb 28 #[.int .u64 xi1, .int .u64 xi2, .int .u64 xd1, .int .u64 xd2, .int .u64 xc1, .int .u64 xc2, .int .u64 xm1, .int .u64 xm2, .int .u64 xw1, .int .u64 xw2, .int .u64 xtg, .int .u32 xto, .int .u32 xlg, .int .u16 xcd, .int .u16 xfl, .int .u64 xst] ∧ Blk wx gc 28 #[.int .u64 xi1, .int .u64 xi2, .int .u64 xd1, .int .u64 xd2, .int .u64 xc1, .int .u64 xc2, .int .u64 xm1, .int .u64 xm2, .int .u64 xw1, .int .u64 xw2, .int .u64 xtg, .int .u32 xto, .int .u32 xlg, .int .u16 xcd, .int .u16 xfl, .int .u64 xst] ∧ Blk wx gd 28 #[.int .u64 xi1, .int .u64 xi2, .int .u64 xd1, .int .u64 xd2, .int .u64 xc1, .int .u64 xc2, .int .u64 xm1, .int .u64 xm2, .int .u64 xw1, .int .u64 xw2, .int .u64 xtg, .int .u32 xto, .int .u32 xlg, .int .u16 xcd, .int .u16 xfl, .int .u64 xst] ∧ Below w_4.heap.size w_4 wx)
  case first =>
    have r_x' := r_x
    clear r_x r_k x_6 x_f6 x_7 x_f7 k_6 k_f6 k_7 k_f7 k_15 k_f15 k_16 k_f16 k_17 k_f17 n_0 n_1 n_f0 n_f1 n_l f_0 f_f0 f_1 f_f1 f_2 f_f2 f_3 f_f3 f_4 f_f4 f_5 f_f5
    generalize hA : (#[.int .u64 xi1, .int .u64 xi2, .int .u64 xd1, .int .u64 xd2, .int .u64 xc1, .int .u64 xc2, .int .u64 xm1, .int .u64 xm2, .int .u64 xw1, .int .u64 xw2, .int .u64 xtg, .int .u32 xto, .int .u32 xlg, .int .u16 xcd, .int .u16 xfl, .int .u64 xst] : Array Value) = A at r_x' ⊢
    have szA : A.size = 16 := by rw [← hA]; rfl
    have exA : A.extract 0 16 = A := Array.extract_eq_self_of_le (by omega)
    have oA : A.toList.all Value.oneCell' = true := by rw [← hA]; rfl
    replace hA := Lib.hid hA
    (first | (go_region_held (fun w' => rowAt w' w.heap.size = some A)
      (first | ((try go_split_ands); (repeat' apply And.intro) <;> (first | with_reducible assumption | ((repeat (first | with_reducible refine keepd ?_ | with_reducible refine keepdr ?_ | with_reducible refine keepal ?_ | with_reducible refine keepral ?_ | with_reducible refine keeps (by dsimp only; omega) ?_ | with_reducible refine keepr (by dsimp only; omega) ?_ | with_reducible refine keepsr (by omega) ?_ | with_reducible refine keepc (by assumption) ?_ | with_reducible refine keeprc (by assumption) ?_)); with_reducible assumption))))
      (first | fail)) | fail)
    all_goals (
      go_wp2_with fail
      have hA' := hA.out
      subst hA'
      go_meet
      refine ⟨_, _, _, _, rfl, rfl, rfl, rfl, ?_, ?_, ?_, ?_, ?_, ?_, ?_, ?_, ?_, ?_, ?_, ?_, ?_, ?_, ?_⟩
      iterate 10 (· first | exact Nat.le_refl _ | omega | (simp; done) | (simp; omega))
      iterate 4 (· (repeat (first | with_reducible assumption | (with_reducible refine Blk.new' ?_; first | with_reducible rfl | (simp; done)) | with_reducible refine Blk.alloc ?_ _ | with_reducible refine Blk.drew ?_ | with_reducible refine Blk.setRow' ?_ | (with_reducible refine Blk.setRow_far ?_ (by first | omega | (simp; omega)) _))))
      first | ((repeat (first | with_reducible exact Below.refl _ _ | with_reducible assumption | (with_reducible refine bel_set ?_ (by first | exact Nat.le_refl _ | (simp; done) | (simp; omega) | omega) _) | with_reducible refine bel_grow ?_ _ | with_reducible refine Below.drew ?_ | with_reducible refine below_drewN ?_ _ | with_reducible refine bel_alloc ?_ _ | with_reducible refine bel_trans ?_ (by assumption))); done) | ((repeat (first | with_reducible exact Below.refl _ _ | with_reducible assumption | (with_reducible refine bel_set ?_ (by first | exact Nat.le_refl _ | (simp; done) | (simp; omega) | omega) _) | with_reducible refine bel_grow ?_ _ | with_reducible refine Below.drew ?_ | with_reducible refine bel_alloc ?_ _ | with_reducible refine bel_eld ?_ (by assumption)))))
  case rest =>
  obtain ⟨ga, gb, gc, gd, rfl, rfl, rfl, rfl, la, lb, lc, ld, dab, dac, dad, dbc, dbd, dcd, f_a, f_b, f_c, f_d, hw⟩ := hcut
  have g_k := f_k.out.kept hw
  have g_f := f_f.out.kept hw
  have bY := bel_eld hB_4.out hw
  clear f_x f_k f_n f_f x_l k_l n_l f_l r_x r_k hB_4 hw HM H0 x_6 x_f6 x_7 x_f7 k_6 k_f6 k_7 k_f7 k_15 k_f15 k_16 k_f16 k_17 k_f17 n_0 n_1 n_f0 n_f1 f_0 f_f0 f_1 f_f1 f_2 f_f2 f_3 f_f3 f_4 f_f4 f_5 f_f5
  have f_k := g_k
  have f_f := g_f
  clear g_k g_f
  have r_k := rowAt_blk f_k
  have k_l := f_k.lt
  replace f_k := Lib.hid f_k
  have f_0 : wc.cell? ⟨w.heap.size + 2, 0, none⟩ = some (.int .u64 fa) := (f_f).cell 0
  have f_1 : wc.cell? ⟨w.heap.size + 2, 1, none⟩ = some (.int .u64 fb) := (f_f).cell 1
  have f_2 : wc.cell? ⟨w.heap.size + 2, 2, none⟩ = some (.int .u64 fr) := (f_f).cell 2
  have f_3 : wc.cell? ⟨w.heap.size + 2, 3, none⟩ = some (.int .u64 tv) := (f_f).cell 3
  have f_4 : wc.cell? ⟨w.heap.size + 2, 4, none⟩ = some (.int .u32 lm) := (f_f).cell 4
  have f_5 : wc.cell? ⟨w.heap.size + 2, 5, none⟩ = some (.int .u32 fg) := (f_f).cell 5
  have f_f0 := (f_f).frozen 0
  have f_f1 := (f_f).frozen 1
  have f_f2 := (f_f).frozen 2
  have f_f3 := (f_f).frozen 3
  have f_f4 := (f_f).frozen 4
  have f_f5 := (f_f).frozen 5
  have f_l := (f_f).lt
  replace f_f := Lib.hid f_f
  have r_a := rowAt_blk f_a
  have a_l := f_a.lt
  have a_7 : wc.cell? ⟨ga, 7, none⟩ = some (.int .u64 xm2) := (f_a).cell 7
  have a_f7 := (f_a).frozen 7
  replace f_a := Lib.hid f_a
  have r_b := rowAt_blk f_b
  have b_l := f_b.lt
  have b_10 : wc.cell? ⟨gb, 10, none⟩ = some (.int .u64 xtg) := (f_b).cell 10
  have b_f10 := (f_b).frozen 10
  replace f_b := Lib.hid f_b
  have r_c := rowAt_blk f_c
  have c_l := f_c.lt
  have c_11 : wc.cell? ⟨gc, 11, none⟩ = some (.int .u32 xto) := (f_c).cell 11
  have c_f11 := (f_c).frozen 11
  replace f_c := Lib.hid f_c
  have r_d := rowAt_blk f_d
  have d_l := f_d.lt
  have d_8 : wc.cell? ⟨gd, 8, none⟩ = some (.int .u64 xw1) := (f_d).cell 8
  have d_f8 := (f_d).frozen 8
  replace f_d := Lib.hid f_d
  replace bY := Lib.hid bY
  go_upto_region 6 with fail
  refine abs_wp (fun Y_ => Below w.heap.size w Y_ ∧ Blk Y_ (w_2.heap.size) 58 #[.int .u64 xi1, .int .u64 xi2, .int .u64 xd1, .int .u64 xd2, .int .u64 xc1, .int .u64 xc2, .int .u64 n1, .int .u64 n2, .int .u64 xw1, .int .u64 xw2, .int .u64 xtg, .int .u32 xto, .int .u32 xlg, .int .u16 xcd, .int .u16 xfl, .int .u64 fr, .int .u64 xm1, .int .u64 xm2] ∧ Blk Y_ (w.heap.size + 2) 56 #[.int .u64 fa, .int .u64 fb, .int .u64 fr, .int .u64 tv, .int .u32 lm, .int .u32 fg] ∧ Blk Y_ (gb) 28 #[.int .u64 xi1, .int .u64 xi2, .int .u64 xd1, .int .u64 xd2, .int .u64 xc1, .int .u64 xc2, .int .u64 xm1, .int .u64 xm2, .int .u64 xw1, .int .u64 xw2, .int .u64 xtg, .int .u32 xto, .int .u32 xlg, .int .u16 xcd, .int .u16 xfl, .int .u64 xst] ∧ Blk Y_ (gc) 28 #[.int .u64 xi1, .int .u64 xi2, .int .u64 xd1, .int .u64 xd2, .int .u64 xc1, .int .u64 xc2, .int .u64 xm1, .int .u64 xm2, .int .u64 xw1, .int .u64 xw2, .int .u64 xtg, .int .u32 xto, .int .u32 xlg, .int .u16 xcd, .int .u16 xfl, .int .u64 xst] ∧ Blk Y_ (gd) 28 #[.int .u64 xi1, .int .u64 xi2, .int .u64 xd1, .int .u64 xd2, .int .u64 xc1, .int .u64 xc2, .int .u64 xm1, .int .u64 xm2, .int .u64 xw1, .int .u64 xw2, .int .u64 xtg, .int .u32 xto, .int .u32 xlg, .int .u16 xcd, .int .u16 xfl, .int .u64 xst] ∧ Blk Y_ (ga) 28 #[.int .u64 xi1, .int .u64 xi2, .int .u64 xd1, .int .u64 xd2, .int .u64 xc1, .int .u64 xc2, .int .u64 xm1, .int .u64 qa, .int .u64 xw1, .int .u64 xw2, .int .u64 xtg, .int .u32 xto, .int .u32 xlg, .int .u16 xcd, .int .u16 xfl, .int .u64 xst]) ?_ ?_
  · have t_B := bY.out
    have t_k := f_k.out
    have t_f := f_f.out
    have t_a := f_a.out
    have t_b := f_b.out
    have t_c := f_c.out
    have t_d := f_d.out
    refine ⟨by (repeat (first | with_reducible exact Below.refl _ _ | with_reducible assumption | (with_reducible refine bel_set ?_ (by first | exact Nat.le_refl _ | (simp; done) | (simp; omega) | omega) _) | with_reducible refine bel_grow ?_ _ | with_reducible refine Below.drew ?_ | with_reducible refine bel_alloc ?_ _ | with_reducible refine bel_eld ?_ (by assumption))), ?_, ?_, ?_, ?_, ?_, ?_⟩
    · (repeat (first | with_reducible assumption | (with_reducible refine Blk.new' ?_; first | with_reducible rfl | (simp; done)) | with_reducible refine Blk.alloc ?_ _ | with_reducible refine Blk.grow ?_ _ | with_reducible refine Blk.drew ?_ | with_reducible refine Blk.drewN ?_ _ | (with_reducible refine Blk.far ?_ (by first | (dsimp only; omega) | (simp; omega)) _) | (with_reducible apply Blk.two) | (with_reducible refine Blk.kept ?_ (by assumption)) | (with_reducible refine Blk.setRow ?_ (by first | rfl | (simp; done))) | (with_reducible refine Blk.setRow_far ?_ (by first | omega | (simp; omega)) _) | (with_reducible refine Blk.set' ?_ _ _ (by first | rfl | (simp; done)))))
    · (repeat (first | with_reducible assumption | (with_reducible refine Blk.new' ?_; first | with_reducible rfl | (simp; done)) | with_reducible refine Blk.alloc ?_ _ | with_reducible refine Blk.grow ?_ _ | with_reducible refine Blk.drew ?_ | with_reducible refine Blk.drewN ?_ _ | (with_reducible refine Blk.far ?_ (by first | (dsimp only; omega) | (simp; omega)) _) | (with_reducible apply Blk.two) | (with_reducible refine Blk.kept ?_ (by assumption)) | (with_reducible refine Blk.setRow ?_ (by first | rfl | (simp; done))) | (with_reducible refine Blk.setRow_far ?_ (by first | omega | (simp; omega)) _) | (with_reducible refine Blk.set' ?_ _ _ (by first | rfl | (simp; done)))))
    · (repeat (first | with_reducible assumption | (with_reducible refine Blk.new' ?_; first | with_reducible rfl | (simp; done)) | with_reducible refine Blk.alloc ?_ _ | with_reducible refine Blk.grow ?_ _ | with_reducible refine Blk.drew ?_ | with_reducible refine Blk.drewN ?_ _ | (with_reducible refine Blk.far ?_ (by first | (dsimp only; omega) | (simp; omega)) _) | (with_reducible apply Blk.two) | (with_reducible refine Blk.kept ?_ (by assumption)) | (with_reducible refine Blk.setRow ?_ (by first | rfl | (simp; done))) | (with_reducible refine Blk.setRow_far ?_ (by first | omega | (simp; omega)) _) | (with_reducible refine Blk.set' ?_ _ _ (by first | rfl | (simp; done)))))
    · (repeat (first | with_reducible assumption | (with_reducible refine Blk.new' ?_; first | with_reducible rfl | (simp; done)) | with_reducible refine Blk.alloc ?_ _ | with_reducible refine Blk.grow ?_ _ | with_reducible refine Blk.drew ?_ | with_reducible refine Blk.drewN ?_ _ | (with_reducible refine Blk.far ?_ (by first | (dsimp only; omega) | (simp; omega)) _) | (with_reducible apply Blk.two) | (with_reducible refine Blk.kept ?_ (by assumption)) | (with_reducible refine Blk.setRow ?_ (by first | rfl | (simp; done))) | (with_reducible refine Blk.setRow_far ?_ (by first | omega | (simp; omega)) _) | (with_reducible refine Blk.set' ?_ _ _ (by first | rfl | (simp; done)))))
    · (repeat (first | with_reducible assumption | (with_reducible refine Blk.new' ?_; first | with_reducible rfl | (simp; done)) | with_reducible refine Blk.alloc ?_ _ | with_reducible refine Blk.grow ?_ _ | with_reducible refine Blk.drew ?_ | with_reducible refine Blk.drewN ?_ _ | (with_reducible refine Blk.far ?_ (by first | (dsimp only; omega) | (simp; omega)) _) | (with_reducible apply Blk.two) | (with_reducible refine Blk.kept ?_ (by assumption)) | (with_reducible refine Blk.setRow ?_ (by first | rfl | (simp; done))) | (with_reducible refine Blk.setRow_far ?_ (by first | omega | (simp; omega)) _) | (with_reducible refine Blk.set' ?_ _ _ (by first | rfl | (simp; done)))))
    · first | exact Blk.eqv (t_a.set_ 7 _) (by first | rfl | simp) | (repeat (first | with_reducible assumption | (with_reducible refine Blk.new' ?_; first | with_reducible rfl | (simp; done)) | with_reducible refine Blk.alloc ?_ _ | with_reducible refine Blk.grow ?_ _ | with_reducible refine Blk.drew ?_ | with_reducible refine Blk.drewN ?_ _ | (with_reducible refine Blk.far ?_ (by first | (dsimp only; omega) | (simp; omega)) _) | (with_reducible apply Blk.two) | (with_reducible refine Blk.kept ?_ (by assumption)) | (with_reducible refine Blk.setRow ?_ (by first | rfl | (simp; done))) | (with_reducible refine Blk.setRow_far ?_ (by first | omega | (simp; omega)) _) | (with_reducible refine Blk.set' ?_ _ _ (by first | rfl | (simp; done)))))
  clear f_k k_l r_k f_f f_l f_0 f_1 f_2 f_3 f_4 f_5 f_f0 f_f1 f_f2 f_f3 f_f4 f_f5 f_a a_l r_a a_7 a_f7 f_b b_l r_b b_10 b_f10 f_c c_l r_c c_11 c_f11 f_d d_l r_d d_8 d_f8 bY
  rintro Y0 ⟨hB_5, f_k, f_f, f_b, f_c, f_d, f_a⟩
  have r_k := rowAt_blk f_k
  have k_l := f_k.lt
  replace f_k := Lib.hid f_k
  have f_0 : Y0.cell? ⟨w.heap.size + 2, 0, none⟩ = some (.int .u64 fa) := (f_f).cell 0
  have f_1 : Y0.cell? ⟨w.heap.size + 2, 1, none⟩ = some (.int .u64 fb) := (f_f).cell 1
  have f_2 : Y0.cell? ⟨w.heap.size + 2, 2, none⟩ = some (.int .u64 fr) := (f_f).cell 2
  have f_3 : Y0.cell? ⟨w.heap.size + 2, 3, none⟩ = some (.int .u64 tv) := (f_f).cell 3
  have f_4 : Y0.cell? ⟨w.heap.size + 2, 4, none⟩ = some (.int .u32 lm) := (f_f).cell 4
  have f_5 : Y0.cell? ⟨w.heap.size + 2, 5, none⟩ = some (.int .u32 fg) := (f_f).cell 5
  have f_f0 := (f_f).frozen 0
  have f_f1 := (f_f).frozen 1
  have f_f2 := (f_f).frozen 2
  have f_f3 := (f_f).frozen 3
  have f_f4 := (f_f).frozen 4
  have f_f5 := (f_f).frozen 5
  have f_l := (f_f).lt
  replace f_f := Lib.hid f_f
  have r_b := rowAt_blk f_b
  have b_l := f_b.lt
  have b_10 : Y0.cell? ⟨gb, 10, none⟩ = some (.int .u64 xtg) := (f_b).cell 10
  have b_f10 := (f_b).frozen 10
  replace f_b := Lib.hid f_b
  have r_c := rowAt_blk f_c
  have c_l := f_c.lt
  have c_11 : Y0.cell? ⟨gc, 11, none⟩ = some (.int .u32 xto) := (f_c).cell 11
  have c_f11 := (f_c).frozen 11
  replace f_c := Lib.hid f_c
  have r_d := rowAt_blk f_d
  have d_l := f_d.lt
  have d_8 : Y0.cell? ⟨gd, 8, none⟩ = some (.int .u64 xw1) := (f_d).cell 8
  have d_f8 := (f_d).frozen 8
  replace f_d := Lib.hid f_d
  have r_a := rowAt_blk f_a
  have a_l := f_a.lt
  have a_7 : Y0.cell? ⟨ga, 7, none⟩ = some (.int .u64 qa) := (f_a).cell 7
  have a_f7 := (f_a).frozen 7
  replace f_a := Lib.hid f_a
  replace hB_5 := Lib.hid hB_5
  go_upto_region 7 with fail
  refine abs_wp (fun Y_ => Below w.heap.size w Y_ ∧ Blk Y_ (w_2.heap.size) 58 #[.int .u64 xi1, .int .u64 xi2, .int .u64 xd1, .int .u64 xd2, .int .u64 xc1, .int .u64 xc2, .int .u64 n1, .int .u64 n2, .int .u64 xw1, .int .u64 xw2, .int .u64 xtg, .int .u32 xto, .int .u32 xlg, .int .u16 xcd, .int .u16 xfl, .int .u64 fr, .int .u64 xm1, .int .u64 xm2] ∧ Blk Y_ (w.heap.size + 2) 56 #[.int .u64 fa, .int .u64 fb, .int .u64 fr, .int .u64 tv, .int .u32 lm, .int .u32 fg] ∧ Blk Y_ (gc) 28 #[.int .u64 xi1, .int .u64 xi2, .int .u64 xd1, .int .u64 xd2, .int .u64 xc1, .int .u64 xc2, .int .u64 xm1, .int .u64 xm2, .int .u64 xw1, .int .u64 xw2, .int .u64 xtg, .int .u32 xto, .int .u32 xlg, .int .u16 xcd, .int .u16 xfl, .int .u64 xst] ∧ Blk Y_ (gd) 28 #[.int .u64 xi1, .int .u64 xi2, .int .u64 xd1, .int .u64 xd2, .int .u64 xc1, .int .u64 xc2, .int .u64 xm1, .int .u64 xm2, .int .u64 xw1, .int .u64 xw2, .int .u64 xtg, .int .u32 xto, .int .u32 xlg, .int .u16 xcd, .int .u16 xfl, .int .u64 xst] ∧ Blk Y_ (ga) 28 #[.int .u64 xi1, .int .u64 xi2, .int .u64 xd1, .int .u64 xd2, .int .u64 xc1, .int .u64 xc2, .int .u64 xm1, .int .u64 qa, .int .u64 xw1, .int .u64 xw2, .int .u64 xtg, .int .u32 xto, .int .u32 xlg, .int .u16 xcd, .int .u16 xfl, .int .u64 xst] ∧ Blk Y_ (gb) 28 #[.int .u64 xi1, .int .u64 xi2, .int .u64 xd1, .int .u64 xd2, .int .u64 xc1, .int .u64 xc2, .int .u64 xm1, .int .u64 xm2, .int .u64 xw1, .int .u64 xw2, .int .u64 qb, .int .u32 xto, .int .u32 xlg, .int .u16 xcd, .int .u16 xfl, .int .u64 xst]) ?_ ?_
  · have t_B := hB_5.out
    have t_k := f_k.out
    have t_f := f_f.out
    have t_b := f_b.out
    have t_c := f_c.out
    have t_d := f_d.out
    have t_a := f_a.out
    refine ⟨by (repeat (first | with_reducible exact Below.refl _ _ | with_reducible assumption | (with_reducible refine bel_set ?_ (by first | exact Nat.le_refl _ | (simp; done) | (simp; omega) | omega) _) | with_reducible refine bel_grow ?_ _ | with_reducible refine Below.drew ?_ | with_reducible refine bel_alloc ?_ _ | with_reducible refine bel_eld ?_ (by assumption))), ?_, ?_, ?_, ?_, ?_, ?_⟩
    · (repeat (first | with_reducible assumption | (with_reducible refine Blk.new' ?_; first | with_reducible rfl | (simp; done)) | with_reducible refine Blk.alloc ?_ _ | with_reducible refine Blk.grow ?_ _ | with_reducible refine Blk.drew ?_ | with_reducible refine Blk.drewN ?_ _ | (with_reducible refine Blk.far ?_ (by first | (dsimp only; omega) | (simp; omega)) _) | (with_reducible apply Blk.two) | (with_reducible refine Blk.kept ?_ (by assumption)) | (with_reducible refine Blk.setRow ?_ (by first | rfl | (simp; done))) | (with_reducible refine Blk.setRow_far ?_ (by first | omega | (simp; omega)) _) | (with_reducible refine Blk.set' ?_ _ _ (by first | rfl | (simp; done)))))
    · (repeat (first | with_reducible assumption | (with_reducible refine Blk.new' ?_; first | with_reducible rfl | (simp; done)) | with_reducible refine Blk.alloc ?_ _ | with_reducible refine Blk.grow ?_ _ | with_reducible refine Blk.drew ?_ | with_reducible refine Blk.drewN ?_ _ | (with_reducible refine Blk.far ?_ (by first | (dsimp only; omega) | (simp; omega)) _) | (with_reducible apply Blk.two) | (with_reducible refine Blk.kept ?_ (by assumption)) | (with_reducible refine Blk.setRow ?_ (by first | rfl | (simp; done))) | (with_reducible refine Blk.setRow_far ?_ (by first | omega | (simp; omega)) _) | (with_reducible refine Blk.set' ?_ _ _ (by first | rfl | (simp; done)))))
    · (repeat (first | with_reducible assumption | (with_reducible refine Blk.new' ?_; first | with_reducible rfl | (simp; done)) | with_reducible refine Blk.alloc ?_ _ | with_reducible refine Blk.grow ?_ _ | with_reducible refine Blk.drew ?_ | with_reducible refine Blk.drewN ?_ _ | (with_reducible refine Blk.far ?_ (by first | (dsimp only; omega) | (simp; omega)) _) | (with_reducible apply Blk.two) | (with_reducible refine Blk.kept ?_ (by assumption)) | (with_reducible refine Blk.setRow ?_ (by first | rfl | (simp; done))) | (with_reducible refine Blk.setRow_far ?_ (by first | omega | (simp; omega)) _) | (with_reducible refine Blk.set' ?_ _ _ (by first | rfl | (simp; done)))))
    · (repeat (first | with_reducible assumption | (with_reducible refine Blk.new' ?_; first | with_reducible rfl | (simp; done)) | with_reducible refine Blk.alloc ?_ _ | with_reducible refine Blk.grow ?_ _ | with_reducible refine Blk.drew ?_ | with_reducible refine Blk.drewN ?_ _ | (with_reducible refine Blk.far ?_ (by first | (dsimp only; omega) | (simp; omega)) _) | (with_reducible apply Blk.two) | (with_reducible refine Blk.kept ?_ (by assumption)) | (with_reducible refine Blk.setRow ?_ (by first | rfl | (simp; done))) | (with_reducible refine Blk.setRow_far ?_ (by first | omega | (simp; omega)) _) | (with_reducible refine Blk.set' ?_ _ _ (by first | rfl | (simp; done)))))
    · (repeat (first | with_reducible assumption | (with_reducible refine Blk.new' ?_; first | with_reducible rfl | (simp; done)) | with_reducible refine Blk.alloc ?_ _ | with_reducible refine Blk.grow ?_ _ | with_reducible refine Blk.drew ?_ | with_reducible refine Blk.drewN ?_ _ | (with_reducible refine Blk.far ?_ (by first | (dsimp only; omega) | (simp; omega)) _) | (with_reducible apply Blk.two) | (with_reducible refine Blk.kept ?_ (by assumption)) | (with_reducible refine Blk.setRow ?_ (by first | rfl | (simp; done))) | (with_reducible refine Blk.setRow_far ?_ (by first | omega | (simp; omega)) _) | (with_reducible refine Blk.set' ?_ _ _ (by first | rfl | (simp; done)))))
    · first | exact Blk.eqv (t_b.set_ 10 _) (by first | rfl | simp) | (repeat (first | with_reducible assumption | (with_reducible refine Blk.new' ?_; first | with_reducible rfl | (simp; done)) | with_reducible refine Blk.alloc ?_ _ | with_reducible refine Blk.grow ?_ _ | with_reducible refine Blk.drew ?_ | with_reducible refine Blk.drewN ?_ _ | (with_reducible refine Blk.far ?_ (by first | (dsimp only; omega) | (simp; omega)) _) | (with_reducible apply Blk.two) | (with_reducible refine Blk.kept ?_ (by assumption)) | (with_reducible refine Blk.setRow ?_ (by first | rfl | (simp; done))) | (with_reducible refine Blk.setRow_far ?_ (by first | omega | (simp; omega)) _) | (with_reducible refine Blk.set' ?_ _ _ (by first | rfl | (simp; done)))))
  clear f_k k_l r_k f_f f_l f_0 f_1 f_2 f_3 f_4 f_5 f_f0 f_f1 f_f2 f_f3 f_f4 f_f5 f_b b_l r_b b_10 b_f10 f_c c_l r_c c_11 c_f11 f_d d_l r_d d_8 d_f8 f_a a_l r_a a_7 a_f7 hB_5
  rintro Y1 ⟨hB_6, f_k, f_f, f_c, f_d, f_a, f_b⟩
  have r_k := rowAt_blk f_k
  have k_l := f_k.lt
  replace f_k := Lib.hid f_k
  have f_0 : Y1.cell? ⟨w.heap.size + 2, 0, none⟩ = some (.int .u64 fa) := (f_f).cell 0
  have f_1 : Y1.cell? ⟨w.heap.size + 2, 1, none⟩ = some (.int .u64 fb) := (f_f).cell 1
  have f_2 : Y1.cell? ⟨w.heap.size + 2, 2, none⟩ = some (.int .u64 fr) := (f_f).cell 2
  have f_3 : Y1.cell? ⟨w.heap.size + 2, 3, none⟩ = some (.int .u64 tv) := (f_f).cell 3
  have f_4 : Y1.cell? ⟨w.heap.size + 2, 4, none⟩ = some (.int .u32 lm) := (f_f).cell 4
  have f_5 : Y1.cell? ⟨w.heap.size + 2, 5, none⟩ = some (.int .u32 fg) := (f_f).cell 5
  have f_f0 := (f_f).frozen 0
  have f_f1 := (f_f).frozen 1
  have f_f2 := (f_f).frozen 2
  have f_f3 := (f_f).frozen 3
  have f_f4 := (f_f).frozen 4
  have f_f5 := (f_f).frozen 5
  have f_l := (f_f).lt
  replace f_f := Lib.hid f_f
  have r_c := rowAt_blk f_c
  have c_l := f_c.lt
  have c_11 : Y1.cell? ⟨gc, 11, none⟩ = some (.int .u32 xto) := (f_c).cell 11
  have c_f11 := (f_c).frozen 11
  replace f_c := Lib.hid f_c
  have r_d := rowAt_blk f_d
  have d_l := f_d.lt
  have d_8 : Y1.cell? ⟨gd, 8, none⟩ = some (.int .u64 xw1) := (f_d).cell 8
  have d_f8 := (f_d).frozen 8
  replace f_d := Lib.hid f_d
  have r_a := rowAt_blk f_a
  have a_l := f_a.lt
  have a_7 : Y1.cell? ⟨ga, 7, none⟩ = some (.int .u64 qa) := (f_a).cell 7
  have a_f7 := (f_a).frozen 7
  replace f_a := Lib.hid f_a
  have r_b := rowAt_blk f_b
  have b_l := f_b.lt
  have b_10 : Y1.cell? ⟨gb, 10, none⟩ = some (.int .u64 qb) := (f_b).cell 10
  have b_f10 := (f_b).frozen 10
  replace f_b := Lib.hid f_b
  replace hB_6 := Lib.hid hB_6
  go_upto_region 8 with fail
  refine abs_wp (fun Y_ => Below w.heap.size w Y_ ∧ Blk Y_ (w_2.heap.size) 58 #[.int .u64 xi1, .int .u64 xi2, .int .u64 xd1, .int .u64 xd2, .int .u64 xc1, .int .u64 xc2, .int .u64 n1, .int .u64 n2, .int .u64 xw1, .int .u64 xw2, .int .u64 xtg, .int .u32 xto, .int .u32 xlg, .int .u16 xcd, .int .u16 xfl, .int .u64 fr, .int .u64 xm1, .int .u64 xm2] ∧ Blk Y_ (w.heap.size + 2) 56 #[.int .u64 fa, .int .u64 fb, .int .u64 fr, .int .u64 tv, .int .u32 lm, .int .u32 fg] ∧ Blk Y_ (gd) 28 #[.int .u64 xi1, .int .u64 xi2, .int .u64 xd1, .int .u64 xd2, .int .u64 xc1, .int .u64 xc2, .int .u64 xm1, .int .u64 xm2, .int .u64 xw1, .int .u64 xw2, .int .u64 xtg, .int .u32 xto, .int .u32 xlg, .int .u16 xcd, .int .u16 xfl, .int .u64 xst] ∧ Blk Y_ (ga) 28 #[.int .u64 xi1, .int .u64 xi2, .int .u64 xd1, .int .u64 xd2, .int .u64 xc1, .int .u64 xc2, .int .u64 xm1, .int .u64 qa, .int .u64 xw1, .int .u64 xw2, .int .u64 xtg, .int .u32 xto, .int .u32 xlg, .int .u16 xcd, .int .u16 xfl, .int .u64 xst] ∧ Blk Y_ (gb) 28 #[.int .u64 xi1, .int .u64 xi2, .int .u64 xd1, .int .u64 xd2, .int .u64 xc1, .int .u64 xc2, .int .u64 xm1, .int .u64 xm2, .int .u64 xw1, .int .u64 xw2, .int .u64 qb, .int .u32 xto, .int .u32 xlg, .int .u16 xcd, .int .u16 xfl, .int .u64 xst] ∧ Blk Y_ (gc) 28 #[.int .u64 xi1, .int .u64 xi2, .int .u64 xd1, .int .u64 xd2, .int .u64 xc1, .int .u64 xc2, .int .u64 xm1, .int .u64 xm2, .int .u64 xw1, .int .u64 xw2, .int .u64 xtg, .int .u32 qc, .int .u32 xlg, .int .u16 xcd, .int .u16 xfl, .int .u64 xst]) ?_ ?_
  · have t_B := hB_6.out
    have t_k := f_k.out
    have t_f := f_f.out
    have t_c := f_c.out
    have t_d := f_d.out
    have t_a := f_a.out
    have t_b := f_b.out
    refine ⟨by (repeat (first | with_reducible exact Below.refl _ _ | with_reducible assumption | (with_reducible refine bel_set ?_ (by first | exact Nat.le_refl _ | (simp; done) | (simp; omega) | omega) _) | with_reducible refine bel_grow ?_ _ | with_reducible refine Below.drew ?_ | with_reducible refine bel_alloc ?_ _ | with_reducible refine bel_eld ?_ (by assumption))), ?_, ?_, ?_, ?_, ?_, ?_⟩
    · (repeat (first | with_reducible assumption | (with_reducible refine Blk.new' ?_; first | with_reducible rfl | (simp; done)) | with_reducible refine Blk.alloc ?_ _ | with_reducible refine Blk.grow ?_ _ | with_reducible refine Blk.drew ?_ | with_reducible refine Blk.drewN ?_ _ | (with_reducible refine Blk.far ?_ (by first | (dsimp only; omega) | (simp; omega)) _) | (with_reducible apply Blk.two) | (with_reducible refine Blk.kept ?_ (by assumption)) | (with_reducible refine Blk.setRow ?_ (by first | rfl | (simp; done))) | (with_reducible refine Blk.setRow_far ?_ (by first | omega | (simp; omega)) _) | (with_reducible refine Blk.set' ?_ _ _ (by first | rfl | (simp; done)))))
    · (repeat (first | with_reducible assumption | (with_reducible refine Blk.new' ?_; first | with_reducible rfl | (simp; done)) | with_reducible refine Blk.alloc ?_ _ | with_reducible refine Blk.grow ?_ _ | with_reducible refine Blk.drew ?_ | with_reducible refine Blk.drewN ?_ _ | (with_reducible refine Blk.far ?_ (by first | (dsimp only; omega) | (simp; omega)) _) | (with_reducible apply Blk.two) | (with_reducible refine Blk.kept ?_ (by assumption)) | (with_reducible refine Blk.setRow ?_ (by first | rfl | (simp; done))) | (with_reducible refine Blk.setRow_far ?_ (by first | omega | (simp; omega)) _) | (with_reducible refine Blk.set' ?_ _ _ (by first | rfl | (simp; done)))))
    · (repeat (first | with_reducible assumption | (with_reducible refine Blk.new' ?_; first | with_reducible rfl | (simp; done)) | with_reducible refine Blk.alloc ?_ _ | with_reducible refine Blk.grow ?_ _ | with_reducible refine Blk.drew ?_ | with_reducible refine Blk.drewN ?_ _ | (with_reducible refine Blk.far ?_ (by first | (dsimp only; omega) | (simp; omega)) _) | (with_reducible apply Blk.two) | (with_reducible refine Blk.kept ?_ (by assumption)) | (with_reducible refine Blk.setRow ?_ (by first | rfl | (simp; done))) | (with_reducible refine Blk.setRow_far ?_ (by first | omega | (simp; omega)) _) | (with_reducible refine Blk.set' ?_ _ _ (by first | rfl | (simp; done)))))
    · (repeat (first | with_reducible assumption | (with_reducible refine Blk.new' ?_; first | with_reducible rfl | (simp; done)) | with_reducible refine Blk.alloc ?_ _ | with_reducible refine Blk.grow ?_ _ | with_reducible refine Blk.drew ?_ | with_reducible refine Blk.drewN ?_ _ | (with_reducible refine Blk.far ?_ (by first | (dsimp only; omega) | (simp; omega)) _) | (with_reducible apply Blk.two) | (with_reducible refine Blk.kept ?_ (by assumption)) | (with_reducible refine Blk.setRow ?_ (by first | rfl | (simp; done))) | (with_reducible refine Blk.setRow_far ?_ (by first | omega | (simp; omega)) _) | (with_reducible refine Blk.set' ?_ _ _ (by first | rfl | (simp; done)))))
    · (repeat (first | with_reducible assumption | (with_reducible refine Blk.new' ?_; first | with_reducible rfl | (simp; done)) | with_reducible refine Blk.alloc ?_ _ | with_reducible refine Blk.grow ?_ _ | with_reducible refine Blk.drew ?_ | with_reducible refine Blk.drewN ?_ _ | (with_reducible refine Blk.far ?_ (by first | (dsimp only; omega) | (simp; omega)) _) | (with_reducible apply Blk.two) | (with_reducible refine Blk.kept ?_ (by assumption)) | (with_reducible refine Blk.setRow ?_ (by first | rfl | (simp; done))) | (with_reducible refine Blk.setRow_far ?_ (by first | omega | (simp; omega)) _) | (with_reducible refine Blk.set' ?_ _ _ (by first | rfl | (simp; done)))))
    · first | exact Blk.eqv (t_c.set_ 11 _) (by first | rfl | simp) | (repeat (first | with_reducible assumption | (with_reducible refine Blk.new' ?_; first | with_reducible rfl | (simp; done)) | with_reducible refine Blk.alloc ?_ _ | with_reducible refine Blk.grow ?_ _ | with_reducible refine Blk.drew ?_ | with_reducible refine Blk.drewN ?_ _ | (with_reducible refine Blk.far ?_ (by first | (dsimp only; omega) | (simp; omega)) _) | (with_reducible apply Blk.two) | (with_reducible refine Blk.kept ?_ (by assumption)) | (with_reducible refine Blk.setRow ?_ (by first | rfl | (simp; done))) | (with_reducible refine Blk.setRow_far ?_ (by first | omega | (simp; omega)) _) | (with_reducible refine Blk.set' ?_ _ _ (by first | rfl | (simp; done)))))
  clear f_k k_l r_k f_f f_l f_0 f_1 f_2 f_3 f_4 f_5 f_f0 f_f1 f_f2 f_f3 f_f4 f_f5 f_c c_l r_c c_11 c_f11 f_d d_l r_d d_8 d_f8 f_a a_l r_a a_7 a_f7 f_b b_l r_b b_10 b_f10 hB_6
  rintro Y2 ⟨hB_7, f_k, f_f, f_d, f_a, f_b, f_c⟩
  have r_k := rowAt_blk f_k
  have k_l := f_k.lt
  replace f_k := Lib.hid f_k
  have f_0 : Y2.cell? ⟨w.heap.size + 2, 0, none⟩ = some (.int .u64 fa) := (f_f).cell 0
  have f_1 : Y2.cell? ⟨w.heap.size + 2, 1, none⟩ = some (.int .u64 fb) := (f_f).cell 1
  have f_2 : Y2.cell? ⟨w.heap.size + 2, 2, none⟩ = some (.int .u64 fr) := (f_f).cell 2
  have f_3 : Y2.cell? ⟨w.heap.size + 2, 3, none⟩ = some (.int .u64 tv) := (f_f).cell 3
  have f_4 : Y2.cell? ⟨w.heap.size + 2, 4, none⟩ = some (.int .u32 lm) := (f_f).cell 4
  have f_5 : Y2.cell? ⟨w.heap.size + 2, 5, none⟩ = some (.int .u32 fg) := (f_f).cell 5
  have f_f0 := (f_f).frozen 0
  have f_f1 := (f_f).frozen 1
  have f_f2 := (f_f).frozen 2
  have f_f3 := (f_f).frozen 3
  have f_f4 := (f_f).frozen 4
  have f_f5 := (f_f).frozen 5
  have f_l := (f_f).lt
  replace f_f := Lib.hid f_f
  have r_d := rowAt_blk f_d
  have d_l := f_d.lt
  have d_8 : Y2.cell? ⟨gd, 8, none⟩ = some (.int .u64 xw1) := (f_d).cell 8
  have d_f8 := (f_d).frozen 8
  replace f_d := Lib.hid f_d
  have r_a := rowAt_blk f_a
  have a_l := f_a.lt
  have a_7 : Y2.cell? ⟨ga, 7, none⟩ = some (.int .u64 qa) := (f_a).cell 7
  have a_f7 := (f_a).frozen 7
  replace f_a := Lib.hid f_a
  have r_b := rowAt_blk f_b
  have b_l := f_b.lt
  have b_10 : Y2.cell? ⟨gb, 10, none⟩ = some (.int .u64 qb) := (f_b).cell 10
  have b_f10 := (f_b).frozen 10
  replace f_b := Lib.hid f_b
  have r_c := rowAt_blk f_c
  have c_l := f_c.lt
  have c_11 : Y2.cell? ⟨gc, 11, none⟩ = some (.int .u32 qc) := (f_c).cell 11
  have c_f11 := (f_c).frozen 11
  replace f_c := Lib.hid f_c
  replace hB_7 := Lib.hid hB_7
  go_upto_region 9 with fail
  refine abs_wp (fun Y_ => Below w.heap.size w Y_ ∧ Blk Y_ (w_2.heap.size) 58 #[.int .u64 xi1, .int .u64 xi2, .int .u64 xd1, .int .u64 xd2, .int .u64 xc1, .int .u64 xc2, .int .u64 n1, .int .u64 n2, .int .u64 xw1, .int .u64 xw2, .int .u64 xtg, .int .u32 xto, .int .u32 xlg, .int .u16 xcd, .int .u16 xfl, .int .u64 fr, .int .u64 xm1, .int .u64 xm2] ∧ Blk Y_ (w.heap.size + 2) 56 #[.int .u64 fa, .int .u64 fb, .int .u64 fr, .int .u64 tv, .int .u32 lm, .int .u32 fg] ∧ Blk Y_ (ga) 28 #[.int .u64 xi1, .int .u64 xi2, .int .u64 xd1, .int .u64 xd2, .int .u64 xc1, .int .u64 xc2, .int .u64 xm1, .int .u64 qa, .int .u64 xw1, .int .u64 xw2, .int .u64 xtg, .int .u32 xto, .int .u32 xlg, .int .u16 xcd, .int .u16 xfl, .int .u64 xst] ∧ Blk Y_ (gb) 28 #[.int .u64 xi1, .int .u64 xi2, .int .u64 xd1, .int .u64 xd2, .int .u64 xc1, .int .u64 xc2, .int .u64 xm1, .int .u64 xm2, .int .u64 xw1, .int .u64 xw2, .int .u64 qb, .int .u32 xto, .int .u32 xlg, .int .u16 xcd, .int .u16 xfl, .int .u64 xst] ∧ Blk Y_ (gc) 28 #[.int .u64 xi1, .int .u64 xi2, .int .u64 xd1, .int .u64 xd2, .int .u64 xc1, .int .u64 xc2, .int .u64 xm1, .int .u64 xm2, .int .u64 xw1, .int .u64 xw2, .int .u64 xtg, .int .u32 qc, .int .u32 xlg, .int .u16 xcd, .int .u16 xfl, .int .u64 xst] ∧ Blk Y_ (gd) 28 #[.int .u64 xi1, .int .u64 xi2, .int .u64 xd1, .int .u64 xd2, .int .u64 xc1, .int .u64 xc2, .int .u64 xm1, .int .u64 xm2, .int .u64 qd, .int .u64 xw2, .int .u64 xtg, .int .u32 xto, .int .u32 xlg, .int .u16 xcd, .int .u16 xfl, .int .u64 xst]) ?_ ?_
  · have t_B := hB_7.out
    have t_k := f_k.out
    have t_f := f_f.out
    have t_d := f_d.out
    have t_a := f_a.out
    have t_b := f_b.out
    have t_c := f_c.out
    refine ⟨by (repeat (first | with_reducible exact Below.refl _ _ | with_reducible assumption | (with_reducible refine bel_set ?_ (by first | exact Nat.le_refl _ | (simp; done) | (simp; omega) | omega) _) | with_reducible refine bel_grow ?_ _ | with_reducible refine Below.drew ?_ | with_reducible refine bel_alloc ?_ _ | with_reducible refine bel_eld ?_ (by assumption))), ?_, ?_, ?_, ?_, ?_, ?_⟩
    · (repeat (first | with_reducible assumption | (with_reducible refine Blk.new' ?_; first | with_reducible rfl | (simp; done)) | with_reducible refine Blk.alloc ?_ _ | with_reducible refine Blk.grow ?_ _ | with_reducible refine Blk.drew ?_ | with_reducible refine Blk.drewN ?_ _ | (with_reducible refine Blk.far ?_ (by first | (dsimp only; omega) | (simp; omega)) _) | (with_reducible apply Blk.two) | (with_reducible refine Blk.kept ?_ (by assumption)) | (with_reducible refine Blk.setRow ?_ (by first | rfl | (simp; done))) | (with_reducible refine Blk.setRow_far ?_ (by first | omega | (simp; omega)) _) | (with_reducible refine Blk.set' ?_ _ _ (by first | rfl | (simp; done)))))
    · (repeat (first | with_reducible assumption | (with_reducible refine Blk.new' ?_; first | with_reducible rfl | (simp; done)) | with_reducible refine Blk.alloc ?_ _ | with_reducible refine Blk.grow ?_ _ | with_reducible refine Blk.drew ?_ | with_reducible refine Blk.drewN ?_ _ | (with_reducible refine Blk.far ?_ (by first | (dsimp only; omega) | (simp; omega)) _) | (with_reducible apply Blk.two) | (with_reducible refine Blk.kept ?_ (by assumption)) | (with_reducible refine Blk.setRow ?_ (by first | rfl | (simp; done))) | (with_reducible refine Blk.setRow_far ?_ (by first | omega | (simp; omega)) _) | (with_reducible refine Blk.set' ?_ _ _ (by first | rfl | (simp; done)))))
    · (repeat (first | with_reducible assumption | (with_reducible refine Blk.new' ?_; first | with_reducible rfl | (simp; done)) | with_reducible refine Blk.alloc ?_ _ | with_reducible refine Blk.grow ?_ _ | with_reducible refine Blk.drew ?_ | with_reducible refine Blk.drewN ?_ _ | (with_reducible refine Blk.far ?_ (by first | (dsimp only; omega) | (simp; omega)) _) | (with_reducible apply Blk.two) | (with_reducible refine Blk.kept ?_ (by assumption)) | (with_reducible refine Blk.setRow ?_ (by first | rfl | (simp; done))) | (with_reducible refine Blk.setRow_far ?_ (by first | omega | (simp; omega)) _) | (with_reducible refine Blk.set' ?_ _ _ (by first | rfl | (simp; done)))))
    · (repeat (first | with_reducible assumption | (with_reducible refine Blk.new' ?_; first | with_reducible rfl | (simp; done)) | with_reducible refine Blk.alloc ?_ _ | with_reducible refine Blk.grow ?_ _ | with_reducible refine Blk.drew ?_ | with_reducible refine Blk.drewN ?_ _ | (with_reducible refine Blk.far ?_ (by first | (dsimp only; omega) | (simp; omega)) _) | (with_reducible apply Blk.two) | (with_reducible refine Blk.kept ?_ (by assumption)) | (with_reducible refine Blk.setRow ?_ (by first | rfl | (simp; done))) | (with_reducible refine Blk.setRow_far ?_ (by first | omega | (simp; omega)) _) | (with_reducible refine Blk.set' ?_ _ _ (by first | rfl | (simp; done)))))
    · (repeat (first | with_reducible assumption | (with_reducible refine Blk.new' ?_; first | with_reducible rfl | (simp; done)) | with_reducible refine Blk.alloc ?_ _ | with_reducible refine Blk.grow ?_ _ | with_reducible refine Blk.drew ?_ | with_reducible refine Blk.drewN ?_ _ | (with_reducible refine Blk.far ?_ (by first | (dsimp only; omega) | (simp; omega)) _) | (with_reducible apply Blk.two) | (with_reducible refine Blk.kept ?_ (by assumption)) | (with_reducible refine Blk.setRow ?_ (by first | rfl | (simp; done))) | (with_reducible refine Blk.setRow_far ?_ (by first | omega | (simp; omega)) _) | (with_reducible refine Blk.set' ?_ _ _ (by first | rfl | (simp; done)))))
    · first | exact Blk.eqv (t_d.set_ 8 _) (by first | rfl | simp) | (repeat (first | with_reducible assumption | (with_reducible refine Blk.new' ?_; first | with_reducible rfl | (simp; done)) | with_reducible refine Blk.alloc ?_ _ | with_reducible refine Blk.grow ?_ _ | with_reducible refine Blk.drew ?_ | with_reducible refine Blk.drewN ?_ _ | (with_reducible refine Blk.far ?_ (by first | (dsimp only; omega) | (simp; omega)) _) | (with_reducible apply Blk.two) | (with_reducible refine Blk.kept ?_ (by assumption)) | (with_reducible refine Blk.setRow ?_ (by first | rfl | (simp; done))) | (with_reducible refine Blk.setRow_far ?_ (by first | omega | (simp; omega)) _) | (with_reducible refine Blk.set' ?_ _ _ (by first | rfl | (simp; done)))))
  clear f_k k_l r_k f_f f_l f_0 f_1 f_2 f_3 f_4 f_5 f_f0 f_f1 f_f2 f_f3 f_f4 f_f5 f_d d_l r_d d_8 d_f8 f_a a_l r_a a_7 a_f7 f_b b_l r_b b_10 b_f10 f_c c_l r_c c_11 c_f11 hB_7
  rintro Y3 ⟨hB_8, f_k, f_f, f_a, f_b, f_c, f_d⟩
  have r_k := rowAt_blk f_k
  have k_l := f_k.lt
  replace f_k := Lib.hid f_k
  have f_0 : Y3.cell? ⟨w.heap.size + 2, 0, none⟩ = some (.int .u64 fa) := (f_f).cell 0
  have f_1 : Y3.cell? ⟨w.heap.size + 2, 1, none⟩ = some (.int .u64 fb) := (f_f).cell 1
  have f_2 : Y3.cell? ⟨w.heap.size + 2, 2, none⟩ = some (.int .u64 fr) := (f_f).cell 2
  have f_3 : Y3.cell? ⟨w.heap.size + 2, 3, none⟩ = some (.int .u64 tv) := (f_f).cell 3
  have f_4 : Y3.cell? ⟨w.heap.size + 2, 4, none⟩ = some (.int .u32 lm) := (f_f).cell 4
  have f_5 : Y3.cell? ⟨w.heap.size + 2, 5, none⟩ = some (.int .u32 fg) := (f_f).cell 5
  have f_f0 := (f_f).frozen 0
  have f_f1 := (f_f).frozen 1
  have f_f2 := (f_f).frozen 2
  have f_f3 := (f_f).frozen 3
  have f_f4 := (f_f).frozen 4
  have f_f5 := (f_f).frozen 5
  have f_l := (f_f).lt
  replace f_f := Lib.hid f_f
  have r_a := rowAt_blk f_a
  have a_l := f_a.lt
  have a_7 : Y3.cell? ⟨ga, 7, none⟩ = some (.int .u64 qa) := (f_a).cell 7
  have a_f7 := (f_a).frozen 7
  replace f_a := Lib.hid f_a
  have r_b := rowAt_blk f_b
  have b_l := f_b.lt
  have b_10 : Y3.cell? ⟨gb, 10, none⟩ = some (.int .u64 qb) := (f_b).cell 10
  have b_f10 := (f_b).frozen 10
  replace f_b := Lib.hid f_b
  have r_c := rowAt_blk f_c
  have c_l := f_c.lt
  have c_11 : Y3.cell? ⟨gc, 11, none⟩ = some (.int .u32 qc) := (f_c).cell 11
  have c_f11 := (f_c).frozen 11
  replace f_c := Lib.hid f_c
  have r_d := rowAt_blk f_d
  have d_l := f_d.lt
  have d_8 : Y3.cell? ⟨gd, 8, none⟩ = some (.int .u64 qd) := (f_d).cell 8
  have d_f8 := (f_d).frozen 8
  replace f_d := Lib.hid f_d
  replace hB_8 := Lib.hid hB_8
  go_wp2_with fail
  refine (HX.out _).mono ?_
  rintro e w_9 ⟨rfl, hb_9⟩
  have z_9 := hb_9.size
  try simp at z_9
  have t_ := hB_8.out
  have hB_9 := bel_eld (w := w) (X := _) (by first | ((repeat (first | with_reducible exact Below.refl _ _ | with_reducible assumption | (with_reducible refine bel_set ?_ (by first | exact Nat.le_refl _ | (simp; done) | (simp; omega) | omega) _) | with_reducible refine bel_grow ?_ _ | with_reducible refine Below.drew ?_ | with_reducible refine below_drewN ?_ _ | with_reducible refine bel_alloc ?_ _ | with_reducible refine bel_trans ?_ (by assumption))); done) | (repeat (first | exact Below.refl _ _ | assumption | refine below_drewN ?_ _ | refine bel_grow ?_ _ | refine Below.drew ?_ | refine bel_alloc ?_ _ | refine bel_set ?_ (by first | exact Nat.le_refl _ | (simp; done) | (simp; omega) | omega) _ | refine bel_trans ?_ (by assumption)))) hb_9
  clear t_
  have t_k := f_k.out
  have t_a := f_a.out
  have t_b := f_b.out
  have t_c := f_c.out
  have t_d := f_d.out
  have g_k : Blk w_9 (w_2.heap.size) 58 #[.int .u64 xi1, .int .u64 xi2, .int .u64 xd1, .int .u64 xd2, .int .u64 xc1, .int .u64 xc2, .int .u64 n1, .int .u64 n2, .int .u64 xw1, .int .u64 xw2, .int .u64 xtg, .int .u32 xto, .int .u32 xlg, .int .u16 xcd, .int .u16 xfl, .int .u64 fr, .int .u64 xm1, .int .u64 xm2] := by
    refine Blk.kept ?_ hb_9
    (repeat (first | with_reducible assumption | (with_reducible refine Blk.new' ?_; first | with_reducible rfl | (simp; done)) | with_reducible refine Blk.alloc ?_ _ | with_reducible refine Blk.grow ?_ _ | with_reducible refine Blk.drew ?_ | with_reducible refine Blk.drewN ?_ _ | (with_reducible refine Blk.far ?_ (by first | (dsimp only; omega) | (simp; omega)) _) | (with_reducible apply Blk.two) | (with_reducible refine Blk.set' ?_ _ _ ?_) | (with_reducible rfl) | rfl))
  have g_a : Blk w_9 (ga) 28 #[.int .u64 xi1, .int .u64 xi2, .int .u64 xd1, .int .u64 xd2, .int .u64 xc1, .int .u64 xc2, .int .u64 xm1, .int .u64 qa, .int .u64 xw1, .int .u64 xw2, .int .u64 xtg, .int .u32 xto, .int .u32 xlg, .int .u16 xcd, .int .u16 xfl, .int .u64 xst] := by
    refine Blk.kept ?_ hb_9
    (repeat (first | with_reducible assumption | (with_reducible refine Blk.new' ?_; first | with_reducible rfl | (simp; done)) | with_reducible refine Blk.alloc ?_ _ | with_reducible refine Blk.grow ?_ _ | with_reducible refine Blk.drew ?_ | with_reducible refine Blk.drewN ?_ _ | (with_reducible refine Blk.far ?_ (by first | (dsimp only; omega) | (simp; omega)) _) | (with_reducible apply Blk.two) | (with_reducible refine Blk.set' ?_ _ _ ?_) | (with_reducible rfl) | rfl))
  have g_b : Blk w_9 (gb) 28 #[.int .u64 xi1, .int .u64 xi2, .int .u64 xd1, .int .u64 xd2, .int .u64 xc1, .int .u64 xc2, .int .u64 xm1, .int .u64 xm2, .int .u64 xw1, .int .u64 xw2, .int .u64 qb, .int .u32 xto, .int .u32 xlg, .int .u16 xcd, .int .u16 xfl, .int .u64 xst] := by
    refine Blk.kept ?_ hb_9
    (repeat (first | with_reducible assumption | (with_reducible refine Blk.new' ?_; first | with_reducible rfl | (simp; done)) | with_reducible refine Blk.alloc ?_ _ | with_reducible refine Blk.grow ?_ _ | with_reducible refine Blk.drew ?_ | with_reducible refine Blk.drewN ?_ _ | (with_reducible refine Blk.far ?_ (by first | (dsimp only; omega) | (simp; omega)) _) | (with_reducible apply Blk.two) | (with_reducible refine Blk.set' ?_ _ _ ?_) | (with_reducible rfl) | rfl))
  have g_c : Blk w_9 (gc) 28 #[.int .u64 xi1, .int .u64 xi2, .int .u64 xd1, .int .u64 xd2, .int .u64 xc1, .int .u64 xc2, .int .u64 xm1, .int .u64 xm2, .int .u64 xw1, .int .u64 xw2, .int .u64 xtg, .int .u32 qc, .int .u32 xlg, .int .u16 xcd, .int .u16 xfl, .int .u64 xst] := by
    refine Blk.kept ?_ hb_9
    (repeat (first | with_reducible assumption | (with_reducible refine Blk.new' ?_; first | with_reducible rfl | (simp; done)) | with_reducible refine Blk.alloc ?_ _ | with_reducible refine Blk.grow ?_ _ | with_reducible refine Blk.drew ?_ | with_reducible refine Blk.drewN ?_ _ | (with_reducible refine Blk.far ?_ (by first | (dsimp only; omega) | (simp; omega)) _) | (with_reducible apply Blk.two) | (with_reducible refine Blk.set' ?_ _ _ ?_) | (with_reducible rfl) | rfl))
  have g_d : Blk w_9 (gd) 28 #[.int .u64 xi1, .int .u64 xi2, .int .u64 xd1, .int .u64 xd2, .int .u64 xc1, .int .u64 xc2, .int .u64 xm1, .int .u64 xm2, .int .u64 qd, .int .u64 xw2, .int .u64 xtg, .int .u32 xto, .int .u32 xlg, .int .u16 xcd, .int .u16 xfl, .int .u64 xst] := by
    refine Blk.kept ?_ hb_9
    (repeat (first | with_reducible assumption | (with_reducible refine Blk.new' ?_; first | with_reducible rfl | (simp; done)) | with_reducible refine Blk.alloc ?_ _ | with_reducible refine Blk.grow ?_ _ | with_reducible refine Blk.drew ?_ | with_reducible refine Blk.drewN ?_ _ | (with_reducible refine Blk.far ?_ (by first | (dsimp only; omega) | (simp; omega)) _) | (with_reducible apply Blk.two) | (with_reducible refine Blk.set' ?_ _ _ ?_) | (with_reducible rfl) | rfl))
  clear f_k k_l r_k f_f f_l f_0 f_1 f_2 f_3 f_4 f_5 f_f0 f_f1 f_f2 f_f3 f_f4 f_f5 f_a a_l r_a a_7 a_f7 f_b b_l r_b b_10 b_f10 f_c c_l r_c c_11 c_f11 f_d d_l r_d d_8 d_f8 t_k t_a t_b t_c t_d hB_8 hb_9
  have f_k := g_k
  clear g_k
  have f_a := g_a
  clear g_a
  have f_b := g_b
  clear g_b
  have f_c := g_c
  clear g_c
  have f_d := g_d
  clear g_d
  have r_k := rowAt_blk f_k
  have k_l := f_k.lt
  replace f_k := Lib.hid f_k
  have r_a := rowAt_blk f_a
  have a_l := f_a.lt
  have a_7 : w_9.cell? ⟨ga, 7, none⟩ = some (.int .u64 qa) := (f_a).cell 7
  have a_f7 := (f_a).frozen 7
  replace f_a := Lib.hid f_a
  have r_b := rowAt_blk f_b
  have b_l := f_b.lt
  have b_10 : w_9.cell? ⟨gb, 10, none⟩ = some (.int .u64 qb) := (f_b).cell 10
  have b_f10 := (f_b).frozen 10
  replace f_b := Lib.hid f_b
  have r_c := rowAt_blk f_c
  have c_l := f_c.lt
  have c_11 : w_9.cell? ⟨gc, 11, none⟩ = some (.int .u32 qc) := (f_c).cell 11
  have c_f11 := (f_c).frozen 11
  replace f_c := Lib.hid f_c
  have r_d := rowAt_blk f_d
  have d_l := f_d.lt
  have d_8 : w_9.cell? ⟨gd, 8, none⟩ = some (.int .u64 qd) := (f_d).cell 8
  have d_f8 := (f_d).frozen 8
  replace f_d := Lib.hid f_d
  replace hB_9 := Lib.hid hB_9
  go_wp2_with fail
  refine (HA.out _).mono ?_
  rintro e w_10 ⟨rfl, hb_10⟩
  have z_10 := hb_10.size
  try simp at z_10
  have t_ := hB_9.out
  have hB_10 := bel_eld (w := w) (X := _) (by first | ((repeat (first | with_reducible exact Below.refl _ _ | with_reducible assumption | (with_reducible refine bel_set ?_ (by first | exact Nat.le_refl _ | (simp; done) | (simp; omega) | omega) _) | with_reducible refine bel_grow ?_ _ | with_reducible refine Below.drew ?_ | with_reducible refine below_drewN ?_ _ | with_reducible refine bel_alloc ?_ _ | with_reducible refine bel_trans ?_ (by assumption))); done) | (repeat (first | exact Below.refl _ _ | assumption | refine below_drewN ?_ _ | refine bel_grow ?_ _ | refine Below.drew ?_ | refine bel_alloc ?_ _ | refine bel_set ?_ (by first | exact Nat.le_refl _ | (simp; done) | (simp; omega) | omega) _ | refine bel_trans ?_ (by assumption)))) hb_10
  clear t_
  have t_k := f_k.out
  have t_a := f_a.out
  have t_b := f_b.out
  have t_c := f_c.out
  have t_d := f_d.out
  have g_k : Blk w_10 (w_2.heap.size) 58 #[.int .u64 xi1, .int .u64 xi2, .int .u64 xd1, .int .u64 xd2, .int .u64 xc1, .int .u64 xc2, .int .u64 n1, .int .u64 n2, .int .u64 xw1, .int .u64 xw2, .int .u64 xtg, .int .u32 xto, .int .u32 xlg, .int .u16 xcd, .int .u16 xfl, .int .u64 fr, .int .u64 xm1, .int .u64 xm2] := by
    refine Blk.kept ?_ hb_10
    (repeat (first | with_reducible assumption | (with_reducible refine Blk.new' ?_; first | with_reducible rfl | (simp; done)) | with_reducible refine Blk.alloc ?_ _ | with_reducible refine Blk.grow ?_ _ | with_reducible refine Blk.drew ?_ | with_reducible refine Blk.drewN ?_ _ | (with_reducible refine Blk.far ?_ (by first | (dsimp only; omega) | (simp; omega)) _) | (with_reducible apply Blk.two) | (with_reducible refine Blk.set' ?_ _ _ ?_) | (with_reducible rfl) | rfl))
  have g_a : Blk w_10 (ga) 28 #[.int .u64 xi1, .int .u64 xi2, .int .u64 xd1, .int .u64 xd2, .int .u64 xc1, .int .u64 xc2, .int .u64 xm1, .int .u64 qa, .int .u64 xw1, .int .u64 xw2, .int .u64 xtg, .int .u32 xto, .int .u32 xlg, .int .u16 xcd, .int .u16 xfl, .int .u64 xst] := by
    refine Blk.kept ?_ hb_10
    (repeat (first | with_reducible assumption | (with_reducible refine Blk.new' ?_; first | with_reducible rfl | (simp; done)) | with_reducible refine Blk.alloc ?_ _ | with_reducible refine Blk.grow ?_ _ | with_reducible refine Blk.drew ?_ | with_reducible refine Blk.drewN ?_ _ | (with_reducible refine Blk.far ?_ (by first | (dsimp only; omega) | (simp; omega)) _) | (with_reducible apply Blk.two) | (with_reducible refine Blk.set' ?_ _ _ ?_) | (with_reducible rfl) | rfl))
  have g_b : Blk w_10 (gb) 28 #[.int .u64 xi1, .int .u64 xi2, .int .u64 xd1, .int .u64 xd2, .int .u64 xc1, .int .u64 xc2, .int .u64 xm1, .int .u64 xm2, .int .u64 xw1, .int .u64 xw2, .int .u64 qb, .int .u32 xto, .int .u32 xlg, .int .u16 xcd, .int .u16 xfl, .int .u64 xst] := by
    refine Blk.kept ?_ hb_10
    (repeat (first | with_reducible assumption | (with_reducible refine Blk.new' ?_; first | with_reducible rfl | (simp; done)) | with_reducible refine Blk.alloc ?_ _ | with_reducible refine Blk.grow ?_ _ | with_reducible refine Blk.drew ?_ | with_reducible refine Blk.drewN ?_ _ | (with_reducible refine Blk.far ?_ (by first | (dsimp only; omega) | (simp; omega)) _) | (with_reducible apply Blk.two) | (with_reducible refine Blk.set' ?_ _ _ ?_) | (with_reducible rfl) | rfl))
  have g_c : Blk w_10 (gc) 28 #[.int .u64 xi1, .int .u64 xi2, .int .u64 xd1, .int .u64 xd2, .int .u64 xc1, .int .u64 xc2, .int .u64 xm1, .int .u64 xm2, .int .u64 xw1, .int .u64 xw2, .int .u64 xtg, .int .u32 qc, .int .u32 xlg, .int .u16 xcd, .int .u16 xfl, .int .u64 xst] := by
    refine Blk.kept ?_ hb_10
    (repeat (first | with_reducible assumption | (with_reducible refine Blk.new' ?_; first | with_reducible rfl | (simp; done)) | with_reducible refine Blk.alloc ?_ _ | with_reducible refine Blk.grow ?_ _ | with_reducible refine Blk.drew ?_ | with_reducible refine Blk.drewN ?_ _ | (with_reducible refine Blk.far ?_ (by first | (dsimp only; omega) | (simp; omega)) _) | (with_reducible apply Blk.two) | (with_reducible refine Blk.set' ?_ _ _ ?_) | (with_reducible rfl) | rfl))
  have g_d : Blk w_10 (gd) 28 #[.int .u64 xi1, .int .u64 xi2, .int .u64 xd1, .int .u64 xd2, .int .u64 xc1, .int .u64 xc2, .int .u64 xm1, .int .u64 xm2, .int .u64 qd, .int .u64 xw2, .int .u64 xtg, .int .u32 xto, .int .u32 xlg, .int .u16 xcd, .int .u16 xfl, .int .u64 xst] := by
    refine Blk.kept ?_ hb_10
    (repeat (first | with_reducible assumption | (with_reducible refine Blk.new' ?_; first | with_reducible rfl | (simp; done)) | with_reducible refine Blk.alloc ?_ _ | with_reducible refine Blk.grow ?_ _ | with_reducible refine Blk.drew ?_ | with_reducible refine Blk.drewN ?_ _ | (with_reducible refine Blk.far ?_ (by first | (dsimp only; omega) | (simp; omega)) _) | (with_reducible apply Blk.two) | (with_reducible refine Blk.set' ?_ _ _ ?_) | (with_reducible rfl) | rfl))
  clear f_k k_l r_k f_a a_l r_a a_7 a_f7 f_b b_l r_b b_10 b_f10 f_c c_l r_c c_11 c_f11 f_d d_l r_d d_8 d_f8 t_k t_a t_b t_c t_d hB_9 hb_10
  have f_k := g_k
  clear g_k
  have f_a := g_a
  clear g_a
  have f_b := g_b
  clear g_b
  have f_c := g_c
  clear g_c
  have f_d := g_d
  clear g_d
  have r_k := rowAt_blk f_k
  have k_l := f_k.lt
  replace f_k := Lib.hid f_k
  have r_a := rowAt_blk f_a
  have a_l := f_a.lt
  have a_7 : w_10.cell? ⟨ga, 7, none⟩ = some (.int .u64 qa) := (f_a).cell 7
  have a_f7 := (f_a).frozen 7
  replace f_a := Lib.hid f_a
  have r_b := rowAt_blk f_b
  have b_l := f_b.lt
  have b_10 : w_10.cell? ⟨gb, 10, none⟩ = some (.int .u64 qb) := (f_b).cell 10
  have b_f10 := (f_b).frozen 10
  replace f_b := Lib.hid f_b
  have r_c := rowAt_blk f_c
  have c_l := f_c.lt
  have c_11 : w_10.cell? ⟨gc, 11, none⟩ = some (.int .u32 qc) := (f_c).cell 11
  have c_f11 := (f_c).frozen 11
  replace f_c := Lib.hid f_c
  have r_d := rowAt_blk f_d
  have d_l := f_d.lt
  have d_8 : w_10.cell? ⟨gd, 8, none⟩ = some (.int .u64 qd) := (f_d).cell 8
  have d_f8 := (f_d).frozen 8
  replace f_d := Lib.hid f_d
  replace hB_10 := Lib.hid hB_10
  go_wp2_with fail
  refine (HB.out _).mono ?_
  rintro e w_11 ⟨rfl, hb_11⟩
  have z_11 := hb_11.size
  try simp at z_11
  have t_ := hB_10.out
  have hB_11 := bel_eld (w := w) (X := _) (by first | ((repeat (first | with_reducible exact Below.refl _ _ | with_reducible assumption | (with_reducible refine bel_set ?_ (by first | exact Nat.le_refl _ | (simp; done) | (simp; omega) | omega) _) | with_reducible refine bel_grow ?_ _ | with_reducible refine Below.drew ?_ | with_reducible refine below_drewN ?_ _ | with_reducible refine bel_alloc ?_ _ | with_reducible refine bel_trans ?_ (by assumption))); done) | (repeat (first | exact Below.refl _ _ | assumption | refine below_drewN ?_ _ | refine bel_grow ?_ _ | refine Below.drew ?_ | refine bel_alloc ?_ _ | refine bel_set ?_ (by first | exact Nat.le_refl _ | (simp; done) | (simp; omega) | omega) _ | refine bel_trans ?_ (by assumption)))) hb_11
  clear t_
  have t_k := f_k.out
  have t_a := f_a.out
  have t_b := f_b.out
  have t_c := f_c.out
  have t_d := f_d.out
  have g_k : Blk w_11 (w_2.heap.size) 58 #[.int .u64 xi1, .int .u64 xi2, .int .u64 xd1, .int .u64 xd2, .int .u64 xc1, .int .u64 xc2, .int .u64 n1, .int .u64 n2, .int .u64 xw1, .int .u64 xw2, .int .u64 xtg, .int .u32 xto, .int .u32 xlg, .int .u16 xcd, .int .u16 xfl, .int .u64 fr, .int .u64 xm1, .int .u64 xm2] := by
    refine Blk.kept ?_ hb_11
    (repeat (first | with_reducible assumption | (with_reducible refine Blk.new' ?_; first | with_reducible rfl | (simp; done)) | with_reducible refine Blk.alloc ?_ _ | with_reducible refine Blk.grow ?_ _ | with_reducible refine Blk.drew ?_ | with_reducible refine Blk.drewN ?_ _ | (with_reducible refine Blk.far ?_ (by first | (dsimp only; omega) | (simp; omega)) _) | (with_reducible apply Blk.two) | (with_reducible refine Blk.set' ?_ _ _ ?_) | (with_reducible rfl) | rfl))
  have g_a : Blk w_11 (ga) 28 #[.int .u64 xi1, .int .u64 xi2, .int .u64 xd1, .int .u64 xd2, .int .u64 xc1, .int .u64 xc2, .int .u64 xm1, .int .u64 qa, .int .u64 xw1, .int .u64 xw2, .int .u64 xtg, .int .u32 xto, .int .u32 xlg, .int .u16 xcd, .int .u16 xfl, .int .u64 xst] := by
    refine Blk.kept ?_ hb_11
    (repeat (first | with_reducible assumption | (with_reducible refine Blk.new' ?_; first | with_reducible rfl | (simp; done)) | with_reducible refine Blk.alloc ?_ _ | with_reducible refine Blk.grow ?_ _ | with_reducible refine Blk.drew ?_ | with_reducible refine Blk.drewN ?_ _ | (with_reducible refine Blk.far ?_ (by first | (dsimp only; omega) | (simp; omega)) _) | (with_reducible apply Blk.two) | (with_reducible refine Blk.set' ?_ _ _ ?_) | (with_reducible rfl) | rfl))
  have g_b : Blk w_11 (gb) 28 #[.int .u64 xi1, .int .u64 xi2, .int .u64 xd1, .int .u64 xd2, .int .u64 xc1, .int .u64 xc2, .int .u64 xm1, .int .u64 xm2, .int .u64 xw1, .int .u64 xw2, .int .u64 qb, .int .u32 xto, .int .u32 xlg, .int .u16 xcd, .int .u16 xfl, .int .u64 xst] := by
    refine Blk.kept ?_ hb_11
    (repeat (first | with_reducible assumption | (with_reducible refine Blk.new' ?_; first | with_reducible rfl | (simp; done)) | with_reducible refine Blk.alloc ?_ _ | with_reducible refine Blk.grow ?_ _ | with_reducible refine Blk.drew ?_ | with_reducible refine Blk.drewN ?_ _ | (with_reducible refine Blk.far ?_ (by first | (dsimp only; omega) | (simp; omega)) _) | (with_reducible apply Blk.two) | (with_reducible refine Blk.set' ?_ _ _ ?_) | (with_reducible rfl) | rfl))
  have g_c : Blk w_11 (gc) 28 #[.int .u64 xi1, .int .u64 xi2, .int .u64 xd1, .int .u64 xd2, .int .u64 xc1, .int .u64 xc2, .int .u64 xm1, .int .u64 xm2, .int .u64 xw1, .int .u64 xw2, .int .u64 xtg, .int .u32 qc, .int .u32 xlg, .int .u16 xcd, .int .u16 xfl, .int .u64 xst] := by
    refine Blk.kept ?_ hb_11
    (repeat (first | with_reducible assumption | (with_reducible refine Blk.new' ?_; first | with_reducible rfl | (simp; done)) | with_reducible refine Blk.alloc ?_ _ | with_reducible refine Blk.grow ?_ _ | with_reducible refine Blk.drew ?_ | with_reducible refine Blk.drewN ?_ _ | (with_reducible refine Blk.far ?_ (by first | (dsimp only; omega) | (simp; omega)) _) | (with_reducible apply Blk.two) | (with_reducible refine Blk.set' ?_ _ _ ?_) | (with_reducible rfl) | rfl))
  have g_d : Blk w_11 (gd) 28 #[.int .u64 xi1, .int .u64 xi2, .int .u64 xd1, .int .u64 xd2, .int .u64 xc1, .int .u64 xc2, .int .u64 xm1, .int .u64 xm2, .int .u64 qd, .int .u64 xw2, .int .u64 xtg, .int .u32 xto, .int .u32 xlg, .int .u16 xcd, .int .u16 xfl, .int .u64 xst] := by
    refine Blk.kept ?_ hb_11
    (repeat (first | with_reducible assumption | (with_reducible refine Blk.new' ?_; first | with_reducible rfl | (simp; done)) | with_reducible refine Blk.alloc ?_ _ | with_reducible refine Blk.grow ?_ _ | with_reducible refine Blk.drew ?_ | with_reducible refine Blk.drewN ?_ _ | (with_reducible refine Blk.far ?_ (by first | (dsimp only; omega) | (simp; omega)) _) | (with_reducible apply Blk.two) | (with_reducible refine Blk.set' ?_ _ _ ?_) | (with_reducible rfl) | rfl))
  clear f_k k_l r_k f_a a_l r_a a_7 a_f7 f_b b_l r_b b_10 b_f10 f_c c_l r_c c_11 c_f11 f_d d_l r_d d_8 d_f8 t_k t_a t_b t_c t_d hB_10 hb_11
  have f_k := g_k
  clear g_k
  have f_a := g_a
  clear g_a
  have f_b := g_b
  clear g_b
  have f_c := g_c
  clear g_c
  have f_d := g_d
  clear g_d
  have r_k := rowAt_blk f_k
  have k_l := f_k.lt
  replace f_k := Lib.hid f_k
  have r_a := rowAt_blk f_a
  have a_l := f_a.lt
  have a_7 : w_11.cell? ⟨ga, 7, none⟩ = some (.int .u64 qa) := (f_a).cell 7
  have a_f7 := (f_a).frozen 7
  replace f_a := Lib.hid f_a
  have r_b := rowAt_blk f_b
  have b_l := f_b.lt
  have b_10 : w_11.cell? ⟨gb, 10, none⟩ = some (.int .u64 qb) := (f_b).cell 10
  have b_f10 := (f_b).frozen 10
  replace f_b := Lib.hid f_b
  have r_c := rowAt_blk f_c
  have c_l := f_c.lt
  have c_11 : w_11.cell? ⟨gc, 11, none⟩ = some (.int .u32 qc) := (f_c).cell 11
  have c_f11 := (f_c).frozen 11
  replace f_c := Lib.hid f_c
  have r_d := rowAt_blk f_d
  have d_l := f_d.lt
  have d_8 : w_11.cell? ⟨gd, 8, none⟩ = some (.int .u64 qd) := (f_d).cell 8
  have d_f8 := (f_d).frozen 8
  replace f_d := Lib.hid f_d
  replace hB_11 := Lib.hid hB_11
  go_wp2_with fail
  refine (HC.out _).mono ?_
  rintro e w_12 ⟨rfl, hb_12⟩
  have z_12 := hb_12.size
  try simp at z_12
  have t_ := hB_11.out
  have hB_12 := bel_eld (w := w) (X := _) (by first | ((repeat (first | with_reducible exact Below.refl _ _ | with_reducible assumption | (with_reducible refine bel_set ?_ (by first | exact Nat.le_refl _ | (simp; done) | (simp; omega) | omega) _) | with_reducible refine bel_grow ?_ _ | with_reducible refine Below.drew ?_ | with_reducible refine below_drewN ?_ _ | with_reducible refine bel_alloc ?_ _ | with_reducible refine bel_trans ?_ (by assumption))); done) | (repeat (first | exact Below.refl _ _ | assumption | refine below_drewN ?_ _ | refine bel_grow ?_ _ | refine Below.drew ?_ | refine bel_alloc ?_ _ | refine bel_set ?_ (by first | exact Nat.le_refl _ | (simp; done) | (simp; omega) | omega) _ | refine bel_trans ?_ (by assumption)))) hb_12
  clear t_
  have t_k := f_k.out
  have t_a := f_a.out
  have t_b := f_b.out
  have t_c := f_c.out
  have t_d := f_d.out
  have g_k : Blk w_12 (w_2.heap.size) 58 #[.int .u64 xi1, .int .u64 xi2, .int .u64 xd1, .int .u64 xd2, .int .u64 xc1, .int .u64 xc2, .int .u64 n1, .int .u64 n2, .int .u64 xw1, .int .u64 xw2, .int .u64 xtg, .int .u32 xto, .int .u32 xlg, .int .u16 xcd, .int .u16 xfl, .int .u64 fr, .int .u64 xm1, .int .u64 xm2] := by
    refine Blk.kept ?_ hb_12
    (repeat (first | with_reducible assumption | (with_reducible refine Blk.new' ?_; first | with_reducible rfl | (simp; done)) | with_reducible refine Blk.alloc ?_ _ | with_reducible refine Blk.grow ?_ _ | with_reducible refine Blk.drew ?_ | with_reducible refine Blk.drewN ?_ _ | (with_reducible refine Blk.far ?_ (by first | (dsimp only; omega) | (simp; omega)) _) | (with_reducible apply Blk.two) | (with_reducible refine Blk.set' ?_ _ _ ?_) | (with_reducible rfl) | rfl))
  have g_a : Blk w_12 (ga) 28 #[.int .u64 xi1, .int .u64 xi2, .int .u64 xd1, .int .u64 xd2, .int .u64 xc1, .int .u64 xc2, .int .u64 xm1, .int .u64 qa, .int .u64 xw1, .int .u64 xw2, .int .u64 xtg, .int .u32 xto, .int .u32 xlg, .int .u16 xcd, .int .u16 xfl, .int .u64 xst] := by
    refine Blk.kept ?_ hb_12
    (repeat (first | with_reducible assumption | (with_reducible refine Blk.new' ?_; first | with_reducible rfl | (simp; done)) | with_reducible refine Blk.alloc ?_ _ | with_reducible refine Blk.grow ?_ _ | with_reducible refine Blk.drew ?_ | with_reducible refine Blk.drewN ?_ _ | (with_reducible refine Blk.far ?_ (by first | (dsimp only; omega) | (simp; omega)) _) | (with_reducible apply Blk.two) | (with_reducible refine Blk.set' ?_ _ _ ?_) | (with_reducible rfl) | rfl))
  have g_b : Blk w_12 (gb) 28 #[.int .u64 xi1, .int .u64 xi2, .int .u64 xd1, .int .u64 xd2, .int .u64 xc1, .int .u64 xc2, .int .u64 xm1, .int .u64 xm2, .int .u64 xw1, .int .u64 xw2, .int .u64 qb, .int .u32 xto, .int .u32 xlg, .int .u16 xcd, .int .u16 xfl, .int .u64 xst] := by
    refine Blk.kept ?_ hb_12
    (repeat (first | with_reducible assumption | (with_reducible refine Blk.new' ?_; first | with_reducible rfl | (simp; done)) | with_reducible refine Blk.alloc ?_ _ | with_reducible refine Blk.grow ?_ _ | with_reducible refine Blk.drew ?_ | with_reducible refine Blk.drewN ?_ _ | (with_reducible refine Blk.far ?_ (by first | (dsimp only; omega) | (simp; omega)) _) | (with_reducible apply Blk.two) | (with_reducible refine Blk.set' ?_ _ _ ?_) | (with_reducible rfl) | rfl))
  have g_c : Blk w_12 (gc) 28 #[.int .u64 xi1, .int .u64 xi2, .int .u64 xd1, .int .u64 xd2, .int .u64 xc1, .int .u64 xc2, .int .u64 xm1, .int .u64 xm2, .int .u64 xw1, .int .u64 xw2, .int .u64 xtg, .int .u32 qc, .int .u32 xlg, .int .u16 xcd, .int .u16 xfl, .int .u64 xst] := by
    refine Blk.kept ?_ hb_12
    (repeat (first | with_reducible assumption | (with_reducible refine Blk.new' ?_; first | with_reducible rfl | (simp; done)) | with_reducible refine Blk.alloc ?_ _ | with_reducible refine Blk.grow ?_ _ | with_reducible refine Blk.drew ?_ | with_reducible refine Blk.drewN ?_ _ | (with_reducible refine Blk.far ?_ (by first | (dsimp only; omega) | (simp; omega)) _) | (with_reducible apply Blk.two) | (with_reducible refine Blk.set' ?_ _ _ ?_) | (with_reducible rfl) | rfl))
  have g_d : Blk w_12 (gd) 28 #[.int .u64 xi1, .int .u64 xi2, .int .u64 xd1, .int .u64 xd2, .int .u64 xc1, .int .u64 xc2, .int .u64 xm1, .int .u64 xm2, .int .u64 qd, .int .u64 xw2, .int .u64 xtg, .int .u32 xto, .int .u32 xlg, .int .u16 xcd, .int .u16 xfl, .int .u64 xst] := by
    refine Blk.kept ?_ hb_12
    (repeat (first | with_reducible assumption | (with_reducible refine Blk.new' ?_; first | with_reducible rfl | (simp; done)) | with_reducible refine Blk.alloc ?_ _ | with_reducible refine Blk.grow ?_ _ | with_reducible refine Blk.drew ?_ | with_reducible refine Blk.drewN ?_ _ | (with_reducible refine Blk.far ?_ (by first | (dsimp only; omega) | (simp; omega)) _) | (with_reducible apply Blk.two) | (with_reducible refine Blk.set' ?_ _ _ ?_) | (with_reducible rfl) | rfl))
  clear f_k k_l r_k f_a a_l r_a a_7 a_f7 f_b b_l r_b b_10 b_f10 f_c c_l r_c c_11 c_f11 f_d d_l r_d d_8 d_f8 t_k t_a t_b t_c t_d hB_11 hb_12
  have f_k := g_k
  clear g_k
  have f_a := g_a
  clear g_a
  have f_b := g_b
  clear g_b
  have f_c := g_c
  clear g_c
  have f_d := g_d
  clear g_d
  have r_k := rowAt_blk f_k
  have k_l := f_k.lt
  replace f_k := Lib.hid f_k
  have r_a := rowAt_blk f_a
  have a_l := f_a.lt
  have a_7 : w_12.cell? ⟨ga, 7, none⟩ = some (.int .u64 qa) := (f_a).cell 7
  have a_f7 := (f_a).frozen 7
  replace f_a := Lib.hid f_a
  have r_b := rowAt_blk f_b
  have b_l := f_b.lt
  have b_10 : w_12.cell? ⟨gb, 10, none⟩ = some (.int .u64 qb) := (f_b).cell 10
  have b_f10 := (f_b).frozen 10
  replace f_b := Lib.hid f_b
  have r_c := rowAt_blk f_c
  have c_l := f_c.lt
  have c_11 : w_12.cell? ⟨gc, 11, none⟩ = some (.int .u32 qc) := (f_c).cell 11
  have c_f11 := (f_c).frozen 11
  replace f_c := Lib.hid f_c
  have r_d := rowAt_blk f_d
  have d_l := f_d.lt
  have d_8 : w_12.cell? ⟨gd, 8, none⟩ = some (.int .u64 qd) := (f_d).cell 8
  have d_f8 := (f_d).frozen 8
  replace f_d := Lib.hid f_d
  replace hB_12 := Lib.hid hB_12
  go_wp2_with fail
  refine (HD.out _).mono ?_
  rintro e w_13 ⟨rfl, hb_13⟩
  have z_13 := hb_13.size
  try simp at z_13
  have t_ := hB_12.out
  have hB_13 := bel_eld (w := w) (X := _) (by first | ((repeat (first | with_reducible exact Below.refl _ _ | with_reducible assumption | (with_reducible refine bel_set ?_ (by first | exact Nat.le_refl _ | (simp; done) | (simp; omega) | omega) _) | with_reducible refine bel_grow ?_ _ | with_reducible refine Below.drew ?_ | with_reducible refine below_drewN ?_ _ | with_reducible refine bel_alloc ?_ _ | with_reducible refine bel_trans ?_ (by assumption))); done) | (repeat (first | exact Below.refl _ _ | assumption | refine below_drewN ?_ _ | refine bel_grow ?_ _ | refine Below.drew ?_ | refine bel_alloc ?_ _ | refine bel_set ?_ (by first | exact Nat.le_refl _ | (simp; done) | (simp; omega) | omega) _ | refine bel_trans ?_ (by assumption)))) hb_13
  clear t_
  have t_k := f_k.out
  have t_a := f_a.out
  have t_b := f_b.out
  have t_c := f_c.out
  have t_d := f_d.out
  have g_k : Blk w_13 (w_2.heap.size) 58 #[.int .u64 xi1, .int .u64 xi2, .int .u64 xd1, .int .u64 xd2, .int .u64 xc1, .int .u64 xc2, .int .u64 n1, .int .u64 n2, .int .u64 xw1, .int .u64 xw2, .int .u64 xtg, .int .u32 xto, .int .u32 xlg, .int .u16 xcd, .int .u16 xfl, .int .u64 fr, .int .u64 xm1, .int .u64 xm2] := by
    refine Blk.kept ?_ hb_13
    (repeat (first | with_reducible assumption | (with_reducible refine Blk.new' ?_; first | with_reducible rfl | (simp; done)) | with_reducible refine Blk.alloc ?_ _ | with_reducible refine Blk.grow ?_ _ | with_reducible refine Blk.drew ?_ | with_reducible refine Blk.drewN ?_ _ | (with_reducible refine Blk.far ?_ (by first | (dsimp only; omega) | (simp; omega)) _) | (with_reducible apply Blk.two) | (with_reducible refine Blk.set' ?_ _ _ ?_) | (with_reducible rfl) | rfl))
  have g_a : Blk w_13 (ga) 28 #[.int .u64 xi1, .int .u64 xi2, .int .u64 xd1, .int .u64 xd2, .int .u64 xc1, .int .u64 xc2, .int .u64 xm1, .int .u64 qa, .int .u64 xw1, .int .u64 xw2, .int .u64 xtg, .int .u32 xto, .int .u32 xlg, .int .u16 xcd, .int .u16 xfl, .int .u64 xst] := by
    refine Blk.kept ?_ hb_13
    (repeat (first | with_reducible assumption | (with_reducible refine Blk.new' ?_; first | with_reducible rfl | (simp; done)) | with_reducible refine Blk.alloc ?_ _ | with_reducible refine Blk.grow ?_ _ | with_reducible refine Blk.drew ?_ | with_reducible refine Blk.drewN ?_ _ | (with_reducible refine Blk.far ?_ (by first | (dsimp only; omega) | (simp; omega)) _) | (with_reducible apply Blk.two) | (with_reducible refine Blk.set' ?_ _ _ ?_) | (with_reducible rfl) | rfl))
  have g_b : Blk w_13 (gb) 28 #[.int .u64 xi1, .int .u64 xi2, .int .u64 xd1, .int .u64 xd2, .int .u64 xc1, .int .u64 xc2, .int .u64 xm1, .int .u64 xm2, .int .u64 xw1, .int .u64 xw2, .int .u64 qb, .int .u32 xto, .int .u32 xlg, .int .u16 xcd, .int .u16 xfl, .int .u64 xst] := by
    refine Blk.kept ?_ hb_13
    (repeat (first | with_reducible assumption | (with_reducible refine Blk.new' ?_; first | with_reducible rfl | (simp; done)) | with_reducible refine Blk.alloc ?_ _ | with_reducible refine Blk.grow ?_ _ | with_reducible refine Blk.drew ?_ | with_reducible refine Blk.drewN ?_ _ | (with_reducible refine Blk.far ?_ (by first | (dsimp only; omega) | (simp; omega)) _) | (with_reducible apply Blk.two) | (with_reducible refine Blk.set' ?_ _ _ ?_) | (with_reducible rfl) | rfl))
  have g_c : Blk w_13 (gc) 28 #[.int .u64 xi1, .int .u64 xi2, .int .u64 xd1, .int .u64 xd2, .int .u64 xc1, .int .u64 xc2, .int .u64 xm1, .int .u64 xm2, .int .u64 xw1, .int .u64 xw2, .int .u64 xtg, .int .u32 qc, .int .u32 xlg, .int .u16 xcd, .int .u16 xfl, .int .u64 xst] := by
    refine Blk.kept ?_ hb_13
    (repeat (first | with_reducible assumption | (with_reducible refine Blk.new' ?_; first | with_reducible rfl | (simp; done)) | with_reducible refine Blk.alloc ?_ _ | with_reducible refine Blk.grow ?_ _ | with_reducible refine Blk.drew ?_ | with_reducible refine Blk.drewN ?_ _ | (with_reducible refine Blk.far ?_ (by first | (dsimp only; omega) | (simp; omega)) _) | (with_reducible apply Blk.two) | (with_reducible refine Blk.set' ?_ _ _ ?_) | (with_reducible rfl) | rfl))
  have g_d : Blk w_13 (gd) 28 #[.int .u64 xi1, .int .u64 xi2, .int .u64 xd1, .int .u64 xd2, .int .u64 xc1, .int .u64 xc2, .int .u64 xm1, .int .u64 xm2, .int .u64 qd, .int .u64 xw2, .int .u64 xtg, .int .u32 xto, .int .u32 xlg, .int .u16 xcd, .int .u16 xfl, .int .u64 xst] := by
    refine Blk.kept ?_ hb_13
    (repeat (first | with_reducible assumption | (with_reducible refine Blk.new' ?_; first | with_reducible rfl | (simp; done)) | with_reducible refine Blk.alloc ?_ _ | with_reducible refine Blk.grow ?_ _ | with_reducible refine Blk.drew ?_ | with_reducible refine Blk.drewN ?_ _ | (with_reducible refine Blk.far ?_ (by first | (dsimp only; omega) | (simp; omega)) _) | (with_reducible apply Blk.two) | (with_reducible refine Blk.set' ?_ _ _ ?_) | (with_reducible rfl) | rfl))
  clear f_k k_l r_k f_a a_l r_a a_7 a_f7 f_b b_l r_b b_10 b_f10 f_c c_l r_c c_11 c_f11 f_d d_l r_d d_8 d_f8 t_k t_a t_b t_c t_d hB_12 hb_13
  have f_k := g_k
  clear g_k
  have f_a := g_a
  clear g_a
  have f_b := g_b
  clear g_b
  have f_c := g_c
  clear g_c
  have f_d := g_d
  clear g_d
  have r_k := rowAt_blk f_k
  have k_l := f_k.lt
  replace f_k := Lib.hid f_k
  have r_a := rowAt_blk f_a
  have a_l := f_a.lt
  have a_7 : w_13.cell? ⟨ga, 7, none⟩ = some (.int .u64 qa) := (f_a).cell 7
  have a_f7 := (f_a).frozen 7
  replace f_a := Lib.hid f_a
  have r_b := rowAt_blk f_b
  have b_l := f_b.lt
  have b_10 : w_13.cell? ⟨gb, 10, none⟩ = some (.int .u64 qb) := (f_b).cell 10
  have b_f10 := (f_b).frozen 10
  replace f_b := Lib.hid f_b
  have r_c := rowAt_blk f_c
  have c_l := f_c.lt
  have c_11 : w_13.cell? ⟨gc, 11, none⟩ = some (.int .u32 qc) := (f_c).cell 11
  have c_f11 := (f_c).frozen 11
  replace f_c := Lib.hid f_c
  have r_d := rowAt_blk f_d
  have d_l := f_d.lt
  have d_8 : w_13.cell? ⟨gd, 8, none⟩ = some (.int .u64 qd) := (f_d).cell 8
  have d_f8 := (f_d).frozen 8
  replace f_d := Lib.hid f_d
  replace hB_13 := Lib.hid hB_13
  go_wp2_with fail
  go_ret
  exact ⟨rfl, by have t_B := hB_13.out; (repeat (first | with_reducible exact Below.refl _ _ | with_reducible assumption | (with_reducible refine bel_set ?_ (by first | exact Nat.le_refl _ | (simp; done) | (simp; omega) | omega) _) | with_reducible refine bel_grow ?_ _ | with_reducible refine Below.drew ?_ | with_reducible refine bel_alloc ?_ _ | with_reducible refine bel_eld ?_ (by assumption)))⟩
end Go.Proofs.Ytpbnakoimlmhnaa
