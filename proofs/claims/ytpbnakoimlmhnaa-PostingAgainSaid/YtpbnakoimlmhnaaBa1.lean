/-
  How much is moved, walked.
-/
import Derived.Test.YtpbnakoimlmhnaaBa
import Derived.Test.YtpbnakoimlmhnaaBk
import Derived.Deep.RegionHeld
import Derived.Deep.DeepCutAuto
namespace Go.Proofs.Ytpbnakoimlmhnaa
set_option linter.unusedVariables false
set_option linter.unusedSimpArgs false
open Go.RowKit

attribute [local go_sem] loadV_ptr storeV_ptr one_func drew_hs ext_deb ext_cre ext_cols ext_acc
attribute [local go_sem ↓] load_Cols store_Cols load_Transfer store_Transfer load_Parties store_Parties load_Acct store_Acct
set_option maxRecDepth 8000 in
set_option maxHeartbeats 8000000 in
theorem asked_false_false (xi1 xi2 xd1 xd2 xc1 xc2 xm1 xm2 xw1 xw2 xtg xto xlg xcd xfl xst ai1 ai2 ap1 ap2 aq1 aq2 ar1 ar2 as1 as2 atg alg acd afl ast ei1 ei2 ep1 ep2 eq1 eq2 er1 er2 es1 es2 etg elg ecd efl est : Int) (hd hc : Bool) (d1 d2 c1 c2 o1 o2 z1 z2 : Int) (h16 : (bits .and .u16 xfl 16 != 0) = false) (h32 : (bits .and .u16 xfl 32 != 0) = false)
    (HLd : ∀ w, Calls Try.prog 49 #[.agg #[.func (.func 73) #[] #[], .func (.func 74) #[] #[], .func (.func 75) #[] #[]], .agg #[.int .u64 ai1, .int .u64 ai2, .int .u64 ap1, .int .u64 ap2, .int .u64 aq1, .int .u64 aq2, .int .u64 ar1, .int .u64 ar2, .int .u64 as1, .int .u64 as2, .int .u64 atg, .int .u32 alg, .int .u16 acd, .int .u16 afl, .int .u64 ast]] w fun r w' => r = .returned (.agg #[.int .u64 d1, .int .u64 d2]) ∧ Below w.heap.size w w')
    (HLc : ∀ w, Calls Try.prog 49 #[.agg #[.func (.func 76) #[] #[], .func (.func 75) #[] #[], .func (.func 74) #[] #[]], .agg #[.int .u64 ei1, .int .u64 ei2, .int .u64 ep1, .int .u64 ep2, .int .u64 eq1, .int .u64 eq2, .int .u64 er1, .int .u64 er2, .int .u64 es1, .int .u64 es2, .int .u64 etg, .int .u32 elg, .int .u16 ecd, .int .u16 efl, .int .u64 est]] w fun r w' => r = .returned (.agg #[.int .u64 c1, .int .u64 c2]) ∧ Below w.heap.size w w')
    (w : World) : Calls Try.prog 20 #[.agg #[.int .u64 xi1, .int .u64 xi2, .int .u64 xd1, .int .u64 xd2, .int .u64 xc1, .int .u64 xc2, .int .u64 xm1, .int .u64 xm2, .int .u64 xw1, .int .u64 xw2, .int .u64 xtg, .int .u32 xto, .int .u32 xlg, .int .u16 xcd, .int .u16 xfl, .int .u64 xst], .agg #[.int .u64 ai1, .int .u64 ai2, .int .u64 ap1, .int .u64 ap2, .int .u64 aq1, .int .u64 aq2, .int .u64 ar1, .int .u64 ar2, .int .u64 as1, .int .u64 as2, .int .u64 atg, .int .u32 alg, .int .u16 acd, .int .u16 afl, .int .u64 ast, .int .u64 ei1, .int .u64 ei2, .int .u64 ep1, .int .u64 ep2, .int .u64 eq1, .int .u64 eq2, .int .u64 er1, .int .u64 er2, .int .u64 es1, .int .u64 es2, .int .u64 etg, .int .u32 elg, .int .u16 ecd, .int .u16 efl, .int .u64 est, .bool hd, .bool hc]] w fun r w' => r = .returned (.agg #[.int .u64 xm1, .int .u64 xm2]) ∧ Below w.heap.size w w' := by
  replace HLd := Lib.hid HLd
  replace HLc := Lib.hid HLc
  have HDb := Lib.hid debits_any
  have HCr := Lib.hid credits_any
  have hb0 := Below.refl w.heap.size w
  go_enter Try.func20, Try.ntmps20
  replace hb0 := Lib.hid hb0
  go_wp2_with fail
  refine abs_post (fun Y_ => Below w.heap.size w Y_ ∧ Blk Y_ (w.heap.size + 2) 24 #[.int .u64 xm1, .int .u64 xm2]) ?_ ?_
  · have t_B := hb0.out
    exact ⟨by (repeat (first | with_reducible exact Below.refl _ _ | with_reducible assumption | (with_reducible refine bel_set ?_ (by first | exact Nat.le_refl _ | (simp; done) | (simp; omega) | omega) _) | with_reducible refine bel_grow ?_ _ | with_reducible refine Below.drew ?_ | with_reducible refine bel_alloc ?_ _ | (with_reducible refine below_setRow ?_ (by first | omega | (simp; omega)) _) | with_reducible refine bel_eld ?_ (by assumption))), by (repeat (first | with_reducible assumption | (with_reducible refine Blk.new' ?_; first | with_reducible rfl | (simp; done)) | with_reducible refine Blk.alloc ?_ _ | with_reducible refine Blk.grow ?_ _ | with_reducible refine Blk.drew ?_ | with_reducible refine Blk.drewN ?_ _ | (with_reducible refine Blk.far ?_ (by first | (dsimp only; omega) | (simp; omega)) _) | (with_reducible apply Blk.two) | (with_reducible refine Blk.kept ?_ (by assumption)) | (with_reducible refine Blk.setRow (by assumption) (by first | rfl | (simp; done))) | (with_reducible refine Blk.setRow_far ?_ (by first | omega | (simp; omega)) _) | (with_reducible refine Blk.set' ?_ _ _ (by first | rfl | (simp; done)))))⟩
  rintro Y_ ⟨bZ_, gP_⟩
  have p_0 := gP_.cell 0
  have p_1 := gP_.cell 1
  have p_l := gP_.lt
  refine bodyPost_ret (v := .agg #[.int .u64 xm1, .int .u64 xm2]) (by simp [results, Try.results20, go_sem, p_0, p_1, p_l]) rfl ⟨by first | rfl | (rw [hk.out]; rfl), bZ_⟩
set_option maxRecDepth 8000 in
set_option maxHeartbeats 8000000 in
theorem asked_true_false (xi1 xi2 xd1 xd2 xc1 xc2 xm1 xm2 xw1 xw2 xtg xto xlg xcd xfl xst ai1 ai2 ap1 ap2 aq1 aq2 ar1 ar2 as1 as2 atg alg acd afl ast ei1 ei2 ep1 ep2 eq1 eq2 er1 er2 es1 es2 etg elg ecd efl est : Int) (hd hc : Bool) (d1 d2 c1 c2 o1 o2 z1 z2 : Int) (h16 : (bits .and .u16 xfl 16 != 0) = true) (h32 : (bits .and .u16 xfl 32 != 0) = false)
    (HLd : ∀ w, Calls Try.prog 49 #[.agg #[.func (.func 73) #[] #[], .func (.func 74) #[] #[], .func (.func 75) #[] #[]], .agg #[.int .u64 ai1, .int .u64 ai2, .int .u64 ap1, .int .u64 ap2, .int .u64 aq1, .int .u64 aq2, .int .u64 ar1, .int .u64 ar2, .int .u64 as1, .int .u64 as2, .int .u64 atg, .int .u32 alg, .int .u16 acd, .int .u16 afl, .int .u64 ast]] w fun r w' => r = .returned (.agg #[.int .u64 d1, .int .u64 d2]) ∧ Below w.heap.size w w')
    (HLc : ∀ w, Calls Try.prog 49 #[.agg #[.func (.func 76) #[] #[], .func (.func 75) #[] #[], .func (.func 74) #[] #[]], .agg #[.int .u64 ei1, .int .u64 ei2, .int .u64 ep1, .int .u64 ep2, .int .u64 eq1, .int .u64 eq2, .int .u64 er1, .int .u64 er2, .int .u64 es1, .int .u64 es2, .int .u64 etg, .int .u32 elg, .int .u16 ecd, .int .u16 efl, .int .u64 est]] w fun r w' => r = .returned (.agg #[.int .u64 c1, .int .u64 c2]) ∧ Below w.heap.size w w')
    (HT1 : ∀ w g, Blk w g 24 #[.int .u64 xm1, .int .u64 xm2, .int .u64 d1, .int .u64 d2] → Calls Try.prog 48 #[.slice (some ⟨g, 0, none⟩) 2 2] w fun r w' => r = .returned (.agg #[.int .u64 o1, .int .u64 o2]) ∧ Below w.heap.size w w')
    (w : World) : Calls Try.prog 20 #[.agg #[.int .u64 xi1, .int .u64 xi2, .int .u64 xd1, .int .u64 xd2, .int .u64 xc1, .int .u64 xc2, .int .u64 xm1, .int .u64 xm2, .int .u64 xw1, .int .u64 xw2, .int .u64 xtg, .int .u32 xto, .int .u32 xlg, .int .u16 xcd, .int .u16 xfl, .int .u64 xst], .agg #[.int .u64 ai1, .int .u64 ai2, .int .u64 ap1, .int .u64 ap2, .int .u64 aq1, .int .u64 aq2, .int .u64 ar1, .int .u64 ar2, .int .u64 as1, .int .u64 as2, .int .u64 atg, .int .u32 alg, .int .u16 acd, .int .u16 afl, .int .u64 ast, .int .u64 ei1, .int .u64 ei2, .int .u64 ep1, .int .u64 ep2, .int .u64 eq1, .int .u64 eq2, .int .u64 er1, .int .u64 er2, .int .u64 es1, .int .u64 es2, .int .u64 etg, .int .u32 elg, .int .u16 ecd, .int .u16 efl, .int .u64 est, .bool hd, .bool hc]] w fun r w' => r = .returned (.agg #[.int .u64 o1, .int .u64 o2]) ∧ Below w.heap.size w w' := by
  replace HLd := Lib.hid HLd
  replace HLc := Lib.hid HLc
  replace HT1 := Lib.hid HT1
  have HDb := Lib.hid debits_any
  have HCr := Lib.hid credits_any
  have hb0 := Below.refl w.heap.size w
  go_enter Try.func20, Try.ntmps20
  go_upto_region 3 with fail
  replace hb0 := Lib.hid hb0
  refine abs_wp (fun Y_ => Below w.heap.size w Y_ ∧ Blk Y_ (w.heap.size) 28 #[.int .u64 xi1, .int .u64 xi2, .int .u64 xd1, .int .u64 xd2, .int .u64 xc1, .int .u64 xc2, .int .u64 xm1, .int .u64 xm2, .int .u64 xw1, .int .u64 xw2, .int .u64 xtg, .int .u32 xto, .int .u32 xlg, .int .u16 xcd, .int .u16 xfl, .int .u64 xst] ∧ Blk Y_ (w.heap.size + 1) 32 #[.int .u64 ai1, .int .u64 ai2, .int .u64 ap1, .int .u64 ap2, .int .u64 aq1, .int .u64 aq2, .int .u64 ar1, .int .u64 ar2, .int .u64 as1, .int .u64 as2, .int .u64 atg, .int .u32 alg, .int .u16 acd, .int .u16 afl, .int .u64 ast, .int .u64 ei1, .int .u64 ei2, .int .u64 ep1, .int .u64 ep2, .int .u64 eq1, .int .u64 eq2, .int .u64 er1, .int .u64 er2, .int .u64 es1, .int .u64 es2, .int .u64 etg, .int .u32 elg, .int .u16 ecd, .int .u16 efl, .int .u64 est, .bool hd, .bool hc] ∧ Blk Y_ (w.heap.size + 2) 24 #[.int .u64 0, .int .u64 0] ∧ Blk Y_ (w.heap.size + 3) 24 #[.int .u64 xm1, .int .u64 xm2]) ?_ ?_
  · have t_B := hb0.out
    refine ⟨by (repeat (first | with_reducible exact Below.refl _ _ | with_reducible assumption | (with_reducible refine bel_set ?_ (by first | exact Nat.le_refl _ | (simp; done) | (simp; omega) | omega) _) | with_reducible refine bel_grow ?_ _ | with_reducible refine Below.drew ?_ | with_reducible refine bel_alloc ?_ _ | with_reducible refine bel_eld ?_ (by assumption))), ?_, ?_, ?_, ?_⟩
    · (repeat (first | with_reducible assumption | (with_reducible refine Blk.new' ?_; first | with_reducible rfl | (simp; done)) | with_reducible refine Blk.alloc ?_ _ | with_reducible refine Blk.grow ?_ _ | with_reducible refine Blk.drew ?_ | with_reducible refine Blk.drewN ?_ _ | (with_reducible refine Blk.far ?_ (by first | (dsimp only; omega) | (simp; omega)) _) | (with_reducible apply Blk.two) | (with_reducible refine Blk.kept ?_ (by assumption)) | (with_reducible refine Blk.setRow ?_ (by first | rfl | (simp; done))) | (with_reducible refine Blk.setRow_far ?_ (by first | omega | (simp; omega)) _) | (with_reducible refine Blk.set' ?_ _ _ (by first | rfl | (simp; done)))))
    · (repeat (first | with_reducible assumption | (with_reducible refine Blk.new' ?_; first | with_reducible rfl | (simp; done)) | with_reducible refine Blk.alloc ?_ _ | with_reducible refine Blk.grow ?_ _ | with_reducible refine Blk.drew ?_ | with_reducible refine Blk.drewN ?_ _ | (with_reducible refine Blk.far ?_ (by first | (dsimp only; omega) | (simp; omega)) _) | (with_reducible apply Blk.two) | (with_reducible refine Blk.kept ?_ (by assumption)) | (with_reducible refine Blk.setRow ?_ (by first | rfl | (simp; done))) | (with_reducible refine Blk.setRow_far ?_ (by first | omega | (simp; omega)) _) | (with_reducible refine Blk.set' ?_ _ _ (by first | rfl | (simp; done)))))
    · (repeat (first | with_reducible assumption | (with_reducible refine Blk.new' ?_; first | with_reducible rfl | (simp; done)) | with_reducible refine Blk.alloc ?_ _ | with_reducible refine Blk.grow ?_ _ | with_reducible refine Blk.drew ?_ | with_reducible refine Blk.drewN ?_ _ | (with_reducible refine Blk.far ?_ (by first | (dsimp only; omega) | (simp; omega)) _) | (with_reducible apply Blk.two) | (with_reducible refine Blk.kept ?_ (by assumption)) | (with_reducible refine Blk.setRow ?_ (by first | rfl | (simp; done))) | (with_reducible refine Blk.setRow_far ?_ (by first | omega | (simp; omega)) _) | (with_reducible refine Blk.set' ?_ _ _ (by first | rfl | (simp; done)))))
    · (repeat (first | with_reducible assumption | (with_reducible refine Blk.new' ?_; first | with_reducible rfl | (simp; done)) | with_reducible refine Blk.alloc ?_ _ | with_reducible refine Blk.grow ?_ _ | with_reducible refine Blk.drew ?_ | with_reducible refine Blk.drewN ?_ _ | (with_reducible refine Blk.far ?_ (by first | (dsimp only; omega) | (simp; omega)) _) | (with_reducible apply Blk.two) | (with_reducible refine Blk.kept ?_ (by assumption)) | (with_reducible refine Blk.setRow ?_ (by first | rfl | (simp; done))) | (with_reducible refine Blk.setRow_far ?_ (by first | omega | (simp; omega)) _) | (with_reducible refine Blk.set' ?_ _ _ (by first | rfl | (simp; done)))))
  clear hb0
  rintro X1 ⟨hB_1, f_x, f_p, f_r, f_o⟩
  have r_x := rowAt_blk f_x
  have x_l := f_x.lt
  have x_14 : X1.cell? ⟨w.heap.size, 14, none⟩ = some (.int .u16 xfl) := (f_x).cell 14
  have x_f14 := (f_x).frozen 14
  replace f_x := Lib.hid f_x
  have r_p := rowAt_blk f_p
  have p_l := f_p.lt
  replace f_p := Lib.hid f_p
  have r_0 : X1.cell? ⟨w.heap.size + 2, 0, none⟩ = some (.int .u64 0) := (f_r).cell 0
  have r_1 : X1.cell? ⟨w.heap.size + 2, 1, none⟩ = some (.int .u64 0) := (f_r).cell 1
  have r_f0 := (f_r).frozen 0
  have r_f1 := (f_r).frozen 1
  have r_l := (f_r).lt
  replace f_r := Lib.hid f_r
  have o_0 : X1.cell? ⟨w.heap.size + 3, 0, none⟩ = some (.int .u64 xm1) := (f_o).cell 0
  have o_1 : X1.cell? ⟨w.heap.size + 3, 1, none⟩ = some (.int .u64 xm2) := (f_o).cell 1
  have o_f0 := (f_o).frozen 0
  have o_f1 := (f_o).frozen 1
  have o_l := (f_o).lt
  replace f_o := Lib.hid f_o
  replace hB_1 := Lib.hid hB_1
  first | (with_reducible refine rtail2 5 (by kernel_rfl) (by kernel_rfl) ?_) | (refine rtail 5 (by kernel_rfl) (by kernel_rfl) ?_)
  simp only [List.take_succ_cons, List.take_zero, List.drop_succ_cons, List.drop_zero]
  repeat (go_big_quiet_step (((first | (go_at_call 40; exact grow_call (HDb.out _)) | (go_at_call 49; exact grow_call (HLd.out _))))))
  refine wpQuiet_nil ?_
  intro dr
  go_wp2_with (go_at_call 48; (refine (gro_to (W := X1) (bel_alloc (grow_below X1 dr) _) (HT1.out _ _ (Blk.new _ _ _))).mono ?_); rintro e w3 ⟨rfl, d3, rfl⟩)
  refine abs_post (fun Y_ => Below w.heap.size w Y_ ∧ Blk Y_ (w.heap.size + 2) 24 #[.int .u64 o1, .int .u64 o2]) ?_ ?_
  · have t_B := hB_1.out
    have t_x := f_x.out
    have t_p := f_p.out
    have t_r := f_r.out
    have t_o := f_o.out
    exact ⟨by (repeat (first | with_reducible exact Below.refl _ _ | with_reducible assumption | (with_reducible refine bel_set ?_ (by first | exact Nat.le_refl _ | (simp; done) | (simp; omega) | omega) _) | with_reducible refine bel_grow ?_ _ | with_reducible refine Below.drew ?_ | with_reducible refine bel_alloc ?_ _ | (with_reducible refine below_setRow ?_ (by first | omega | (simp; omega)) _) | with_reducible refine bel_eld ?_ (by assumption))), by (repeat (first | with_reducible assumption | (with_reducible refine Blk.new' ?_; first | with_reducible rfl | (simp; done)) | with_reducible refine Blk.alloc ?_ _ | with_reducible refine Blk.grow ?_ _ | with_reducible refine Blk.drew ?_ | with_reducible refine Blk.drewN ?_ _ | (with_reducible refine Blk.far ?_ (by first | (dsimp only; omega) | (simp; omega)) _) | (with_reducible apply Blk.two) | (with_reducible refine Blk.kept ?_ (by assumption)) | (with_reducible refine Blk.setRow (by assumption) (by first | rfl | (simp; done))) | (with_reducible refine Blk.setRow_far ?_ (by first | omega | (simp; omega)) _) | (with_reducible refine Blk.set' ?_ _ _ (by first | rfl | (simp; done)))))⟩
  rintro Y_ ⟨bZ_, gP_⟩
  have p_0 := gP_.cell 0
  have p_1 := gP_.cell 1
  have p_l := gP_.lt
  refine bodyPost_ret (v := .agg #[.int .u64 o1, .int .u64 o2]) (by simp [results, Try.results20, go_sem, p_0, p_1, p_l]) rfl ⟨by first | rfl | (rw [hk.out]; rfl), bZ_⟩
end Go.Proofs.Ytpbnakoimlmhnaa
