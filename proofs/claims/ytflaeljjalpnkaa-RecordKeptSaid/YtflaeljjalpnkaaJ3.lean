/-
  Joined: KtD KtE KtF.
-/
import Derived.Test.YtflaeljjalpnkaaKtA
import Derived.Test.YtflaeljjalpnkaaRefD
import Derived.Test.YtflaeljjalpnkaaRecR
import Derived.Test.YtflaeljjalpnkaaWpg
import Derived.Test.YtflaeljjalpnkaaRowD
import Derived.Deep.DeepCutAuto
import Derived.Test.YtflaeljjalpnkaaRowC
-- KtD
namespace Go.Proofs.Ytflaeljjalpnkaa
set_option linter.unusedVariables false
set_option linter.unusedSimpArgs false
open Go.RowKit

theorem rrow_nums (d e : Nat → Int) : (∀ s, s + 8 ≤ 64 → num (cat (shf e 1) 64 (shf d 16)) s 8 = num e (1 + s) 8) ∧ num (cat (shf e 1) 64 (shf d 16)) 64 8 = num d 16 8 := by
  refine ⟨fun s hs => ?_, ?_⟩
  · rw [num_cat_lo hs, num_shf']
  · rw [num_cat_hi (Nat.le_refl _), show 64 - 64 = 0 from rfl, num_shf]
/- loads and stores as they stand in a region that draws its order -/
theorem lA_Transfer (v : Value) (w : World) : (Instr.loadAt 66 v).run Try.prog w = loadV Try.prog 66 16 w v := run_loadAt_row Try.underlying66 rfl (by kernel_rfl) w v
theorem lA_Balance (v : Value) (w : World) : (Instr.loadAt 28 v).run Try.prog w = loadV Try.prog 28 9 w v := run_loadAt_row Try.underlying28 rfl (by kernel_rfl) w v
theorem sA_Kept (p v : Value) (w : World) : (Instr.storeAt 78 p v).run Try.prog w = storeV Try.prog 78 18 w p v := run_storeAt_row (by kernel_rfl) w p v
theorem sA_Balance (p v : Value) (w : World) : (Instr.storeAt 28 p v).run Try.prog w = storeV Try.prog 28 9 w p v := run_storeAt_row (by kernel_rfl) w p v
theorem sA_Row (p v : Value) (w : World) : (Instr.storeAt 30 p v).run Try.prog w = storeV Try.prog 30 10 w p v := run_storeAt_row (by kernel_rfl) w p v
section
attribute [local go_sem] bK_is loadV_ptr storeV_ptr drew_hs
attribute [local go_sem ↓] load_Transfer store_Transfer store_Kept build_Kept lA_Transfer sA_Kept
set_option maxRecDepth 8000 in
set_option maxHeartbeats 4000000 in
theorem refKeptTransfer_yes (d e : Nat → Int) (hd : ∀ i, 0 ≤ d i ∧ d i < 256) (he : ∀ i, 0 ≤ e i ∧ e i < 256) (w : World) :
    Calls Try.prog 43 #[.string (strF d 16), .string (strF e 108)] w fun r w' => r = .returned (.tuple #[.agg #[.int .u64 (num (cat d 16 e) 0 8), .int .u64 (num (cat d 16 e) 8 8), .int .u64 (num (cat d 16 e) 16 8), .int .u64 (num (cat d 16 e) 24 8), .int .u64 (num (cat d 16 e) 32 8), .int .u64 (num (cat d 16 e) 40 8), .int .u64 (num (cat d 16 e) 48 8), .int .u64 (num (cat d 16 e) 56 8), .int .u64 (num (cat d 16 e) 64 8), .int .u64 (num (cat d 16 e) 72 8), .int .u64 (num (cat d 16 e) 80 8), .int .u32 (num (cat d 16 e) 88 4), .int .u32 (num (cat d 16 e) 92 4), .int .u16 (num (cat d 16 e) 96 2), .int .u16 (num (cat d 16 e) 98 2), .int .u64 (num (cat d 16 e) 100 8), .int .u64 (num e 92 8), .int .u64 (num e 100 8)], .bool true]) ∧ Below w.heap.size w w' := by
  have HG := fun w => refGetTransfer_yes (cat d 16 e) (cat_ok hd he) w
  have HW := fun w => rwide_any e he 108 92 92 rfl (by omega) (by omega) w
  simp only [Nat.reduceAdd] at HW
  have s1 : (strF d 16).size = 16 := strF_size d 16
  have s2 : (strF e 108).size = 108 := strF_size e 108
  have s3 : (strF e 108).extract 0 92 = strF e 92 := strF_ext (by omega) (by omega)
  generalize num (cat d 16 e) 0 8 = xi1 at *
  generalize num (cat d 16 e) 8 8 = xi2 at *
  generalize num (cat d 16 e) 16 8 = xd1 at *
  generalize num (cat d 16 e) 24 8 = xd2 at *
  generalize num (cat d 16 e) 32 8 = xc1 at *
  generalize num (cat d 16 e) 40 8 = xc2 at *
  generalize num (cat d 16 e) 48 8 = xm1 at *
  generalize num (cat d 16 e) 56 8 = xm2 at *
  generalize num (cat d 16 e) 64 8 = xw1 at *
  generalize num (cat d 16 e) 72 8 = xw2 at *
  generalize num (cat d 16 e) 80 8 = xtg at *
  generalize num (cat d 16 e) 88 4 = xto at *
  generalize num (cat d 16 e) 92 4 = xlg at *
  generalize num (cat d 16 e) 96 2 = xcd at *
  generalize num (cat d 16 e) 98 2 = xfl at *
  generalize num (cat d 16 e) 100 8 = xst at *
  generalize num e 92 8 = kh at *
  generalize num e 100 8 = kl at *
  clear hd he
  replace HG := Lib.hid HG
  replace HW := Lib.hid HW
  have hb0 := Below.refl w.heap.size w
  go_enter Try.func43, Try.ntmps43
  replace hb0 := Lib.hid hb0
  go_wp2_with fail
  refine (HG.out _).mono ?_
  rintro e w_1 ⟨rfl, hb_1⟩
  have z_1 := hb_1.size
  try simp at z_1
  have t_ := hb0.out
  have hB_1 := bel_eld (w := w) (X := _) (by first | ((repeat (first | with_reducible exact Below.refl _ _ | with_reducible assumption | (with_reducible refine bel_set ?_ (by first | exact Nat.le_refl _ | (simp; done) | (simp; omega) | omega) _) | with_reducible refine bel_grow ?_ _ | with_reducible refine Below.drew ?_ | with_reducible refine below_drewN ?_ _ | with_reducible refine bel_alloc ?_ _ | with_reducible refine bel_trans ?_ (by assumption))); done) | (repeat (first | exact Below.refl _ _ | assumption | refine below_drewN ?_ _ | refine bel_grow ?_ _ | refine Below.drew ?_ | refine bel_alloc ?_ _ | refine bel_set ?_ (by first | exact Nat.le_refl _ | (simp; done) | (simp; omega) | omega) _ | refine bel_trans ?_ (by assumption)))) hb_1
  clear t_
  have g_a : Blk w_1 (w.heap.size) 78 #[.int .u64 0, .int .u64 0, .int .u64 0, .int .u64 0, .int .u64 0, .int .u64 0, .int .u64 0, .int .u64 0, .int .u64 0, .int .u64 0, .int .u64 0, .int .u32 0, .int .u32 0, .int .u16 0, .int .u16 0, .int .u64 0, .int .u64 0, .int .u64 0] := by
    refine Blk.kept ?_ hb_1
    (repeat (first | with_reducible assumption | (with_reducible refine Blk.new' ?_; first | with_reducible rfl | (simp; done)) | with_reducible refine Blk.alloc ?_ _ | with_reducible refine Blk.grow ?_ _ | with_reducible refine Blk.drew ?_ | with_reducible refine Blk.drewN ?_ _ | (with_reducible refine Blk.far ?_ (by first | (dsimp only; omega) | (simp; omega)) _) | (with_reducible apply Blk.two) | (with_reducible refine Blk.set' ?_ _ _ ?_) | (with_reducible rfl) | rfl))
  clear hb0 hb_1
  have f_a := g_a
  clear g_a
  have r_a := rowAt_blk f_a
  have a_l := f_a.lt
  replace f_a := Lib.hid f_a
  replace hB_1 := Lib.hid hB_1
  go_upto_region 4 with fail
  refine abs_wp (fun Y_ => Below w.heap.size w Y_ ∧ Blk Y_ (w.heap.size) 78 #[.int .u64 0, .int .u64 0, .int .u64 0, .int .u64 0, .int .u64 0, .int .u64 0, .int .u64 0, .int .u64 0, .int .u64 0, .int .u64 0, .int .u64 0, .int .u32 0, .int .u32 0, .int .u16 0, .int .u16 0, .int .u64 0, .int .u64 0, .int .u64 0] ∧ Blk Y_ (w_1.heap.size) 66 #[.int .u64 xi1, .int .u64 xi2, .int .u64 xd1, .int .u64 xd2, .int .u64 xc1, .int .u64 xc2, .int .u64 xm1, .int .u64 xm2, .int .u64 xw1, .int .u64 xw2, .int .u64 xtg, .int .u32 xto, .int .u32 xlg, .int .u16 xcd, .int .u16 xfl, .int .u64 xst]) ?_ ?_
  · have t_B := hB_1.out
    have t_a := f_a.out
    refine ⟨by (repeat (first | with_reducible exact Below.refl _ _ | with_reducible assumption | (with_reducible refine bel_set ?_ (by first | exact Nat.le_refl _ | (simp; done) | (simp; omega) | omega) _) | with_reducible refine bel_grow ?_ _ | with_reducible refine Below.drew ?_ | with_reducible refine bel_alloc ?_ _ | with_reducible refine bel_eld ?_ (by assumption))), ?_, ?_⟩
    · (repeat (first | with_reducible assumption | (with_reducible refine Blk.new' ?_; first | with_reducible rfl | (simp; done)) | with_reducible refine Blk.alloc ?_ _ | with_reducible refine Blk.grow ?_ _ | with_reducible refine Blk.drew ?_ | with_reducible refine Blk.drewN ?_ _ | (with_reducible refine Blk.far ?_ (by first | (dsimp only; omega) | (simp; omega)) _) | (with_reducible apply Blk.two) | (with_reducible refine Blk.kept ?_ (by assumption)) | (with_reducible refine Blk.setRow ?_ (by first | rfl | (simp; done))) | (with_reducible refine Blk.setRow_far ?_ (by first | omega | (simp; omega)) _) | (with_reducible refine Blk.set' ?_ _ _ (by first | rfl | (simp; done)))))
    · (repeat (first | with_reducible assumption | (with_reducible refine Blk.new' ?_; first | with_reducible rfl | (simp; done)) | with_reducible refine Blk.alloc ?_ _ | with_reducible refine Blk.grow ?_ _ | with_reducible refine Blk.drew ?_ | with_reducible refine Blk.drewN ?_ _ | (with_reducible refine Blk.far ?_ (by first | (dsimp only; omega) | (simp; omega)) _) | (with_reducible apply Blk.two) | (with_reducible refine Blk.kept ?_ (by assumption)) | (with_reducible refine Blk.setRow ?_ (by first | rfl | (simp; done))) | (with_reducible refine Blk.setRow_far ?_ (by first | omega | (simp; omega)) _) | (with_reducible refine Blk.set' ?_ _ _ (by first | rfl | (simp; done)))))
  clear f_a a_l r_a hB_1
  rintro X ⟨hB_2, f_a, f_x⟩
  have r_a := rowAt_blk f_a
  have a_l := f_a.lt
  replace f_a := Lib.hid f_a
  have r_x := rowAt_blk f_x
  have x_l := f_x.lt
  replace f_x := Lib.hid f_x
  replace hB_2 := Lib.hid hB_2
  go_cut [5] (fun s5 wx => s5 = .bool true ∧ Below w.heap.size w wx ∧ Blk wx w.heap.size 78 #[.int .u64 xi1, .int .u64 xi2, .int .u64 xd1, .int .u64 xd2, .int .u64 xc1, .int .u64 xc2, .int .u64 xm1, .int .u64 xm2, .int .u64 xw1, .int .u64 xw2, .int .u64 xtg, .int .u32 xto, .int .u32 xlg, .int .u16 xcd, .int .u16 xfl, .int .u64 xst, .int .u64 kh, .int .u64 kl])
  case first =>
    go_region_with (go_at_call 60; (with_reducible refine (HW.out _).mono ?_); rintro e2 w2 ⟨rfl, hb2⟩; have gx2 : Blk w2 w_1.heap.size 66 #[.int .u64 xi1, .int .u64 xi2, .int .u64 xd1, .int .u64 xd2, .int .u64 xc1, .int .u64 xc2, .int .u64 xm1, .int .u64 xm2, .int .u64 xw1, .int .u64 xw2, .int .u64 xtg, .int .u32 xto, .int .u32 xlg, .int .u16 xcd, .int .u16 xfl, .int .u64 xst] := (by first | exact Blk.kept f_x.out hb2 | exact Blk.kept (Blk.drew f_x.out) hb2); have ga2 : Blk w2 w.heap.size 78 #[.int .u64 0, .int .u64 0, .int .u64 0, .int .u64 0, .int .u64 0, .int .u64 0, .int .u64 0, .int .u64 0, .int .u64 0, .int .u64 0, .int .u64 0, .int .u32 0, .int .u32 0, .int .u16 0, .int .u16 0, .int .u64 0, .int .u64 0, .int .u64 0] := (by first | exact Blk.kept f_a.out hb2 | exact Blk.kept (Blk.drew f_a.out) hb2); have rx2 := rowAt_blk gx2; have ra2 := rowAt_blk ga2; have al2 := ga2.lt; have xl2 := gx2.lt)
    all_goals (
      go_wp2_with fail
      go_meet
      have t_B := hB_2.out
      have t_a := f_a.out
      refine ⟨rfl, ?_, ?_⟩
      · (repeat (first | with_reducible exact Below.refl _ _ | with_reducible assumption | (with_reducible refine bel_set ?_ (by first | exact Nat.le_refl _ | (simp; done) | (simp; omega) | omega) _) | with_reducible refine bel_grow ?_ _ | with_reducible refine Below.drew ?_ | with_reducible refine bel_alloc ?_ _ | (with_reducible refine below_setRow ?_ (by first | omega | (simp; omega)) _) | with_reducible refine bel_eld ?_ (by assumption)))
      · (repeat (first | with_reducible assumption | (with_reducible refine Blk.new' ?_; first | with_reducible rfl | (simp; done)) | with_reducible refine Blk.alloc ?_ _ | with_reducible refine Blk.grow ?_ _ | with_reducible refine Blk.drew ?_ | with_reducible refine Blk.drewN ?_ _ | (with_reducible refine Blk.far ?_ (by first | (dsimp only; omega) | (simp; omega)) _) | (with_reducible apply Blk.two) | (with_reducible refine Blk.kept ?_ (by assumption)) | (with_reducible refine Blk.setRow (by (repeat (first | with_reducible assumption | (with_reducible refine Blk.far ?_ (by first | (dsimp only; omega) | (simp; omega)) _) | (with_reducible refine Blk.setRow_far ?_ (by first | omega | (simp; omega)) _) | with_reducible refine Blk.drew ?_))) (by first | rfl | (simp; done))) | (with_reducible refine Blk.setRow_far ?_ (by first | omega | (simp; omega)) _) | (with_reducible refine Blk.set' ?_ _ _ (by first | rfl | (simp; done))))))
  case rest =>
    obtain ⟨rfl, bY, gY⟩ := hcut
    clear f_a f_x hB_2 r_a r_x a_l x_l
    as_aux_lemma =>
      have z0 := (gY).cell 0
      have z1 := (gY).cell 1
      have z2 := (gY).cell 2
      have z3 := (gY).cell 3
      have z4 := (gY).cell 4
      have z5 := (gY).cell 5
      have z6 := (gY).cell 6
      have z7 := (gY).cell 7
      have z8 := (gY).cell 8
      have z9 := (gY).cell 9
      have z10 := (gY).cell 10
      have z11 := (gY).cell 11
      have z12 := (gY).cell 12
      have z13 := (gY).cell 13
      have z14 := (gY).cell 14
      have z15 := (gY).cell 15
      have z16 := (gY).cell 16
      have z17 := (gY).cell 17
      have zf0 := (gY).frozen 0
      have zf1 := (gY).frozen 1
      have zf2 := (gY).frozen 2
      have zf3 := (gY).frozen 3
      have zf4 := (gY).frozen 4
      have zf5 := (gY).frozen 5
      have zf6 := (gY).frozen 6
      have zf7 := (gY).frozen 7
      have zf8 := (gY).frozen 8
      have zf9 := (gY).frozen 9
      have zf10 := (gY).frozen 10
      have zf11 := (gY).frozen 11
      have zf12 := (gY).frozen 12
      have zf13 := (gY).frozen 13
      have zf14 := (gY).frozen 14
      have zf15 := (gY).frozen 15
      have zf16 := (gY).frozen 16
      have zf17 := (gY).frozen 17
      have zl := (gY).lt
      go_wp2_with fail
      refine bodyPost_ret (v := .tuple #[.agg #[.int .u64 xi1, .int .u64 xi2, .int .u64 xd1, .int .u64 xd2, .int .u64 xc1, .int .u64 xc2, .int .u64 xm1, .int .u64 xm2, .int .u64 xw1, .int .u64 xw2, .int .u64 xtg, .int .u32 xto, .int .u32 xlg, .int .u16 xcd, .int .u16 xfl, .int .u64 xst, .int .u64 kh, .int .u64 kl], .bool true]) (by simp [results, Try.results43, go_sem, z0, z1, z2, z3, z4, z5, z6, z7, z8, z9, z10, z11, z12, z13, z14, z15, z16, z17, zl]) rfl ⟨rfl, bY⟩
set_option maxRecDepth 8000 in
set_option maxHeartbeats 2000000 in
theorem refKeptTransfer_no (d e : Nat → Int) (n m : Nat) (hn : n ≤ maxLen) (hm : m ≤ maxLen) (h : ¬ (n = 16 ∧ m = 108)) (w : World) :
    Calls Try.prog 43 #[.string (strF d n), .string (strF e m)] w fun r w' => r = .returned (.tuple #[.agg #[.int .u64 0, .int .u64 0, .int .u64 0, .int .u64 0, .int .u64 0, .int .u64 0, .int .u64 0, .int .u64 0, .int .u64 0, .int .u64 0, .int .u64 0, .int .u32 0, .int .u32 0, .int .u16 0, .int .u16 0, .int .u64 0, .int .u64 0, .int .u64 0], .bool false]) ∧ Below w.heap.size w w' := by
  unfold maxLen at hn hm
  have s1 : (strF d n).size = n := strF_size d n
  have s2 : (strF e m).size = m := strF_size e m
  by_cases h1 : n = 16
  · subst h1
    have h' : ((m : Int) != 108) = true := by rw [bne_iff_ne]; omega
    go_enter Try.func43, Try.ntmps43
    go_wp2_with fail
    refine bodyPost_ret (v := .tuple #[.agg #[.int .u64 0, .int .u64 0, .int .u64 0, .int .u64 0, .int .u64 0, .int .u64 0, .int .u64 0, .int .u64 0, .int .u64 0, .int .u64 0, .int .u64 0, .int .u32 0, .int .u32 0, .int .u16 0, .int .u16 0, .int .u64 0, .int .u64 0, .int .u64 0], .bool false]) (by simp [results, Try.results43, go_sem]) rfl ⟨rfl, by (repeat (first | with_reducible exact Below.refl _ _ | with_reducible assumption | (with_reducible refine bel_set ?_ (by first | exact Nat.le_refl _ | (simp; done) | (simp; omega) | omega) _) | with_reducible refine bel_grow ?_ _ | with_reducible refine Below.drew ?_ | with_reducible refine below_drewN ?_ _ | with_reducible refine bel_alloc ?_ _ | with_reducible refine bel_trans ?_ (by assumption)))⟩
  · have h' : ((n : Int) != 16) = true := by rw [bne_iff_ne]; omega
    go_enter Try.func43, Try.ntmps43
    go_wp2_with fail
    refine bodyPost_ret (v := .tuple #[.agg #[.int .u64 0, .int .u64 0, .int .u64 0, .int .u64 0, .int .u64 0, .int .u64 0, .int .u64 0, .int .u64 0, .int .u64 0, .int .u64 0, .int .u64 0, .int .u32 0, .int .u32 0, .int .u16 0, .int .u16 0, .int .u64 0, .int .u64 0, .int .u64 0], .bool false]) (by simp [results, Try.results43, go_sem]) rfl ⟨rfl, by (repeat (first | with_reducible exact Below.refl _ _ | with_reducible assumption | (with_reducible refine bel_set ?_ (by first | exact Nat.le_refl _ | (simp; done) | (simp; omega) | omega) _) | with_reducible refine bel_grow ?_ _ | with_reducible refine Below.drew ?_ | with_reducible refine below_drewN ?_ _ | with_reducible refine bel_alloc ?_ _ | with_reducible refine bel_trans ?_ (by assumption)))⟩
end
theorem refKeptTransfer_all (d e : Nat → Int) (hd : ∀ i, 0 ≤ d i ∧ d i < 256) (he : ∀ i, 0 ≤ e i ∧ e i < 256) (n m : Nat) (hn : n ≤ maxLen) (hm : m ≤ maxLen) (b : Bool) (hb : decide (n = 16 ∧ m = 108) = b) (w : World) :
    Calls Try.prog 43 #[.string (strF d n), .string (strF e m)] w fun r w' => r = .returned (.tuple #[.agg #[.int .u64 (bv b (num (cat d 16 e) 0 8)), .int .u64 (bv b (num (cat d 16 e) 8 8)), .int .u64 (bv b (num (cat d 16 e) 16 8)), .int .u64 (bv b (num (cat d 16 e) 24 8)), .int .u64 (bv b (num (cat d 16 e) 32 8)), .int .u64 (bv b (num (cat d 16 e) 40 8)), .int .u64 (bv b (num (cat d 16 e) 48 8)), .int .u64 (bv b (num (cat d 16 e) 56 8)), .int .u64 (bv b (num (cat d 16 e) 64 8)), .int .u64 (bv b (num (cat d 16 e) 72 8)), .int .u64 (bv b (num (cat d 16 e) 80 8)), .int .u32 (bv b (num (cat d 16 e) 88 4)), .int .u32 (bv b (num (cat d 16 e) 92 4)), .int .u16 (bv b (num (cat d 16 e) 96 2)), .int .u16 (bv b (num (cat d 16 e) 98 2)), .int .u64 (bv b (num (cat d 16 e) 100 8)), .int .u64 (bv b (num e 92 8)), .int .u64 (bv b (num e 100 8))], .bool b]) ∧ Below w.heap.size w w' := by
  cases b with
  | true =>
    obtain ⟨rfl, rfl⟩ := of_decide_eq_true hb
    exact refKeptTransfer_yes d e hd he w
  | false => exact refKeptTransfer_no d e n m hn hm (of_decide_eq_false hb) w

end Go.Proofs.Ytflaeljjalpnkaa
-- KtE
namespace Go.Proofs.Ytflaeljjalpnkaa
set_option linter.unusedVariables false
set_option linter.unusedSimpArgs false
open Go.RowKit

section
attribute [local go_sem] bR_is loadV_ptr storeV_ptr drew_hs
attribute [local go_sem ↓] load_Balance store_Balance load_Row store_Row build_Row lA_Balance sA_Balance sA_Row
set_option maxRecDepth 8000 in
set_option maxHeartbeats 4000000 in
theorem refKeptRow_yes (d e : Nat → Int) (hd : ∀ i, 0 ≤ d i ∧ d i < 256) (he : ∀ i, 0 ≤ e i ∧ e i < 256) (w : World) :
    Calls Try.prog 44 #[.string (strF d 24), .string (strF e 65)] w fun r w' => r = .returned (.tuple #[.agg #[.int .u64 (num d 0 8), .int .u64 (num d 8 8)], .agg #[.int .u64 (num e 1 8), .int .u64 (num e 9 8), .int .u64 (num e 17 8), .int .u64 (num e 25 8), .int .u64 (num e 33 8), .int .u64 (num e 41 8), .int .u64 (num e 49 8), .int .u64 (num e 57 8), .int .u64 (num d 16 8), .int .u8 (e 0)], .bool true]) ∧ Below w.heap.size w w' := by
  have HG := fun w => refGetBalance_yes (cat (shf e 1) 64 (shf d 16)) (cat_ok (shf_lo he 1) (shf_lo hd 16)) w
  have HW := fun w => rwide_any d hd 24 0 0 rfl (by omega) (by omega) w
  simp only [Nat.zero_add] at HW
  have hN := rrow_nums d e
  rw [hN.1 0 (by omega), hN.1 8 (by omega), hN.1 16 (by omega), hN.1 24 (by omega), hN.1 32 (by omega), hN.1 40 (by omega), hN.1 48 (by omega), hN.1 56 (by omega), hN.2] at HG
  simp only [Nat.reduceAdd] at HG
  clear hN
  have s1 : (strF d 24).size = 24 := strF_size d 24
  have s2 : (strF e 65).size = 65 := strF_size e 65
  have s3 : (strF e 65).extract 1 65 = strF (shf e 1) 64 := strF_ext (by omega) (by omega)
  have s4 : (strF d 24).extract 16 24 = strF (shf d 16) 8 := strF_ext (by omega) (by omega)
  have s5 : ∀ W, (Instr.index 9 (.string (strF e 65)) (.int .i64 0)).run Try.prog W = .ok (.int .u8 (e 0)) W := fun W => by
    have h0 : (0 : Nat) < (strF e 65).size := by rw [s2]; omega
    have := strF_at (d := e) (n := 65) (k := 0) h0 (he 0)
    simp [go_sem, s2, this, h0]
  generalize num e 1 8 = r0 at *
  generalize num e 9 8 = r1 at *
  generalize num e 17 8 = r2 at *
  generalize num e 25 8 = r3 at *
  generalize num e 33 8 = r4 at *
  generalize num e 41 8 = r5 at *
  generalize num e 49 8 = r6 at *
  generalize num e 57 8 = r7 at *
  generalize num d 0 8 = q0 at *
  generalize num d 8 8 = q1 at *
  generalize num d 16 8 = q2 at *
  generalize e 0 = s0 at *
  clear hd he
  replace HG := Lib.hid HG
  replace HW := Lib.hid HW
  have hb0 := Below.refl w.heap.size w
  go_enter Try.func44, Try.ntmps44
  go_upto_region 3 with fail
  replace hb0 := Lib.hid hb0
  refine abs_wp (fun Y_ => Below w.heap.size w Y_ ∧ Blk Y_ (w.heap.size) 24 #[.int .u64 0, .int .u64 0] ∧ Blk Y_ (w.heap.size + 1) 30 #[.int .u64 0, .int .u64 0, .int .u64 0, .int .u64 0, .int .u64 0, .int .u64 0, .int .u64 0, .int .u64 0, .int .u64 0, .int .u8 0]) ?_ ?_
  · have t_B := hb0.out
    refine ⟨by (repeat (first | with_reducible exact Below.refl _ _ | with_reducible assumption | (with_reducible refine bel_set ?_ (by first | exact Nat.le_refl _ | (simp; done) | (simp; omega) | omega) _) | with_reducible refine bel_grow ?_ _ | with_reducible refine Below.drew ?_ | with_reducible refine bel_alloc ?_ _ | with_reducible refine bel_eld ?_ (by assumption))), ?_, ?_⟩
    · (repeat (first | with_reducible assumption | (with_reducible refine Blk.new' ?_; first | with_reducible rfl | (simp; done)) | with_reducible refine Blk.alloc ?_ _ | with_reducible refine Blk.grow ?_ _ | with_reducible refine Blk.drew ?_ | with_reducible refine Blk.drewN ?_ _ | (with_reducible refine Blk.far ?_ (by first | (dsimp only; omega) | (simp; omega)) _) | (with_reducible apply Blk.two) | (with_reducible refine Blk.kept ?_ (by assumption)) | (with_reducible refine Blk.setRow ?_ (by first | rfl | (simp; done))) | (with_reducible refine Blk.setRow_far ?_ (by first | omega | (simp; omega)) _) | (with_reducible refine Blk.set' ?_ _ _ (by first | rfl | (simp; done)))))
    · (repeat (first | with_reducible assumption | (with_reducible refine Blk.new' ?_; first | with_reducible rfl | (simp; done)) | with_reducible refine Blk.alloc ?_ _ | with_reducible refine Blk.grow ?_ _ | with_reducible refine Blk.drew ?_ | with_reducible refine Blk.drewN ?_ _ | (with_reducible refine Blk.far ?_ (by first | (dsimp only; omega) | (simp; omega)) _) | (with_reducible apply Blk.two) | (with_reducible refine Blk.kept ?_ (by assumption)) | (with_reducible refine Blk.setRow ?_ (by first | rfl | (simp; done))) | (with_reducible refine Blk.setRow_far ?_ (by first | omega | (simp; omega)) _) | (with_reducible refine Blk.set' ?_ _ _ (by first | rfl | (simp; done)))))
  clear hb0
  rintro X ⟨hB_1, f_u, f_v⟩
  have u_0 : X.cell? ⟨w.heap.size, 0, none⟩ = some (.int .u64 0) := (f_u).cell 0
  have u_1 : X.cell? ⟨w.heap.size, 1, none⟩ = some (.int .u64 0) := (f_u).cell 1
  have u_f0 := (f_u).frozen 0
  have u_f1 := (f_u).frozen 1
  have u_l := (f_u).lt
  replace f_u := Lib.hid f_u
  have r_v := rowAt_blk f_v
  have v_l := f_v.lt
  replace f_v := Lib.hid f_v
  replace hB_1 := Lib.hid hB_1
  go_cut [7] (fun s7 wx => ∃ g, s7 = .pointer (some ⟨g, 0, none⟩) ∧ X.heap.size ≤ g ∧ Blk wx g 28 #[.int .u64 r0, .int .u64 r1, .int .u64 r2, .int .u64 r3, .int .u64 r4, .int .u64 r5, .int .u64 r6, .int .u64 r7, .int .u64 q2] ∧ Below X.heap.size X wx)
  case first =>
    go_region_with (go_at_call 29; (with_reducible refine (HG.out _).mono ?_); rintro e4 w4 ⟨rfl, hb4⟩; try (have f12 : Blk w4 (X.heap.size) 28 #[.int .u64 0, .int .u64 0, .int .u64 0, .int .u64 0, .int .u64 0, .int .u64 0, .int .u64 0, .int .u64 0, .int .u64 0] := Blk.kept (Blk.new' (w := X.drew) rfl) hb4; have l12 := f12.lt; have r12 := rowAt_blk f12))
    all_goals (
      have z4 := hb4.size
      simp at z4
      go_wp2_with fail
      go_meet
      refine ⟨_, rfl, ?_, ?_, ?_⟩
      · first | exact Nat.le_refl _ | omega
      · first | (with_reducible exact Blk.new' rfl) | (with_reducible exact Blk.drew (Blk.new' rfl)) | ((repeat (first | with_reducible assumption | (with_reducible refine Blk.new' ?_; first | with_reducible rfl | (simp; done)) | with_reducible refine Blk.alloc ?_ _ | with_reducible refine Blk.grow ?_ _ | with_reducible refine Blk.drew ?_ | with_reducible refine Blk.drewN ?_ _ | (with_reducible refine Blk.far ?_ (by first | (dsimp only; omega) | (simp; omega)) _) | (with_reducible apply Blk.two) | (with_reducible refine Blk.kept ?_ (by assumption)) | (with_reducible refine Blk.setRow (by (repeat (first | with_reducible assumption | (with_reducible refine Blk.far ?_ (by first | (dsimp only; omega) | (simp; omega)) _) | (with_reducible refine Blk.setRow_far ?_ (by first | omega | (simp; omega)) _) | with_reducible refine Blk.drew ?_))) (by first | rfl | (simp; done))) | (with_reducible refine Blk.setRow_far ?_ (by first | omega | (simp; omega)) _) | (with_reducible refine Blk.set' ?_ _ _ (by first | rfl | (simp; done))))); done)
      · (repeat (first | with_reducible exact Below.refl _ _ | with_reducible assumption | (with_reducible refine bel_set ?_ (by first | exact Nat.le_refl _ | (simp; done) | (simp; omega) | omega) _) | with_reducible refine bel_grow ?_ _ | with_reducible refine Below.drew ?_ | with_reducible refine bel_alloc ?_ _ | (with_reducible refine below_setRow ?_ (by first | omega | (simp; omega)) _) | with_reducible refine bel_eld ?_ (by assumption))))
  case rest =>
    obtain ⟨g, rfl, hg, f_x, hb5⟩ := hcut
    have hg1 : w.heap.size + 1 < g := by omega
    have gA := f_u.out.kept hb5
    have gB := f_v.out.kept hb5
    have bY := bel_eld hB_1.out hb5
    clear f_u f_v u_0 u_1 u_f0 u_f1 u_l v_l r_v hB_1 hb5 HG s3 s4
    have f_u := gA
    have f_v := gB
    clear gA gB
    have u_0 : wc.cell? ⟨w.heap.size, 0, none⟩ = some (.int .u64 0) := (f_u).cell 0
    have u_1 : wc.cell? ⟨w.heap.size, 1, none⟩ = some (.int .u64 0) := (f_u).cell 1
    have u_f0 := (f_u).frozen 0
    have u_f1 := (f_u).frozen 1
    have u_l := (f_u).lt
    replace f_u := Lib.hid f_u
    have r_v := rowAt_blk f_v
    have v_l := f_v.lt
    replace f_v := Lib.hid f_v
    have r_x := rowAt_blk f_x
    have x_l := f_x.lt
    replace f_x := Lib.hid f_x
    replace bY := Lib.hid bY
    have n1 : ¬ g = w.heap.size := by omega
    have n4 : ¬ g = w.heap.size + 1 := by omega
    go_upto_region 4 with fail
    go_cut [6] (fun s6 wx => s6 = .bool true ∧ Below w.heap.size w wx ∧ Blk wx w.heap.size 24 #[.int .u64 q0, .int .u64 q1] ∧ Blk wx (w.heap.size + 1) 30 #[.int .u64 r0, .int .u64 r1, .int .u64 r2, .int .u64 r3, .int .u64 r4, .int .u64 r5, .int .u64 r6, .int .u64 r7, .int .u64 q2, .int .u8 s0])
    case first =>
      go_region_with (go_at_call 60; (with_reducible refine (HW.out _).mono ?_); rintro e2 w2 ⟨rfl, hb2⟩; have gx2 : Blk w2 g 28 #[.int .u64 r0, .int .u64 r1, .int .u64 r2, .int .u64 r3, .int .u64 r4, .int .u64 r5, .int .u64 r6, .int .u64 r7, .int .u64 q2] := (by first | exact Blk.kept f_x.out hb2 | exact Blk.kept (Blk.drew f_x.out) hb2); have ga2 : Blk w2 w.heap.size 24 #[.int .u64 0, .int .u64 0] := (by first | exact Blk.kept f_u.out hb2 | exact Blk.kept (Blk.drew f_u.out) hb2); have gb2 : Blk w2 (w.heap.size + 1) 30 #[.int .u64 0, .int .u64 0, .int .u64 0, .int .u64 0, .int .u64 0, .int .u64 0, .int .u64 0, .int .u64 0, .int .u64 0, .int .u8 0] := (by first | exact Blk.kept f_v.out hb2 | exact Blk.kept (Blk.drew f_v.out) hb2); have rx2 := rowAt_blk gx2; have rb2 := rowAt_blk gb2; have al2 := ga2.lt; have xl2 := gx2.lt; have bl2 := gb2.lt; have a20 := ga2.cell 0; have a21 := ga2.cell 1; have a2f0 := ga2.frozen 0; have a2f1 := ga2.frozen 1)
      all_goals (
        go_wp2_with fail
        go_meet
        have t_B := bY.out
        refine ⟨rfl, ?_, ?_, ?_⟩
        · (repeat (first | with_reducible exact Below.refl _ _ | with_reducible assumption | (with_reducible refine bel_set ?_ (by first | exact Nat.le_refl _ | (simp; done) | (simp; omega) | omega) _) | with_reducible refine bel_grow ?_ _ | with_reducible refine Below.drew ?_ | with_reducible refine bel_alloc ?_ _ | (with_reducible refine below_setRow ?_ (by first | omega | (simp; omega)) _) | with_reducible refine bel_eld ?_ (by assumption)))
        · (repeat (first | with_reducible assumption | (with_reducible refine Blk.new' ?_; first | with_reducible rfl | (simp; done)) | with_reducible refine Blk.alloc ?_ _ | with_reducible refine Blk.grow ?_ _ | with_reducible refine Blk.drew ?_ | with_reducible refine Blk.drewN ?_ _ | (with_reducible refine Blk.far ?_ (by first | (dsimp only; omega) | (simp; omega)) _) | (with_reducible apply Blk.two) | (with_reducible refine Blk.kept ?_ (by assumption)) | (with_reducible refine Blk.setRow (by (repeat (first | with_reducible assumption | (with_reducible refine Blk.far ?_ (by first | (dsimp only; omega) | (simp; omega)) _) | (with_reducible refine Blk.setRow_far ?_ (by first | omega | (simp; omega)) _) | with_reducible refine Blk.drew ?_))) (by first | rfl | (simp; done))) | (with_reducible refine Blk.setRow_far ?_ (by first | omega | (simp; omega)) _) | (with_reducible refine Blk.set' ?_ _ _ (by first | rfl | (simp; done)))))
        · exact Blk.setRow (cs := #[.int .u64 0, .int .u64 0, .int .u64 0, .int .u64 0, .int .u64 0, .int .u64 0, .int .u64 0, .int .u64 0, .int .u64 0, .int .u8 0]) (Blk.far (Blk.far gb2 (by dsimp only; omega) _) (by dsimp only; omega) _) rfl)
    case rest =>
      obtain ⟨rfl, bZ, gP, gQ⟩ := hcut
      clear f_u f_v f_x u_0 u_1 u_f0 u_f1 u_l v_l r_v x_l r_x bY
      as_aux_lemma =>
        have p0 := (gP).cell 0
        have p1 := (gP).cell 1
        have pf0 := (gP).frozen 0
        have pf1 := (gP).frozen 1
        have pl := (gP).lt
        have j0 := (gQ).cell 0
        have j1 := (gQ).cell 1
        have j2 := (gQ).cell 2
        have j3 := (gQ).cell 3
        have j4 := (gQ).cell 4
        have j5 := (gQ).cell 5
        have j6 := (gQ).cell 6
        have j7 := (gQ).cell 7
        have j8 := (gQ).cell 8
        have j9 := (gQ).cell 9
        have jf0 := (gQ).frozen 0
        have jf1 := (gQ).frozen 1
        have jf2 := (gQ).frozen 2
        have jf3 := (gQ).frozen 3
        have jf4 := (gQ).frozen 4
        have jf5 := (gQ).frozen 5
        have jf6 := (gQ).frozen 6
        have jf7 := (gQ).frozen 7
        have jf8 := (gQ).frozen 8
        have jf9 := (gQ).frozen 9
        have jl := (gQ).lt
        go_wp2_with fail
        refine bodyPost_ret (v := .tuple #[.agg #[.int .u64 q0, .int .u64 q1], .agg #[.int .u64 r0, .int .u64 r1, .int .u64 r2, .int .u64 r3, .int .u64 r4, .int .u64 r5, .int .u64 r6, .int .u64 r7, .int .u64 q2, .int .u8 s0], .bool true]) (by simp [results, Try.results44, go_sem, p0, p1, pl, j0, j1, j2, j3, j4, j5, j6, j7, j8, j9, jl]) rfl ⟨rfl, bZ⟩
end
set_option maxRecDepth 8000 in
set_option maxHeartbeats 2000000 in
theorem refKeptRow_no (d e : Nat → Int) (n m : Nat) (hn : n ≤ maxLen) (hm : m ≤ maxLen) (h : ¬ (n = 24 ∧ m = 65)) (w : World) :
    Calls Try.prog 44 #[.string (strF d n), .string (strF e m)] w fun r w' => r = .returned (.tuple #[.agg #[.int .u64 0, .int .u64 0], .agg #[.int .u64 0, .int .u64 0, .int .u64 0, .int .u64 0, .int .u64 0, .int .u64 0, .int .u64 0, .int .u64 0, .int .u64 0, .int .u8 0], .bool false]) ∧ Below w.heap.size w w' := by
  unfold maxLen at hn hm
  have s1 : (strF d n).size = n := strF_size d n
  have s2 : (strF e m).size = m := strF_size e m
  by_cases h1 : n = 24
  · subst h1
    have h' : ((m : Int) != 65) = true := by rw [bne_iff_ne]; omega
    go_enter Try.func44, Try.ntmps44
    go_wp2_with fail
    refine bodyPost_ret (v := .tuple #[.agg #[.int .u64 0, .int .u64 0], .agg #[.int .u64 0, .int .u64 0, .int .u64 0, .int .u64 0, .int .u64 0, .int .u64 0, .int .u64 0, .int .u64 0, .int .u64 0, .int .u8 0], .bool false]) (by simp [results, Try.results44, go_sem]) rfl ⟨rfl, by (repeat (first | with_reducible exact Below.refl _ _ | with_reducible assumption | (with_reducible refine bel_set ?_ (by first | exact Nat.le_refl _ | (simp; done) | (simp; omega) | omega) _) | with_reducible refine bel_grow ?_ _ | with_reducible refine Below.drew ?_ | with_reducible refine below_drewN ?_ _ | with_reducible refine bel_alloc ?_ _ | with_reducible refine bel_trans ?_ (by assumption)))⟩
  · have h' : ((n : Int) != 24) = true := by rw [bne_iff_ne]; omega
    go_enter Try.func44, Try.ntmps44
    go_wp2_with fail
    refine bodyPost_ret (v := .tuple #[.agg #[.int .u64 0, .int .u64 0], .agg #[.int .u64 0, .int .u64 0, .int .u64 0, .int .u64 0, .int .u64 0, .int .u64 0, .int .u64 0, .int .u64 0, .int .u64 0, .int .u8 0], .bool false]) (by simp [results, Try.results44, go_sem]) rfl ⟨rfl, by (repeat (first | with_reducible exact Below.refl _ _ | with_reducible assumption | (with_reducible refine bel_set ?_ (by first | exact Nat.le_refl _ | (simp; done) | (simp; omega) | omega) _) | with_reducible refine bel_grow ?_ _ | with_reducible refine Below.drew ?_ | with_reducible refine below_drewN ?_ _ | with_reducible refine bel_alloc ?_ _ | with_reducible refine bel_trans ?_ (by assumption)))⟩
theorem refKeptRow_all (d e : Nat → Int) (hd : ∀ i, 0 ≤ d i ∧ d i < 256) (he : ∀ i, 0 ≤ e i ∧ e i < 256) (n m : Nat) (hn : n ≤ maxLen) (hm : m ≤ maxLen) (b : Bool) (hb : decide (n = 24 ∧ m = 65) = b) (w : World) :
    Calls Try.prog 44 #[.string (strF d n), .string (strF e m)] w fun r w' => r = .returned (.tuple #[.agg #[.int .u64 (bv b (num d 0 8)), .int .u64 (bv b (num d 8 8))], .agg #[.int .u64 (bv b (num e 1 8)), .int .u64 (bv b (num e 9 8)), .int .u64 (bv b (num e 17 8)), .int .u64 (bv b (num e 25 8)), .int .u64 (bv b (num e 33 8)), .int .u64 (bv b (num e 41 8)), .int .u64 (bv b (num e 49 8)), .int .u64 (bv b (num e 57 8)), .int .u64 (bv b (num d 16 8)), .int .u8 (bv b (e 0))], .bool b]) ∧ Below w.heap.size w w' := by
  cases b with
  | true =>
    obtain ⟨rfl, rfl⟩ := of_decide_eq_true hb
    exact refKeptRow_yes d e hd he w
  | false => exact refKeptRow_no d e n m hn hm (of_decide_eq_false hb) w

end Go.Proofs.Ytflaeljjalpnkaa
-- KtF
namespace Go.Proofs.Ytflaeljjalpnkaa
set_option linter.unusedVariables false
set_option linter.unusedSimpArgs false
open Go.RowKit

set_option maxRecDepth 8000 in
set_option maxHeartbeats 2000000 in
theorem refKeptDue_yes (d e : Nat → Int) (hd : ∀ i, 0 ≤ d i ∧ d i < 256) (he : ∀ i, 0 ≤ e i ∧ e i < 256) (w : World) :
    Calls Try.prog 45 #[.string (strF d 16), .string (strF e 16)] w fun r w' => r = .returned (.tuple #[.agg #[.int .u64 (num d 0 8), .int .u64 (num d 8 8), .int .u64 (num e 0 8), .int .u64 (num e 8 8)], .bool true]) ∧ Below w.heap.size w w' := by
  have H1 := Lib.hid (fun w => eight_any d hd 16 0 0 rfl (by omega) (by omega) w)
  have H2 := Lib.hid (fun w => eight_any d hd 16 8 8 rfl (by omega) (by omega) w)
  have H3 := fun w => rwide_any e he 16 0 0 rfl (by omega) (by omega) w
  simp only [Nat.zero_add] at H3
  replace H3 := Lib.hid H3
  have s1 : (strF d 16).size = 16 := strF_size d 16
  have s2 : (strF e 16).size = 16 := strF_size e 16
  generalize num e 0 8 = q0 at *
  generalize num e 8 8 = q1 at *
  generalize num d 0 8 = q2 at *
  generalize num d 8 8 = q3 at *
  clear hd he
  have hb0 := Below.refl w.heap.size w
  go_enter Try.func45, Try.ntmps45
  replace hb0 := Lib.hid hb0
  go_wp2_with fail
  refine (H1.out _).mono ?_
  rintro e w_1 ⟨rfl, hb_1⟩
  have z_1 := hb_1.size
  try simp at z_1
  have t_ := hb0.out
  have hB_1 := bel_eld (w := w) (X := _) (by first | ((repeat (first | with_reducible exact Below.refl _ _ | with_reducible assumption | (with_reducible refine bel_set ?_ (by first | exact Nat.le_refl _ | (simp; done) | (simp; omega) | omega) _) | with_reducible refine bel_grow ?_ _ | with_reducible refine Below.drew ?_ | with_reducible refine below_drewN ?_ _ | with_reducible refine bel_alloc ?_ _ | with_reducible refine bel_trans ?_ (by assumption))); done) | (repeat (first | exact Below.refl _ _ | assumption | refine below_drewN ?_ _ | refine bel_grow ?_ _ | refine Below.drew ?_ | refine bel_alloc ?_ _ | refine bel_set ?_ (by first | exact Nat.le_refl _ | (simp; done) | (simp; omega) | omega) _ | refine bel_trans ?_ (by assumption)))) hb_1
  clear t_
  have g_y : Blk w_1 (w.heap.size) 26 #[.int .u64 0, .int .u64 0, .int .u64 0, .int .u64 0] := by
    refine Blk.kept ?_ hb_1
    (repeat (first | with_reducible assumption | (with_reducible refine Blk.new' ?_; first | with_reducible rfl | (simp; done)) | with_reducible refine Blk.alloc ?_ _ | with_reducible refine Blk.grow ?_ _ | with_reducible refine Blk.drew ?_ | with_reducible refine Blk.drewN ?_ _ | (with_reducible refine Blk.far ?_ (by first | (dsimp only; omega) | (simp; omega)) _) | (with_reducible apply Blk.two) | (with_reducible refine Blk.set' ?_ _ _ ?_) | (with_reducible rfl) | rfl))
  clear hb0 hb_1
  have f_y := g_y
  clear g_y
  have y_0 : w_1.cell? ⟨w.heap.size, 0, none⟩ = some (.int .u64 0) := (f_y).cell 0
  have y_1 : w_1.cell? ⟨w.heap.size, 1, none⟩ = some (.int .u64 0) := (f_y).cell 1
  have y_2 : w_1.cell? ⟨w.heap.size, 2, none⟩ = some (.int .u64 0) := (f_y).cell 2
  have y_3 : w_1.cell? ⟨w.heap.size, 3, none⟩ = some (.int .u64 0) := (f_y).cell 3
  have y_f0 := (f_y).frozen 0
  have y_f1 := (f_y).frozen 1
  have y_f2 := (f_y).frozen 2
  have y_f3 := (f_y).frozen 3
  have y_l := (f_y).lt
  replace f_y := Lib.hid f_y
  replace hB_1 := Lib.hid hB_1
  go_wp2_with fail
  refine (H2.out _).mono ?_
  rintro e w_2 ⟨rfl, hb_2⟩
  have z_2 := hb_2.size
  try simp at z_2
  have t_ := hB_1.out
  have hB_2 := bel_eld (w := w) (X := _) (by first | ((repeat (first | with_reducible exact Below.refl _ _ | with_reducible assumption | (with_reducible refine bel_set ?_ (by first | exact Nat.le_refl _ | (simp; done) | (simp; omega) | omega) _) | with_reducible refine bel_grow ?_ _ | with_reducible refine Below.drew ?_ | with_reducible refine below_drewN ?_ _ | with_reducible refine bel_alloc ?_ _ | with_reducible refine bel_trans ?_ (by assumption))); done) | (repeat (first | exact Below.refl _ _ | assumption | refine below_drewN ?_ _ | refine bel_grow ?_ _ | refine Below.drew ?_ | refine bel_alloc ?_ _ | refine bel_set ?_ (by first | exact Nat.le_refl _ | (simp; done) | (simp; omega) | omega) _ | refine bel_trans ?_ (by assumption)))) hb_2
  clear t_
  have t_y := f_y.out
  have g_y : Blk w_2 (w.heap.size) 26 #[.int .u64 0, .int .u64 0, .int .u64 0, .int .u64 0] := by
    refine Blk.kept ?_ hb_2
    (repeat (first | with_reducible assumption | (with_reducible refine Blk.new' ?_; first | with_reducible rfl | (simp; done)) | with_reducible refine Blk.alloc ?_ _ | with_reducible refine Blk.grow ?_ _ | with_reducible refine Blk.drew ?_ | with_reducible refine Blk.drewN ?_ _ | (with_reducible refine Blk.far ?_ (by first | (dsimp only; omega) | (simp; omega)) _) | (with_reducible apply Blk.two) | (with_reducible refine Blk.set' ?_ _ _ ?_) | (with_reducible rfl) | rfl))
  clear f_y y_l y_0 y_1 y_2 y_3 y_f0 y_f1 y_f2 y_f3 t_y hB_1 hb_2
  have f_y := g_y
  clear g_y
  have y_0 : w_2.cell? ⟨w.heap.size, 0, none⟩ = some (.int .u64 0) := (f_y).cell 0
  have y_1 : w_2.cell? ⟨w.heap.size, 1, none⟩ = some (.int .u64 0) := (f_y).cell 1
  have y_2 : w_2.cell? ⟨w.heap.size, 2, none⟩ = some (.int .u64 0) := (f_y).cell 2
  have y_3 : w_2.cell? ⟨w.heap.size, 3, none⟩ = some (.int .u64 0) := (f_y).cell 3
  have y_f0 := (f_y).frozen 0
  have y_f1 := (f_y).frozen 1
  have y_f2 := (f_y).frozen 2
  have y_f3 := (f_y).frozen 3
  have y_l := (f_y).lt
  replace f_y := Lib.hid f_y
  replace hB_2 := Lib.hid hB_2
  go_wp2_with fail
  refine (H3.out _).mono ?_
  rintro e w_3 ⟨rfl, hb_3⟩
  have z_3 := hb_3.size
  try simp at z_3
  have t_ := hB_2.out
  have hB_3 := bel_eld (w := w) (X := _) (by first | ((repeat (first | with_reducible exact Below.refl _ _ | with_reducible assumption | (with_reducible refine bel_set ?_ (by first | exact Nat.le_refl _ | (simp; done) | (simp; omega) | omega) _) | with_reducible refine bel_grow ?_ _ | with_reducible refine Below.drew ?_ | with_reducible refine below_drewN ?_ _ | with_reducible refine bel_alloc ?_ _ | with_reducible refine bel_trans ?_ (by assumption))); done) | (repeat (first | exact Below.refl _ _ | assumption | refine below_drewN ?_ _ | refine bel_grow ?_ _ | refine Below.drew ?_ | refine bel_alloc ?_ _ | refine bel_set ?_ (by first | exact Nat.le_refl _ | (simp; done) | (simp; omega) | omega) _ | refine bel_trans ?_ (by assumption)))) hb_3
  clear t_
  have t_y := f_y.out
  have g_y : Blk w_3 (w.heap.size) 26 #[.int .u64 0, .int .u64 0, .int .u64 0, .int .u64 0] := by
    refine Blk.kept ?_ hb_3
    (repeat (first | with_reducible assumption | (with_reducible refine Blk.new' ?_; first | with_reducible rfl | (simp; done)) | with_reducible refine Blk.alloc ?_ _ | with_reducible refine Blk.grow ?_ _ | with_reducible refine Blk.drew ?_ | with_reducible refine Blk.drewN ?_ _ | (with_reducible refine Blk.far ?_ (by first | (dsimp only; omega) | (simp; omega)) _) | (with_reducible apply Blk.two) | (with_reducible refine Blk.set' ?_ _ _ ?_) | (with_reducible rfl) | rfl))
  clear f_y y_l y_0 y_1 y_2 y_3 y_f0 y_f1 y_f2 y_f3 t_y hB_2 hb_3
  have f_y := g_y
  clear g_y
  have y_0 : w_3.cell? ⟨w.heap.size, 0, none⟩ = some (.int .u64 0) := (f_y).cell 0
  have y_1 : w_3.cell? ⟨w.heap.size, 1, none⟩ = some (.int .u64 0) := (f_y).cell 1
  have y_2 : w_3.cell? ⟨w.heap.size, 2, none⟩ = some (.int .u64 0) := (f_y).cell 2
  have y_3 : w_3.cell? ⟨w.heap.size, 3, none⟩ = some (.int .u64 0) := (f_y).cell 3
  have y_f0 := (f_y).frozen 0
  have y_f1 := (f_y).frozen 1
  have y_f2 := (f_y).frozen 2
  have y_f3 := (f_y).frozen 3
  have y_l := (f_y).lt
  replace f_y := Lib.hid f_y
  replace hB_3 := Lib.hid hB_3
  go_wp2_with fail
  refine abs_post (fun Y_ => Below w.heap.size w Y_ ∧ Blk Y_ w.heap.size 26 #[.int .u64 q2, .int .u64 q3, .int .u64 q0, .int .u64 q1]) ⟨by have t := hB_3.out; (repeat (first | with_reducible exact Below.refl _ _ | with_reducible assumption | (with_reducible refine bel_set ?_ (by first | exact Nat.le_refl _ | (simp; done) | (simp; omega) | omega) _) | with_reducible refine bel_grow ?_ _ | with_reducible refine Below.drew ?_ | with_reducible refine bel_alloc ?_ _ | (with_reducible refine below_setRow ?_ (by first | omega | (simp; omega)) _) | with_reducible refine bel_eld ?_ (by assumption))), Blk.eqv ((((f_y.out.set_ 0 _).set_ 1 _).set_ 2 _).set_ 3 _) (by simp)⟩ ?_
  rintro Y_ ⟨bZ, gP⟩
  have p0 := (gP).cell 0
  have p1 := (gP).cell 1
  have p2 := (gP).cell 2
  have p3 := (gP).cell 3
  have pf0 := (gP).frozen 0
  have pf1 := (gP).frozen 1
  have pf2 := (gP).frozen 2
  have pf3 := (gP).frozen 3
  have pl := (gP).lt
  refine bodyPost_ret (v := .tuple #[.agg #[.int .u64 q2, .int .u64 q3, .int .u64 q0, .int .u64 q1], .bool true]) (by simp [results, Try.results45, go_sem, p0, p1, p2, p3, pl]) rfl ⟨rfl, bZ⟩
set_option maxRecDepth 8000 in
set_option maxHeartbeats 2000000 in
theorem refKeptDue_no (d e : Nat → Int) (n m : Nat) (hn : n ≤ maxLen) (hm : m ≤ maxLen) (h : ¬ (n = 16 ∧ m = 16)) (w : World) :
    Calls Try.prog 45 #[.string (strF d n), .string (strF e m)] w fun r w' => r = .returned (.tuple #[.agg #[.int .u64 0, .int .u64 0, .int .u64 0, .int .u64 0], .bool false]) ∧ Below w.heap.size w w' := by
  unfold maxLen at hn hm
  have s1 : (strF d n).size = n := strF_size d n
  have s2 : (strF e m).size = m := strF_size e m
  by_cases h1 : n = 16
  · subst h1
    have h' : ((m : Int) != 16) = true := by rw [bne_iff_ne]; omega
    go_enter Try.func45, Try.ntmps45
    go_wp2_with fail
    refine bodyPost_ret (v := .tuple #[.agg #[.int .u64 0, .int .u64 0, .int .u64 0, .int .u64 0], .bool false]) (by simp [results, Try.results45, go_sem]) rfl ⟨rfl, by (repeat (first | with_reducible exact Below.refl _ _ | with_reducible assumption | (with_reducible refine bel_set ?_ (by first | exact Nat.le_refl _ | (simp; done) | (simp; omega) | omega) _) | with_reducible refine bel_grow ?_ _ | with_reducible refine Below.drew ?_ | with_reducible refine below_drewN ?_ _ | with_reducible refine bel_alloc ?_ _ | with_reducible refine bel_trans ?_ (by assumption)))⟩
  · have h' : ((n : Int) != 16) = true := by rw [bne_iff_ne]; omega
    go_enter Try.func45, Try.ntmps45
    go_wp2_with fail
    refine bodyPost_ret (v := .tuple #[.agg #[.int .u64 0, .int .u64 0, .int .u64 0, .int .u64 0], .bool false]) (by simp [results, Try.results45, go_sem]) rfl ⟨rfl, by (repeat (first | with_reducible exact Below.refl _ _ | with_reducible assumption | (with_reducible refine bel_set ?_ (by first | exact Nat.le_refl _ | (simp; done) | (simp; omega) | omega) _) | with_reducible refine bel_grow ?_ _ | with_reducible refine Below.drew ?_ | with_reducible refine below_drewN ?_ _ | with_reducible refine bel_alloc ?_ _ | with_reducible refine bel_trans ?_ (by assumption)))⟩
theorem refKeptDue_all (d e : Nat → Int) (hd : ∀ i, 0 ≤ d i ∧ d i < 256) (he : ∀ i, 0 ≤ e i ∧ e i < 256) (n m : Nat) (hn : n ≤ maxLen) (hm : m ≤ maxLen) (b : Bool) (hb : decide (n = 16 ∧ m = 16) = b) (w : World) :
    Calls Try.prog 45 #[.string (strF d n), .string (strF e m)] w fun r w' => r = .returned (.tuple #[.agg #[.int .u64 (bv b (num d 0 8)), .int .u64 (bv b (num d 8 8)), .int .u64 (bv b (num e 0 8)), .int .u64 (bv b (num e 8 8))], .bool b]) ∧ Below w.heap.size w w' := by
  cases b with
  | true =>
    obtain ⟨rfl, rfl⟩ := of_decide_eq_true hb
    exact refKeptDue_yes d e hd he w
  | false => exact refKeptDue_no d e n m hn hm (of_decide_eq_false hb) w
end Go.Proofs.Ytflaeljjalpnkaa
