/-
  Whether a column and an amount are too great, walked.
-/
import Derived.Test.YtpbnakoimlmhnaaBv
import Derived.Test.YtpbnakoimlmhnaaBk
import Derived.Deep.RegionHeld
import Derived.Deep.DeepCutAuto
namespace Go.Proofs.Ytpbnakoimlmhnaa
set_option linter.unusedVariables false
set_option linter.unusedSimpArgs false
open Go.RowKit

attribute [local go_sem] loadV_ptr storeV_ptr one_func drew_hs ext_deb ext_cre ext_cols ext_acc
attribute [local go_sem ↓] load_Cols store_Cols load_Transfer store_Transfer load_Parties store_Parties load_Acct store_Acct
set_option maxRecDepth 8000 in
set_option maxHeartbeats 8000000 in
theorem over_debitsPending (ai1 ai2 ap1 ap2 aq1 aq2 ar1 ar2 as1 as2 atg alg acd afl ast n1 n2 : Int) (h1 : Wd ap1) (h2 : Wd ap2) (h3 : Wd n1) (h4 : Wd n2) (w : World) : Calls Try.prog 53 #[.func (.func 73) #[] #[], .agg #[.int .u64 ai1, .int .u64 ai2, .int .u64 ap1, .int .u64 ap2, .int .u64 aq1, .int .u64 aq2, .int .u64 ar1, .int .u64 ar2, .int .u64 as1, .int .u64 as2, .int .u64 atg, .int .u32 alg, .int .u16 acd, .int .u16 afl, .int .u64 ast], .agg #[.int .u64 n1, .int .u64 n2]] w fun r w' => r = .returned (.bool (!(addB ap1 ap2 n1 n2))) ∧ Below w.heap.size w w' := by
  have HA := Lib.hid (fun w => add_any ap1 ap2 n1 n2 h1 h2 h3 h4 w)
  clear h1 h2 h3 h4
  generalize addB ap1 ap2 n1 n2 = ok at *
  generalize addH ap1 ap2 n1 n2 = h at *
  generalize addL ap1 ap2 n1 n2 = l at *
  have H1 := Lib.hid (fun g k w => debitsPending_any g k w)
  go_enter Try.func53, Try.ntmps53
  go_upto_region 1 with fail
  refine abs_wp (fun X => Below w.heap.size w X ∧ Blk X w.heap.size 30 #[.int .u64 ai1, .int .u64 ai2, .int .u64 ap1, .int .u64 ap2, .int .u64 aq1, .int .u64 aq2, .int .u64 ar1, .int .u64 ar2, .int .u64 as1, .int .u64 as2, .int .u64 atg, .int .u32 alg, .int .u16 acd, .int .u16 afl, .int .u64 ast] ∧ Blk X (w.heap.size + 1) 24 #[.int .u64 n1, .int .u64 n2]) ?_ ?_
  · refine ⟨by (repeat (first | with_reducible exact Below.refl _ _ | with_reducible assumption | (with_reducible refine bel_set ?_ (by first | exact Nat.le_refl _ | (simp; done) | (simp; omega) | omega) _) | with_reducible refine bel_grow ?_ _ | with_reducible refine Below.drew ?_ | with_reducible refine below_drewN ?_ _ | with_reducible refine bel_alloc ?_ _ | with_reducible refine bel_trans ?_ (by assumption))), ?_, ?_⟩
    · exact (Blk.new _ _ _).alloc _
    · exact Blk.new' (by simp)
  rintro X ⟨bX, ga, gn⟩
  have a0 : X.cell? ⟨w.heap.size, 2, none⟩ = some (.int .u64 ap1) := ga.cell 2
  have a1 : X.cell? ⟨w.heap.size, 3, none⟩ = some (.int .u64 ap2) := ga.cell 3
  have m0 : X.cell? ⟨w.heap.size + 1, 0, none⟩ = some (.int .u64 n1) := gn.cell 0
  have m1 : X.cell? ⟨w.heap.size + 1, 1, none⟩ = some (.int .u64 n2) := gn.cell 1
  have lX := gn.lt
  clear ga gn
  replace bX := Lib.hid bX
  go_cut [8] (fun s8 wx => s8 = .bool ok ∧ Below X.heap.size X wx)
  case first =>
    (first | (go_region_held (fun w' => w'.cell? ⟨w.heap.size, 2, none⟩ = some (.int .u64 ap1) ∧ w'.cell? ⟨w.heap.size, 3, none⟩ = some (.int .u64 ap2) ∧ w'.cell? ⟨w.heap.size + 1, 0, none⟩ = some (.int .u64 n1) ∧ w'.cell? ⟨w.heap.size + 1, 1, none⟩ = some (.int .u64 n2))
      (first | ((try go_split_ands); (repeat' apply And.intro) <;> (first | with_reducible assumption | ((repeat (first | with_reducible refine keepd ?_ | with_reducible refine keepdr ?_ | with_reducible refine keepal ?_ | with_reducible refine keepral ?_ | with_reducible refine keeps (by dsimp only; omega) ?_ | with_reducible refine keepr (by dsimp only; omega) ?_ | with_reducible refine keepc (by assumption) ?_ | with_reducible refine keeprc (by assumption) ?_)); with_reducible assumption))))
      (first | (go_at_call 73; (with_reducible refine (H1.out _ _ _).mono ?_); rintro e w2 ⟨rfl, hb2⟩; have zs2 := hb2.size; (try simp at zs2); (try (have fz0_2 : Blk w2 (X.heap.size) 24 #[.int .u64 0, .int .u64 0] := (by (refine Blk.kept ?_ hb2; (first | ((repeat (first | with_reducible assumption | exact Hid.out (by assumption) | (with_reducible refine Blk.new' ?_; first | with_reducible rfl | (simp; done)) | with_reducible refine Blk.alloc ?_ _ | with_reducible refine Blk.drew ?_ | (with_reducible refine Blk.far ?_ (by first | (dsimp only; omega) | (simp; omega)) _))); done) | fail))); have lz0_2 := fz0_2.lt; have kz0_2 := fz0_2.cell 0; have mz0_2 := fz0_2.cell 1; have nz0_2 := fz0_2.frozen 0; have oz0_2 := fz0_2.frozen 1; replace fz0_2 := Lib.hid fz0_2))) | (go_at_call 72; (with_reducible refine (HA.out _).mono ?_); rintro e w3 ⟨rfl, hb3⟩; have zs3 := hb3.size; (try simp at zs3); (try (have fz0_3 : Blk w3 (X.heap.size) 24 #[.int .u64 0, .int .u64 0] := (by (refine Blk.kept ?_ hb3; (first | ((repeat (first | with_reducible assumption | exact Hid.out (by assumption) | (with_reducible refine Blk.new' ?_; first | with_reducible rfl | (simp; done)) | with_reducible refine Blk.alloc ?_ _ | with_reducible refine Blk.drew ?_ | (with_reducible refine Blk.far ?_ (by first | (dsimp only; omega) | (simp; omega)) _))); done) | fail))); have lz0_3 := fz0_3.lt; have kz0_3 := fz0_3.cell 0; have mz0_3 := fz0_3.cell 1; have nz0_3 := fz0_3.frozen 0; have oz0_3 := fz0_3.frozen 1; replace fz0_3 := Lib.hid fz0_3)); (try (have fz1_3 : Blk w3 (w2.heap.size) 24 #[.int .u64 0, .int .u64 0] := (by (refine Blk.kept ?_ hb3; (first | ((repeat (first | with_reducible assumption | exact Hid.out (by assumption) | (with_reducible refine Blk.new' ?_; first | with_reducible rfl | (simp; done)) | with_reducible refine Blk.alloc ?_ _ | with_reducible refine Blk.drew ?_ | (with_reducible refine Blk.far ?_ (by first | (dsimp only; omega) | (simp; omega)) _))); done) | fail))); have lz1_3 := fz1_3.lt; have kz1_3 := fz1_3.cell 0; have mz1_3 := fz1_3.cell 1; have nz1_3 := fz1_3.frozen 0; have oz1_3 := fz1_3.frozen 1; replace fz1_3 := Lib.hid fz1_3))))) | fail)
    all_goals (
      go_wp2_with fail
      go_meet
      exact ⟨rfl, by (repeat (first | with_reducible exact Below.refl _ _ | with_reducible assumption | (with_reducible refine bel_set ?_ (by first | exact Nat.le_refl _ | (simp; done) | (simp; omega) | omega) _) | with_reducible refine bel_grow ?_ _ | with_reducible refine Below.drew ?_ | with_reducible refine bel_alloc ?_ _ | with_reducible refine bel_eld ?_ (by assumption)))⟩)
  case rest =>
    obtain ⟨rfl, hw⟩ := hcut
    have bY := Lib.hid (bel_eld bX.out hw)
    clear a0 a1 m0 m1 hw bX lX
    go_wp2_with fail
    go_ret
    exact ⟨rfl, bY.out⟩
set_option maxRecDepth 8000 in
set_option maxHeartbeats 8000000 in
theorem over_debitsPosted (ai1 ai2 ap1 ap2 aq1 aq2 ar1 ar2 as1 as2 atg alg acd afl ast n1 n2 : Int) (h1 : Wd aq1) (h2 : Wd aq2) (h3 : Wd n1) (h4 : Wd n2) (w : World) : Calls Try.prog 53 #[.func (.func 74) #[] #[], .agg #[.int .u64 ai1, .int .u64 ai2, .int .u64 ap1, .int .u64 ap2, .int .u64 aq1, .int .u64 aq2, .int .u64 ar1, .int .u64 ar2, .int .u64 as1, .int .u64 as2, .int .u64 atg, .int .u32 alg, .int .u16 acd, .int .u16 afl, .int .u64 ast], .agg #[.int .u64 n1, .int .u64 n2]] w fun r w' => r = .returned (.bool (!(addB aq1 aq2 n1 n2))) ∧ Below w.heap.size w w' := by
  have HA := Lib.hid (fun w => add_any aq1 aq2 n1 n2 h1 h2 h3 h4 w)
  clear h1 h2 h3 h4
  generalize addB aq1 aq2 n1 n2 = ok at *
  generalize addH aq1 aq2 n1 n2 = h at *
  generalize addL aq1 aq2 n1 n2 = l at *
  have H1 := Lib.hid (fun g k w => debitsPosted_any g k w)
  go_enter Try.func53, Try.ntmps53
  go_upto_region 1 with fail
  refine abs_wp (fun X => Below w.heap.size w X ∧ Blk X w.heap.size 30 #[.int .u64 ai1, .int .u64 ai2, .int .u64 ap1, .int .u64 ap2, .int .u64 aq1, .int .u64 aq2, .int .u64 ar1, .int .u64 ar2, .int .u64 as1, .int .u64 as2, .int .u64 atg, .int .u32 alg, .int .u16 acd, .int .u16 afl, .int .u64 ast] ∧ Blk X (w.heap.size + 1) 24 #[.int .u64 n1, .int .u64 n2]) ?_ ?_
  · refine ⟨by (repeat (first | with_reducible exact Below.refl _ _ | with_reducible assumption | (with_reducible refine bel_set ?_ (by first | exact Nat.le_refl _ | (simp; done) | (simp; omega) | omega) _) | with_reducible refine bel_grow ?_ _ | with_reducible refine Below.drew ?_ | with_reducible refine below_drewN ?_ _ | with_reducible refine bel_alloc ?_ _ | with_reducible refine bel_trans ?_ (by assumption))), ?_, ?_⟩
    · exact (Blk.new _ _ _).alloc _
    · exact Blk.new' (by simp)
  rintro X ⟨bX, ga, gn⟩
  have a0 : X.cell? ⟨w.heap.size, 4, none⟩ = some (.int .u64 aq1) := ga.cell 4
  have a1 : X.cell? ⟨w.heap.size, 5, none⟩ = some (.int .u64 aq2) := ga.cell 5
  have m0 : X.cell? ⟨w.heap.size + 1, 0, none⟩ = some (.int .u64 n1) := gn.cell 0
  have m1 : X.cell? ⟨w.heap.size + 1, 1, none⟩ = some (.int .u64 n2) := gn.cell 1
  have lX := gn.lt
  clear ga gn
  replace bX := Lib.hid bX
  go_cut [8] (fun s8 wx => s8 = .bool ok ∧ Below X.heap.size X wx)
  case first =>
    (first | (go_region_held (fun w' => w'.cell? ⟨w.heap.size, 4, none⟩ = some (.int .u64 aq1) ∧ w'.cell? ⟨w.heap.size, 5, none⟩ = some (.int .u64 aq2) ∧ w'.cell? ⟨w.heap.size + 1, 0, none⟩ = some (.int .u64 n1) ∧ w'.cell? ⟨w.heap.size + 1, 1, none⟩ = some (.int .u64 n2))
      (first | ((try go_split_ands); (repeat' apply And.intro) <;> (first | with_reducible assumption | ((repeat (first | with_reducible refine keepd ?_ | with_reducible refine keepdr ?_ | with_reducible refine keepal ?_ | with_reducible refine keepral ?_ | with_reducible refine keeps (by dsimp only; omega) ?_ | with_reducible refine keepr (by dsimp only; omega) ?_ | with_reducible refine keepc (by assumption) ?_ | with_reducible refine keeprc (by assumption) ?_)); with_reducible assumption))))
      (first | (go_at_call 74; (with_reducible refine (H1.out _ _ _).mono ?_); rintro e w2 ⟨rfl, hb2⟩; have zs2 := hb2.size; (try simp at zs2); (try (have fz0_2 : Blk w2 (X.heap.size) 24 #[.int .u64 0, .int .u64 0] := (by (refine Blk.kept ?_ hb2; (first | ((repeat (first | with_reducible assumption | exact Hid.out (by assumption) | (with_reducible refine Blk.new' ?_; first | with_reducible rfl | (simp; done)) | with_reducible refine Blk.alloc ?_ _ | with_reducible refine Blk.drew ?_ | (with_reducible refine Blk.far ?_ (by first | (dsimp only; omega) | (simp; omega)) _))); done) | fail))); have lz0_2 := fz0_2.lt; have kz0_2 := fz0_2.cell 0; have mz0_2 := fz0_2.cell 1; have nz0_2 := fz0_2.frozen 0; have oz0_2 := fz0_2.frozen 1; replace fz0_2 := Lib.hid fz0_2))) | (go_at_call 72; (with_reducible refine (HA.out _).mono ?_); rintro e w3 ⟨rfl, hb3⟩; have zs3 := hb3.size; (try simp at zs3); (try (have fz0_3 : Blk w3 (X.heap.size) 24 #[.int .u64 0, .int .u64 0] := (by (refine Blk.kept ?_ hb3; (first | ((repeat (first | with_reducible assumption | exact Hid.out (by assumption) | (with_reducible refine Blk.new' ?_; first | with_reducible rfl | (simp; done)) | with_reducible refine Blk.alloc ?_ _ | with_reducible refine Blk.drew ?_ | (with_reducible refine Blk.far ?_ (by first | (dsimp only; omega) | (simp; omega)) _))); done) | fail))); have lz0_3 := fz0_3.lt; have kz0_3 := fz0_3.cell 0; have mz0_3 := fz0_3.cell 1; have nz0_3 := fz0_3.frozen 0; have oz0_3 := fz0_3.frozen 1; replace fz0_3 := Lib.hid fz0_3)); (try (have fz1_3 : Blk w3 (w2.heap.size) 24 #[.int .u64 0, .int .u64 0] := (by (refine Blk.kept ?_ hb3; (first | ((repeat (first | with_reducible assumption | exact Hid.out (by assumption) | (with_reducible refine Blk.new' ?_; first | with_reducible rfl | (simp; done)) | with_reducible refine Blk.alloc ?_ _ | with_reducible refine Blk.drew ?_ | (with_reducible refine Blk.far ?_ (by first | (dsimp only; omega) | (simp; omega)) _))); done) | fail))); have lz1_3 := fz1_3.lt; have kz1_3 := fz1_3.cell 0; have mz1_3 := fz1_3.cell 1; have nz1_3 := fz1_3.frozen 0; have oz1_3 := fz1_3.frozen 1; replace fz1_3 := Lib.hid fz1_3))))) | fail)
    all_goals (
      go_wp2_with fail
      go_meet
      exact ⟨rfl, by (repeat (first | with_reducible exact Below.refl _ _ | with_reducible assumption | (with_reducible refine bel_set ?_ (by first | exact Nat.le_refl _ | (simp; done) | (simp; omega) | omega) _) | with_reducible refine bel_grow ?_ _ | with_reducible refine Below.drew ?_ | with_reducible refine bel_alloc ?_ _ | with_reducible refine bel_eld ?_ (by assumption)))⟩)
  case rest =>
    obtain ⟨rfl, hw⟩ := hcut
    have bY := Lib.hid (bel_eld bX.out hw)
    clear a0 a1 m0 m1 hw bX lX
    go_wp2_with fail
    go_ret
    exact ⟨rfl, bY.out⟩
end Go.Proofs.Ytpbnakoimlmhnaa
