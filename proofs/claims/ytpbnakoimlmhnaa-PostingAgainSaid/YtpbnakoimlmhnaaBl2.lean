/-
  What the credited side may still be moved by, walked.
-/
import Derived.Test.YtpbnakoimlmhnaaBv
import Derived.Test.YtpbnakoimlmhnaaBk
import Derived.Deep.RegionHeld
import Derived.Deep.DeepCutAuto
namespace Go.Proofs.Ytpbnakoimlmhnaa
set_option linter.unusedVariables false
set_option linter.unusedSimpArgs false
open Go.RowKit

attribute [local go_sem] loadV_ptr storeV_ptr one_func drew_hs ext_deb ext_cre ext_cols ext_acc
attribute [local go_sem ↓] load_Cols store_Cols load_Transfer store_Transfer load_Parties store_Parties load_Acct store_Acct
set_option maxRecDepth 8000 in
set_option maxHeartbeats 8000000 in
theorem left_C (ai1 ai2 ap1 ap2 aq1 aq2 ar1 ar2 as1 as2 atg alg acd afl ast : Int) (haq1 : Wd aq1) (haq2 : Wd aq2) (har1 : Wd ar1) (har2 : Wd ar2) (has1 : Wd as1) (has2 : Wd as2) (w : World) : Calls Try.prog 49 #[.agg #[.func (.func 76) #[] #[], .func (.func 75) #[] #[], .func (.func 74) #[] #[]], .agg #[.int .u64 ai1, .int .u64 ai2, .int .u64 ap1, .int .u64 ap2, .int .u64 aq1, .int .u64 aq2, .int .u64 ar1, .int .u64 ar2, .int .u64 as1, .int .u64 as2, .int .u64 atg, .int .u32 alg, .int .u16 acd, .int .u16 afl, .int .u64 ast]] w fun r w' => r = .returned (.agg #[.int .u64 (leH aq1 aq2 ar1 ar2 as1 as2), .int .u64 (leL aq1 aq2 ar1 ar2 as1 as2)]) ∧ Below w.heap.size w w' := by
  obtain ⟨u1, u2⟩ := add_u har1 har2 has1 has2
  have HA := Lib.hid (fun w => add_any ar1 ar2 as1 as2 har1 har2 has1 has2 w)
  have HR := Lib.hid (fun w => rest_any aq1 aq2 (addH ar1 ar2 as1 as2) (addL ar1 ar2 as1 as2) haq1 haq2 u1 u2 w)
  clear har1 har2 has1 has2 haq1 haq2 u1 u2
  unfold leH leL
  generalize addB ar1 ar2 as1 as2 = ok at *
  generalize addH ar1 ar2 as1 as2 = h at *
  generalize addL ar1 ar2 as1 as2 = l at *
  generalize subH aq1 aq2 h l = vh at *
  generalize subL aq1 aq2 h l = vl at *
  have H1 := Lib.hid (fun g k w => creditsPending_any g k w)
  have H2 := Lib.hid (fun g k w => creditsPosted_any g k w)
  have H3 := Lib.hid (fun g k w => debitsPosted_any g k w)
  go_enter Try.func49, Try.ntmps49
  go_upto_region 2 with fail
  refine abs_wp (fun X => Below w.heap.size w X ∧ Blk X w.heap.size 76 #[.func (.func 76) #[] #[], .func (.func 75) #[] #[], .func (.func 74) #[] #[]] ∧ Blk X (w.heap.size + 1) 30 #[.int .u64 ai1, .int .u64 ai2, .int .u64 ap1, .int .u64 ap2, .int .u64 aq1, .int .u64 aq2, .int .u64 ar1, .int .u64 ar2, .int .u64 as1, .int .u64 as2, .int .u64 atg, .int .u32 alg, .int .u16 acd, .int .u16 afl, .int .u64 ast] ∧ Blk X (w.heap.size + 2) 24 #[.int .u64 0, .int .u64 0] ∧ Blk X (w.heap.size + 3) 108 #[.pointer (some ⟨w.heap.size + 1, 0, none⟩)]) ?_ ?_
  · refine ⟨by (repeat (first | with_reducible exact Below.refl _ _ | with_reducible assumption | (with_reducible refine bel_set ?_ (by first | exact Nat.le_refl _ | (simp; done) | (simp; omega) | omega) _) | with_reducible refine bel_grow ?_ _ | with_reducible refine Below.drew ?_ | with_reducible refine below_drewN ?_ _ | with_reducible refine bel_alloc ?_ _ | with_reducible refine bel_trans ?_ (by assumption))), ?_, ?_, ?_, ?_⟩
    · exact (((Blk.new _ _ _).alloc _).alloc _).alloc _
    · exact ((Blk.new' (by simp)).alloc _).alloc _
    · exact (Blk.new' (by simp)).alloc _
    · exact Blk.new' (by simp)
  rintro X ⟨bX, gc, ga, gr, gs⟩
  have c0 : X.cell? ⟨w.heap.size, 0, none⟩ = some (.func (.func 76) #[] #[]) := gc.cell 0
  have c1 : X.cell? ⟨w.heap.size, 1, none⟩ = some (.func (.func 75) #[] #[]) := gc.cell 1
  have c2 : X.cell? ⟨w.heap.size, 2, none⟩ = some (.func (.func 74) #[] #[]) := gc.cell 2
  have a0 : X.cell? ⟨w.heap.size + 1, 6, none⟩ = some (.int .u64 ar1) := ga.cell 6
  have a1 : X.cell? ⟨w.heap.size + 1, 7, none⟩ = some (.int .u64 ar2) := ga.cell 7
  have a2 : X.cell? ⟨w.heap.size + 1, 8, none⟩ = some (.int .u64 as1) := ga.cell 8
  have a3 : X.cell? ⟨w.heap.size + 1, 9, none⟩ = some (.int .u64 as2) := ga.cell 9
  have a4 : X.cell? ⟨w.heap.size + 1, 4, none⟩ = some (.int .u64 aq1) := ga.cell 4
  have a5 : X.cell? ⟨w.heap.size + 1, 5, none⟩ = some (.int .u64 aq2) := ga.cell 5
  have s0 : X.cell? ⟨w.heap.size + 3, 0, none⟩ = some (.pointer (some ⟨w.heap.size + 1, 0, none⟩)) := gs.cell 0
  have lX := gs.lt
  replace bX := Lib.hid bX
  replace gr := Lib.hid gr
  clear gc ga gs
  go_cut [6, 7] (fun s6 s7 wx => ∃ q, s6 = .pointer (some ⟨q, 0, none⟩) ∧ s7 = .bool ok ∧ X.heap.size ≤ q ∧ Blk wx q 24 #[.int .u64 h, .int .u64 l] ∧ Below X.heap.size X wx)
  case first =>
    clear c2 a4 a5
    (first | (go_region_held (fun w' => w'.cell? ⟨w.heap.size, 0, none⟩ = some (.func (.func 76) #[] #[]) ∧ w'.cell? ⟨w.heap.size, 1, none⟩ = some (.func (.func 75) #[] #[]) ∧ w'.cell? ⟨w.heap.size + 3, 0, none⟩ = some (.pointer (some ⟨w.heap.size + 1, 0, none⟩)) ∧ w'.cell? ⟨w.heap.size + 1, 6, none⟩ = some (.int .u64 ar1) ∧ w'.cell? ⟨w.heap.size + 1, 7, none⟩ = some (.int .u64 ar2) ∧ w'.cell? ⟨w.heap.size + 1, 8, none⟩ = some (.int .u64 as1) ∧ w'.cell? ⟨w.heap.size + 1, 9, none⟩ = some (.int .u64 as2))
      (first | ((try go_split_ands); (repeat' apply And.intro) <;> (first | with_reducible assumption | ((repeat (first | with_reducible refine keepd ?_ | with_reducible refine keepdr ?_ | with_reducible refine keepal ?_ | with_reducible refine keepral ?_ | with_reducible refine keeps (by dsimp only; omega) ?_ | with_reducible refine keepr (by dsimp only; omega) ?_ | with_reducible refine keepc (by assumption) ?_ | with_reducible refine keeprc (by assumption) ?_)); with_reducible assumption))))
      (first | (go_at_call 76; (with_reducible refine (H1.out _ _ _).mono ?_); rintro e w2 ⟨rfl, hb2⟩; have zs2 := hb2.size; (try simp at zs2); (try (have fz0_2 : Blk w2 (X.heap.size) 24 #[.int .u64 0, .int .u64 0] := (by (refine Blk.kept ?_ hb2; (first | ((repeat (first | with_reducible assumption | exact Hid.out (by assumption) | (with_reducible refine Blk.new' ?_; first | with_reducible rfl | (simp; done)) | with_reducible refine Blk.alloc ?_ _ | with_reducible refine Blk.drew ?_ | (with_reducible refine Blk.far ?_ (by first | (dsimp only; omega) | (simp; omega)) _))); done) | fail))); have lz0_2 := fz0_2.lt; have kz0_2 := fz0_2.cell 0; have mz0_2 := fz0_2.cell 1; have nz0_2 := fz0_2.frozen 0; have oz0_2 := fz0_2.frozen 1; replace fz0_2 := Lib.hid fz0_2))) | (go_at_call 75; (with_reducible refine (H2.out _ _ _).mono ?_); rintro e w3 ⟨rfl, hb3⟩; have zs3 := hb3.size; (try simp at zs3); (try (have fz0_3 : Blk w3 (X.heap.size) 24 #[.int .u64 0, .int .u64 0] := (by (refine Blk.kept ?_ hb3; (first | ((repeat (first | with_reducible assumption | exact Hid.out (by assumption) | (with_reducible refine Blk.new' ?_; first | with_reducible rfl | (simp; done)) | with_reducible refine Blk.alloc ?_ _ | with_reducible refine Blk.drew ?_ | (with_reducible refine Blk.far ?_ (by first | (dsimp only; omega) | (simp; omega)) _))); done) | fail))); have lz0_3 := fz0_3.lt; have kz0_3 := fz0_3.cell 0; have mz0_3 := fz0_3.cell 1; have nz0_3 := fz0_3.frozen 0; have oz0_3 := fz0_3.frozen 1; replace fz0_3 := Lib.hid fz0_3)); (try (have fz1_3 : Blk w3 (w2.heap.size) 24 #[.int .u64 0, .int .u64 0] := (by (refine Blk.kept ?_ hb3; (first | ((repeat (first | with_reducible assumption | exact Hid.out (by assumption) | (with_reducible refine Blk.new' ?_; first | with_reducible rfl | (simp; done)) | with_reducible refine Blk.alloc ?_ _ | with_reducible refine Blk.drew ?_ | (with_reducible refine Blk.far ?_ (by first | (dsimp only; omega) | (simp; omega)) _))); done) | fail))); have lz1_3 := fz1_3.lt; have kz1_3 := fz1_3.cell 0; have mz1_3 := fz1_3.cell 1; have nz1_3 := fz1_3.frozen 0; have oz1_3 := fz1_3.frozen 1; replace fz1_3 := Lib.hid fz1_3))) | (go_at_call 72; (with_reducible refine (HA.out _).mono ?_); rintro e w4 ⟨rfl, hb4⟩; have zs4 := hb4.size; (try simp at zs4); (try (have fz0_4 : Blk w4 (X.heap.size) 24 #[.int .u64 0, .int .u64 0] := (by (refine Blk.kept ?_ hb4; (first | ((repeat (first | with_reducible assumption | exact Hid.out (by assumption) | (with_reducible refine Blk.new' ?_; first | with_reducible rfl | (simp; done)) | with_reducible refine Blk.alloc ?_ _ | with_reducible refine Blk.drew ?_ | (with_reducible refine Blk.far ?_ (by first | (dsimp only; omega) | (simp; omega)) _))); done) | fail))); have lz0_4 := fz0_4.lt; have kz0_4 := fz0_4.cell 0; have mz0_4 := fz0_4.cell 1; have nz0_4 := fz0_4.frozen 0; have oz0_4 := fz0_4.frozen 1; replace fz0_4 := Lib.hid fz0_4)); (try (have fz1_4 : Blk w4 (w2.heap.size) 24 #[.int .u64 0, .int .u64 0] := (by (refine Blk.kept ?_ hb4; (first | ((repeat (first | with_reducible assumption | exact Hid.out (by assumption) | (with_reducible refine Blk.new' ?_; first | with_reducible rfl | (simp; done)) | with_reducible refine Blk.alloc ?_ _ | with_reducible refine Blk.drew ?_ | (with_reducible refine Blk.far ?_ (by first | (dsimp only; omega) | (simp; omega)) _))); done) | fail))); have lz1_4 := fz1_4.lt; have kz1_4 := fz1_4.cell 0; have mz1_4 := fz1_4.cell 1; have nz1_4 := fz1_4.frozen 0; have oz1_4 := fz1_4.frozen 1; replace fz1_4 := Lib.hid fz1_4)); (try (have fz2_4 : Blk w4 (w3.heap.size) 24 #[.int .u64 0, .int .u64 0] := (by (refine Blk.kept ?_ hb4; (first | ((repeat (first | with_reducible assumption | exact Hid.out (by assumption) | (with_reducible refine Blk.new' ?_; first | with_reducible rfl | (simp; done)) | with_reducible refine Blk.alloc ?_ _ | with_reducible refine Blk.drew ?_ | (with_reducible refine Blk.far ?_ (by first | (dsimp only; omega) | (simp; omega)) _))); done) | fail))); have lz2_4 := fz2_4.lt; have kz2_4 := fz2_4.cell 0; have mz2_4 := fz2_4.cell 1; have nz2_4 := fz2_4.frozen 0; have oz2_4 := fz2_4.frozen 1; replace fz2_4 := Lib.hid fz2_4))))) | fail)
    all_goals (
      go_wp2_with fail
      go_meet
      refine ⟨_, rfl, rfl, ?_, ?_, ?_⟩
      · first | exact Nat.le_refl _ | omega | (simp; omega)
      · first | (with_reducible exact Blk.new' rfl) | (with_reducible exact Blk.drew (Blk.new' rfl)) | (with_reducible apply Blk.two; (repeat (first | with_reducible assumption | exact Hid.out (by assumption) | (with_reducible refine Blk.new' ?_; first | with_reducible rfl | (simp; done)) | with_reducible refine Blk.alloc ?_ _ | with_reducible refine Blk.drew ?_ | (with_reducible refine Blk.far ?_ (by first | (dsimp only; omega) | (simp; omega)) _))); done)
      · (repeat (first | with_reducible exact Below.refl _ _ | with_reducible assumption | (with_reducible refine bel_set ?_ (by first | exact Nat.le_refl _ | (simp; done) | (simp; omega) | omega) _) | with_reducible refine bel_grow ?_ _ | with_reducible refine Below.drew ?_ | with_reducible refine bel_alloc ?_ _ | with_reducible refine bel_eld ?_ (by assumption))))
  case rest =>
    obtain ⟨q, rfl, rfl, hq, gq, hw⟩ := hcut
    have k2 := keepc hw c2
    have k4 := keepc hw a4
    have k5 := keepc hw a5
    have ks := keepc hw s0
    have gr2 := gr.out.kept hw
    have bY := Lib.hid (bel_eld bX.out hw)
    have lw := hw.size
    have lq := gq.lt
    have q0 := gq.cell 0
    have q1 := gq.cell 1
    have m0 : w.heap.size < wc.heap.size := by omega
    have m1 : w.heap.size + 1 < wc.heap.size := by omega
    have m3 : w.heap.size + 3 < wc.heap.size := by omega
    clear c0 c1 c2 a0 a1 a2 a3 a4 a5 s0 hw bX gr gq lX
    have r0 := (gr2).cell 0
    have r1 := (gr2).cell 1
    have rf0 := (gr2).frozen 0
    have rf1 := (gr2).frozen 1
    have rl := (gr2).lt
    replace gr2 := Lib.hid gr2
    cases ok
    case false =>
      go_wp2_with fail
      refine abs_post (fun Y => Below w.heap.size w Y ∧ Blk Y (w.heap.size + 2) 24 #[.int .u64 0, .int .u64 0]) ?_ ?_
      · have t := bY.out
        exact ⟨by (repeat (first | with_reducible exact Below.refl _ _ | with_reducible assumption | (with_reducible refine bel_set ?_ (by first | exact Nat.le_refl _ | (simp; done) | (simp; omega) | omega) _) | with_reducible refine bel_grow ?_ _ | with_reducible refine Below.drew ?_ | with_reducible refine below_drewN ?_ _ | with_reducible refine bel_alloc ?_ _ | with_reducible refine bel_trans ?_ (by assumption))), Blk.two gr2.out⟩
      rintro Y ⟨bZ, gP⟩
      have p0 := (gP).cell 0
      have p1 := (gP).cell 1
      have pf0 := (gP).frozen 0
      have pf1 := (gP).frozen 1
      have pl := (gP).lt
      refine bodyPost_ret (v := .agg #[.int .u64 0, .int .u64 0]) (by simp [results, Try.results49, go_sem, p0, p1, pl]) rfl ⟨rfl, bZ⟩
    case true =>
      go_wp2_with fail
      first | (with_reducible refine rtail2 8 (by kernel_rfl) (by kernel_rfl) ?_) | (refine rtail 8 (by kernel_rfl) (by kernel_rfl) ?_)
      simp only [List.take_succ_cons, List.take_zero, List.drop_succ_cons, List.drop_zero]
      repeat (go_big_quiet_step (((first | (go_at_call 74; exact grow_call (H3.out _ _ _)) | (go_at_call 78; exact grow_call (HR.out _))))))
      refine wpQuiet_nil ?_
      intro dr
      go_wp2_with fail
      refine abs_post (fun Y => Below w.heap.size w Y ∧ Blk Y (w.heap.size + 2) 24 #[.int .u64 vh, .int .u64 vl]) ?_ ?_
      · have t := bY.out
        exact ⟨by (repeat (first | with_reducible exact Below.refl _ _ | with_reducible assumption | (with_reducible refine bel_set ?_ (by first | exact Nat.le_refl _ | (simp; done) | (simp; omega) | omega) _) | with_reducible refine bel_grow ?_ _ | with_reducible refine Below.drew ?_ | with_reducible refine below_drewN ?_ _ | with_reducible refine bel_alloc ?_ _ | with_reducible refine bel_trans ?_ (by assumption))), Blk.two (gr2.out.grow _)⟩
      rintro Y ⟨bZ, gP⟩
      have p0 := (gP).cell 0
      have p1 := (gP).cell 1
      have pf0 := (gP).frozen 0
      have pf1 := (gP).frozen 1
      have pl := (gP).lt
      refine bodyPost_ret (v := .agg #[.int .u64 vh, .int .u64 vl]) (by simp [results, Try.results49, go_sem, p0, p1, pl]) rfl ⟨rfl, bZ⟩
end Go.Proofs.Ytpbnakoimlmhnaa
