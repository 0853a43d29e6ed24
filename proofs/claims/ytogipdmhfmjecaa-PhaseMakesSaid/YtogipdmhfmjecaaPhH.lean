/-
  phase.Made, the document's, posting.Again of what was made, walked.
-/
import Derived.Test.YtogipdmhfmjecaaPhE
import Derived.Deep.DeepCutAuto
namespace Go.Proofs.Ytogipdmhfmjecaa
set_option linter.unusedVariables false
set_option linter.unusedSimpArgs false
open Go.RowKit

theorem neqKept (x0 x1 x2 x3 x4 x5 x6 x7 x8 x9 x10 x11 x12 x13 x14 x15 x16 x17 : Int) (w : World) : (binOp .neq 45 (.agg #[.int .u64 x0, .int .u64 x1, .int .u64 x2, .int .u64 x3, .int .u64 x4, .int .u64 x5, .int .u64 x6, .int .u64 x7, .int .u64 x8, .int .u64 x9, .int .u64 x10, .int .u32 x11, .int .u32 x12, .int .u16 x13, .int .u16 x14, .int .u64 x15, .int .u64 x16, .int .u64 x17]) (.agg #[.int .u64 x0, .int .u64 x1, .int .u64 x2, .int .u64 x3, .int .u64 x4, .int .u64 x5, .int .u64 x6, .int .u64 x7, .int .u64 x8, .int .u64 x9, .int .u64 x10, .int .u32 x11, .int .u32 x12, .int .u16 x13, .int .u16 x14, .int .u64 x15, .int .u64 x16, .int .u64 x17])).run Try.prog w = .ok (.bool false) w := by
  go_simp
  try simp
attribute [go_sem ↓] neqKept
attribute [local go_sem] bK_is loadV_ptr storeV_ptr
attribute [local go_sem ↓] load_Transfer store_Transfer load_Kept store_Kept build_Kept
set_option maxRecDepth 8000 in
set_option maxHeartbeats 4000000 in
theorem made_any (xi1 xi2 xd1 xd2 xc1 xc2 xm1 xm2 xw1 xw2 xtg xto xlg xcd xfl xst yi1 yi2 yd1 yd2 yc1 yc2 ym1 ym2 yw1 yw2 ytg yto ylg ycd yfl yst n1 n2 ss : Int) (w : World) : Calls Try.prog 9 #[.agg #[.int .u64 xi1, .int .u64 xi2, .int .u64 xd1, .int .u64 xd2, .int .u64 xc1, .int .u64 xc2, .int .u64 xm1, .int .u64 xm2, .int .u64 xw1, .int .u64 xw2, .int .u64 xtg, .int .u32 xto, .int .u32 xlg, .int .u16 xcd, .int .u16 xfl, .int .u64 xst], .agg #[.int .u64 yi1, .int .u64 yi2, .int .u64 yd1, .int .u64 yd2, .int .u64 yc1, .int .u64 yc2, .int .u64 ym1, .int .u64 ym2, .int .u64 yw1, .int .u64 yw2, .int .u64 ytg, .int .u32 yto, .int .u32 ylg, .int .u16 ycd, .int .u16 yfl, .int .u64 yst], .agg #[.int .u64 n1, .int .u64 n2], .int .u64 ss] w fun r w' => r = .returned (.agg #[.int .u64 xi1, .int .u64 xi2, .int .u64 yd1, .int .u64 yd2, .int .u64 yc1, .int .u64 yc2, .int .u64 n1, .int .u64 n2, .int .u64 xw1, .int .u64 xw2, .int .u64 xtg, .int .u32 xto, .int .u32 ylg, .int .u16 ycd, .int .u16 xfl, .int .u64 ss, .int .u64 xm1, .int .u64 xm2]) ∧ Below w.heap.size w w' := by
  go_enter Try.func9, Try.ntmps9
  go_upto_region 3 with fail
  refine abs_wp (fun X => Below w.heap.size w X ∧ Blk X (w.heap.size + 1) 28 #[.int .u64 yi1, .int .u64 yi2, .int .u64 yd1, .int .u64 yd2, .int .u64 yc1, .int .u64 yc2, .int .u64 ym1, .int .u64 ym2, .int .u64 yw1, .int .u64 yw2, .int .u64 ytg, .int .u32 yto, .int .u32 ylg, .int .u16 ycd, .int .u16 yfl, .int .u64 yst] ∧ Blk X (w.heap.size + 2) 24 #[.int .u64 n1, .int .u64 n2] ∧ Blk X (w.heap.size + 3) 45 #[.int .u64 0, .int .u64 0, .int .u64 0, .int .u64 0, .int .u64 0, .int .u64 0, .int .u64 0, .int .u64 0, .int .u64 0, .int .u64 0, .int .u64 0, .int .u32 0, .int .u32 0, .int .u16 0, .int .u16 0, .int .u64 0, .int .u64 0, .int .u64 0] ∧ Blk X (w.heap.size + 4) 45 #[.int .u64 xi1, .int .u64 xi2, .int .u64 xd1, .int .u64 xd2, .int .u64 xc1, .int .u64 xc2, .int .u64 xm1, .int .u64 xm2, .int .u64 xw1, .int .u64 xw2, .int .u64 xtg, .int .u32 xto, .int .u32 xlg, .int .u16 xcd, .int .u16 xfl, .int .u64 xst, .int .u64 xm1, .int .u64 xm2]) ?_ ?_
  · refine ⟨by (repeat (first | with_reducible exact Below.refl _ _ | with_reducible assumption | (with_reducible refine bel_set ?_ (by first | exact Nat.le_refl _ | (simp; done) | (simp; omega) | omega) _) | with_reducible refine bel_grow ?_ _ | with_reducible refine Below.drew ?_ | with_reducible refine below_drewN ?_ _ | with_reducible refine bel_alloc ?_ _ | with_reducible refine bel_trans ?_ (by assumption))), ?_, ?_, ?_, ?_⟩
    · exact (((Blk.new' (by simp)).alloc _).alloc _).alloc _
    · exact ((Blk.new' (by simp)).alloc _).alloc _
    · exact (Blk.new' (by simp)).alloc _
    · exact Blk.new' (by simp)
  rintro X ⟨bX, gy, gn, gr, gk⟩
  have yl := gy.lt
  have kl := gk.lt
  go_cut [28] (fun u1 wx => Below w.heap.size w wx ∧ Blk wx (w.heap.size + 2) 24 #[.int .u64 n1, .int .u64 n2] ∧ Blk wx (w.heap.size + 3) 45 #[.int .u64 0, .int .u64 0, .int .u64 0, .int .u64 0, .int .u64 0, .int .u64 0, .int .u64 0, .int .u64 0, .int .u64 0, .int .u64 0, .int .u64 0, .int .u32 0, .int .u32 0, .int .u16 0, .int .u16 0, .int .u64 0, .int .u64 0, .int .u64 0] ∧ Blk wx (w.heap.size + 4) 45 #[.int .u64 xi1, .int .u64 xi2, .int .u64 yd1, .int .u64 yd2, .int .u64 yc1, .int .u64 yc2, .int .u64 xm1, .int .u64 xm2, .int .u64 xw1, .int .u64 xw2, .int .u64 xtg, .int .u32 xto, .int .u32 ylg, .int .u16 ycd, .int .u16 xfl, .int .u64 xst, .int .u64 xm1, .int .u64 xm2])
  case first =>
    have yy2 : X.cell? ⟨w.heap.size + 1, 2, none⟩ = some (.int .u64 yd1) := gy.cell 2
    have y3 : X.cell? ⟨w.heap.size + 1, 3, none⟩ = some (.int .u64 yd2) := gy.cell 3
    have y4 : X.cell? ⟨w.heap.size + 1, 4, none⟩ = some (.int .u64 yc1) := gy.cell 4
    have y5 : X.cell? ⟨w.heap.size + 1, 5, none⟩ = some (.int .u64 yc2) := gy.cell 5
    have y12 : X.cell? ⟨w.heap.size + 1, 12, none⟩ = some (.int .u32 ylg) := gy.cell 12
    have y13 : X.cell? ⟨w.heap.size + 1, 13, none⟩ = some (.int .u16 ycd) := gy.cell 13
    have k0 := (gk).cell 0
    have k1 := (gk).cell 1
    have k2 := (gk).cell 2
    have k3 := (gk).cell 3
    have k4 := (gk).cell 4
    have k5 := (gk).cell 5
    have k6 := (gk).cell 6
    have k7 := (gk).cell 7
    have k8 := (gk).cell 8
    have k9 := (gk).cell 9
    have k10 := (gk).cell 10
    have k11 := (gk).cell 11
    have k12 := (gk).cell 12
    have k13 := (gk).cell 13
    have k14 := (gk).cell 14
    have k15 := (gk).cell 15
    have k16 := (gk).cell 16
    have k17 := (gk).cell 17
    have kf0 := (gk).frozen 0
    have kf1 := (gk).frozen 1
    have kf2 := (gk).frozen 2
    have kf3 := (gk).frozen 3
    have kf4 := (gk).frozen 4
    have kf5 := (gk).frozen 5
    have kf6 := (gk).frozen 6
    have kf7 := (gk).frozen 7
    have kf8 := (gk).frozen 8
    have kf9 := (gk).frozen 9
    have kf10 := (gk).frozen 10
    have kf11 := (gk).frozen 11
    have kf12 := (gk).frozen 12
    have kf13 := (gk).frozen 13
    have kf14 := (gk).frozen 14
    have kf15 := (gk).frozen 15
    have kf16 := (gk).frozen 16
    have kf17 := (gk).frozen 17
    have kl := (gk).lt
    replace gk := Lib.hid gk
    replace gn := Lib.hid gn
    replace gr := Lib.hid gr
    replace bX := Lib.hid bX
    clear gy
    go_region_held3 (fun w' => w'.cell? ⟨w.heap.size + 1, 2, none⟩ = some (.int .u64 yd1) ∧ w'.cell? ⟨w.heap.size + 1, 3, none⟩ = some (.int .u64 yd2) ∧ w'.cell? ⟨w.heap.size + 1, 4, none⟩ = some (.int .u64 yc1) ∧ w'.cell? ⟨w.heap.size + 1, 5, none⟩ = some (.int .u64 yc2) ∧ w'.cell? ⟨w.heap.size + 1, 12, none⟩ = some (.int .u32 ylg) ∧ w'.cell? ⟨w.heap.size + 1, 13, none⟩ = some (.int .u16 ycd))
      ((repeat' apply And.intro) <;> (first | with_reducible assumption | ((repeat (first | with_reducible refine keepd ?_ | with_reducible refine keeps (by dsimp only; omega) ?_)); with_reducible assumption) | assumption))
      (fail)
    all_goals (
      go_wp2_with fail
      go_meet
      refine ⟨?_, ?_, ?_, ?_⟩
      · have t := bX.out
        (repeat (first | with_reducible exact Below.refl _ _ | with_reducible assumption | (with_reducible refine bel_set ?_ (by first | exact Nat.le_refl _ | (simp; done) | (simp; omega) | omega) _) | with_reducible refine bel_grow ?_ _ | with_reducible refine Below.drew ?_ | with_reducible refine below_drewN ?_ _ | with_reducible refine bel_alloc ?_ _ | with_reducible refine bel_trans ?_ (by assumption)))
      · repeat (first | with_reducible refine Blk.drew ?_ | with_reducible refine Blk.far ?_ (by dsimp only; omega) _)
        exact gn.out
      · repeat (first | with_reducible refine Blk.drew ?_ | with_reducible refine Blk.far ?_ (by dsimp only; omega) _)
        exact gr.out
      · repeat (with_reducible refine Blk.drew ?_)
        with_reducible refine Blk.eqv ((((((gk.out.set_ 2 _).set_ 3 _).set_ 4 _).set_ 5 _).set_ 12 _).set_ 13 _) ?_
        simp)
  case rest =>
  obtain ⟨bW, hn, hr, hk⟩ := hcut
  clear gy gn gr gk yl kl bX
  as_aux_lemma =>
    have g0 := (hn).cell 0
    have g1 := (hn).cell 1
    have gf0 := (hn).frozen 0
    have gf1 := (hn).frozen 1
    have gl := (hn).lt
    have k0 := (hk).cell 0
    have k1 := (hk).cell 1
    have k2 := (hk).cell 2
    have k3 := (hk).cell 3
    have k4 := (hk).cell 4
    have k5 := (hk).cell 5
    have k6 := (hk).cell 6
    have k7 := (hk).cell 7
    have k8 := (hk).cell 8
    have k9 := (hk).cell 9
    have k10 := (hk).cell 10
    have k11 := (hk).cell 11
    have k12 := (hk).cell 12
    have k13 := (hk).cell 13
    have k14 := (hk).cell 14
    have k15 := (hk).cell 15
    have k16 := (hk).cell 16
    have k17 := (hk).cell 17
    have kf0 := (hk).frozen 0
    have kf1 := (hk).frozen 1
    have kf2 := (hk).frozen 2
    have kf3 := (hk).frozen 3
    have kf4 := (hk).frozen 4
    have kf5 := (hk).frozen 5
    have kf6 := (hk).frozen 6
    have kf7 := (hk).frozen 7
    have kf8 := (hk).frozen 8
    have kf9 := (hk).frozen 9
    have kf10 := (hk).frozen 10
    have kf11 := (hk).frozen 11
    have kf12 := (hk).frozen 12
    have kf13 := (hk).frozen 13
    have kf14 := (hk).frozen 14
    have kf15 := (hk).frozen 15
    have kf16 := (hk).frozen 16
    have kf17 := (hk).frozen 17
    have kl := (hk).lt
    replace hn := Lib.hid hn
    replace hk := Lib.hid hk
    replace hr := Lib.hid hr
    replace bW := Lib.hid bW
    go_upto_region 5 with fail
    refine abs_wp (fun X => Below w.heap.size w X ∧ Blk X (w.heap.size + 3) 45 #[.int .u64 0, .int .u64 0, .int .u64 0, .int .u64 0, .int .u64 0, .int .u64 0, .int .u64 0, .int .u64 0, .int .u64 0, .int .u64 0, .int .u64 0, .int .u32 0, .int .u32 0, .int .u16 0, .int .u16 0, .int .u64 0, .int .u64 0, .int .u64 0] ∧ Blk X (w.heap.size + 4) 45 #[.int .u64 xi1, .int .u64 xi2, .int .u64 yd1, .int .u64 yd2, .int .u64 yc1, .int .u64 yc2, .int .u64 n1, .int .u64 n2, .int .u64 xw1, .int .u64 xw2, .int .u64 xtg, .int .u32 xto, .int .u32 ylg, .int .u16 ycd, .int .u16 xfl, .int .u64 ss, .int .u64 xm1, .int .u64 xm2]) ?_ ?_
    · refine ⟨?_, ?_, ?_⟩
      · have t := bW.out
        (repeat (first | with_reducible exact Below.refl _ _ | with_reducible assumption | (with_reducible refine bel_set ?_ (by first | exact Nat.le_refl _ | (simp; done) | (simp; omega) | omega) _) | with_reducible refine bel_grow ?_ _ | with_reducible refine Below.drew ?_ | with_reducible refine below_drewN ?_ _ | with_reducible refine bel_alloc ?_ _ | with_reducible refine bel_trans ?_ (by assumption)))
      · repeat (first | with_reducible refine Blk.drew ?_ | with_reducible refine Blk.far ?_ (by dsimp only; omega) _)
        exact hr.out
      · repeat (with_reducible refine Blk.drew ?_)
        with_reducible refine Blk.eqv (((hk.out.set_ 6 _).set_ 7 _).set_ 15 _) ?_
        simp
    clear hn hk hr bW k0 kf0 k1 kf1 k2 kf2 k3 kf3 k4 kf4 k5 kf5 k6 kf6 k7 kf7 k8 kf8 k9 kf9 k10 kf10 k11 kf11 k12 kf12 k13 kf13 k14 kf14 k15 kf15 k16 kf16 k17 kf17 kl
    rintro X ⟨bX, gr, gk⟩
    as_aux_lemma =>
      have rr := rowAt_blk gr
      have rk := rowAt_blk gk
      have rl := gr.lt
      have kl := gk.lt
      clear gk
      replace gr := Lib.hid gr
      replace bX := Lib.hid bX
      go_wp2_with fail
      refine abs_post (fun Y => Below w.heap.size w Y ∧ Blk Y (w.heap.size + 3) 45 #[.int .u64 xi1, .int .u64 xi2, .int .u64 yd1, .int .u64 yd2, .int .u64 yc1, .int .u64 yc2, .int .u64 n1, .int .u64 n2, .int .u64 xw1, .int .u64 xw2, .int .u64 xtg, .int .u32 xto, .int .u32 ylg, .int .u16 ycd, .int .u16 xfl, .int .u64 ss, .int .u64 xm1, .int .u64 xm2]) ?_ ?_
      · refine ⟨below_setRow bX.out (by omega) _, ?_⟩
        with_reducible refine Blk.setRow (cs := #[.int .u64 0, .int .u64 0, .int .u64 0, .int .u64 0, .int .u64 0, .int .u64 0, .int .u64 0, .int .u64 0, .int .u64 0, .int .u64 0, .int .u64 0, .int .u32 0, .int .u32 0, .int .u16 0, .int .u16 0, .int .u64 0, .int .u64 0, .int .u64 0]) gr.out ?_
        rfl
      rintro Y ⟨bY, gY⟩
      have z0 := (gY).cell 0
      have z1 := (gY).cell 1
      have z2 := (gY).cell 2
      have z3 := (gY).cell 3
      have z4 := (gY).cell 4
      have z5 := (gY).cell 5
      have z6 := (gY).cell 6
      have z7 := (gY).cell 7
      have z8 := (gY).cell 8
      have z9 := (gY).cell 9
      have z10 := (gY).cell 10
      have z11 := (gY).cell 11
      have z12 := (gY).cell 12
      have z13 := (gY).cell 13
      have z14 := (gY).cell 14
      have z15 := (gY).cell 15
      have z16 := (gY).cell 16
      have z17 := (gY).cell 17
      have zf0 := (gY).frozen 0
      have zf1 := (gY).frozen 1
      have zf2 := (gY).frozen 2
      have zf3 := (gY).frozen 3
      have zf4 := (gY).frozen 4
      have zf5 := (gY).frozen 5
      have zf6 := (gY).frozen 6
      have zf7 := (gY).frozen 7
      have zf8 := (gY).frozen 8
      have zf9 := (gY).frozen 9
      have zf10 := (gY).frozen 10
      have zf11 := (gY).frozen 11
      have zf12 := (gY).frozen 12
      have zf13 := (gY).frozen 13
      have zf14 := (gY).frozen 14
      have zf15 := (gY).frozen 15
      have zf16 := (gY).frozen 16
      have zf17 := (gY).frozen 17
      have zl := (gY).lt
      refine bodyPost_ret (v := .agg #[.int .u64 xi1, .int .u64 xi2, .int .u64 yd1, .int .u64 yd2, .int .u64 yc1, .int .u64 yc2, .int .u64 n1, .int .u64 n2, .int .u64 xw1, .int .u64 xw2, .int .u64 xtg, .int .u32 xto, .int .u32 ylg, .int .u16 ycd, .int .u16 xfl, .int .u64 ss, .int .u64 xm1, .int .u64 xm2]) (by simp [results, Try.results9, go_sem, z0, z1, z2, z3, z4, z5, z6, z7, z8, z9, z10, z11, z12, z13, z14, z15, z16, z17, zl]) rfl ⟨rfl, bY⟩
end Go.Proofs.Ytogipdmhfmjecaa
