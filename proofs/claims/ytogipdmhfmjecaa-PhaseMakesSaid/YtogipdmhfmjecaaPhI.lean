/-
  The document's Made; posting.either and Again of what was made.
-/
import Derived.Test.YtogipdmhfmjecaaPhH
namespace Go.Proofs.Ytogipdmhfmjecaa
set_option linter.unusedVariables false
set_option linter.unusedSimpArgs false
open Go.RowKit

attribute [local go_sem] bK_is loadV_ptr storeV_ptr
attribute [local go_sem ↓] load_Transfer store_Transfer load_Kept store_Kept build_Kept
set_option maxRecDepth 8000 in
set_option maxHeartbeats 4000000 in
theorem refmade_any (xi1 xi2 xd1 xd2 xc1 xc2 xm1 xm2 xw1 xw2 xtg xto xlg xcd xfl xst yi1 yi2 yd1 yd2 yc1 yc2 ym1 ym2 yw1 yw2 ytg yto ylg ycd yfl yst n1 n2 ss : Int) (w : World) : Calls Try.prog 10 #[.agg #[.int .u64 xi1, .int .u64 xi2, .int .u64 xd1, .int .u64 xd2, .int .u64 xc1, .int .u64 xc2, .int .u64 xm1, .int .u64 xm2, .int .u64 xw1, .int .u64 xw2, .int .u64 xtg, .int .u32 xto, .int .u32 xlg, .int .u16 xcd, .int .u16 xfl, .int .u64 xst], .agg #[.int .u64 yi1, .int .u64 yi2, .int .u64 yd1, .int .u64 yd2, .int .u64 yc1, .int .u64 yc2, .int .u64 ym1, .int .u64 ym2, .int .u64 yw1, .int .u64 yw2, .int .u64 ytg, .int .u32 yto, .int .u32 ylg, .int .u16 ycd, .int .u16 yfl, .int .u64 yst], .agg #[.int .u64 n1, .int .u64 n2], .int .u64 ss] w fun r w' => r = .returned (.agg #[.int .u64 xi1, .int .u64 xi2, .int .u64 yd1, .int .u64 yd2, .int .u64 yc1, .int .u64 yc2, .int .u64 n1, .int .u64 n2, .int .u64 xw1, .int .u64 xw2, .int .u64 xtg, .int .u32 xto, .int .u32 ylg, .int .u16 ycd, .int .u16 xfl, .int .u64 ss, .int .u64 xm1, .int .u64 xm2]) ∧ Below w.heap.size w w' := by
  go_enter Try.func10, Try.ntmps10
  go_upto_region 2 with fail
  refine abs_wp (fun X => Below w.heap.size w X ∧ Blk X w.heap.size 28 #[.int .u64 xi1, .int .u64 xi2, .int .u64 xd1, .int .u64 xd2, .int .u64 xc1, .int .u64 xc2, .int .u64 xm1, .int .u64 xm2, .int .u64 xw1, .int .u64 xw2, .int .u64 xtg, .int .u32 xto, .int .u32 xlg, .int .u16 xcd, .int .u16 xfl, .int .u64 xst] ∧ Blk X (w.heap.size + 1) 28 #[.int .u64 yi1, .int .u64 yi2, .int .u64 yd1, .int .u64 yd2, .int .u64 yc1, .int .u64 yc2, .int .u64 ym1, .int .u64 ym2, .int .u64 yw1, .int .u64 yw2, .int .u64 ytg, .int .u32 yto, .int .u32 ylg, .int .u16 ycd, .int .u16 yfl, .int .u64 yst] ∧ Blk X (w.heap.size + 2) 24 #[.int .u64 n1, .int .u64 n2] ∧ Blk X (w.heap.size + 3) 45 #[.int .u64 0, .int .u64 0, .int .u64 0, .int .u64 0, .int .u64 0, .int .u64 0, .int .u64 0, .int .u64 0, .int .u64 0, .int .u64 0, .int .u64 0, .int .u32 0, .int .u32 0, .int .u16 0, .int .u16 0, .int .u64 0, .int .u64 0, .int .u64 0] ∧ Blk X (w.heap.size + 4) 24 #[.int .u64 xm1, .int .u64 xm2]) ?_ ?_
  · refine ⟨by (repeat (first | with_reducible exact Below.refl _ _ | with_reducible assumption | (with_reducible refine bel_set ?_ (by first | exact Nat.le_refl _ | (simp; done) | (simp; omega) | omega) _) | with_reducible refine bel_grow ?_ _ | with_reducible refine Below.drew ?_ | with_reducible refine below_drewN ?_ _ | with_reducible refine bel_alloc ?_ _ | with_reducible refine bel_trans ?_ (by assumption))), ?_, ?_, ?_, ?_, ?_⟩
    · exact ((((Blk.new _ _ _).alloc _).alloc _).alloc _).alloc _
    · exact (((Blk.new' (by simp)).alloc _).alloc _).alloc _
    · exact ((Blk.new' (by simp)).alloc _).alloc _
    · exact (Blk.new' (by simp)).alloc _
    · exact Blk.new' (by simp)
  rintro X ⟨bX, gx, gy, gn, gr, gu⟩
  have yl := gy.lt
  have gl := gn.lt
  have yy2 : X.cell? ⟨w.heap.size + 1, 2, none⟩ = some (.int .u64 yd1) := gy.cell 2
  have y3 : X.cell? ⟨w.heap.size + 1, 3, none⟩ = some (.int .u64 yd2) := gy.cell 3
  have y4 : X.cell? ⟨w.heap.size + 1, 4, none⟩ = some (.int .u64 yc1) := gy.cell 4
  have y5 : X.cell? ⟨w.heap.size + 1, 5, none⟩ = some (.int .u64 yc2) := gy.cell 5
  have y12 : X.cell? ⟨w.heap.size + 1, 12, none⟩ = some (.int .u32 ylg) := gy.cell 12
  have y13 : X.cell? ⟨w.heap.size + 1, 13, none⟩ = some (.int .u16 ycd) := gy.cell 13
  have g0 : X.cell? ⟨w.heap.size + 2, 0, none⟩ = some (.int .u64 n1) := gn.cell 0
  have g1 : X.cell? ⟨w.heap.size + 2, 1, none⟩ = some (.int .u64 n2) := gn.cell 1
  have x0 := (gx).cell 0
  have x1 := (gx).cell 1
  have x2 := (gx).cell 2
  have x3 := (gx).cell 3
  have x4 := (gx).cell 4
  have x5 := (gx).cell 5
  have x6 := (gx).cell 6
  have x7 := (gx).cell 7
  have x8 := (gx).cell 8
  have x9 := (gx).cell 9
  have x10 := (gx).cell 10
  have x11 := (gx).cell 11
  have x12 := (gx).cell 12
  have x13 := (gx).cell 13
  have x14 := (gx).cell 14
  have x15 := (gx).cell 15
  have xf0 := (gx).frozen 0
  have xf1 := (gx).frozen 1
  have xf2 := (gx).frozen 2
  have xf3 := (gx).frozen 3
  have xf4 := (gx).frozen 4
  have xf5 := (gx).frozen 5
  have xf6 := (gx).frozen 6
  have xf7 := (gx).frozen 7
  have xf8 := (gx).frozen 8
  have xf9 := (gx).frozen 9
  have xf10 := (gx).frozen 10
  have xf11 := (gx).frozen 11
  have xf12 := (gx).frozen 12
  have xf13 := (gx).frozen 13
  have xf14 := (gx).frozen 14
  have xf15 := (gx).frozen 15
  have xl := (gx).lt
  replace gx := Lib.hid gx
  replace gr := Lib.hid gr
  replace gu := Lib.hid gu
  replace bX := Lib.hid bX
  clear gy gn
  go_upto_region 8 with fail
  refine abs_wp (fun X => Below w.heap.size w X ∧ Blk X w.heap.size 28 #[.int .u64 xi1, .int .u64 xi2, .int .u64 yd1, .int .u64 yd2, .int .u64 yc1, .int .u64 yc2, .int .u64 n1, .int .u64 n2, .int .u64 xw1, .int .u64 xw2, .int .u64 xtg, .int .u32 xto, .int .u32 ylg, .int .u16 ycd, .int .u16 xfl, .int .u64 ss] ∧ Blk X (w.heap.size + 3) 45 #[.int .u64 0, .int .u64 0, .int .u64 0, .int .u64 0, .int .u64 0, .int .u64 0, .int .u64 0, .int .u64 0, .int .u64 0, .int .u64 0, .int .u64 0, .int .u32 0, .int .u32 0, .int .u16 0, .int .u16 0, .int .u64 0, .int .u64 0, .int .u64 0] ∧ Blk X (w.heap.size + 4) 24 #[.int .u64 xm1, .int .u64 xm2]) ?_ ?_
  · refine ⟨?_, ?_, ?_, ?_⟩
    · have t := bX.out
      (repeat (first | with_reducible exact Below.refl _ _ | with_reducible assumption | (with_reducible refine bel_set ?_ (by first | exact Nat.le_refl _ | (simp; done) | (simp; omega) | omega) _) | with_reducible refine bel_grow ?_ _ | with_reducible refine Below.drew ?_ | with_reducible refine below_drewN ?_ _ | with_reducible refine bel_alloc ?_ _ | with_reducible refine bel_trans ?_ (by assumption)))
    · with_reducible refine Blk.eqv (((((((((gx.out.set_ 2 _).set_ 3 _).set_ 4 _).set_ 5 _).set_ 12 _).set_ 13 _).set_ 6 _).set_ 7 _).set_ 15 _) ?_
      simp
    · repeat (first | with_reducible refine Blk.far ?_ (by dsimp only; omega) _)
      exact gr.out
    · repeat (first | with_reducible refine Blk.far ?_ (by dsimp only; omega) _)
      exact gu.out
  clear bX gx gr gu x0 xf0 x1 xf1 x2 xf2 x3 xf3 x4 xf4 x5 xf5 x6 xf6 x7 xf7 x8 xf8 x9 xf9 x10 xf10 x11 xf11 x12 xf12 x13 xf13 x14 xf14 x15 xf15 xl yl gl g0 g1 yy2 y3 y4 y5 y12 y13
  rintro X ⟨bX, gx, gr, gu⟩
  as_aux_lemma =>
    have rx := rowAt_blk gx
    have rr := rowAt_blk gr
    have rl := gr.lt
    have xl := gx.lt
    have u0 := (gu).cell 0
    have u1 := (gu).cell 1
    have uf0 := (gu).frozen 0
    have uf1 := (gu).frozen 1
    have ul := (gu).lt
    clear gx gu
    replace gr := Lib.hid gr
    replace bX := Lib.hid bX
    go_wp2_with fail
    refine abs_post (fun Y => Below w.heap.size w Y ∧ Blk Y (w.heap.size + 3) 45 #[.int .u64 xi1, .int .u64 xi2, .int .u64 yd1, .int .u64 yd2, .int .u64 yc1, .int .u64 yc2, .int .u64 n1, .int .u64 n2, .int .u64 xw1, .int .u64 xw2, .int .u64 xtg, .int .u32 xto, .int .u32 ylg, .int .u16 ycd, .int .u16 xfl, .int .u64 ss, .int .u64 xm1, .int .u64 xm2]) ?_ ?_
    · refine ⟨below_setRow bX.out (by omega) _, ?_⟩
      with_reducible refine Blk.setRow (cs := #[.int .u64 0, .int .u64 0, .int .u64 0, .int .u64 0, .int .u64 0, .int .u64 0, .int .u64 0, .int .u64 0, .int .u64 0, .int .u64 0, .int .u64 0, .int .u32 0, .int .u32 0, .int .u16 0, .int .u16 0, .int .u64 0, .int .u64 0, .int .u64 0]) gr.out ?_
      rfl
    rintro Y ⟨bY, gY⟩
    have z0 := (gY).cell 0
    have z1 := (gY).cell 1
    have z2 := (gY).cell 2
    have z3 := (gY).cell 3
    have z4 := (gY).cell 4
    have z5 := (gY).cell 5
    have z6 := (gY).cell 6
    have z7 := (gY).cell 7
    have z8 := (gY).cell 8
    have z9 := (gY).cell 9
    have z10 := (gY).cell 10
    have z11 := (gY).cell 11
    have z12 := (gY).cell 12
    have z13 := (gY).cell 13
    have z14 := (gY).cell 14
    have z15 := (gY).cell 15
    have z16 := (gY).cell 16
    have z17 := (gY).cell 17
    have zf0 := (gY).frozen 0
    have zf1 := (gY).frozen 1
    have zf2 := (gY).frozen 2
    have zf3 := (gY).frozen 3
    have zf4 := (gY).frozen 4
    have zf5 := (gY).frozen 5
    have zf6 := (gY).frozen 6
    have zf7 := (gY).frozen 7
    have zf8 := (gY).frozen 8
    have zf9 := (gY).frozen 9
    have zf10 := (gY).frozen 10
    have zf11 := (gY).frozen 11
    have zf12 := (gY).frozen 12
    have zf13 := (gY).frozen 13
    have zf14 := (gY).frozen 14
    have zf15 := (gY).frozen 15
    have zf16 := (gY).frozen 16
    have zf17 := (gY).frozen 17
    have zl := (gY).lt
    refine bodyPost_ret (v := .agg #[.int .u64 xi1, .int .u64 xi2, .int .u64 yd1, .int .u64 yd2, .int .u64 yc1, .int .u64 yc2, .int .u64 n1, .int .u64 n2, .int .u64 xw1, .int .u64 xw2, .int .u64 xtg, .int .u32 xto, .int .u32 ylg, .int .u16 ycd, .int .u16 xfl, .int .u64 ss, .int .u64 xm1, .int .u64 xm2]) (by simp [results, Try.results10, go_sem, z0, z1, z2, z3, z4, z5, z6, z7, z8, z9, z10, z11, z12, z13, z14, z15, z16, z17, zl]) rfl ⟨rfl, bY⟩
set_option maxHeartbeats 2000000 in
theorem eitherW_same (xi1 xi2 xd1 xd2 xc1 xc2 xm1 xm2 xw1 xw2 xtg xto xlg xcd xfl xst a b : Int) (w : World) : Calls Try.prog 21 #[.agg #[.int .u64 xi1, .int .u64 xi2, .int .u64 xd1, .int .u64 xd2, .int .u64 xc1, .int .u64 xc2, .int .u64 xm1, .int .u64 xm2, .int .u64 xw1, .int .u64 xw2, .int .u64 xtg, .int .u32 xto, .int .u32 xlg, .int .u16 xcd, .int .u16 xfl, .int .u64 xst], .agg #[.int .u64 a, .int .u64 b], .agg #[.int .u64 a, .int .u64 b]] w fun r w' => r = .returned (.agg #[.int .u64 a, .int .u64 b]) ∧ Below w.heap.size w w' := by
  cases h1 : (bits .and .u16 xfl 12 != 0)
  case false =>
    go_enter Try.func21, Try.ntmps21
    go_wp2_with fail
    refine bodyPost_ret (v := .agg #[.int .u64 a, .int .u64 b]) (by simp [results, Try.results21, go_sem]) rfl ⟨rfl, ?_⟩
    (repeat (first | exact Below.refl _ _ | assumption | refine below_drewN ?_ _ | refine bel_grow ?_ _ | refine Below.drew ?_ | refine bel_alloc ?_ _ | refine bel_set ?_ (by first | exact Nat.le_refl _ | (simp; done) | (simp; omega) | omega) _ | refine bel_trans ?_ (by assumption)))
  case true =>
    cases h2 : (a == 0 && b == 0)
    all_goals (
      go_enter Try.func21, Try.ntmps21
      go_wp2_with fail
      refine bodyPost_ret (v := .agg #[.int .u64 a, .int .u64 b]) (by simp [results, Try.results21, go_sem]) rfl ⟨rfl, ?_⟩
      (repeat (first | exact Below.refl _ _ | assumption | refine below_drewN ?_ _ | refine bel_grow ?_ _ | refine Below.drew ?_ | refine bel_alloc ?_ _ | refine bel_set ?_ (by first | exact Nat.le_refl _ | (simp; done) | (simp; omega) | omega) _ | refine bel_trans ?_ (by assumption))))
set_option maxHeartbeats 2000000 in
theorem eitherD_same (xi1 xi2 xd1 xd2 xc1 xc2 xm1 xm2 xw1 xw2 xtg xto xlg xcd xfl xst a : Int) (w : World) : Calls Try.prog 22 #[.agg #[.int .u64 xi1, .int .u64 xi2, .int .u64 xd1, .int .u64 xd2, .int .u64 xc1, .int .u64 xc2, .int .u64 xm1, .int .u64 xm2, .int .u64 xw1, .int .u64 xw2, .int .u64 xtg, .int .u32 xto, .int .u32 xlg, .int .u16 xcd, .int .u16 xfl, .int .u64 xst], .int .u32 a, .int .u32 a] w fun r w' => r = .returned (.int .u32 a) ∧ Below w.heap.size w w' := by
  cases h1 : (bits .and .u16 xfl 12 != 0)
  case false =>
    go_enter Try.func22, Try.ntmps22
    go_wp2_with fail
    go_ret
    exact ⟨rfl, by (repeat (first | exact Below.refl _ _ | assumption | refine below_drewN ?_ _ | refine bel_grow ?_ _ | refine Below.drew ?_ | refine bel_alloc ?_ _ | refine bel_set ?_ (by first | exact Nat.le_refl _ | (simp; done) | (simp; omega) | omega) _ | refine bel_trans ?_ (by assumption)))⟩
  case true =>
    by_cases h2 : a = 0
    · subst h2
      go_enter Try.func22, Try.ntmps22
      go_wp2_with fail
      go_ret
      exact ⟨rfl, by (repeat (first | exact Below.refl _ _ | assumption | refine below_drewN ?_ _ | refine bel_grow ?_ _ | refine Below.drew ?_ | refine bel_alloc ?_ _ | refine bel_set ?_ (by first | exact Nat.le_refl _ | (simp; done) | (simp; omega) | omega) _ | refine bel_trans ?_ (by assumption)))⟩
    · go_enter Try.func22, Try.ntmps22
      go_wp2_with fail
      go_ret
      exact ⟨rfl, by (repeat (first | exact Below.refl _ _ | assumption | refine below_drewN ?_ _ | refine bel_grow ?_ _ | refine Below.drew ?_ | refine bel_alloc ?_ _ | refine bel_set ?_ (by first | exact Nat.le_refl _ | (simp; done) | (simp; omega) | omega) _ | refine bel_trans ?_ (by assumption)))⟩
set_option maxHeartbeats 2000000 in
theorem eitherH_same (xi1 xi2 xd1 xd2 xc1 xc2 xm1 xm2 xw1 xw2 xtg xto xlg xcd xfl xst a : Int) (w : World) : Calls Try.prog 23 #[.agg #[.int .u64 xi1, .int .u64 xi2, .int .u64 xd1, .int .u64 xd2, .int .u64 xc1, .int .u64 xc2, .int .u64 xm1, .int .u64 xm2, .int .u64 xw1, .int .u64 xw2, .int .u64 xtg, .int .u32 xto, .int .u32 xlg, .int .u16 xcd, .int .u16 xfl, .int .u64 xst], .int .u16 a, .int .u16 a] w fun r w' => r = .returned (.int .u16 a) ∧ Below w.heap.size w w' := by
  cases h1 : (bits .and .u16 xfl 12 != 0)
  case false =>
    go_enter Try.func23, Try.ntmps23
    go_wp2_with fail
    go_ret
    exact ⟨rfl, by (repeat (first | exact Below.refl _ _ | assumption | refine below_drewN ?_ _ | refine bel_grow ?_ _ | refine Below.drew ?_ | refine bel_alloc ?_ _ | refine bel_set ?_ (by first | exact Nat.le_refl _ | (simp; done) | (simp; omega) | omega) _ | refine bel_trans ?_ (by assumption)))⟩
  case true =>
    by_cases h2 : a = 0
    · subst h2
      go_enter Try.func23, Try.ntmps23
      go_wp2_with fail
      go_ret
      exact ⟨rfl, by (repeat (first | exact Below.refl _ _ | assumption | refine below_drewN ?_ _ | refine bel_grow ?_ _ | refine Below.drew ?_ | refine bel_alloc ?_ _ | refine bel_set ?_ (by first | exact Nat.le_refl _ | (simp; done) | (simp; omega) | omega) _ | refine bel_trans ?_ (by assumption)))⟩
    · go_enter Try.func23, Try.ntmps23
      go_wp2_with fail
      go_ret
      exact ⟨rfl, by (repeat (first | exact Below.refl _ _ | assumption | refine below_drewN ?_ _ | refine bel_grow ?_ _ | refine Below.drew ?_ | refine bel_alloc ?_ _ | refine bel_set ?_ (by first | exact Nat.le_refl _ | (simp; done) | (simp; omega) | omega) _ | refine bel_trans ?_ (by assumption)))⟩
end Go.Proofs.Ytogipdmhfmjecaa
