/-
  PhaseTimes, for every input.
-/
import Derived.Test.YtogipdmhfmjecaaPhF
namespace Go.Proofs.Ytogipdmhfmjecaa
set_option linter.unusedVariables false
set_option linter.unusedSimpArgs false
open Go.RowKit

theorem chk_true (v1 v2 v4 : Int) (c2 c3 c4 : Bool) : chk20 v1 v2 (openV c2 c3 c4 true) v4 ≠ 0 := by
  unfold chk20 openV
  cases c2 <;> cases c3 <;> cases c4 <;> by_cases h1 : v1 = 0 <;> by_cases h2 : v2 = 0 <;> simp [h1, h2]
theorem chk_or (v1 v2 v4 : Int) (c2 c3 c4 : Bool) : chk20 v1 v2 (openV c2 c3 c4 true) v4 = chk20 v1 v2 (openV c2 c3 c4 false) v4 ∨ chk20 v1 v2 (openV c2 c3 c4 true) v4 = 57 := by
  unfold chk20 openV
  cases c2 <;> cases c3 <;> cases c4 <;> by_cases h1 : v1 = 0 <;> by_cases h2 : v2 = 0 <;> simp [h1, h2]
theorem times_F4 (v1 v2 v4 a s e : Int) (c2 c3 c4 ok : Bool) : (decide (e ≤ s) && (chk20 v1 v2 (openV c2 c3 c4 (ok && decide (a ≤ s))) v4 == 0) && (chk20 v1 v2 (openV c2 c3 c4 (ok && decide (a ≤ e))) v4 != 0)) = false := by
  by_cases h : e ≤ s
  · cases hs : (ok && decide (a ≤ s))
    · have he : (ok && decide (a ≤ e)) = false := by
        cases ok
        · rfl
        · simp at hs ⊢; omega
      rw [he]
      generalize chk20 v1 v2 (openV c2 c3 c4 false) v4 = G
      by_cases hG : G = 0 <;> simp [hG]
    · have := chk_true v1 v2 v4 c2 c3 c4
      simp [this]
  · simp [h]
theorem times_F9 (v1 v2 v4 a s e : Int) (c2 c3 c4 : Bool) : ((chk20 v1 v2 (openV c2 c3 c4 (true && decide (a ≤ s))) v4 == chk20 v1 v2 (openV c2 c3 c4 (true && decide (a ≤ e))) v4) || (chk20 v1 v2 (openV c2 c3 c4 (true && decide (a ≤ s))) v4 == 57) || (chk20 v1 v2 (openV c2 c3 c4 (true && decide (a ≤ e))) v4 == 57)) = true := by
  have h := chk_or v1 v2 v4 c2 c3 c4
  cases hs : (true && decide (a ≤ s)) <;> cases he : (true && decide (a ≤ e)) <;> simp
  · omega
  · omega
set_option maxRecDepth 8000 in
theorem phaseTimes_any (xi1 xi2 xd1 xd2 xc1 xc2 xm1 xm2 xw1 xw2 xtg xto xlg xcd xfl xst s e yi1 yi2 yd1 yd2 yc1 yc2 ym1 ym2 yw1 yw2 ytg yto ylg ycd yfl yst sv ai1 ai2 ap1 ap2 aq1 aq2 ar1 ar2 as1 as2 atg alg acd afl ast ei1 ei2 ep1 ep2 eq1 eq2 er1 er2 es1 es2 etg elg ecd efl est : Int) (th hd hc : Bool) (hto : 0 ≤ yto ∧ yto < 4294967296) (hst : 0 ≤ yst ∧ yst < 18446744073709551616) (w : World) :
    Calls Try.prog 3 #[.agg #[.int .u64 xi1, .int .u64 xi2, .int .u64 xd1, .int .u64 xd2, .int .u64 xc1, .int .u64 xc2, .int .u64 xm1, .int .u64 xm2, .int .u64 xw1, .int .u64 xw2, .int .u64 xtg, .int .u32 xto, .int .u32 xlg, .int .u16 xcd, .int .u16 xfl, .int .u64 xst, .int .u64 s, .int .u64 yi1, .int .u64 yi2, .int .u64 yd1, .int .u64 yd2, .int .u64 yc1, .int .u64 yc2, .int .u64 ym1, .int .u64 ym2, .int .u64 yw1, .int .u64 yw2, .int .u64 ytg, .int .u32 yto, .int .u32 ylg, .int .u16 ycd, .int .u16 yfl, .int .u64 yst, .bool th, .int .u8 sv, .int .u64 ai1, .int .u64 ai2, .int .u64 ap1, .int .u64 ap2, .int .u64 aq1, .int .u64 aq2, .int .u64 ar1, .int .u64 ar2, .int .u64 as1, .int .u64 as2, .int .u64 atg, .int .u32 alg, .int .u16 acd, .int .u16 afl, .int .u64 ast, .int .u64 ei1, .int .u64 ei2, .int .u64 ep1, .int .u64 ep2, .int .u64 eq1, .int .u64 eq2, .int .u64 er1, .int .u64 er2, .int .u64 es1, .int .u64 es2, .int .u64 etg, .int .u32 elg, .int .u16 ecd, .int .u16 efl, .int .u64 est, .bool hd, .bool hc], .int .u64 e] w fun r w' => r = .returned (.bool true) ∧ Below w.heap.size w w' := by
  refine times_of xi1 xi2 xd1 xd2 xc1 xc2 xm1 xm2 xw1 xw2 xtg xto xlg xcd xfl xst s e yi1 yi2 yd1 yd2 yc1 yc2 ym1 ym2 yw1 yw2 ytg yto ylg ycd yfl yst sv ai1 ai2 ap1 ap2 aq1 aq2 ar1 ar2 as1 as2 atg alg acd afl ast ei1 ei2 ep1 ep2 eq1 eq2 er1 er2 es1 es2 etg elg ecd efl est th hd hc _ _ _ _ _ _ _ _ _ _ _ (fun w => deadline_any yi1 yi2 yd1 yd2 yc1 yc2 ym1 ym2 yw1 yw2 ytg yto ylg ycd yfl yst hto hst _ _ rfl rfl w) (fun w => check_of xi1 xi2 xd1 xd2 xc1 xc2 xm1 xm2 xw1 xw2 xtg xto xlg xcd xfl xst s yi1 yi2 yd1 yd2 yc1 yc2 ym1 ym2 yw1 yw2 ytg yto ylg ycd yfl yst sv ai1 ai2 ap1 ap2 aq1 aq2 ar1 ar2 as1 as2 atg alg acd afl ast ei1 ei2 ep1 ep2 eq1 eq2 er1 er2 es1 es2 etg elg ecd efl est th hd hc _ _ (namesV (xw1 == 0 && xw2 == 0) (xw1 == 18446744073709551615 && xw2 == 18446744073709551615) (xw1 == xi1 && xw2 == xi2) (xto != 0)) (fitsV th (bits .and .u16 yfl 2 == 0) (xd1 == 0 && xd2 == 0) (xd1 == yd1 && xd2 == yd2) (xc1 == 0 && xc2 == 0) (xc1 == yc1 && xc2 == yc2) (xlg == 0) (xlg == ylg) (xcd == 0) (xcd == ycd) (bits .and .u16 xfl 4 == 0) (xm1 == 18446744073709551615 && xm2 == 18446744073709551615) (decide (0 < cmpV xm1 xm2 ym1 ym2)) (bits .and .u16 xfl 8 == 0) (xm1 == 0 && xm2 == 0) (xm1 == ym1 && xm2 == ym2)) (openV (sv == 2) (sv == 3) (sv == 4) (!((yto == 0) || decide (18446744073709551615 - yst < yto)) && decide (yst + yto ≤ s))) (closedV (bits .and .u16 xfl 4 == 0) (bits .and .u16 afl 16 != 0) (bits .and .u16 efl 16 != 0)) (fun w => names_any xi1 xi2 xd1 xd2 xc1 xc2 xm1 xm2 xw1 xw2 xtg xto xlg xcd xfl xst _ _ _ _ rfl rfl rfl rfl w) (fun w => fits_any xi1 xi2 xd1 xd2 xc1 xc2 xm1 xm2 xw1 xw2 xtg xto xlg xcd xfl xst yi1 yi2 yd1 yd2 yc1 yc2 ym1 ym2 yw1 yw2 ytg yto ylg ycd yfl yst sv th _ _ _ _ _ _ _ _ _ _ _ _ _ _ _ rfl rfl rfl rfl rfl rfl rfl rfl rfl rfl rfl rfl rfl rfl rfl w) (fun w => open_any yi1 yi2 yd1 yd2 yc1 yc2 ym1 ym2 yw1 yw2 ytg yto ylg ycd yfl yst sv s th hto hst _ _ _ _ _ _ rfl rfl rfl rfl rfl rfl w) (fun w => closed_any xi1 xi2 xd1 xd2 xc1 xc2 xm1 xm2 xw1 xw2 xtg xto xlg xcd xfl xst ai1 ai2 ap1 ap2 aq1 aq2 ar1 ar2 as1 as2 atg alg acd afl ast ei1 ei2 ep1 ep2 eq1 eq2 er1 er2 es1 es2 etg elg ecd efl est hd hc _ _ _ rfl rfl rfl w) rfl rfl w) (fun w => check_of xi1 xi2 xd1 xd2 xc1 xc2 xm1 xm2 xw1 xw2 xtg xto xlg xcd xfl xst e yi1 yi2 yd1 yd2 yc1 yc2 ym1 ym2 yw1 yw2 ytg yto ylg ycd yfl yst sv ai1 ai2 ap1 ap2 aq1 aq2 ar1 ar2 as1 as2 atg alg acd afl ast ei1 ei2 ep1 ep2 eq1 eq2 er1 er2 es1 es2 etg elg ecd efl est th hd hc _ _ (namesV (xw1 == 0 && xw2 == 0) (xw1 == 18446744073709551615 && xw2 == 18446744073709551615) (xw1 == xi1 && xw2 == xi2) (xto != 0)) (fitsV th (bits .and .u16 yfl 2 == 0) (xd1 == 0 && xd2 == 0) (xd1 == yd1 && xd2 == yd2) (xc1 == 0 && xc2 == 0) (xc1 == yc1 && xc2 == yc2) (xlg == 0) (xlg == ylg) (xcd == 0) (xcd == ycd) (bits .and .u16 xfl 4 == 0) (xm1 == 18446744073709551615 && xm2 == 18446744073709551615) (decide (0 < cmpV xm1 xm2 ym1 ym2)) (bits .and .u16 xfl 8 == 0) (xm1 == 0 && xm2 == 0) (xm1 == ym1 && xm2 == ym2)) (openV (sv == 2) (sv == 3) (sv == 4) (!((yto == 0) || decide (18446744073709551615 - yst < yto)) && decide (yst + yto ≤ e))) (closedV (bits .and .u16 xfl 4 == 0) (bits .and .u16 afl 16 != 0) (bits .and .u16 efl 16 != 0)) (fun w => names_any xi1 xi2 xd1 xd2 xc1 xc2 xm1 xm2 xw1 xw2 xtg xto xlg xcd xfl xst _ _ _ _ rfl rfl rfl rfl w) (fun w => fits_any xi1 xi2 xd1 xd2 xc1 xc2 xm1 xm2 xw1 xw2 xtg xto xlg xcd xfl xst yi1 yi2 yd1 yd2 yc1 yc2 ym1 ym2 yw1 yw2 ytg yto ylg ycd yfl yst sv th _ _ _ _ _ _ _ _ _ _ _ _ _ _ _ rfl rfl rfl rfl rfl rfl rfl rfl rfl rfl rfl rfl rfl rfl rfl w) (fun w => open_any yi1 yi2 yd1 yd2 yc1 yc2 ym1 ym2 yw1 yw2 ytg yto ylg ycd yfl yst sv e th hto hst _ _ _ _ _ _ rfl rfl rfl rfl rfl rfl w) (fun w => closed_any xi1 xi2 xd1 xd2 xc1 xc2 xm1 xm2 xw1 xw2 xtg xto xlg xcd xfl xst ai1 ai2 ap1 ap2 aq1 aq2 ar1 ar2 as1 as2 atg alg acd afl ast ei1 ei2 ep1 ep2 eq1 eq2 er1 er2 es1 es2 etg elg ecd efl est hd hc _ _ _ rfl rfl rfl w) rfl rfl w) (fun w => check_of xi1 xi2 xd1 xd2 xc1 xc2 xm1 xm2 xw1 xw2 xtg xto xlg xcd xfl xst _ yi1 yi2 yd1 yd2 yc1 yc2 ym1 ym2 yw1 yw2 ytg yto ylg ycd yfl yst sv ai1 ai2 ap1 ap2 aq1 aq2 ar1 ar2 as1 as2 atg alg acd afl ast ei1 ei2 ep1 ep2 eq1 eq2 er1 er2 es1 es2 etg elg ecd efl est th hd hc _ _ (namesV (xw1 == 0 && xw2 == 0) (xw1 == 18446744073709551615 && xw2 == 18446744073709551615) (xw1 == xi1 && xw2 == xi2) (xto != 0)) (fitsV th (bits .and .u16 yfl 2 == 0) (xd1 == 0 && xd2 == 0) (xd1 == yd1 && xd2 == yd2) (xc1 == 0 && xc2 == 0) (xc1 == yc1 && xc2 == yc2) (xlg == 0) (xlg == ylg) (xcd == 0) (xcd == ycd) (bits .and .u16 xfl 4 == 0) (xm1 == 18446744073709551615 && xm2 == 18446744073709551615) (decide (0 < cmpV xm1 xm2 ym1 ym2)) (bits .and .u16 xfl 8 == 0) (xm1 == 0 && xm2 == 0) (xm1 == ym1 && xm2 == ym2)) (openV (sv == 2) (sv == 3) (sv == 4) (!((yto == 0) || decide (18446744073709551615 - yst < yto)) && decide (yst + yto ≤ _))) (closedV (bits .and .u16 xfl 4 == 0) (bits .and .u16 afl 16 != 0) (bits .and .u16 efl 16 != 0)) (fun w => names_any xi1 xi2 xd1 xd2 xc1 xc2 xm1 xm2 xw1 xw2 xtg xto xlg xcd xfl xst _ _ _ _ rfl rfl rfl rfl w) (fun w => fits_any xi1 xi2 xd1 xd2 xc1 xc2 xm1 xm2 xw1 xw2 xtg xto xlg xcd xfl xst yi1 yi2 yd1 yd2 yc1 yc2 ym1 ym2 yw1 yw2 ytg yto ylg ycd yfl yst sv th _ _ _ _ _ _ _ _ _ _ _ _ _ _ _ rfl rfl rfl rfl rfl rfl rfl rfl rfl rfl rfl rfl rfl rfl rfl w) (fun w => open_any yi1 yi2 yd1 yd2 yc1 yc2 ym1 ym2 yw1 yw2 ytg yto ylg ycd yfl yst sv _ th hto hst _ _ _ _ _ _ rfl rfl rfl rfl rfl rfl w) (fun w => closed_any xi1 xi2 xd1 xd2 xc1 xc2 xm1 xm2 xw1 xw2 xtg xto xlg xcd xfl xst ai1 ai2 ap1 ap2 aq1 aq2 ar1 ar2 as1 as2 atg alg acd afl ast ei1 ei2 ep1 ep2 eq1 eq2 er1 er2 es1 es2 etg elg ecd efl est hd hc _ _ _ rfl rfl rfl w) rfl rfl w) ?_ ?_ ?_ w
  · exact times_F4 _ _ _ _ _ _ _ _ _ _
  · intro h
    rw [h]
    simp
  · intro h
    rw [h]
    have h2 : ((yto == 0) || decide (18446744073709551615 - yst < yto)) = false := by
      cases hx : ((yto == 0) || decide (18446744073709551615 - yst < yto))
      · rfl
      · rw [hx] at h; cases h
    rw [h2]
    have h0 : ¬ yto = 0 := by
      intro h3
      rw [h3] at h2
      simp at h2
    refine ⟨?_, ?_, times_F9 _ _ _ _ _ _ _ _ _⟩
    · simp; omega
    · have := chk_true (namesV (xw1 == 0 && xw2 == 0) (xw1 == 18446744073709551615 && xw2 == 18446744073709551615) (xw1 == xi1 && xw2 == xi2) (xto != 0)) (fitsV th (bits .and .u16 yfl 2 == 0) (xd1 == 0 && xd2 == 0) (xd1 == yd1 && xd2 == yd2) (xc1 == 0 && xc2 == 0) (xc1 == yc1 && xc2 == yc2) (xlg == 0) (xlg == ylg) (xcd == 0) (xcd == ycd) (bits .and .u16 xfl 4 == 0) (xm1 == 18446744073709551615 && xm2 == 18446744073709551615) (decide (0 < cmpV xm1 xm2 ym1 ym2)) (bits .and .u16 xfl 8 == 0) (xm1 == 0 && xm2 == 0) (xm1 == ym1 && xm2 == ym2)) (closedV (bits .and .u16 xfl 4 == 0) (bits .and .u16 afl 16 != 0) (bits .and .u16 efl 16 != 0)) (sv == 2) (sv == 3) (sv == 4)
      simpa using this
end Go.Proofs.Ytogipdmhfmjecaa
