/-
  phase.Check, joined.
-/
import Derived.Test.YtpbnakoimlmhnaaSd
namespace Go.Proofs.Ytpbnakoimlmhnaa
set_option linter.unusedVariables false
set_option linter.unusedSimpArgs false
open Go.RowKit

set_option maxRecDepth 8000 in
theorem check20_any (xi1 xi2 xd1 xd2 xc1 xc2 xm1 xm2 xw1 xw2 xtg xto xlg xcd xfl xst ss yi1 yi2 yd1 yd2 yc1 yc2 ym1 ym2 yw1 yw2 ytg yto ylg ycd yfl yst sv ai1 ai2 ap1 ap2 aq1 aq2 ar1 ar2 as1 as2 atg alg acd afl ast ei1 ei2 ep1 ep2 eq1 eq2 er1 er2 es1 es2 etg elg ecd efl est : Int) (th hd hc : Bool) (hto : 0 ≤ yto ∧ yto < 4294967296) (hst : 0 ≤ yst ∧ yst < 18446744073709551616) (w : World) : Calls Try.prog 36 #[.agg #[.int .u64 xi1, .int .u64 xi2, .int .u64 xd1, .int .u64 xd2, .int .u64 xc1, .int .u64 xc2, .int .u64 xm1, .int .u64 xm2, .int .u64 xw1, .int .u64 xw2, .int .u64 xtg, .int .u32 xto, .int .u32 xlg, .int .u16 xcd, .int .u16 xfl, .int .u64 xst], .int .u64 ss, .agg #[.int .u64 yi1, .int .u64 yi2, .int .u64 yd1, .int .u64 yd2, .int .u64 yc1, .int .u64 yc2, .int .u64 ym1, .int .u64 ym2, .int .u64 yw1, .int .u64 yw2, .int .u64 ytg, .int .u32 yto, .int .u32 ylg, .int .u16 ycd, .int .u16 yfl, .int .u64 yst, .bool th, .int .u8 sv], .agg #[.int .u64 ai1, .int .u64 ai2, .int .u64 ap1, .int .u64 ap2, .int .u64 aq1, .int .u64 aq2, .int .u64 ar1, .int .u64 ar2, .int .u64 as1, .int .u64 as2, .int .u64 atg, .int .u32 alg, .int .u16 acd, .int .u16 afl, .int .u64 ast, .int .u64 ei1, .int .u64 ei2, .int .u64 ep1, .int .u64 ep2, .int .u64 eq1, .int .u64 eq2, .int .u64 er1, .int .u64 er2, .int .u64 es1, .int .u64 es2, .int .u64 etg, .int .u32 elg, .int .u16 ecd, .int .u16 efl, .int .u64 est, .bool hd, .bool hc]] w fun r w' => r = .returned (.tuple #[.int .u32 (chk20 (namesV (xw1 == 0 && xw2 == 0) (xw1 == 18446744073709551615 && xw2 == 18446744073709551615) (xw1 == xi1 && xw2 == xi2) (xto != 0)) (fitsV th (bits .and .u16 yfl 2 == 0) (xd1 == 0 && xd2 == 0) (xd1 == yd1 && xd2 == yd2) (xc1 == 0 && xc2 == 0) (xc1 == yc1 && xc2 == yc2) (xlg == 0) (xlg == ylg) (xcd == 0) (xcd == ycd) (bits .and .u16 xfl 4 == 0) (xm1 == 18446744073709551615 && xm2 == 18446744073709551615) (decide (0 < cmpV xm1 xm2 ym1 ym2)) (bits .and .u16 xfl 8 == 0) (xm1 == 0 && xm2 == 0) (xm1 == ym1 && xm2 == ym2)) (openV (sv == 2) (sv == 3) (sv == 4) (!((yto == 0) || decide (18446744073709551615 - yst < yto)) && decide (yst + yto ≤ ss))) (closedV (bits .and .u16 xfl 4 == 0) (bits .and .u16 afl 16 != 0) (bits .and .u16 efl 16 != 0))), .agg #[.int .u64 (amt20 (chk20 (namesV (xw1 == 0 && xw2 == 0) (xw1 == 18446744073709551615 && xw2 == 18446744073709551615) (xw1 == xi1 && xw2 == xi2) (xto != 0)) (fitsV th (bits .and .u16 yfl 2 == 0) (xd1 == 0 && xd2 == 0) (xd1 == yd1 && xd2 == yd2) (xc1 == 0 && xc2 == 0) (xc1 == yc1 && xc2 == yc2) (xlg == 0) (xlg == ylg) (xcd == 0) (xcd == ycd) (bits .and .u16 xfl 4 == 0) (xm1 == 18446744073709551615 && xm2 == 18446744073709551615) (decide (0 < cmpV xm1 xm2 ym1 ym2)) (bits .and .u16 xfl 8 == 0) (xm1 == 0 && xm2 == 0) (xm1 == ym1 && xm2 == ym2)) (openV (sv == 2) (sv == 3) (sv == 4) (!((yto == 0) || decide (18446744073709551615 - yst < yto)) && decide (yst + yto ≤ ss))) (closedV (bits .and .u16 xfl 4 == 0) (bits .and .u16 afl 16 != 0) (bits .and .u16 efl 16 != 0))) (bits .and .u16 xfl 4 == 0) (xm1 == 18446744073709551615 && xm2 == 18446744073709551615) xm1 ym1), .int .u64 (amt20 (chk20 (namesV (xw1 == 0 && xw2 == 0) (xw1 == 18446744073709551615 && xw2 == 18446744073709551615) (xw1 == xi1 && xw2 == xi2) (xto != 0)) (fitsV th (bits .and .u16 yfl 2 == 0) (xd1 == 0 && xd2 == 0) (xd1 == yd1 && xd2 == yd2) (xc1 == 0 && xc2 == 0) (xc1 == yc1 && xc2 == yc2) (xlg == 0) (xlg == ylg) (xcd == 0) (xcd == ycd) (bits .and .u16 xfl 4 == 0) (xm1 == 18446744073709551615 && xm2 == 18446744073709551615) (decide (0 < cmpV xm1 xm2 ym1 ym2)) (bits .and .u16 xfl 8 == 0) (xm1 == 0 && xm2 == 0) (xm1 == ym1 && xm2 == ym2)) (openV (sv == 2) (sv == 3) (sv == 4) (!((yto == 0) || decide (18446744073709551615 - yst < yto)) && decide (yst + yto ≤ ss))) (closedV (bits .and .u16 xfl 4 == 0) (bits .and .u16 afl 16 != 0) (bits .and .u16 efl 16 != 0))) (bits .and .u16 xfl 4 == 0) (xm1 == 18446744073709551615 && xm2 == 18446744073709551615) xm2 ym2)]]) ∧ Below w.heap.size w w' :=
  check_of xi1 xi2 xd1 xd2 xc1 xc2 xm1 xm2 xw1 xw2 xtg xto xlg xcd xfl xst ss yi1 yi2 yd1 yd2 yc1 yc2 ym1 ym2 yw1 yw2 ytg yto ylg ycd yfl yst sv ai1 ai2 ap1 ap2 aq1 aq2 ar1 ar2 as1 as2 atg alg acd afl ast ei1 ei2 ep1 ep2 eq1 eq2 er1 er2 es1 es2 etg elg ecd efl est th hd hc _ _ (namesV (xw1 == 0 && xw2 == 0) (xw1 == 18446744073709551615 && xw2 == 18446744073709551615) (xw1 == xi1 && xw2 == xi2) (xto != 0)) (fitsV th (bits .and .u16 yfl 2 == 0) (xd1 == 0 && xd2 == 0) (xd1 == yd1 && xd2 == yd2) (xc1 == 0 && xc2 == 0) (xc1 == yc1 && xc2 == yc2) (xlg == 0) (xlg == ylg) (xcd == 0) (xcd == ycd) (bits .and .u16 xfl 4 == 0) (xm1 == 18446744073709551615 && xm2 == 18446744073709551615) (decide (0 < cmpV xm1 xm2 ym1 ym2)) (bits .and .u16 xfl 8 == 0) (xm1 == 0 && xm2 == 0) (xm1 == ym1 && xm2 == ym2)) (openV (sv == 2) (sv == 3) (sv == 4) (!((yto == 0) || decide (18446744073709551615 - yst < yto)) && decide (yst + yto ≤ ss))) (closedV (bits .and .u16 xfl 4 == 0) (bits .and .u16 afl 16 != 0) (bits .and .u16 efl 16 != 0)) (fun w => names_any xi1 xi2 xd1 xd2 xc1 xc2 xm1 xm2 xw1 xw2 xtg xto xlg xcd xfl xst _ _ _ _ rfl rfl rfl rfl w) (fun w => fits_any xi1 xi2 xd1 xd2 xc1 xc2 xm1 xm2 xw1 xw2 xtg xto xlg xcd xfl xst yi1 yi2 yd1 yd2 yc1 yc2 ym1 ym2 yw1 yw2 ytg yto ylg ycd yfl yst sv th _ _ _ _ _ _ _ _ _ _ _ _ _ _ _ rfl rfl rfl rfl rfl rfl rfl rfl rfl rfl rfl rfl rfl rfl rfl w) (fun w => open_any yi1 yi2 yd1 yd2 yc1 yc2 ym1 ym2 yw1 yw2 ytg yto ylg ycd yfl yst sv ss th hto hst _ _ _ _ _ _ rfl rfl rfl rfl rfl rfl w) (fun w => closed_any xi1 xi2 xd1 xd2 xc1 xc2 xm1 xm2 xw1 xw2 xtg xto xlg xcd xfl xst ai1 ai2 ap1 ap2 aq1 aq2 ar1 ar2 as1 as2 atg alg acd afl ast ei1 ei2 ep1 ep2 eq1 eq2 er1 er2 es1 es2 etg elg ecd efl est hd hc _ _ _ rfl rfl rfl w) rfl rfl w
theorem chk20_0 {a b c d : Int} (h : chk20 a b c d = 0) : a = 0 ∧ b = 0 ∧ c = 0 ∧ d = 0 := by
  unfold chk20 at h
  split at h
  · omega
  · split at h
    · omega
    · split at h
      · omega
      · omega
theorem fits_0 {th b2 p3 q3 p4 q4 p5 q5 p6 q6 n7 r7 q7 s8 m8 e8 : Bool} (h : fitsV th b2 p3 q3 p4 q4 p5 q5 p6 q6 n7 r7 q7 s8 m8 e8 = 0) : th = true ∧ b2 = false ∧ ((n7 || r7) = false → q7 = false) := by
  unfold fitsV at h
  cases th
  case false => simp at h
  case true =>
  cases b2
  case true => simp at h
  case false =>
  refine ⟨rfl, rfl, fun hn => ?_⟩
  cases q7
  · rfl
  · exfalso
    cases n7 <;> cases r7 <;> simp at hn h
    revert h
    (repeat' split) <;> omega
theorem open_0 {c2 c3 c4 l : Bool} (h : openV c2 c3 c4 l = 0) : c2 = false ∧ c3 = false ∧ c4 = false ∧ l = false := by revert h; cases c2 <;> cases c3 <;> cases c4 <;> cases l <;> decide
end Go.Proofs.Ytpbnakoimlmhnaa
