/-
  posting.Again, joined.
-/
import Derived.Test.YtpbnakoimlmhnaaPq1
import Derived.Test.YtpbnakoimlmhnaaPq2
namespace Go.Proofs.Ytpbnakoimlmhnaa
set_option linter.unusedVariables false
set_option linter.unusedSimpArgs false
open Go.RowKit

attribute [local go_sem] bK_is
attribute [local go_sem ↓] load_Kept store_Kept build_Kept
theorem againV_w (b1 s2 b3 s4 s5 s6 b7 b8 b9 : Bool) : IntKind.i64.wrap (againV b1 s2 b3 s4 s5 s6 b7 b8 b9) = againV b1 s2 b3 s4 s5 s6 b7 b8 b9 := by unfold againV; (repeat' split) <;> rfl
theorem again_any (xi1 xi2 xd1 xd2 xc1 xc2 xm1 xm2 xw1 xw2 xtg xto xlg xcd xfl xst yi1 yi2 yd1 yd2 yc1 yc2 ym1 ym2 yw1 yw2 ytg yto ylg ycd yfl yst a1 a2 : Int) (w : World) : Calls Try.prog 31 #[.agg #[.int .u64 xi1, .int .u64 xi2, .int .u64 xd1, .int .u64 xd2, .int .u64 xc1, .int .u64 xc2, .int .u64 xm1, .int .u64 xm2, .int .u64 xw1, .int .u64 xw2, .int .u64 xtg, .int .u32 xto, .int .u32 xlg, .int .u16 xcd, .int .u16 xfl, .int .u64 xst], .agg #[.int .u64 yi1, .int .u64 yi2, .int .u64 yd1, .int .u64 yd2, .int .u64 yc1, .int .u64 yc2, .int .u64 ym1, .int .u64 ym2, .int .u64 yw1, .int .u64 yw2, .int .u64 ytg, .int .u32 yto, .int .u32 ylg, .int .u16 ycd, .int .u16 yfl, .int .u64 yst, .int .u64 a1, .int .u64 a2]] w fun r w' => r = .returned (.int .u32 (againV (xfl != yfl) (xw1 == yw1 && xw2 == yw2) (xto != yto) ((eiV (bits .and .u16 xfl 12 != 0) (xd1 == 0 && xd2 == 0) xd1 yd1) == yd1 && (eiV (bits .and .u16 xfl 12 != 0) (xd1 == 0 && xd2 == 0) xd2 yd2) == yd2) ((eiV (bits .and .u16 xfl 12 != 0) (xc1 == 0 && xc2 == 0) xc1 yc1) == yc1 && (eiV (bits .and .u16 xfl 12 != 0) (xc1 == 0 && xc2 == 0) xc2 yc2) == yc2) (xm1 == a1 && xm2 == a2) (xtg != ytg) ((eiV (bits .and .u16 xfl 12 != 0) (xlg == 0) xlg ylg) != ylg) ((eiV (bits .and .u16 xfl 12 != 0) (xcd == 0) xcd ycd) != ycd))) ∧ Below w.heap.size w w' :=
  again_of xi1 xi2 xd1 xd2 xc1 xc2 xm1 xm2 xw1 xw2 xtg xto xlg xcd xfl xst yi1 yi2 yd1 yd2 yc1 yc2 ym1 ym2 yw1 yw2 ytg yto ylg ycd yfl yst a1 a2 _ _ _ _ _ _ _ _ _ _ _ _ _ _ _ rfl rfl rfl rfl rfl rfl rfl rfl rfl (fun w => eitherW_of xi1 xi2 xd1 xd2 xc1 xc2 xm1 xm2 xw1 xw2 xtg xto xlg xcd xfl xst xd1 xd2 yd1 yd2 _ _ rfl rfl w) (fun w => eitherW_of xi1 xi2 xd1 xd2 xc1 xc2 xm1 xm2 xw1 xw2 xtg xto xlg xcd xfl xst xc1 xc2 yc1 yc2 _ _ rfl rfl w) (fun w => eitherD_of xi1 xi2 xd1 xd2 xc1 xc2 xm1 xm2 xw1 xw2 xtg xto xlg xcd xfl xst xlg ylg _ _ rfl rfl w) (fun w => eitherH_of xi1 xi2 xd1 xd2 xc1 xc2 xm1 xm2 xw1 xw2 xtg xto xlg xcd xfl xst xcd ycd _ _ rfl rfl w) w
end Go.Proofs.Ytpbnakoimlmhnaa
