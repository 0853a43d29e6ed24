/-
  PostingFirst, for every input.
-/
import Derived.Test.YtpbnakoimlmhnaaPq6
import Derived.Test.YtpbnakoimlmhnaaPq3
import Derived.Test.YtpbnakoimlmhnaaPq4
import Derived.Test.YtpbnakoimlmhnaaPq5
import Derived.Test.YtpbnakoimlmhnaaPf1
import Derived.Test.YtpbnakoimlmhnaaPf2
import Derived.Test.YtpbnakoimlmhnaaPf3
import Derived.Test.YtpbnakoimlmhnaaBs1
import Derived.Test.YtpbnakoimlmhnaaPg1
namespace Go.Proofs.Ytpbnakoimlmhnaa
set_option linter.unusedVariables false
set_option linter.unusedSimpArgs false
open Go.RowKit

theorem refagain_any (xi1 xi2 xd1 xd2 xc1 xc2 xm1 xm2 xw1 xw2 xtg xto xlg xcd xfl xst yi1 yi2 yd1 yd2 yc1 yc2 ym1 ym2 yw1 yw2 ytg yto ylg ycd yfl yst a1 a2 : Int) (hxfl : 0 ≤ xfl ∧ xfl < 65536) (w : World) : Calls Try.prog 34 #[.agg #[.int .u64 xi1, .int .u64 xi2, .int .u64 xd1, .int .u64 xd2, .int .u64 xc1, .int .u64 xc2, .int .u64 xm1, .int .u64 xm2, .int .u64 xw1, .int .u64 xw2, .int .u64 xtg, .int .u32 xto, .int .u32 xlg, .int .u16 xcd, .int .u16 xfl, .int .u64 xst], .agg #[.int .u64 yi1, .int .u64 yi2, .int .u64 yd1, .int .u64 yd2, .int .u64 yc1, .int .u64 yc2, .int .u64 ym1, .int .u64 ym2, .int .u64 yw1, .int .u64 yw2, .int .u64 ytg, .int .u32 yto, .int .u32 ylg, .int .u16 ycd, .int .u16 yfl, .int .u64 yst, .int .u64 a1, .int .u64 a2]] w fun r w' => r = .returned (.int .i64 (againV (xfl != yfl) (xw1 == yw1 && xw2 == yw2) (xto != yto) ((eiV (bits .and .u16 xfl 12 != 0) (xd1 == 0 && xd2 == 0) xd1 yd1) == yd1 && (eiV (bits .and .u16 xfl 12 != 0) (xd1 == 0 && xd2 == 0) xd2 yd2) == yd2) ((eiV (bits .and .u16 xfl 12 != 0) (xc1 == 0 && xc2 == 0) xc1 yc1) == yc1 && (eiV (bits .and .u16 xfl 12 != 0) (xc1 == 0 && xc2 == 0) xc2 yc2) == yc2) (xm1 == a1 && xm2 == a2) (xtg != ytg) ((eiV (bits .and .u16 xfl 12 != 0) (xlg == 0) xlg ylg) != ylg) ((eiV (bits .and .u16 xfl 12 != 0) (xcd == 0) xcd ycd) != ycd))) ∧ Below w.heap.size w w' := by
  have HS := fun w => settles_of xi1 xi2 xd1 xd2 xc1 xc2 xm1 xm2 xw1 xw2 xtg xto xlg xcd xfl xst _ _ (fun w => bit_any xfl 4 hxfl (by omega) w) (fun w => bit_any xfl 8 hxfl (by omega) w) w
  rw [← (fl_12 hxfl).2.1] at HS
  generalize (bits .and .u16 xfl 12 != 0) = f at HS ⊢
  cases f
  case false =>
    have e : ∀ z a c, eiV false z a c = a := fun _ _ _ => rfl
    simp only [e]
    exact refagain_no xi1 xi2 xd1 xd2 xc1 xc2 xm1 xm2 xw1 xw2 xtg xto xlg xcd xfl xst yi1 yi2 yd1 yd2 yc1 yc2 ym1 ym2 yw1 yw2 ytg yto ylg ycd yfl yst a1 a2 _ _ _ _ _ _ _ _ _ rfl rfl rfl rfl rfl rfl rfl rfl rfl HS w
  case true =>
    exact refagain_yes xi1 xi2 xd1 xd2 xc1 xc2 xm1 xm2 xw1 xw2 xtg xto xlg xcd xfl xst yi1 yi2 yd1 yd2 yc1 yc2 ym1 ym2 yw1 yw2 ytg yto ylg ycd yfl yst a1 a2 _ _ _ _ _ _ _ _ _ _ _ _ _ _ _ _ _ _ _ rfl rfl rfl rfl rfl rfl rfl rfl rfl rfl rfl rfl rfl rfl rfl rfl rfl rfl rfl HS w
theorem firstV_w (a b c d : Bool) : IntKind.i64.wrap (firstV a b c d) = firstV a b c d := by cases a <;> cases b <;> cases c <;> cases d <;> rfl
theorem flagsV_w (a b c : Bool) : IntKind.i64.wrap (flagsV a b c) = flagsV a b c := by cases a <;> cases b <;> cases c <;> rfl
theorem reffirst_any (xi1 xi2 xd1 xd2 xc1 xc2 xm1 xm2 xw1 xw2 xtg xto xlg xcd xfl xst : Int) (hxst : 0 ≤ xst) (w : World) : Calls Try.prog 33 #[.agg #[.int .u64 xi1, .int .u64 xi2, .int .u64 xd1, .int .u64 xd2, .int .u64 xc1, .int .u64 xc2, .int .u64 xm1, .int .u64 xm2, .int .u64 xw1, .int .u64 xw2, .int .u64 xtg, .int .u32 xto, .int .u32 xlg, .int .u16 xcd, .int .u16 xfl, .int .u64 xst]] w fun r w' => r = .returned (.int .i64 (firstV (xst != 0) (decide (255 < xfl)) (xi1 == 0 && xi2 == 0) (xi1 == 18446744073709551615 && xi2 == 18446744073709551615))) ∧ Below w.heap.size w w' := by
  have e1 : decide (0 < xst) = (xst != 0) := by rw [Bool.eq_iff_iff]; simp; omega
  have e2 : decide (256 ≤ xfl) = decide (255 < xfl) := by rw [Bool.eq_iff_iff]; simp; omega
  exact reffirst_of xi1 xi2 xd1 xd2 xc1 xc2 xm1 xm2 xw1 xw2 xtg xto xlg xcd xfl xst _ _ _ _ _ e1 e2 rfl rfl rfl w
theorem refflags_any (xi1 xi2 xd1 xd2 xc1 xc2 xm1 xm2 xw1 xw2 xtg xto xlg xcd xfl xst : Int) (hxfl : 0 ≤ xfl ∧ xfl < 65536) (w : World) : Calls Try.prog 35 #[.agg #[.int .u64 xi1, .int .u64 xi2, .int .u64 xd1, .int .u64 xd2, .int .u64 xc1, .int .u64 xc2, .int .u64 xm1, .int .u64 xm2, .int .u64 xw1, .int .u64 xw2, .int .u64 xtg, .int .u32 xto, .int .u32 xlg, .int .u16 xcd, .int .u16 xfl, .int .u64 xst]] w fun r w' => r = .returned (.int .i64 (flagsV (bits .and .u16 xfl 12 == 12) (bits .and .u16 xfl 12 != 0) (bits .and .u16 xfl 242 != 0))) ∧ Below w.heap.size w w' := by
  rw [(fl_12 hxfl).1, (fl_12 hxfl).2.1, (fl_12 hxfl).2.2]
  exact refflags_of xi1 xi2 xd1 xd2 xc1 xc2 xm1 xm2 xw1 xw2 xtg xto xlg xcd xfl xst _ _ _ _ _ _ _ (fun w => bit_any xfl 4 hxfl (by omega) w) (fun w => bit_any xfl 8 hxfl (by omega) w) (fun w => bit_any xfl 2 hxfl (by omega) w) (fun w => bit_any xfl 16 hxfl (by omega) w) (fun w => bit_any xfl 32 hxfl (by omega) w) (fun w => bit_any xfl 64 hxfl (by omega) w) (fun w => bit_any xfl 128 hxfl (by omega) w) w
theorem postingFirst_any (xi1 xi2 xd1 xd2 xc1 xc2 xm1 xm2 xw1 xw2 xtg xto xlg xcd xfl xst yi1 yi2 yd1 yd2 yc1 yc2 ym1 ym2 yw1 yw2 ytg yto ylg ycd yfl yst a1 a2 : Int) (hxfl : 0 ≤ xfl ∧ xfl < 65536) (hxst : 0 ≤ xst) (w : World) : Calls Try.prog 12 #[.agg #[.int .u64 xi1, .int .u64 xi2, .int .u64 xd1, .int .u64 xd2, .int .u64 xc1, .int .u64 xc2, .int .u64 xm1, .int .u64 xm2, .int .u64 xw1, .int .u64 xw2, .int .u64 xtg, .int .u32 xto, .int .u32 xlg, .int .u16 xcd, .int .u16 xfl, .int .u64 xst], .agg #[.int .u64 yi1, .int .u64 yi2, .int .u64 yd1, .int .u64 yd2, .int .u64 yc1, .int .u64 yc2, .int .u64 ym1, .int .u64 ym2, .int .u64 yw1, .int .u64 yw2, .int .u64 ytg, .int .u32 yto, .int .u32 ylg, .int .u16 ycd, .int .u16 yfl, .int .u64 yst, .int .u64 a1, .int .u64 a2]] w fun r w' => r = .returned (.bool true) ∧ Below w.heap.size w w' :=
  first19_of xi1 xi2 xd1 xd2 xc1 xc2 xm1 xm2 xw1 xw2 xtg xto xlg xcd xfl xst yi1 yi2 yd1 yd2 yc1 yc2 ym1 ym2 yw1 yw2 ytg yto ylg ycd yfl yst a1 a2 _ _ _ (firstV_w _ _ _ _) (againV_w _ _ _ _ _ _ _ _ _) (flagsV_w _ _ _) fixed19_any (fun w => first_of xi1 xi2 xd1 xd2 xc1 xc2 xm1 xm2 xw1 xw2 xtg xto xlg xcd xfl xst _ _ _ _ rfl rfl rfl rfl w) (fun w => reffirst_any xi1 xi2 xd1 xd2 xc1 xc2 xm1 xm2 xw1 xw2 xtg xto xlg xcd xfl xst hxst w) (fun w => again_any xi1 xi2 xd1 xd2 xc1 xc2 xm1 xm2 xw1 xw2 xtg xto xlg xcd xfl xst yi1 yi2 yd1 yd2 yc1 yc2 ym1 ym2 yw1 yw2 ytg yto ylg ycd yfl yst a1 a2 w) (fun w => refagain_any xi1 xi2 xd1 xd2 xc1 xc2 xm1 xm2 xw1 xw2 xtg xto xlg xcd xfl xst yi1 yi2 yd1 yd2 yc1 yc2 ym1 ym2 yw1 yw2 ytg yto ylg ycd yfl yst a1 a2 hxfl w) (fun w => flags_of xi1 xi2 xd1 xd2 xc1 xc2 xm1 xm2 xw1 xw2 xtg xto xlg xcd xfl xst _ _ _ rfl rfl rfl w) (fun w => refflags_any xi1 xi2 xd1 xd2 xc1 xc2 xm1 xm2 xw1 xw2 xtg xto xlg xcd xfl xst hxfl w) w
end Go.Proofs.Ytpbnakoimlmhnaa
