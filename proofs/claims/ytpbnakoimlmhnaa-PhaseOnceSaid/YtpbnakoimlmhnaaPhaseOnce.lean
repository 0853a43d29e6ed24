/-
  PhaseOnce, for every input: true; the input reads as it did. No condition.
-/
import Derived.Test.YtpbnakoimlmhnaaSh
import Derived.Test.YtpbnakoimlmhnaaLaw
namespace Go.Proofs.Ytpbnakoimlmhnaa
set_option linter.unusedVariables false
set_option linter.unusedSimpArgs false
open Go.ChangeShapes Go.WideShapes Go.ChangeAt Go.RowKit

set_option maxRecDepth 100000 in
theorem phaseOnce_lifted (os : Os) (started : os.Started) (H : Type) (enc : TypeId × Value → H) :
    ReturnsInHanded {} Try.checked os 13 .any (Rows.phaseOnceSpec.pre6 enc Try.prog Try.f13 Rows.phaseOnceRow.domain false) (Rows.phaseOnceSpec.post enc Try.prog Try.f13 false true false false) := by
  refine returnsInHanded_of_change (C := Try.checked) own0 started (by kernel_rfl) Try.func13
    (ChangeSpec.witness6 (enc := enc) (C := Try.checked) false ⟨#[], #[.agg #[.int .u64 0, .int .u64 0, .int .u64 0, .int .u64 0, .int .u64 0, .int .u64 0, .int .u64 0, .int .u64 0, .int .u64 0, .int .u64 0, .int .u64 0, .int .u32 0, .int .u32 0, .int .u16 0, .int .u16 0, .int .u64 0, .int .u64 0, .int .u64 0, .int .u64 0, .int .u64 0, .int .u64 0, .int .u64 0, .int .u64 0, .int .u64 0, .int .u64 0, .int .u64 0, .int .u64 0, .int .u64 0, .int .u32 0, .int .u32 0, .int .u16 0, .int .u16 0, .int .u64 0, .bool false, .int .u8 0, .int .u64 0, .int .u64 0, .int .u64 0, .int .u64 0, .int .u64 0, .int .u64 0, .int .u64 0, .int .u64 0, .int .u64 0, .int .u64 0, .int .u64 0, .int .u32 0, .int .u16 0, .int .u16 0, .int .u64 0, .int .u64 0, .int .u64 0, .int .u64 0, .int .u64 0, .int .u64 0, .int .u64 0, .int .u64 0, .int .u64 0, .int .u64 0, .int .u64 0, .int .u64 0, .int .u32 0, .int .u16 0, .int .u16 0, .int .u64 0, .bool false, .bool false]], []⟩ 8 (by kernel_rfl) (by kernel_rfl) (by kernel_rfl) (by kernel_rfl)) ?_
  intro W base args ds gs before hval0 hW hcnd _
  have hval : ∀ (j : Nat) t v, Try.f13.params[j]? = some t → args[j]? = some v → Value.okWide Try.prog W .any base t v := hval0
  clear hval0
  have hl := whole_length hW
  obtain ⟨c0, rfl⟩ := args1 (hl.trans rfl)
  rw [Try.params13] at hval
  obtain ⟨cs, rfl, hcs, hc⟩ := val_cells (ts := [22, 22, 22, 22, 22, 22, 22, 22, 22, 22, 22, 25, 25, 26, 26, 22, 22, 22, 22, 22, 22, 22, 22, 22, 22, 22, 22, 22, 25, 25, 26, 26, 22, 4, 5, 22, 22, 22, 22, 22, 22, 22, 22, 22, 22, 22, 25, 26, 26, 22, 22, 22, 22, 22, 22, 22, 22, 22, 22, 22, 22, 25, 26, 26, 22, 4, 4]) (by kernel_rfl) (by kernel_rfl) (by kernel_rfl) (hval 0 68 c0 rfl rfl)
  obtain ⟨x0, x1, x2, x3, x4, x5, x6, x7, x8, x9, x10, x11, x12, x13, x14, x15, x16, x17, x18, x19, x20, x21, x22, x23, x24, x25, x26, x27, x28, x29, x30, x31, x32, x33, x34, x35, x36, x37, x38, x39, x40, x41, x42, x43, x44, x45, x46, x47, x48, x49, x50, x51, x52, x53, x54, x55, x56, x57, x58, x59, x60, x61, x62, x63, x64, x65, x66, rfl⟩ := list67 hcs
  obtain ⟨xi1, rfl, h_xi1⟩ := int_ok Try.underlying22 (hc 0 22 x0 rfl rfl)
  replace h_xi1 := has_u64 h_xi1
  obtain ⟨xi2, rfl, h_xi2⟩ := int_ok Try.underlying22 (hc 1 22 x1 rfl rfl)
  replace h_xi2 := has_u64 h_xi2
  obtain ⟨xd1, rfl, h_xd1⟩ := int_ok Try.underlying22 (hc 2 22 x2 rfl rfl)
  replace h_xd1 := has_u64 h_xd1
  obtain ⟨xd2, rfl, h_xd2⟩ := int_ok Try.underlying22 (hc 3 22 x3 rfl rfl)
  replace h_xd2 := has_u64 h_xd2
  obtain ⟨xc1, rfl, h_xc1⟩ := int_ok Try.underlying22 (hc 4 22 x4 rfl rfl)
  replace h_xc1 := has_u64 h_xc1
  obtain ⟨xc2, rfl, h_xc2⟩ := int_ok Try.underlying22 (hc 5 22 x5 rfl rfl)
  replace h_xc2 := has_u64 h_xc2
  obtain ⟨xm1, rfl, h_xm1⟩ := int_ok Try.underlying22 (hc 6 22 x6 rfl rfl)
  replace h_xm1 := has_u64 h_xm1
  obtain ⟨xm2, rfl, h_xm2⟩ := int_ok Try.underlying22 (hc 7 22 x7 rfl rfl)
  replace h_xm2 := has_u64 h_xm2
  obtain ⟨xw1, rfl, h_xw1⟩ := int_ok Try.underlying22 (hc 8 22 x8 rfl rfl)
  replace h_xw1 := has_u64 h_xw1
  obtain ⟨xw2, rfl, h_xw2⟩ := int_ok Try.underlying22 (hc 9 22 x9 rfl rfl)
  replace h_xw2 := has_u64 h_xw2
  obtain ⟨xtg, rfl, h_xtg⟩ := int_ok Try.underlying22 (hc 10 22 x10 rfl rfl)
  replace h_xtg := has_u64 h_xtg
  obtain ⟨xto, rfl, h_xto⟩ := int_ok Try.underlying25 (hc 11 25 x11 rfl rfl)
  replace h_xto := has_u32 h_xto
  obtain ⟨xlg, rfl, h_xlg⟩ := int_ok Try.underlying25 (hc 12 25 x12 rfl rfl)
  replace h_xlg := has_u32 h_xlg
  obtain ⟨xcd, rfl, h_xcd⟩ := int_ok Try.underlying26 (hc 13 26 x13 rfl rfl)
  replace h_xcd := has_u16 h_xcd
  obtain ⟨xfl, rfl, h_xfl⟩ := int_ok Try.underlying26 (hc 14 26 x14 rfl rfl)
  replace h_xfl := has_u16 h_xfl
  obtain ⟨xst, rfl, h_xst⟩ := int_ok Try.underlying22 (hc 15 22 x15 rfl rfl)
  replace h_xst := has_u64 h_xst
  obtain ⟨ss, rfl, h_ss⟩ := int_ok Try.underlying22 (hc 16 22 x16 rfl rfl)
  replace h_ss := has_u64 h_ss
  obtain ⟨yi1, rfl, h_yi1⟩ := int_ok Try.underlying22 (hc 17 22 x17 rfl rfl)
  replace h_yi1 := has_u64 h_yi1
  obtain ⟨yi2, rfl, h_yi2⟩ := int_ok Try.underlying22 (hc 18 22 x18 rfl rfl)
  replace h_yi2 := has_u64 h_yi2
  obtain ⟨yd1, rfl, h_yd1⟩ := int_ok Try.underlying22 (hc 19 22 x19 rfl rfl)
  replace h_yd1 := has_u64 h_yd1
  obtain ⟨yd2, rfl, h_yd2⟩ := int_ok Try.underlying22 (hc 20 22 x20 rfl rfl)
  replace h_yd2 := has_u64 h_yd2
  obtain ⟨yc1, rfl, h_yc1⟩ := int_ok Try.underlying22 (hc 21 22 x21 rfl rfl)
  replace h_yc1 := has_u64 h_yc1
  obtain ⟨yc2, rfl, h_yc2⟩ := int_ok Try.underlying22 (hc 22 22 x22 rfl rfl)
  replace h_yc2 := has_u64 h_yc2
  obtain ⟨ym1, rfl, h_ym1⟩ := int_ok Try.underlying22 (hc 23 22 x23 rfl rfl)
  replace h_ym1 := has_u64 h_ym1
  obtain ⟨ym2, rfl, h_ym2⟩ := int_ok Try.underlying22 (hc 24 22 x24 rfl rfl)
  replace h_ym2 := has_u64 h_ym2
  obtain ⟨yw1, rfl, h_yw1⟩ := int_ok Try.underlying22 (hc 25 22 x25 rfl rfl)
  replace h_yw1 := has_u64 h_yw1
  obtain ⟨yw2, rfl, h_yw2⟩ := int_ok Try.underlying22 (hc 26 22 x26 rfl rfl)
  replace h_yw2 := has_u64 h_yw2
  obtain ⟨ytg, rfl, h_ytg⟩ := int_ok Try.underlying22 (hc 27 22 x27 rfl rfl)
  replace h_ytg := has_u64 h_ytg
  obtain ⟨yto, rfl, h_yto⟩ := int_ok Try.underlying25 (hc 28 25 x28 rfl rfl)
  replace h_yto := has_u32 h_yto
  obtain ⟨ylg, rfl, h_ylg⟩ := int_ok Try.underlying25 (hc 29 25 x29 rfl rfl)
  replace h_ylg := has_u32 h_ylg
  obtain ⟨ycd, rfl, h_ycd⟩ := int_ok Try.underlying26 (hc 30 26 x30 rfl rfl)
  replace h_ycd := has_u16 h_ycd
  obtain ⟨yfl, rfl, h_yfl⟩ := int_ok Try.underlying26 (hc 31 26 x31 rfl rfl)
  replace h_yfl := has_u16 h_yfl
  obtain ⟨yst, rfl, h_yst⟩ := int_ok Try.underlying22 (hc 32 22 x32 rfl rfl)
  replace h_yst := has_u64 h_yst
  obtain ⟨th, rfl⟩ := bool_ok Try.underlying4 (hc 33 4 x33 rfl rfl)
  obtain ⟨sv, rfl, h_sv⟩ := int_ok Try.underlying5 (hc 34 5 x34 rfl rfl)
  replace h_sv := has_u8 h_sv
  obtain ⟨ai1, rfl, h_ai1⟩ := int_ok Try.underlying22 (hc 35 22 x35 rfl rfl)
  replace h_ai1 := has_u64 h_ai1
  obtain ⟨ai2, rfl, h_ai2⟩ := int_ok Try.underlying22 (hc 36 22 x36 rfl rfl)
  replace h_ai2 := has_u64 h_ai2
  obtain ⟨ap1, rfl, h_ap1⟩ := int_ok Try.underlying22 (hc 37 22 x37 rfl rfl)
  replace h_ap1 := has_u64 h_ap1
  obtain ⟨ap2, rfl, h_ap2⟩ := int_ok Try.underlying22 (hc 38 22 x38 rfl rfl)
  replace h_ap2 := has_u64 h_ap2
  obtain ⟨aq1, rfl, h_aq1⟩ := int_ok Try.underlying22 (hc 39 22 x39 rfl rfl)
  replace h_aq1 := has_u64 h_aq1
  obtain ⟨aq2, rfl, h_aq2⟩ := int_ok Try.underlying22 (hc 40 22 x40 rfl rfl)
  replace h_aq2 := has_u64 h_aq2
  obtain ⟨ar1, rfl, h_ar1⟩ := int_ok Try.underlying22 (hc 41 22 x41 rfl rfl)
  replace h_ar1 := has_u64 h_ar1
  obtain ⟨ar2, rfl, h_ar2⟩ := int_ok Try.underlying22 (hc 42 22 x42 rfl rfl)
  replace h_ar2 := has_u64 h_ar2
  obtain ⟨as1, rfl, h_as1⟩ := int_ok Try.underlying22 (hc 43 22 x43 rfl rfl)
  replace h_as1 := has_u64 h_as1
  obtain ⟨as2, rfl, h_as2⟩ := int_ok Try.underlying22 (hc 44 22 x44 rfl rfl)
  replace h_as2 := has_u64 h_as2
  obtain ⟨atg, rfl, h_atg⟩ := int_ok Try.underlying22 (hc 45 22 x45 rfl rfl)
  replace h_atg := has_u64 h_atg
  obtain ⟨alg, rfl, h_alg⟩ := int_ok Try.underlying25 (hc 46 25 x46 rfl rfl)
  replace h_alg := has_u32 h_alg
  obtain ⟨acd, rfl, h_acd⟩ := int_ok Try.underlying26 (hc 47 26 x47 rfl rfl)
  replace h_acd := has_u16 h_acd
  obtain ⟨afl, rfl, h_afl⟩ := int_ok Try.underlying26 (hc 48 26 x48 rfl rfl)
  replace h_afl := has_u16 h_afl
  obtain ⟨ast, rfl, h_ast⟩ := int_ok Try.underlying22 (hc 49 22 x49 rfl rfl)
  replace h_ast := has_u64 h_ast
  obtain ⟨ei1, rfl, h_ei1⟩ := int_ok Try.underlying22 (hc 50 22 x50 rfl rfl)
  replace h_ei1 := has_u64 h_ei1
  obtain ⟨ei2, rfl, h_ei2⟩ := int_ok Try.underlying22 (hc 51 22 x51 rfl rfl)
  replace h_ei2 := has_u64 h_ei2
  obtain ⟨ep1, rfl, h_ep1⟩ := int_ok Try.underlying22 (hc 52 22 x52 rfl rfl)
  replace h_ep1 := has_u64 h_ep1
  obtain ⟨ep2, rfl, h_ep2⟩ := int_ok Try.underlying22 (hc 53 22 x53 rfl rfl)
  replace h_ep2 := has_u64 h_ep2
  obtain ⟨eq1, rfl, h_eq1⟩ := int_ok Try.underlying22 (hc 54 22 x54 rfl rfl)
  replace h_eq1 := has_u64 h_eq1
  obtain ⟨eq2, rfl, h_eq2⟩ := int_ok Try.underlying22 (hc 55 22 x55 rfl rfl)
  replace h_eq2 := has_u64 h_eq2
  obtain ⟨er1, rfl, h_er1⟩ := int_ok Try.underlying22 (hc 56 22 x56 rfl rfl)
  replace h_er1 := has_u64 h_er1
  obtain ⟨er2, rfl, h_er2⟩ := int_ok Try.underlying22 (hc 57 22 x57 rfl rfl)
  replace h_er2 := has_u64 h_er2
  obtain ⟨es1, rfl, h_es1⟩ := int_ok Try.underlying22 (hc 58 22 x58 rfl rfl)
  replace h_es1 := has_u64 h_es1
  obtain ⟨es2, rfl, h_es2⟩ := int_ok Try.underlying22 (hc 59 22 x59 rfl rfl)
  replace h_es2 := has_u64 h_es2
  obtain ⟨etg, rfl, h_etg⟩ := int_ok Try.underlying22 (hc 60 22 x60 rfl rfl)
  replace h_etg := has_u64 h_etg
  obtain ⟨elg, rfl, h_elg⟩ := int_ok Try.underlying25 (hc 61 25 x61 rfl rfl)
  replace h_elg := has_u32 h_elg
  obtain ⟨ecd, rfl, h_ecd⟩ := int_ok Try.underlying26 (hc 62 26 x62 rfl rfl)
  replace h_ecd := has_u16 h_ecd
  obtain ⟨efl, rfl, h_efl⟩ := int_ok Try.underlying26 (hc 63 26 x63 rfl rfl)
  replace h_efl := has_u16 h_efl
  obtain ⟨est, rfl, h_est⟩ := int_ok Try.underlying22 (hc 64 22 x64 rfl rfl)
  replace h_est := has_u64 h_est
  obtain ⟨hd, rfl⟩ := bool_ok Try.underlying4 (hc 65 4 x65 rfl rfl)
  obtain ⟨hc, rfl⟩ := bool_ok Try.underlying4 (hc 66 4 x66 rfl rfl)
  clear hc hcs
  refine (phaseOnce_any xi1 xi2 xd1 xd2 xc1 xc2 xm1 xm2 xw1 xw2 xtg xto xlg xcd xfl xst ss yi1 yi2 yd1 yd2 yc1 yc2 ym1 ym2 yw1 yw2 ytg yto ylg ycd yfl yst sv ai1 ai2 ap1 ap2 aq1 aq2 ar1 ar2 as1 as2 atg alg acd afl ast ei1 ei2 ep1 ep2 eq1 eq2 er1 er2 es1 es2 etg elg ecd efl est th hd hc h_yto h_yst h_xm1 h_xm2 h_ym1 h_ym2 h_ap1 h_ap2 h_aq1 h_aq2 h_ar1 h_ar2 h_as1 h_as2 h_ep1 h_ep2 h_eq1 h_eq2 h_er1 h_er2 h_es1 h_es2 W).mono fun e W' ⟨he, hb⟩ => ?_
  subst he
  exact ⟨_, rfl, law_post hW rfl rfl Try.underlying4 (fun l hl => by obtain ⟨y0, rfl⟩ := list1 (hl.trans rfl); rfl) (by kernel_rfl) (by kernel_rfl) hb⟩

theorem phaseOnce_holds : Rows.PhaseOnceSaid :=
  OpenClaim.holds_of_wide 13 Try.f13 rfl rfl rfl rfl rfl rfl rfl ⟨rfl, rfl, rfl, rfl, rfl⟩ rfl rfl rfl rfl rfl (by kernel_rfl) Try.func13 (by kernel_rfl)
    (of_decide_eq_true (by kernel_rfl)) (by unfold Func.isWrapper; first | (rw [if_pos (by decide +kernel)]; kernel_rfl) | (rw [if_neg (by decide +kernel)]; exact ⟨rfl, rfl⟩))
    (fun os started H enc _ => phaseOnce_lifted os started H enc)
#print axioms phaseOnce_holds
end Go.Proofs.Ytpbnakoimlmhnaa
