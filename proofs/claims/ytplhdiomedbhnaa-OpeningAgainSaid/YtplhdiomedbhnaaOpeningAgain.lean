/-
  OpeningAgain, for every input: true; the input reads as it did. No condition.
-/
import Derived.Test.YtplhdiomedbhnaaOpenH
import Derived.Test.YtplhdiomedbhnaaLaw
namespace Go.Proofs.Ytplhdiomedbhnaa
set_option linter.unusedVariables false
set_option linter.unusedSimpArgs false
open Go.ChangeShapes Go.WideShapes Go.ChangeAt Go.RowKit

set_option maxRecDepth 100000 in
theorem openingAgain_lifted (os : Os) (started : os.Started) (H : Type) (enc : TypeId × Value → H) :
    ReturnsInHanded {} Try.checked os 6 .any (Rows.openingAgainSpec.pre6 enc Try.prog Try.f6 Rows.openingAgainRow.domain false) (Rows.openingAgainSpec.post enc Try.prog Try.f6 false true false false) := by
  refine returnsInHanded_of_change (C := Try.checked) own0 started (by kernel_rfl) Try.func6
    (ChangeSpec.witness6 (enc := enc) (C := Try.checked) false ⟨#[], #[.agg #[.int .u64 0, .int .u64 0, .int .u64 0, .int .u64 0, .int .u64 0, .int .u64 0, .int .u64 0, .int .u64 0, .int .u64 0, .int .u64 0, .int .u64 0, .int .u32 0, .int .u16 0, .int .u16 0, .int .u64 0], .agg #[.int .u64 0, .int .u64 0, .int .u64 0, .int .u64 0, .int .u64 0, .int .u64 0, .int .u64 0, .int .u64 0, .int .u64 0, .int .u64 0, .int .u64 0, .int .u32 0, .int .u16 0, .int .u16 0, .int .u64 0], .agg #[.int .u64 0, .bool false]], []⟩ 8 (by kernel_rfl) (by kernel_rfl) (by kernel_rfl) (by kernel_rfl)) ?_
  intro W base args ds gs before hval0 hW hcnd _
  have hval : ∀ (j : Nat) t v, Try.f6.params[j]? = some t → args[j]? = some v → Value.okWide Try.prog W .any base t v := hval0
  clear hval0
  have hl := whole_length hW
  obtain ⟨c0, c1, c2, rfl⟩ := args3 (hl.trans rfl)
  rw [Try.params6] at hval
  obtain ⟨cs, rfl, hcs, hc⟩ := val_cells (ts := [22, 22, 22, 22, 22, 22, 22, 22, 22, 22, 22, 25, 26, 26, 22]) (by kernel_rfl) (by kernel_rfl) (by kernel_rfl) (hval 0 28 c0 rfl rfl)
  obtain ⟨x0, x1, x2, x3, x4, x5, x6, x7, x8, x9, x10, x11, x12, x13, x14, rfl⟩ := list15 hcs
  obtain ⟨ai1, rfl, h_ai1⟩ := int_ok Try.underlying22 (hc 0 22 x0 rfl rfl)
  replace h_ai1 := has_u64 h_ai1
  obtain ⟨ai2, rfl, h_ai2⟩ := int_ok Try.underlying22 (hc 1 22 x1 rfl rfl)
  replace h_ai2 := has_u64 h_ai2
  obtain ⟨ap1, rfl, h_ap1⟩ := int_ok Try.underlying22 (hc 2 22 x2 rfl rfl)
  replace h_ap1 := has_u64 h_ap1
  obtain ⟨ap2, rfl, h_ap2⟩ := int_ok Try.underlying22 (hc 3 22 x3 rfl rfl)
  replace h_ap2 := has_u64 h_ap2
  obtain ⟨aq1, rfl, h_aq1⟩ := int_ok Try.underlying22 (hc 4 22 x4 rfl rfl)
  replace h_aq1 := has_u64 h_aq1
  obtain ⟨aq2, rfl, h_aq2⟩ := int_ok Try.underlying22 (hc 5 22 x5 rfl rfl)
  replace h_aq2 := has_u64 h_aq2
  obtain ⟨ar1, rfl, h_ar1⟩ := int_ok Try.underlying22 (hc 6 22 x6 rfl rfl)
  replace h_ar1 := has_u64 h_ar1
  obtain ⟨ar2, rfl, h_ar2⟩ := int_ok Try.underlying22 (hc 7 22 x7 rfl rfl)
  replace h_ar2 := has_u64 h_ar2
  obtain ⟨as1, rfl, h_as1⟩ := int_ok Try.underlying22 (hc 8 22 x8 rfl rfl)
  replace h_as1 := has_u64 h_as1
  obtain ⟨as2, rfl, h_as2⟩ := int_ok Try.underlying22 (hc 9 22 x9 rfl rfl)
  replace h_as2 := has_u64 h_as2
  obtain ⟨atg, rfl, h_atg⟩ := int_ok Try.underlying22 (hc 10 22 x10 rfl rfl)
  replace h_atg := has_u64 h_atg
  obtain ⟨alg, rfl, h_alg⟩ := int_ok Try.underlying25 (hc 11 25 x11 rfl rfl)
  replace h_alg := has_u32 h_alg
  obtain ⟨acd, rfl, h_acd⟩ := int_ok Try.underlying26 (hc 12 26 x12 rfl rfl)
  replace h_acd := has_u16 h_acd
  obtain ⟨afl, rfl, h_afl⟩ := int_ok Try.underlying26 (hc 13 26 x13 rfl rfl)
  replace h_afl := has_u16 h_afl
  obtain ⟨ast, rfl, h_ast⟩ := int_ok Try.underlying22 (hc 14 22 x14 rfl rfl)
  replace h_ast := has_u64 h_ast
  clear hc hcs
  obtain ⟨cs, rfl, hcs, hc⟩ := val_cells (ts := [22, 22, 22, 22, 22, 22, 22, 22, 22, 22, 22, 25, 26, 26, 22]) (by kernel_rfl) (by kernel_rfl) (by kernel_rfl) (hval 1 28 c1 rfl rfl)
  obtain ⟨x0, x1, x2, x3, x4, x5, x6, x7, x8, x9, x10, x11, x12, x13, x14, rfl⟩ := list15 hcs
  obtain ⟨oi1, rfl, h_oi1⟩ := int_ok Try.underlying22 (hc 0 22 x0 rfl rfl)
  replace h_oi1 := has_u64 h_oi1
  obtain ⟨oi2, rfl, h_oi2⟩ := int_ok Try.underlying22 (hc 1 22 x1 rfl rfl)
  replace h_oi2 := has_u64 h_oi2
  obtain ⟨op1, rfl, h_op1⟩ := int_ok Try.underlying22 (hc 2 22 x2 rfl rfl)
  replace h_op1 := has_u64 h_op1
  obtain ⟨op2, rfl, h_op2⟩ := int_ok Try.underlying22 (hc 3 22 x3 rfl rfl)
  replace h_op2 := has_u64 h_op2
  obtain ⟨oq1, rfl, h_oq1⟩ := int_ok Try.underlying22 (hc 4 22 x4 rfl rfl)
  replace h_oq1 := has_u64 h_oq1
  obtain ⟨oq2, rfl, h_oq2⟩ := int_ok Try.underlying22 (hc 5 22 x5 rfl rfl)
  replace h_oq2 := has_u64 h_oq2
  obtain ⟨or1, rfl, h_or1⟩ := int_ok Try.underlying22 (hc 6 22 x6 rfl rfl)
  replace h_or1 := has_u64 h_or1
  obtain ⟨or2, rfl, h_or2⟩ := int_ok Try.underlying22 (hc 7 22 x7 rfl rfl)
  replace h_or2 := has_u64 h_or2
  obtain ⟨os1, rfl, h_os1⟩ := int_ok Try.underlying22 (hc 8 22 x8 rfl rfl)
  replace h_os1 := has_u64 h_os1
  obtain ⟨os2, rfl, h_os2⟩ := int_ok Try.underlying22 (hc 9 22 x9 rfl rfl)
  replace h_os2 := has_u64 h_os2
  obtain ⟨otg, rfl, h_otg⟩ := int_ok Try.underlying22 (hc 10 22 x10 rfl rfl)
  replace h_otg := has_u64 h_otg
  obtain ⟨olg, rfl, h_olg⟩ := int_ok Try.underlying25 (hc 11 25 x11 rfl rfl)
  replace h_olg := has_u32 h_olg
  obtain ⟨ocd, rfl, h_ocd⟩ := int_ok Try.underlying26 (hc 12 26 x12 rfl rfl)
  replace h_ocd := has_u16 h_ocd
  obtain ⟨ofl, rfl, h_ofl⟩ := int_ok Try.underlying26 (hc 13 26 x13 rfl rfl)
  replace h_ofl := has_u16 h_ofl
  obtain ⟨ost, rfl, h_ost⟩ := int_ok Try.underlying22 (hc 14 22 x14 rfl rfl)
  replace h_ost := has_u64 h_ost
  clear hc hcs
  obtain ⟨cs, rfl, hcs, hc⟩ := val_cells (ts := [22, 4]) (by kernel_rfl) (by kernel_rfl) (by kernel_rfl) (hval 2 39 c2 rfl rfl)
  obtain ⟨x0, x1, rfl⟩ := list2 hcs
  obtain ⟨ts, rfl, h_ts⟩ := int_ok Try.underlying22 (hc 0 22 x0 rfl rfl)
  replace h_ts := has_u64 h_ts
  obtain ⟨tc, rfl⟩ := bool_ok Try.underlying4 (hc 1 4 x1 rfl rfl)
  clear hc hcs
  refine (openingAgain_walk ai1 ai2 ap1 ap2 aq1 aq2 ar1 ar2 as1 as2 atg alg acd afl ast oi1 oi2 op1 op2 oq1 oq2 or1 or2 os1 os2 otg olg ocd ofl ost ts tc h_ast.1 h_afl h_ofl W).mono fun e W' ⟨he, hb⟩ => ?_
  subst he
  exact ⟨_, rfl, law_post hW rfl rfl Try.underlying4 (fun l hl => by obtain ⟨y0, y1, y2, rfl⟩ := list3 (hl.trans rfl); rfl) (by kernel_rfl) (by kernel_rfl) hb⟩

theorem openingAgain_holds : Rows.OpeningAgainSaid :=
  OpenClaim.holds_of_wide 6 Try.f6 rfl rfl rfl rfl rfl rfl rfl ⟨rfl, rfl, rfl, rfl, rfl⟩ rfl rfl rfl rfl rfl (by kernel_rfl) Try.func6 (by kernel_rfl)
    (of_decide_eq_true (by kernel_rfl)) (by unfold Func.isWrapper; first | (rw [if_pos (by decide +kernel)]; kernel_rfl) | (rw [if_neg (by decide +kernel)]; exact ⟨rfl, rfl⟩))
    (fun os started H enc _ => openingAgain_lifted os started H enc)
#print axioms openingAgain_holds
end Go.Proofs.Ytplhdiomedbhnaa
