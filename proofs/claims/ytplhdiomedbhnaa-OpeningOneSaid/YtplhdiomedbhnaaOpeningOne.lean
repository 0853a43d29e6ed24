/-
  OpeningOne, for every input: true; the input reads as it did. No condition.
-/
import Derived.Test.YtplhdiomedbhnaaOpenO
import Derived.Test.YtplhdiomedbhnaaLaw
namespace Go.Proofs.Ytplhdiomedbhnaa
set_option linter.unusedVariables false
set_option linter.unusedSimpArgs false
open Go.ChangeShapes Go.WideShapes Go.ChangeAt Go.RowKit

set_option maxRecDepth 100000 in
theorem openingOne_lifted (os : Os) (started : os.Started) (H : Type) (enc : TypeId × Value → H) :
    ReturnsInHanded {} Try.checked os 4 .any (Rows.openingOneSpec.pre6 enc Try.prog Try.f4 Rows.openingOneRow.domain false) (Rows.openingOneSpec.post enc Try.prog Try.f4 false true false false) := by
  refine returnsInHanded_of_change (C := Try.checked) own0 started (by kernel_rfl) Try.func4
    (ChangeSpec.witness6 (enc := enc) (C := Try.checked) false ⟨#[], #[.agg #[.int .u64 0, .int .u64 0, .int .u64 0, .int .u64 0, .int .u64 0, .int .u64 0, .int .u64 0, .int .u64 0, .int .u64 0, .int .u64 0, .int .u64 0, .int .u32 0, .int .u16 0, .int .u16 0, .int .u64 0], .int .u16 0], []⟩ 8 (by kernel_rfl) (by kernel_rfl) (by kernel_rfl) (by kernel_rfl)) ?_
  intro W base args ds gs before hval0 hW hcnd _
  have hval : ∀ (j : Nat) t v, Try.f4.params[j]? = some t → args[j]? = some v → Value.okWide Try.prog W .any base t v := hval0
  clear hval0
  have hl := whole_length hW
  obtain ⟨c0, c1, rfl⟩ := args2 (hl.trans rfl)
  rw [Try.params4] at hval
  obtain ⟨cs, rfl, hcs, hc⟩ := val_cells (ts := [22, 22, 22, 22, 22, 22, 22, 22, 22, 22, 22, 25, 26, 26, 22]) (by kernel_rfl) (by kernel_rfl) (by kernel_rfl) (hval 0 28 c0 rfl rfl)
  obtain ⟨x0, x1, x2, x3, x4, x5, x6, x7, x8, x9, x10, x11, x12, x13, x14, rfl⟩ := list15 hcs
  obtain ⟨ai1, rfl, h_ai1⟩ := int_ok Try.underlying22 (hc 0 22 x0 rfl rfl)
  replace h_ai1 := has_u64 h_ai1
  obtain ⟨ai2, rfl, h_ai2⟩ := int_ok Try.underlying22 (hc 1 22 x1 rfl rfl)
  replace h_ai2 := has_u64 h_ai2
  obtain ⟨ap1, rfl, h_ap1⟩ := int_ok Try.underlying22 (hc 2 22 x2 rfl rfl)
  replace h_ap1 := has_u64 h_ap1
  obtain ⟨ap2, rfl, h_ap2⟩ := int_ok Try.underlying22 (hc 3 22 x3 rfl rfl)
  replace h_ap2 := has_u64 h_ap2
  obtain ⟨aq1, rfl, h_aq1⟩ := int_ok Try.underlying22 (hc 4 22 x4 rfl rfl)
  replace h_aq1 := has_u64 h_aq1
  obtain ⟨aq2, rfl, h_aq2⟩ := int_ok Try.underlying22 (hc 5 22 x5 rfl rfl)
  replace h_aq2 := has_u64 h_aq2
  obtain ⟨ar1, rfl, h_ar1⟩ := int_ok Try.underlying22 (hc 6 22 x6 rfl rfl)
  replace h_ar1 := has_u64 h_ar1
  obtain ⟨ar2, rfl, h_ar2⟩ := int_ok Try.underlying22 (hc 7 22 x7 rfl rfl)
  replace h_ar2 := has_u64 h_ar2
  obtain ⟨as1, rfl, h_as1⟩ := int_ok Try.underlying22 (hc 8 22 x8 rfl rfl)
  replace h_as1 := has_u64 h_as1
  obtain ⟨as2, rfl, h_as2⟩ := int_ok Try.underlying22 (hc 9 22 x9 rfl rfl)
  replace h_as2 := has_u64 h_as2
  obtain ⟨atg, rfl, h_atg⟩ := int_ok Try.underlying22 (hc 10 22 x10 rfl rfl)
  replace h_atg := has_u64 h_atg
  obtain ⟨alg, rfl, h_alg⟩ := int_ok Try.underlying25 (hc 11 25 x11 rfl rfl)
  replace h_alg := has_u32 h_alg
  obtain ⟨acd, rfl, h_acd⟩ := int_ok Try.underlying26 (hc 12 26 x12 rfl rfl)
  replace h_acd := has_u16 h_acd
  obtain ⟨afl, rfl, h_afl⟩ := int_ok Try.underlying26 (hc 13 26 x13 rfl rfl)
  replace h_afl := has_u16 h_afl
  obtain ⟨ast, rfl, h_ast⟩ := int_ok Try.underlying22 (hc 14 22 x14 rfl rfl)
  replace h_ast := has_u64 h_ast
  clear hc hcs
  obtain ⟨by_, rfl, h_by_⟩ := val_int Try.underlying26 (hval 1 26 c1 rfl rfl)
  replace h_by_ := has_u16 h_by_
  refine (openingOne_walk ai1 ai2 ap1 ap2 aq1 aq2 ar1 ar2 as1 as2 atg alg acd afl ast by_ h_ast.1 h_afl h_atg h_alg h_acd h_by_ W).mono fun e W' ⟨he, hb⟩ => ?_
  subst he
  exact ⟨_, rfl, law_post hW rfl rfl Try.underlying4 (fun l hl => by obtain ⟨y0, y1, rfl⟩ := list2 (hl.trans rfl); rfl) (by kernel_rfl) (by kernel_rfl) hb⟩

theorem openingOne_holds : Rows.OpeningOneSaid :=
  OpenClaim.holds_of_wide 4 Try.f4 rfl rfl rfl rfl rfl rfl rfl ⟨rfl, rfl, rfl, rfl, rfl⟩ rfl rfl rfl rfl rfl (by kernel_rfl) Try.func4 (by kernel_rfl)
    (of_decide_eq_true (by kernel_rfl)) (by unfold Func.isWrapper; first | (rw [if_pos (by decide +kernel)]; kernel_rfl) | (rw [if_neg (by decide +kernel)]; exact ⟨rfl, rfl⟩))
    (fun os started H enc _ => openingOne_lifted os started H enc)
#print axioms openingOne_holds
end Go.Proofs.Ytplhdiomedbhnaa
