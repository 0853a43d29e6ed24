/-
  WireRequests, for every input: true; the input reads as it did. No condition.
-/
import Derived.Test.YtncampbmnbhikaaWqn
import Derived.Test.YtncampbmnbhikaaRqArg
import Derived.Test.YtncampbmnbhikaaJ22
import Derived.Test.YtncampbmnbhikaaJ24
namespace Go.Proofs.Ytncampbmnbhikaa
set_option linter.unusedVariables false
set_option linter.unusedSimpArgs false
open Go.ChangeShapes Go.WideShapes Go.ChangeAt Go.RowKit

set_option maxRecDepth 100000 in
theorem wireRequests_lifted (os : Os) (started : os.Started) (H : Type) (enc : TypeId × Value → H) :
    ReturnsInHanded {} Try.checked os 5 .any (Rows.wireRequestsSpec.pre6 enc Try.prog Try.f5 Rows.wireRequestsRow.domain false) (Rows.wireRequestsSpec.post enc Try.prog Try.f5 false true false false) := by
  refine returnsInHanded_of_change (C := Try.checked) own0 started (by kernel_rfl) Try.func5
    (ChangeSpec.witness6 (enc := enc) (C := Try.checked) false ⟨#[], #[.agg #[.int .i64 0, .slice none 0 0, .slice none 0 0, .slice none 0 0, .int .u64 0, .int .u64 0, .int .u64 0, .int .u64 0, .int .u32 0, .int .u32 0]], []⟩ 8 (by kernel_rfl) (by kernel_rfl) (by kernel_rfl) (by kernel_rfl)) ?_
  intro W base args ds gs before hval0 hW hcnd _
  have hval : ∀ (j : Nat) t v, Try.f5.params[j]? = some t → args[j]? = some v → Value.okWide Try.prog W .any base t v := hval0
  clear hval0
  have hl := whole_length hW
  obtain ⟨c0, rfl⟩ := args1 (hl.trans rfl)
  rw [Try.params5] at hval
  obtain ⟨pp_, qq_, hA, _⟩ := id hW
  rw [Try.params5] at hA
  obtain ⟨cs, rfl, hcs, hc⟩ := val_cells (ts := [3, 23, 24, 39, 40, 40, 40, 40, 26, 26]) (by kernel_rfl) (by kernel_rfl) (by kernel_rfl) (hval 0 46 c0 rfl rfl)
  obtain ⟨x0, x1, x2, x3, x4, x5, x6, x7, x8, x9, rfl⟩ := list10 hcs
  obtain ⟨kd, rfl, _⟩ := int_ok Try.underlying3 (hc 0 3 x0 rfl rfl)
  obtain ⟨fa, rfl, h_fa⟩ := int_ok Try.underlying40 (hc 4 40 x4 rfl rfl)
  replace h_fa := has_u64 h_fa
  obtain ⟨fb, rfl, h_fb⟩ := int_ok Try.underlying40 (hc 5 40 x5 rfl rfl)
  replace h_fb := has_u64 h_fb
  obtain ⟨fc, rfl, h_fc⟩ := int_ok Try.underlying40 (hc 6 40 x6 rfl rfl)
  replace h_fc := has_u64 h_fc
  obtain ⟨fd, rfl, h_fd⟩ := int_ok Try.underlying40 (hc 7 40 x7 rfl rfl)
  replace h_fd := has_u64 h_fd
  obtain ⟨fe, rfl, h_fe⟩ := int_ok Try.underlying26 (hc 8 26 x8 rfl rfl)
  replace h_fe := has_u32 h_fe
  obtain ⟨ff, rfl, h_ff⟩ := int_ok Try.underlying26 (hc 9 26 x9 rfl rfl)
  replace h_ff := has_u32 h_ff
  obtain ⟨d_0, ds_0, p_0, q_0, _, hT_0, hA1⟩ := trodAll_cons hA
  obtain ⟨AA, TA, UA, an, ac, tn, tc, un, uc, AF, TF, UF, rfl, rfl, rfl, hmax, hsl, oka, okt, oku⟩ := open_request hT_0
  clear hc hcs
  refine (wireRequests_any kd AA TA UA an ac tn tc un uc AF TF UF fa fb fc fd fe ff W hmax hsl oka okt oku h_fa h_fb h_fc h_fd h_fe h_ff).mono fun e W' ⟨he, hb⟩ => ?_
  subst he
  exact ⟨_, rfl, law_post hW rfl rfl Try.underlying4 (fun l hl => by obtain ⟨y0, rfl⟩ := list1 (hl.trans rfl); rfl) (by kernel_rfl) (by kernel_rfl) hb⟩

theorem wireRequests_holds : Rows.WireRequestsSaid :=
  OpenClaim.holds_of_wide 5 Try.f5 rfl rfl rfl rfl rfl rfl rfl ⟨rfl, rfl, rfl, rfl, rfl⟩ rfl rfl rfl rfl rfl (by kernel_rfl) Try.func5 (by kernel_rfl)
    (of_decide_eq_true (by kernel_rfl)) (by unfold Func.isWrapper; first | (rw [if_pos (by decide +kernel)]; kernel_rfl) | (rw [if_neg (by decide +kernel)]; exact ⟨rfl, rfl⟩))
    (fun os started H enc _ => wireRequests_lifted os started H enc)
#print axioms wireRequests_holds
end Go.Proofs.Ytncampbmnbhikaa
