/-
  WireReplies, for every input: true; the input reads as it did. No condition.
-/
import Derived.Test.YtncampbmnbhikaaJ22
import Derived.Test.YtncampbmnbhikaaRpArg
import Derived.Test.YtncampbmnbhikaaJ24
namespace Go.Proofs.Ytncampbmnbhikaa
set_option linter.unusedVariables false
set_option linter.unusedSimpArgs false
open Go.ChangeShapes Go.WideShapes Go.ChangeAt Go.RowKit

set_option maxRecDepth 100000 in
theorem wireReplies_lifted (os : Os) (started : os.Started) (H : Type) (enc : TypeId × Value → H) :
    ReturnsInHanded {} Try.checked os 3 .any (Rows.wireRepliesSpec.pre6 enc Try.prog Try.f3 Rows.wireRepliesRow.domain false) (Rows.wireRepliesSpec.post enc Try.prog Try.f3 false true false false) := by
  refine returnsInHanded_of_change (C := Try.checked) own0 started (by kernel_rfl) Try.func3
    (ChangeSpec.witness6 (enc := enc) (C := Try.checked) false ⟨#[], #[.agg #[.int .i64 0, .int .i64 0, .slice none 0 0, .slice none 0 0, .slice none 0 0, .slice none 0 0, .int .u32 0]], []⟩ 8 (by kernel_rfl) (by kernel_rfl) (by kernel_rfl) (by kernel_rfl)) ?_
  intro W base args ds gs before hval0 hW hcnd _
  have hval : ∀ (j : Nat) t v, Try.f3.params[j]? = some t → args[j]? = some v → Value.okWide Try.prog W .any base t v := hval0
  clear hval0
  have hl := whole_length hW
  obtain ⟨c0, rfl⟩ := args1 (hl.trans rfl)
  rw [Try.params3] at hval
  obtain ⟨pp_, qq_, hA, _⟩ := id hW
  rw [Try.params3] at hA
  obtain ⟨cs, rfl, hcs, hc⟩ := val_cells (ts := [3, 3, 22, 23, 24, 25, 26]) (by kernel_rfl) (by kernel_rfl) (by kernel_rfl) (hval 0 28 c0 rfl rfl)
  obtain ⟨x0, x1, x2, x3, x4, x5, x6, rfl⟩ := list7 hcs
  obtain ⟨st, rfl, _⟩ := int_ok Try.underlying3 (hc 0 3 x0 rfl rfl)
  obtain ⟨kd, rfl, _⟩ := int_ok Try.underlying3 (hc 1 3 x1 rfl rfl)
  obtain ⟨ct, rfl, h_ct⟩ := int_ok Try.underlying26 (hc 6 26 x6 rfl rfl)
  replace h_ct := has_u32 h_ct
  obtain ⟨d_0, ds_0, p_0, q_0, _, hT_0, hA1⟩ := trodAll_cons hA
  obtain ⟨RA, AA, TA, BA, rn, rc, an, ac, tn, tc, bn, bc, RF, AF, TF, BF, rfl, rfl, rfl, rfl, hmax, hsl, okr, oka, okt, okb⟩ := open_reply hT_0
  clear hc hcs
  refine (wireReplies_any st kd ct RA AA TA BA rn rc an ac tn tc bn bc RF AF TF BF W h_ct hmax hsl okr oka okt okb).mono fun e W' ⟨he, hb⟩ => ?_
  subst he
  exact ⟨_, rfl, law_post hW rfl rfl Try.underlying4 (fun l hl => by obtain ⟨y0, rfl⟩ := list1 (hl.trans rfl); rfl) (by kernel_rfl) (by kernel_rfl) hb⟩

theorem wireReplies_holds : Rows.WireRepliesSaid :=
  OpenClaim.holds_of_wide 3 Try.f3 rfl rfl rfl rfl rfl rfl rfl ⟨rfl, rfl, rfl, rfl, rfl⟩ rfl rfl rfl rfl rfl (by kernel_rfl) Try.func3 (by kernel_rfl)
    (of_decide_eq_true (by kernel_rfl)) (by unfold Func.isWrapper; first | (rw [if_pos (by decide +kernel)]; kernel_rfl) | (rw [if_neg (by decide +kernel)]; exact ⟨rfl, rfl⟩))
    (fun os started H enc _ => wireReplies_lifted os started H enc)
#print axioms wireReplies_holds
end Go.Proofs.Ytncampbmnbhikaa
