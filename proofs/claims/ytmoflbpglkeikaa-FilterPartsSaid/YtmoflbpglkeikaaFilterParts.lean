/-
  FilterParts, for every input: true; the input reads as it did. No condition.
-/
import Derived.Test.YtmoflbpglkeikaaFilterR
import Derived.Test.YtmoflbpglkeikaaLaw
namespace Go.Proofs.Ytmoflbpglkeikaa
set_option linter.unusedVariables false
set_option linter.unusedSimpArgs false
open Go.ChangeShapes Go.WideShapes Go.ChangeAt Go.RowKit

set_option maxRecDepth 100000 in
theorem filterParts_lifted (os : Os) (started : os.Started) (H : Type) (enc : TypeId × Value → H) :
    ReturnsInHanded {} Try.checked os 5 .any (Rows.filterPartsSpec.pre6 enc Try.prog Try.f5 Rows.filterPartsRow.domain false) (Rows.filterPartsSpec.post enc Try.prog Try.f5 false true false false) := by
  refine returnsInHanded_of_change (C := Try.checked) own0 started (by kernel_rfl) Try.func5
    (ChangeSpec.witness6 (enc := enc) (C := Try.checked) false ⟨#[], #[.agg #[.int .u64 0, .int .u64 0, .int .u64 0, .int .u64 0, .int .u32 0, .int .u32 0], .int .u64 0, .int .u64 0], []⟩ 8 (by kernel_rfl) (by kernel_rfl) (by kernel_rfl) (by kernel_rfl)) ?_
  intro W base args ds gs before hval0 hW hcnd _
  have hval : ∀ (j : Nat) t v, Try.f5.params[j]? = some t → args[j]? = some v → Value.okWide Try.prog W .any base t v := hval0
  clear hval0
  have hl := whole_length hW
  obtain ⟨c0, c1, c2, rfl⟩ := args3 (hl.trans rfl)
  rw [Try.params5] at hval
  obtain ⟨cs, rfl, hcs, hc⟩ := val_cells (ts := [22, 22, 22, 22, 25, 25]) (by kernel_rfl) (by kernel_rfl) (by kernel_rfl) (hval 0 27 c0 rfl rfl)
  obtain ⟨x0, x1, x2, x3, x4, x5, rfl⟩ := list6 hcs
  obtain ⟨a, rfl, h_a⟩ := int_ok Try.underlying22 (hc 0 22 x0 rfl rfl)
  replace h_a := has_u64 h_a
  obtain ⟨b, rfl, h_b⟩ := int_ok Try.underlying22 (hc 1 22 x1 rfl rfl)
  replace h_b := has_u64 h_b
  obtain ⟨c, rfl, h_c⟩ := int_ok Try.underlying22 (hc 2 22 x2 rfl rfl)
  replace h_c := has_u64 h_c
  obtain ⟨d, rfl, h_d⟩ := int_ok Try.underlying22 (hc 3 22 x3 rfl rfl)
  replace h_d := has_u64 h_d
  obtain ⟨e, rfl, h_e⟩ := int_ok Try.underlying25 (hc 4 25 x4 rfl rfl)
  replace h_e := has_u32 h_e
  obtain ⟨f, rfl, h_f⟩ := int_ok Try.underlying25 (hc 5 25 x5 rfl rfl)
  replace h_f := has_u32 h_f
  clear hc hcs
  obtain ⟨s, rfl, h_s⟩ := val_int Try.underlying22 (hval 1 22 c1 rfl rfl)
  replace h_s := has_u64 h_s
  obtain ⟨v, rfl, h_v⟩ := val_int Try.underlying22 (hval 2 22 c2 rfl rfl)
  replace h_v := has_u64 h_v
  refine (filterParts_any a b c d e f s v h_c h_d h_v W).mono fun e W' ⟨he, hb⟩ => ?_
  subst he
  exact ⟨_, rfl, law_post hW rfl rfl Try.underlying4 (fun l hl => by obtain ⟨y0, y1, y2, rfl⟩ := list3 (hl.trans rfl); rfl) (by kernel_rfl) (by kernel_rfl) hb⟩

theorem filterParts_holds : Rows.FilterPartsSaid :=
  OpenClaim.holds_of_wide 5 Try.f5 rfl rfl rfl rfl rfl rfl rfl ⟨rfl, rfl, rfl, rfl, rfl⟩ rfl rfl rfl rfl rfl (by kernel_rfl) Try.func5 (by kernel_rfl)
    (of_decide_eq_true (by kernel_rfl)) (by unfold Func.isWrapper; first | (rw [if_pos (by decide +kernel)]; kernel_rfl) | (rw [if_neg (by decide +kernel)]; exact ⟨rfl, rfl⟩))
    (fun os started H enc _ => filterParts_lifted os started H enc)
#print axioms filterParts_holds
end Go.Proofs.Ytmoflbpglkeikaa
