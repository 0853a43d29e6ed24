/-
  DigitsOrder, for every input: true; the input reads as it did. No condition.
-/
import Derived.Test.YtmlaehjjeadbeaaDh
import Derived.Test.YtmlaehjjeadbeaaLaw
namespace Go.Proofs.Ytmlaehjjeadbeaa
set_option linter.unusedVariables false
set_option linter.unusedSimpArgs false
open Go.ChangeShapes Go.WideShapes Go.ChangeAt Go.RowKit

set_option maxRecDepth 100000 in
theorem digitsOrder_lifted (os : Os) (started : os.Started) (H : Type) (enc : TypeId × Value → H) :
    ReturnsInHanded {} Try.checked os 3 .any (Rows.digitsOrderSpec.pre6 enc Try.prog Try.f3 Rows.digitsOrderRow.domain false) (Rows.digitsOrderSpec.post enc Try.prog Try.f3 false true false false) := by
  refine returnsInHanded_of_change (C := Try.checked) own0 started (by kernel_rfl) Try.func3
    (ChangeSpec.witness6 (enc := enc) (C := Try.checked) false ⟨#[], #[.agg #[.int .u64 0, .int .u64 0], .agg #[.int .u64 0, .int .u64 0]], []⟩ 8 (by kernel_rfl) (by kernel_rfl) (by kernel_rfl) (by kernel_rfl)) ?_
  intro W base args ds gs before hval0 hW hcnd _
  have hval : ∀ (j : Nat) t v, Try.f3.params[j]? = some t → args[j]? = some v → Value.okWide Try.prog W .any base t v := hval0
  clear hval0
  have hl := whole_length hW
  obtain ⟨c0, c1, rfl⟩ := args2 (hl.trans rfl)
  rw [Try.params3] at hval
  obtain ⟨cs, rfl, hcs, hc⟩ := val_cells (ts := [22, 22]) (by kernel_rfl) (by kernel_rfl) (by kernel_rfl) (hval 0 24 c0 rfl rfl)
  obtain ⟨x0, x1, rfl⟩ := list2 hcs
  obtain ⟨a, rfl, h_a⟩ := int_ok Try.underlying22 (hc 0 22 x0 rfl rfl)
  replace h_a := has_u64 h_a
  obtain ⟨b, rfl, h_b⟩ := int_ok Try.underlying22 (hc 1 22 x1 rfl rfl)
  replace h_b := has_u64 h_b
  clear hc hcs
  obtain ⟨cs, rfl, hcs, hc⟩ := val_cells (ts := [22, 22]) (by kernel_rfl) (by kernel_rfl) (by kernel_rfl) (hval 1 24 c1 rfl rfl)
  obtain ⟨x0, x1, rfl⟩ := list2 hcs
  obtain ⟨c, rfl, h_c⟩ := int_ok Try.underlying22 (hc 0 22 x0 rfl rfl)
  replace h_c := has_u64 h_c
  obtain ⟨d, rfl, h_d⟩ := int_ok Try.underlying22 (hc 1 22 x1 rfl rfl)
  replace h_d := has_u64 h_d
  clear hc hcs
  refine (digitsOrder_any a b c d h_a h_b h_c h_d W).mono fun e W' ⟨he, hb⟩ => ?_
  subst he
  exact ⟨_, rfl, law_post hW rfl rfl Try.underlying4 (fun l hl => by obtain ⟨y0, y1, rfl⟩ := list2 (hl.trans rfl); rfl) (by kernel_rfl) (by kernel_rfl) hb⟩

theorem digitsOrder_holds : Rows.DigitsOrderSaid :=
  OpenClaim.holds_of_wide 3 Try.f3 rfl rfl rfl rfl rfl rfl rfl ⟨rfl, rfl, rfl, rfl, rfl⟩ rfl rfl rfl rfl rfl (by kernel_rfl) Try.func3 (by kernel_rfl)
    (of_decide_eq_true (by kernel_rfl)) (by unfold Func.isWrapper; first | (rw [if_pos (by decide +kernel)]; kernel_rfl) | (rw [if_neg (by decide +kernel)]; exact ⟨rfl, rfl⟩))
    (fun os started H enc _ => digitsOrder_lifted os started H enc)
#print axioms digitsOrder_holds
end Go.Proofs.Ytmlaehjjeadbeaa
