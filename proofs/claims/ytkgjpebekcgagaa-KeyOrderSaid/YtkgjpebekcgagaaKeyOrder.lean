/-
  KeyOrder, for every input: true; the input reads as it did. No condition.
-/
import Derived.Test.YtkgjpebekcgagaaKm
import Derived.Test.YtkgjpebekcgagaaLaw
namespace Go.Proofs.Ytkgjpebekcgagaa
set_option linter.unusedVariables false
set_option linter.unusedSimpArgs false
open Go.ChangeShapes Go.WideShapes Go.ChangeAt Go.RowKit

set_option maxRecDepth 100000 in
theorem keyOrder_lifted (os : Os) (started : os.Started) (H : Type) (enc : TypeId × Value → H) :
    ReturnsInHanded {} Try.checked os 5 .any (Rows.keyOrderSpec.pre6 enc Try.prog Try.f5 Rows.keyOrderRow.domain false) (Rows.keyOrderSpec.post enc Try.prog Try.f5 false true false false) := by
  refine returnsInHanded_of_change (C := Try.checked) own0 started (by kernel_rfl) Try.func5
    (ChangeSpec.witness6 (enc := enc) (C := Try.checked) false ⟨#[], #[.agg #[.int .u64 0, .int .u64 0, .int .u64 0], .agg #[.int .u64 0, .int .u64 0, .int .u64 0]], []⟩ 8 (by kernel_rfl) (by kernel_rfl) (by kernel_rfl) (by kernel_rfl)) ?_
  intro W base args ds gs before hval0 hW hcnd _
  have hval : ∀ (j : Nat) t v, Try.f5.params[j]? = some t → args[j]? = some v → Value.okWide Try.prog W .any base t v := hval0
  clear hval0
  have hl := whole_length hW
  obtain ⟨c0, c1, rfl⟩ := args2 (hl.trans rfl)
  rw [Try.params5] at hval
  obtain ⟨cs, rfl, hcs, hc⟩ := val_cells (ts := [34, 34, 34]) (by kernel_rfl) (by kernel_rfl) (by kernel_rfl) (hval 0 38 c0 rfl rfl)
  obtain ⟨x0, x1, x2, rfl⟩ := list3 hcs
  obtain ⟨ah, rfl, h_ah⟩ := int_ok Try.underlying34 (hc 0 34 x0 rfl rfl)
  replace h_ah := has_u64 h_ah
  obtain ⟨al, rfl, h_al⟩ := int_ok Try.underlying34 (hc 1 34 x1 rfl rfl)
  replace h_al := has_u64 h_al
  obtain ⟨n, rfl, h_n⟩ := int_ok Try.underlying34 (hc 2 34 x2 rfl rfl)
  replace h_n := has_u64 h_n
  clear hc hcs
  obtain ⟨cs, rfl, hcs, hc⟩ := val_cells (ts := [34, 34, 34]) (by kernel_rfl) (by kernel_rfl) (by kernel_rfl) (hval 1 38 c1 rfl rfl)
  obtain ⟨x0, x1, x2, rfl⟩ := list3 hcs
  obtain ⟨bh, rfl, h_bh⟩ := int_ok Try.underlying34 (hc 0 34 x0 rfl rfl)
  replace h_bh := has_u64 h_bh
  obtain ⟨bl, rfl, h_bl⟩ := int_ok Try.underlying34 (hc 1 34 x1 rfl rfl)
  replace h_bl := has_u64 h_bl
  obtain ⟨m, rfl, h_m⟩ := int_ok Try.underlying34 (hc 2 34 x2 rfl rfl)
  replace h_m := has_u64 h_m
  clear hc hcs
  refine (keyOrder_any ah al n bh bl m h_ah h_al h_n h_bh h_bl h_m W).mono fun e W' ⟨he, hb⟩ => ?_
  subst he
  exact ⟨_, rfl, law_post hW rfl rfl Try.underlying4 (fun l hl => by obtain ⟨y0, y1, rfl⟩ := list2 (hl.trans rfl); rfl) (by kernel_rfl) (by kernel_rfl) hb⟩

theorem keyOrder_holds : Rows.KeyOrderSaid :=
  OpenClaim.holds_of_wide 5 Try.f5 rfl rfl rfl rfl rfl rfl rfl ⟨rfl, rfl, rfl, rfl, rfl⟩ rfl rfl rfl rfl rfl (by kernel_rfl) Try.func5 (by kernel_rfl)
    (of_decide_eq_true (by kernel_rfl)) (by unfold Func.isWrapper; first | (rw [if_pos (by decide +kernel)]; kernel_rfl) | (rw [if_neg (by decide +kernel)]; exact ⟨rfl, rfl⟩))
    (fun os started H enc _ => keyOrder_lifted os started H enc)
#print axioms keyOrder_holds
end Go.Proofs.Ytkgjpebekcgagaa
