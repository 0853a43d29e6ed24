/-
  RecordSmall, for every input: true; the input reads as it did. No condition.
-/
import Derived.Test.YtflaeljjalpnkaaRecS
import Derived.Test.YtflaeljjalpnkaaLaw
namespace Go.Proofs.Ytflaeljjalpnkaa
set_option linter.unusedVariables false
set_option linter.unusedSimpArgs false
open Go.ChangeShapes Go.WideShapes Go.ChangeAt Go.RowKit

set_option maxRecDepth 100000 in
theorem recordSmall_lifted (os : Os) (started : os.Started) (H : Type) (enc : TypeId × Value → H) :
    ReturnsInHanded {} Try.checked os 4 .any (Rows.recordSmallSpec.pre6 enc Try.prog Try.f4 Rows.recordSmallRow.domain false) (Rows.recordSmallSpec.post enc Try.prog Try.f4 false true false false) := by
  refine returnsInHanded_of_change (C := Try.checked) own0 started (by kernel_rfl) Try.func4
    (ChangeSpec.witness6 (enc := enc) (C := Try.checked) false ⟨#[], #[.agg #[.int .u64 0, .int .u64 0, .int .u64 0, .int .u64 0, .int .u32 0, .int .u32 0], .agg #[.int .u32 0, .int .u32 0]], []⟩ 8 (by kernel_rfl) (by kernel_rfl) (by kernel_rfl) (by kernel_rfl)) ?_
  intro W base args ds gs before hval0 hW hcnd _
  have hval : ∀ (j : Nat) t v, Try.f4.params[j]? = some t → args[j]? = some v → Value.okWide Try.prog W .any base t v := hval0
  clear hval0
  have hl := whole_length hW
  obtain ⟨c0, c1, rfl⟩ := args2 (hl.trans rfl)
  rw [Try.params4] at hval
  obtain ⟨cs, rfl, hcs, hc⟩ := val_cells (ts := [22, 22, 22, 22, 39, 39]) (by kernel_rfl) (by kernel_rfl) (by kernel_rfl) (hval 0 41 c0 rfl rfl)
  obtain ⟨x0, x1, x2, x3, x4, x5, rfl⟩ := list6 hcs
  obtain ⟨a, rfl, h_a⟩ := int_ok Try.underlying22 (hc 0 22 x0 rfl rfl)
  replace h_a := has_u64 h_a
  obtain ⟨b, rfl, h_b⟩ := int_ok Try.underlying22 (hc 1 22 x1 rfl rfl)
  replace h_b := has_u64 h_b
  obtain ⟨c, rfl, h_c⟩ := int_ok Try.underlying22 (hc 2 22 x2 rfl rfl)
  replace h_c := has_u64 h_c
  obtain ⟨d, rfl, h_d⟩ := int_ok Try.underlying22 (hc 3 22 x3 rfl rfl)
  replace h_d := has_u64 h_d
  obtain ⟨e, rfl, h_e⟩ := int_ok Try.underlying39 (hc 4 39 x4 rfl rfl)
  replace h_e := has_u32 h_e
  obtain ⟨f, rfl, h_f⟩ := int_ok Try.underlying39 (hc 5 39 x5 rfl rfl)
  replace h_f := has_u32 h_f
  clear hc hcs
  obtain ⟨cs, rfl, hcs, hc⟩ := val_cells (ts := [39, 42]) (by kernel_rfl) (by kernel_rfl) (by kernel_rfl) (hval 1 44 c1 rfl rfl)
  obtain ⟨x0, x1, rfl⟩ := list2 hcs
  obtain ⟨ya, rfl, h_ya⟩ := int_ok Try.underlying39 (hc 0 39 x0 rfl rfl)
  replace h_ya := has_u32 h_ya
  obtain ⟨yb, rfl, h_yb⟩ := int_ok Try.underlying42 (hc 1 42 x1 rfl rfl)
  replace h_yb := has_u32 h_yb
  clear hc hcs
  refine (recordSmall_any a b c d e f ya yb h_a h_b h_c h_d h_e h_f h_ya h_yb W).mono fun e W' ⟨he, hb⟩ => ?_
  subst he
  exact ⟨_, rfl, law_post hW rfl rfl Try.underlying4 (fun l hl => by obtain ⟨y0, y1, rfl⟩ := list2 (hl.trans rfl); rfl) (by kernel_rfl) (by kernel_rfl) hb⟩

theorem recordSmall_holds : Rows.RecordSmallSaid :=
  OpenClaim.holds_of_wide 4 Try.f4 rfl rfl rfl rfl rfl rfl rfl ⟨rfl, rfl, rfl, rfl, rfl⟩ rfl rfl rfl rfl rfl (by kernel_rfl) Try.func4 (by kernel_rfl)
    (of_decide_eq_true (by kernel_rfl)) (by unfold Func.isWrapper; first | (rw [if_pos (by decide +kernel)]; kernel_rfl) | (rw [if_neg (by decide +kernel)]; exact ⟨rfl, rfl⟩))
    (fun os started H enc _ => recordSmall_lifted os started H enc)
#print axioms recordSmall_holds
end Go.Proofs.Ytflaeljjalpnkaa
