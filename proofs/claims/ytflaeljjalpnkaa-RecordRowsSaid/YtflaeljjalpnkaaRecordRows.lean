/-
  RecordRows, for every input: true; the input reads as it did. No condition.
-/
import Derived.Test.YtflaeljjalpnkaaRecX
import Derived.Test.YtflaeljjalpnkaaLaw
namespace Go.Proofs.Ytflaeljjalpnkaa
set_option linter.unusedVariables false
set_option linter.unusedSimpArgs false
open Go.ChangeShapes Go.WideShapes Go.ChangeAt Go.RowKit

set_option maxRecDepth 100000 in
theorem recordRows_lifted (os : Os) (started : os.Started) (H : Type) (enc : TypeId × Value → H) :
    ReturnsInHanded {} Try.checked os 8 .any (Rows.recordRowsSpec.pre6 enc Try.prog Try.f8 Rows.recordRowsRow.domain false) (Rows.recordRowsSpec.post enc Try.prog Try.f8 false true false false) := by
  refine returnsInHanded_of_change (C := Try.checked) own0 started (by kernel_rfl) Try.func8
    (ChangeSpec.witness6 (enc := enc) (C := Try.checked) false ⟨#[], #[.agg #[.int .u64 0, .int .u64 0], .agg #[.int .u64 0, .int .u64 0, .int .u64 0, .int .u64 0, .int .u64 0, .int .u64 0, .int .u64 0, .int .u64 0, .int .u64 0, .int .u8 0], .agg #[.int .u64 0, .int .u64 0, .int .u64 0, .int .u64 0]], []⟩ 8 (by kernel_rfl) (by kernel_rfl) (by kernel_rfl) (by kernel_rfl)) ?_
  intro W base args ds gs before hval0 hW hcnd _
  have hval : ∀ (j : Nat) t v, Try.f8.params[j]? = some t → args[j]? = some v → Value.okWide Try.prog W .any base t v := hval0
  clear hval0
  have hl := whole_length hW
  obtain ⟨c0, c1, c2, rfl⟩ := args3 (hl.trans rfl)
  rw [Try.params8] at hval
  obtain ⟨cs, rfl, hcs, hc⟩ := val_cells (ts := [22, 22]) (by kernel_rfl) (by kernel_rfl) (by kernel_rfl) (hval 0 24 c0 rfl rfl)
  obtain ⟨x0, x1, rfl⟩ := list2 hcs
  obtain ⟨h, rfl, h_h⟩ := int_ok Try.underlying22 (hc 0 22 x0 rfl rfl)
  replace h_h := has_u64 h_h
  obtain ⟨l, rfl, h_l⟩ := int_ok Try.underlying22 (hc 1 22 x1 rfl rfl)
  replace h_l := has_u64 h_l
  clear hc hcs
  obtain ⟨cs, rfl, hcs, hc⟩ := val_cells (ts := [22, 22, 22, 22, 22, 22, 22, 22, 22, 5]) (by kernel_rfl) (by kernel_rfl) (by kernel_rfl) (hval 1 30 c1 rfl rfl)
  obtain ⟨x0, x1, x2, x3, x4, x5, x6, x7, x8, x9, rfl⟩ := list10 hcs
  obtain ⟨xp1, rfl, h_xp1⟩ := int_ok Try.underlying22 (hc 0 22 x0 rfl rfl)
  replace h_xp1 := has_u64 h_xp1
  obtain ⟨xp2, rfl, h_xp2⟩ := int_ok Try.underlying22 (hc 1 22 x1 rfl rfl)
  replace h_xp2 := has_u64 h_xp2
  obtain ⟨xq1, rfl, h_xq1⟩ := int_ok Try.underlying22 (hc 2 22 x2 rfl rfl)
  replace h_xq1 := has_u64 h_xq1
  obtain ⟨xq2, rfl, h_xq2⟩ := int_ok Try.underlying22 (hc 3 22 x3 rfl rfl)
  replace h_xq2 := has_u64 h_xq2
  obtain ⟨xr1, rfl, h_xr1⟩ := int_ok Try.underlying22 (hc 4 22 x4 rfl rfl)
  replace h_xr1 := has_u64 h_xr1
  obtain ⟨xr2, rfl, h_xr2⟩ := int_ok Try.underlying22 (hc 5 22 x5 rfl rfl)
  replace h_xr2 := has_u64 h_xr2
  obtain ⟨xs1, rfl, h_xs1⟩ := int_ok Try.underlying22 (hc 6 22 x6 rfl rfl)
  replace h_xs1 := has_u64 h_xs1
  obtain ⟨xs2, rfl, h_xs2⟩ := int_ok Try.underlying22 (hc 7 22 x7 rfl rfl)
  replace h_xs2 := has_u64 h_xs2
  obtain ⟨xst, rfl, h_xst⟩ := int_ok Try.underlying22 (hc 8 22 x8 rfl rfl)
  replace h_xst := has_u64 h_xst
  obtain ⟨xsd, rfl, h_xsd⟩ := int_ok Try.underlying5 (hc 9 5 x9 rfl rfl)
  replace h_xsd := has_u8 h_xsd
  clear hc hcs
  obtain ⟨cs, rfl, hcs, hc⟩ := val_cells (ts := [22, 22, 22, 22]) (by kernel_rfl) (by kernel_rfl) (by kernel_rfl) (hval 2 26 c2 rfl rfl)
  obtain ⟨x0, x1, x2, x3, rfl⟩ := list4 hcs
  obtain ⟨de, rfl, h_de⟩ := int_ok Try.underlying22 (hc 0 22 x0 rfl rfl)
  replace h_de := has_u64 h_de
  obtain ⟨ds, rfl, h_ds⟩ := int_ok Try.underlying22 (hc 1 22 x1 rfl rfl)
  replace h_ds := has_u64 h_ds
  obtain ⟨dh, rfl, h_dh⟩ := int_ok Try.underlying22 (hc 2 22 x2 rfl rfl)
  replace h_dh := has_u64 h_dh
  obtain ⟨dl, rfl, h_dl⟩ := int_ok Try.underlying22 (hc 3 22 x3 rfl rfl)
  replace h_dl := has_u64 h_dl
  clear hc hcs
  refine (recordRows_any h l xp1 xp2 xq1 xq2 xr1 xr2 xs1 xs2 xst xsd de ds dh dl h_h h_l h_xp1 h_xp2 h_xq1 h_xq2 h_xr1 h_xr2 h_xs1 h_xs2 h_xst h_xsd h_de h_ds h_dh h_dl W).mono fun e W' ⟨he, hb⟩ => ?_
  subst he
  exact ⟨_, rfl, law_post hW rfl rfl Try.underlying4 (fun l hl => by obtain ⟨y0, y1, y2, rfl⟩ := list3 (hl.trans rfl); rfl) (by kernel_rfl) (by kernel_rfl) hb⟩

theorem recordRows_holds : Rows.RecordRowsSaid :=
  OpenClaim.holds_of_wide 8 Try.f8 rfl rfl rfl rfl rfl rfl rfl ⟨rfl, rfl, rfl, rfl, rfl⟩ rfl rfl rfl rfl rfl (by kernel_rfl) Try.func8 (by kernel_rfl)
    (of_decide_eq_true (by kernel_rfl)) (by unfold Func.isWrapper; first | (rw [if_pos (by decide +kernel)]; kernel_rfl) | (rw [if_neg (by decide +kernel)]; exact ⟨rfl, rfl⟩))
    (fun os started H enc _ => recordRows_lifted os started H enc)
#print axioms recordRows_holds
end Go.Proofs.Ytflaeljjalpnkaa
