/-
  RecordOrder, for every input: true; the input reads as it did. No condition.
-/
import Derived.Test.YtflaeljjalpnkaaRecF
import Derived.Test.YtflaeljjalpnkaaLaw
namespace Go.Proofs.Ytflaeljjalpnkaa
set_option linter.unusedVariables false
set_option linter.unusedSimpArgs false
open Go.ChangeShapes Go.WideShapes Go.ChangeAt Go.RowKit

set_option maxRecDepth 100000 in
theorem recordOrder_lifted (os : Os) (started : os.Started) (H : Type) (enc : TypeId × Value → H) :
    ReturnsInHanded {} Try.checked os 3 .any (Rows.recordOrderSpec.pre6 enc Try.prog Try.f3 Rows.recordOrderRow.domain false) (Rows.recordOrderSpec.post enc Try.prog Try.f3 false true false false) := by
  refine returnsInHanded_of_change (C := Try.checked) own0 started (by kernel_rfl) Try.func3
    (ChangeSpec.witness6 (enc := enc) (C := Try.checked) false ⟨#[], #[.agg #[.int .u64 0, .int .u64 0, .int .u64 0, .int .u64 0], .agg #[.int .u64 0, .int .u64 0, .int .u64 0, .int .u64 0], .agg #[.int .u64 0, .int .u64 0, .int .u64 0, .int .u64 0, .int .u64 0, .int .u64 0, .int .u64 0, .int .u64 0, .int .u64 0, .int .u8 0, .int .u64 0, .int .u64 0, .int .u64 0, .int .u64 0, .int .u64 0, .int .u64 0, .int .u64 0, .int .u64 0, .int .u64 0, .int .u8 0]], []⟩ 8 (by kernel_rfl) (by kernel_rfl) (by kernel_rfl) (by kernel_rfl)) ?_
  intro W base args ds gs before hval0 hW hcnd _
  have hval : ∀ (j : Nat) t v, Try.f3.params[j]? = some t → args[j]? = some v → Value.okWide Try.prog W .any base t v := hval0
  clear hval0
  have hl := whole_length hW
  obtain ⟨c0, c1, c2, rfl⟩ := args3 (hl.trans rfl)
  rw [Try.params3] at hval
  obtain ⟨cs, rfl, hcs, hc⟩ := val_cells (ts := [22, 22, 22, 22]) (by kernel_rfl) (by kernel_rfl) (by kernel_rfl) (hval 0 26 c0 rfl rfl)
  obtain ⟨x0, x1, x2, x3, rfl⟩ := list4 hcs
  obtain ⟨ae, rfl, h_ae⟩ := int_ok Try.underlying22 (hc 0 22 x0 rfl rfl)
  replace h_ae := has_u64 h_ae
  obtain ⟨as_, rfl, h_as_⟩ := int_ok Try.underlying22 (hc 1 22 x1 rfl rfl)
  replace h_as_ := has_u64 h_as_
  obtain ⟨ah, rfl, h_ah⟩ := int_ok Try.underlying22 (hc 2 22 x2 rfl rfl)
  replace h_ah := has_u64 h_ah
  obtain ⟨al, rfl, h_al⟩ := int_ok Try.underlying22 (hc 3 22 x3 rfl rfl)
  replace h_al := has_u64 h_al
  clear hc hcs
  obtain ⟨cs, rfl, hcs, hc⟩ := val_cells (ts := [22, 22, 22, 22]) (by kernel_rfl) (by kernel_rfl) (by kernel_rfl) (hval 1 26 c1 rfl rfl)
  obtain ⟨x0, x1, x2, x3, rfl⟩ := list4 hcs
  obtain ⟨be, rfl, h_be⟩ := int_ok Try.underlying22 (hc 0 22 x0 rfl rfl)
  replace h_be := has_u64 h_be
  obtain ⟨bs, rfl, h_bs⟩ := int_ok Try.underlying22 (hc 1 22 x1 rfl rfl)
  replace h_bs := has_u64 h_bs
  obtain ⟨bh, rfl, h_bh⟩ := int_ok Try.underlying22 (hc 2 22 x2 rfl rfl)
  replace h_bh := has_u64 h_bh
  obtain ⟨bl, rfl, h_bl⟩ := int_ok Try.underlying22 (hc 3 22 x3 rfl rfl)
  replace h_bl := has_u64 h_bl
  clear hc hcs
  obtain ⟨cs, rfl, hcs, hc⟩ := val_cells (ts := [22, 22, 22, 22, 22, 22, 22, 22, 22, 5, 22, 22, 22, 22, 22, 22, 22, 22, 22, 5]) (by kernel_rfl) (by kernel_rfl) (by kernel_rfl) (hval 2 31 c2 rfl rfl)
  obtain ⟨x0, x1, x2, x3, x4, x5, x6, x7, x8, x9, x10, x11, x12, x13, x14, x15, x16, x17, x18, x19, rfl⟩ := list20 hcs
  obtain ⟨xp1, rfl, h_xp1⟩ := int_ok Try.underlying22 (hc 0 22 x0 rfl rfl)
  replace h_xp1 := has_u64 h_xp1
  obtain ⟨xp2, rfl, h_xp2⟩ := int_ok Try.underlying22 (hc 1 22 x1 rfl rfl)
  replace h_xp2 := has_u64 h_xp2
  obtain ⟨xq1, rfl, h_xq1⟩ := int_ok Try.underlying22 (hc 2 22 x2 rfl rfl)
  replace h_xq1 := has_u64 h_xq1
  obtain ⟨xq2, rfl, h_xq2⟩ := int_ok Try.underlying22 (hc 3 22 x3 rfl rfl)
  replace h_xq2 := has_u64 h_xq2
  obtain ⟨xr1, rfl, h_xr1⟩ := int_ok Try.underlying22 (hc 4 22 x4 rfl rfl)
  replace h_xr1 := has_u64 h_xr1
  obtain ⟨xr2, rfl, h_xr2⟩ := int_ok Try.underlying22 (hc 5 22 x5 rfl rfl)
  replace h_xr2 := has_u64 h_xr2
  obtain ⟨xs1, rfl, h_xs1⟩ := int_ok Try.underlying22 (hc 6 22 x6 rfl rfl)
  replace h_xs1 := has_u64 h_xs1
  obtain ⟨xs2, rfl, h_xs2⟩ := int_ok Try.underlying22 (hc 7 22 x7 rfl rfl)
  replace h_xs2 := has_u64 h_xs2
  obtain ⟨xst, rfl, h_xst⟩ := int_ok Try.underlying22 (hc 8 22 x8 rfl rfl)
  replace h_xst := has_u64 h_xst
  obtain ⟨xsd, rfl, h_xsd⟩ := int_ok Try.underlying5 (hc 9 5 x9 rfl rfl)
  replace h_xsd := has_u8 h_xsd
  obtain ⟨yp1, rfl, h_yp1⟩ := int_ok Try.underlying22 (hc 10 22 x10 rfl rfl)
  replace h_yp1 := has_u64 h_yp1
  obtain ⟨yp2, rfl, h_yp2⟩ := int_ok Try.underlying22 (hc 11 22 x11 rfl rfl)
  replace h_yp2 := has_u64 h_yp2
  obtain ⟨yq1, rfl, h_yq1⟩ := int_ok Try.underlying22 (hc 12 22 x12 rfl rfl)
  replace h_yq1 := has_u64 h_yq1
  obtain ⟨yq2, rfl, h_yq2⟩ := int_ok Try.underlying22 (hc 13 22 x13 rfl rfl)
  replace h_yq2 := has_u64 h_yq2
  obtain ⟨yr1, rfl, h_yr1⟩ := int_ok Try.underlying22 (hc 14 22 x14 rfl rfl)
  replace h_yr1 := has_u64 h_yr1
  obtain ⟨yr2, rfl, h_yr2⟩ := int_ok Try.underlying22 (hc 15 22 x15 rfl rfl)
  replace h_yr2 := has_u64 h_yr2
  obtain ⟨ys1, rfl, h_ys1⟩ := int_ok Try.underlying22 (hc 16 22 x16 rfl rfl)
  replace h_ys1 := has_u64 h_ys1
  obtain ⟨ys2, rfl, h_ys2⟩ := int_ok Try.underlying22 (hc 17 22 x17 rfl rfl)
  replace h_ys2 := has_u64 h_ys2
  obtain ⟨yst, rfl, h_yst⟩ := int_ok Try.underlying22 (hc 18 22 x18 rfl rfl)
  replace h_yst := has_u64 h_yst
  obtain ⟨ysd, rfl, h_ysd⟩ := int_ok Try.underlying5 (hc 19 5 x19 rfl rfl)
  replace h_ysd := has_u8 h_ysd
  clear hc hcs
  refine (recordOrder_any ae as_ ah al be bs bh bl xp1 xp2 xq1 xq2 xr1 xr2 xs1 xs2 xst xsd yp1 yp2 yq1 yq2 yr1 yr2 ys1 ys2 yst ysd h_ae h_as_ h_ah h_al h_be h_bs h_bh h_bl h_xp1 h_xp2 h_xq1 h_xq2 h_xr1 h_xr2 h_xs1 h_xs2 h_xst h_yp1 h_yp2 h_yq1 h_yq2 h_yr1 h_yr2 h_ys1 h_ys2 h_yst W).mono fun e W' ⟨he, hb⟩ => ?_
  subst he
  exact ⟨_, rfl, law_post hW rfl rfl Try.underlying4 (fun l hl => by obtain ⟨y0, y1, y2, rfl⟩ := list3 (hl.trans rfl); rfl) (by kernel_rfl) (by kernel_rfl) hb⟩

theorem recordOrder_holds : Rows.RecordOrderSaid :=
  OpenClaim.holds_of_wide 3 Try.f3 rfl rfl rfl rfl rfl rfl rfl ⟨rfl, rfl, rfl, rfl, rfl⟩ rfl rfl rfl rfl rfl (by kernel_rfl) Try.func3 (by kernel_rfl)
    (of_decide_eq_true (by kernel_rfl)) (by unfold Func.isWrapper; first | (rw [if_pos (by decide +kernel)]; kernel_rfl) | (rw [if_neg (by decide +kernel)]; exact ⟨rfl, rfl⟩))
    (fun os started H enc _ => recordOrder_lifted os started H enc)
#print axioms recordOrder_holds
end Go.Proofs.Ytflaeljjalpnkaa
