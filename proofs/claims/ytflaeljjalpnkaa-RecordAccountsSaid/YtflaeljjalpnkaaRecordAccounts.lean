/-
  RecordAccounts, for every input: true; the input reads as it did. No condition.
-/
import Derived.Test.YtflaeljjalpnkaaRecV
import Derived.Test.YtflaeljjalpnkaaLaw
namespace Go.Proofs.Ytflaeljjalpnkaa
set_option linter.unusedVariables false
set_option linter.unusedSimpArgs false
open Go.ChangeShapes Go.WideShapes Go.ChangeAt Go.RowKit

set_option maxRecDepth 100000 in
theorem recordAccounts_lifted (os : Os) (started : os.Started) (H : Type) (enc : TypeId × Value → H) :
    ReturnsInHanded {} Try.checked os 5 .any (Rows.recordAccountsSpec.pre6 enc Try.prog Try.f5 Rows.recordAccountsRow.domain false) (Rows.recordAccountsSpec.post enc Try.prog Try.f5 false true false false) := by
  refine returnsInHanded_of_change (C := Try.checked) own0 started (by kernel_rfl) Try.func5
    (ChangeSpec.witness6 (enc := enc) (C := Try.checked) false ⟨#[], #[.agg #[.int .u64 0, .int .u64 0, .int .u64 0, .int .u64 0, .int .u64 0, .int .u64 0, .int .u64 0, .int .u64 0, .int .u64 0, .int .u64 0, .int .u64 0, .int .u32 0, .int .u16 0, .int .u16 0, .int .u64 0]], []⟩ 8 (by kernel_rfl) (by kernel_rfl) (by kernel_rfl) (by kernel_rfl)) ?_
  intro W base args ds gs before hval0 hW hcnd _
  have hval : ∀ (j : Nat) t v, Try.f5.params[j]? = some t → args[j]? = some v → Value.okWide Try.prog W .any base t v := hval0
  clear hval0
  have hl := whole_length hW
  obtain ⟨c0, rfl⟩ := args1 (hl.trans rfl)
  rw [Try.params5] at hval
  obtain ⟨cs, rfl, hcs, hc⟩ := val_cells (ts := [22, 22, 22, 22, 22, 22, 22, 22, 22, 22, 22, 39, 54, 54, 22]) (by kernel_rfl) (by kernel_rfl) (by kernel_rfl) (hval 0 56 c0 rfl rfl)
  obtain ⟨x0, x1, x2, x3, x4, x5, x6, x7, x8, x9, x10, x11, x12, x13, x14, rfl⟩ := list15 hcs
  obtain ⟨xi1, rfl, h_xi1⟩ := int_ok Try.underlying22 (hc 0 22 x0 rfl rfl)
  replace h_xi1 := has_u64 h_xi1
  obtain ⟨xi2, rfl, h_xi2⟩ := int_ok Try.underlying22 (hc 1 22 x1 rfl rfl)
  replace h_xi2 := has_u64 h_xi2
  obtain ⟨xp1, rfl, h_xp1⟩ := int_ok Try.underlying22 (hc 2 22 x2 rfl rfl)
  replace h_xp1 := has_u64 h_xp1
  obtain ⟨xp2, rfl, h_xp2⟩ := int_ok Try.underlying22 (hc 3 22 x3 rfl rfl)
  replace h_xp2 := has_u64 h_xp2
  obtain ⟨xq1, rfl, h_xq1⟩ := int_ok Try.underlying22 (hc 4 22 x4 rfl rfl)
  replace h_xq1 := has_u64 h_xq1
  obtain ⟨xq2, rfl, h_xq2⟩ := int_ok Try.underlying22 (hc 5 22 x5 rfl rfl)
  replace h_xq2 := has_u64 h_xq2
  obtain ⟨xr1, rfl, h_xr1⟩ := int_ok Try.underlying22 (hc 6 22 x6 rfl rfl)
  replace h_xr1 := has_u64 h_xr1
  obtain ⟨xr2, rfl, h_xr2⟩ := int_ok Try.underlying22 (hc 7 22 x7 rfl rfl)
  replace h_xr2 := has_u64 h_xr2
  obtain ⟨xs1, rfl, h_xs1⟩ := int_ok Try.underlying22 (hc 8 22 x8 rfl rfl)
  replace h_xs1 := has_u64 h_xs1
  obtain ⟨xs2, rfl, h_xs2⟩ := int_ok Try.underlying22 (hc 9 22 x9 rfl rfl)
  replace h_xs2 := has_u64 h_xs2
  obtain ⟨xtg, rfl, h_xtg⟩ := int_ok Try.underlying22 (hc 10 22 x10 rfl rfl)
  replace h_xtg := has_u64 h_xtg
  obtain ⟨xlg, rfl, h_xlg⟩ := int_ok Try.underlying39 (hc 11 39 x11 rfl rfl)
  replace h_xlg := has_u32 h_xlg
  obtain ⟨xcd, rfl, h_xcd⟩ := int_ok Try.underlying54 (hc 12 54 x12 rfl rfl)
  replace h_xcd := has_u16 h_xcd
  obtain ⟨xfl, rfl, h_xfl⟩ := int_ok Try.underlying54 (hc 13 54 x13 rfl rfl)
  replace h_xfl := has_u16 h_xfl
  obtain ⟨xst, rfl, h_xst⟩ := int_ok Try.underlying22 (hc 14 22 x14 rfl rfl)
  replace h_xst := has_u64 h_xst
  clear hc hcs
  refine (recordAccounts_any xi1 xi2 xp1 xp2 xq1 xq2 xr1 xr2 xs1 xs2 xtg xlg xcd xfl xst h_xi1 h_xi2 h_xp1 h_xp2 h_xq1 h_xq2 h_xr1 h_xr2 h_xs1 h_xs2 h_xtg h_xlg h_xcd h_xfl h_xst W).mono fun e W' ⟨he, hb⟩ => ?_
  subst he
  exact ⟨_, rfl, law_post hW rfl rfl Try.underlying4 (fun l hl => by obtain ⟨y0, rfl⟩ := list1 (hl.trans rfl); rfl) (by kernel_rfl) (by kernel_rfl) hb⟩

theorem recordAccounts_holds : Rows.RecordAccountsSaid :=
  OpenClaim.holds_of_wide 5 Try.f5 rfl rfl rfl rfl rfl rfl rfl ⟨rfl, rfl, rfl, rfl, rfl⟩ rfl rfl rfl rfl rfl (by kernel_rfl) Try.func5 (by kernel_rfl)
    (of_decide_eq_true (by kernel_rfl)) (by unfold Func.isWrapper; first | (rw [if_pos (by decide +kernel)]; kernel_rfl) | (rw [if_neg (by decide +kernel)]; exact ⟨rfl, rfl⟩))
    (fun os started H enc _ => recordAccounts_lifted os started H enc)
#print axioms recordAccounts_holds
end Go.Proofs.Ytflaeljjalpnkaa
