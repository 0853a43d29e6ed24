/-
  PostingAgain, for every input: true; the input reads as it did. No condition.
-/
import Derived.Test.YtpbnakoimlmhnaaPr3
import Derived.Test.YtpbnakoimlmhnaaLaw
namespace Go.Proofs.Ytpbnakoimlmhnaa
set_option linter.unusedVariables false
set_option linter.unusedSimpArgs false
open Go.ChangeShapes Go.WideShapes Go.ChangeAt Go.RowKit

set_option maxRecDepth 100000 in
theorem postingAgain_lifted (os : Os) (started : os.Started) (H : Type) (enc : TypeId × Value → H) :
    ReturnsInHanded {} Try.checked os 11 .any (Rows.postingAgainSpec.pre6 enc Try.prog Try.f11 Rows.postingAgainRow.domain false) (Rows.postingAgainSpec.post enc Try.prog Try.f11 false true false false) := by
  refine returnsInHanded_of_change (C := Try.checked) own0 started (by kernel_rfl) Try.func11
    (ChangeSpec.witness6 (enc := enc) (C := Try.checked) false ⟨#[], #[.agg #[.int .u64 0, .int .u64 0, .int .u64 0, .int .u64 0, .int .u64 0, .int .u64 0, .int .u64 0, .int .u64 0, .int .u64 0, .int .u64 0, .int .u64 0, .int .u32 0, .int .u32 0, .int .u16 0, .int .u16 0, .int .u64 0], .agg #[.int .u64 0, .int .u64 0], .agg #[.int .u64 0, .int .u64 0, .int .u64 0, .int .u64 0, .int .u32 0, .int .u32 0]], []⟩ 8 (by kernel_rfl) (by kernel_rfl) (by kernel_rfl) (by kernel_rfl)) ?_
  intro W base args ds gs before hval0 hW hcnd _
  have hval : ∀ (j : Nat) t v, Try.f11.params[j]? = some t → args[j]? = some v → Value.okWide Try.prog W .any base t v := hval0
  clear hval0
  have hl := whole_length hW
  obtain ⟨c0, c1, c2, rfl⟩ := args3 (hl.trans rfl)
  rw [Try.params11] at hval
  obtain ⟨cs, rfl, hcs, hc⟩ := val_cells (ts := [22, 22, 22, 22, 22, 22, 22, 22, 22, 22, 22, 25, 25, 26, 26, 22]) (by kernel_rfl) (by kernel_rfl) (by kernel_rfl) (hval 0 28 c0 rfl rfl)
  obtain ⟨x0, x1, x2, x3, x4, x5, x6, x7, x8, x9, x10, x11, x12, x13, x14, x15, rfl⟩ := list16 hcs
  obtain ⟨xi1, rfl, h_xi1⟩ := int_ok Try.underlying22 (hc 0 22 x0 rfl rfl)
  replace h_xi1 := has_u64 h_xi1
  obtain ⟨xi2, rfl, h_xi2⟩ := int_ok Try.underlying22 (hc 1 22 x1 rfl rfl)
  replace h_xi2 := has_u64 h_xi2
  obtain ⟨xd1, rfl, h_xd1⟩ := int_ok Try.underlying22 (hc 2 22 x2 rfl rfl)
  replace h_xd1 := has_u64 h_xd1
  obtain ⟨xd2, rfl, h_xd2⟩ := int_ok Try.underlying22 (hc 3 22 x3 rfl rfl)
  replace h_xd2 := has_u64 h_xd2
  obtain ⟨xc1, rfl, h_xc1⟩ := int_ok Try.underlying22 (hc 4 22 x4 rfl rfl)
  replace h_xc1 := has_u64 h_xc1
  obtain ⟨xc2, rfl, h_xc2⟩ := int_ok Try.underlying22 (hc 5 22 x5 rfl rfl)
  replace h_xc2 := has_u64 h_xc2
  obtain ⟨xm1, rfl, h_xm1⟩ := int_ok Try.underlying22 (hc 6 22 x6 rfl rfl)
  replace h_xm1 := has_u64 h_xm1
  obtain ⟨xm2, rfl, h_xm2⟩ := int_ok Try.underlying22 (hc 7 22 x7 rfl rfl)
  replace h_xm2 := has_u64 h_xm2
  obtain ⟨xw1, rfl, h_xw1⟩ := int_ok Try.underlying22 (hc 8 22 x8 rfl rfl)
  replace h_xw1 := has_u64 h_xw1
  obtain ⟨xw2, rfl, h_xw2⟩ := int_ok Try.underlying22 (hc 9 22 x9 rfl rfl)
  replace h_xw2 := has_u64 h_xw2
  obtain ⟨xtg, rfl, h_xtg⟩ := int_ok Try.underlying22 (hc 10 22 x10 rfl rfl)
  replace h_xtg := has_u64 h_xtg
  obtain ⟨xto, rfl, h_xto⟩ := int_ok Try.underlying25 (hc 11 25 x11 rfl rfl)
  replace h_xto := has_u32 h_xto
  obtain ⟨xlg, rfl, h_xlg⟩ := int_ok Try.underlying25 (hc 12 25 x12 rfl rfl)
  replace h_xlg := has_u32 h_xlg
  obtain ⟨xcd, rfl, h_xcd⟩ := int_ok Try.underlying26 (hc 13 26 x13 rfl rfl)
  replace h_xcd := has_u16 h_xcd
  obtain ⟨xfl, rfl, h_xfl⟩ := int_ok Try.underlying26 (hc 14 26 x14 rfl rfl)
  replace h_xfl := has_u16 h_xfl
  obtain ⟨xst, rfl, h_xst⟩ := int_ok Try.underlying22 (hc 15 22 x15 rfl rfl)
  replace h_xst := has_u64 h_xst
  clear hc hcs
  obtain ⟨cs, rfl, hcs, hc⟩ := val_cells (ts := [22, 22]) (by kernel_rfl) (by kernel_rfl) (by kernel_rfl) (hval 1 24 c1 rfl rfl)
  obtain ⟨x0, x1, rfl⟩ := list2 hcs
  obtain ⟨n1, rfl, h_n1⟩ := int_ok Try.underlying22 (hc 0 22 x0 rfl rfl)
  replace h_n1 := has_u64 h_n1
  obtain ⟨n2, rfl, h_n2⟩ := int_ok Try.underlying22 (hc 1 22 x1 rfl rfl)
  replace h_n2 := has_u64 h_n2
  clear hc hcs
  obtain ⟨cs, rfl, hcs, hc⟩ := val_cells (ts := [22, 22, 22, 22, 25, 25]) (by kernel_rfl) (by kernel_rfl) (by kernel_rfl) (hval 2 56 c2 rfl rfl)
  obtain ⟨x0, x1, x2, x3, x4, x5, rfl⟩ := list6 hcs
  obtain ⟨fa, rfl, h_fa⟩ := int_ok Try.underlying22 (hc 0 22 x0 rfl rfl)
  replace h_fa := has_u64 h_fa
  obtain ⟨fb, rfl, h_fb⟩ := int_ok Try.underlying22 (hc 1 22 x1 rfl rfl)
  replace h_fb := has_u64 h_fb
  obtain ⟨fr, rfl, h_fr⟩ := int_ok Try.underlying22 (hc 2 22 x2 rfl rfl)
  replace h_fr := has_u64 h_fr
  obtain ⟨tv, rfl, h_tv⟩ := int_ok Try.underlying22 (hc 3 22 x3 rfl rfl)
  replace h_tv := has_u64 h_tv
  obtain ⟨lm, rfl, h_lm⟩ := int_ok Try.underlying25 (hc 4 25 x4 rfl rfl)
  replace h_lm := has_u32 h_lm
  obtain ⟨fg, rfl, h_fg⟩ := int_ok Try.underlying25 (hc 5 25 x5 rfl rfl)
  replace h_fg := has_u32 h_fg
  clear hc hcs
  refine (postingAgain_any xi1 xi2 xd1 xd2 xc1 xc2 xm1 xm2 xw1 xw2 xtg xto xlg xcd xfl xst n1 n2 fa fb fr tv lm fg h_xm2 h_xtg h_xto h_xw1 h_tv h_lm h_fg W).mono fun e W' ⟨he, hb⟩ => ?_
  subst he
  exact ⟨_, rfl, law_post hW rfl rfl Try.underlying4 (fun l hl => by obtain ⟨y0, y1, y2, rfl⟩ := list3 (hl.trans rfl); rfl) (by kernel_rfl) (by kernel_rfl) hb⟩

theorem postingAgain_holds : Rows.PostingAgainSaid :=
  OpenClaim.holds_of_wide 11 Try.f11 rfl rfl rfl rfl rfl rfl rfl ⟨rfl, rfl, rfl, rfl, rfl⟩ rfl rfl rfl rfl rfl (by kernel_rfl) Try.func11 (by kernel_rfl)
    (of_decide_eq_true (by kernel_rfl)) (by unfold Func.isWrapper; first | (rw [if_pos (by decide +kernel)]; kernel_rfl) | (rw [if_neg (by decide +kernel)]; exact ⟨rfl, rfl⟩))
    (fun os started H enc _ => postingAgain_lifted os started H enc)
#print axioms postingAgain_holds
end Go.Proofs.Ytpbnakoimlmhnaa
