/-
  WideBytes, for every input: true; the input reads as it did. No condition.
-/
import Derived.Test.YtlmcneonbdgcnaaWideO
import Derived.Test.YtlmcneonbdgcnaaLaw
import Derived.Test.YtlmcneonbdgcnaaByArg
namespace Go.Proofs.Ytlmcneonbdgcnaa
set_option linter.unusedVariables false
set_option linter.unusedSimpArgs false
open Go.ChangeShapes Go.WideShapes Go.ChangeAt Go.RowKit

set_option maxRecDepth 100000 in
theorem wideBytes_lifted (os : Os) (started : os.Started) (H : Type) (enc : TypeId × Value → H) :
    ReturnsInHanded {} Try.checked os 7 .any (Rows.wideBytesSpec.pre6 enc Try.prog Try.f7 Rows.wideBytesRow.domain false) (Rows.wideBytesSpec.post enc Try.prog Try.f7 false true false false) := by
  refine returnsInHanded_of_change (C := Try.checked) own0 started (by kernel_rfl) Try.func7
    (ChangeSpec.witness6 (enc := enc) (C := Try.checked) false ⟨#[], #[.agg #[.int .u64 0, .int .u64 0], .agg #[.int .u64 0, .int .u64 0], .slice none 0 0], []⟩ 8 (by kernel_rfl) (by kernel_rfl) (by kernel_rfl) (by kernel_rfl)) ?_
  intro W base args ds gs before hval0 hW hcnd _
  have hval : ∀ (j : Nat) t v, Try.f7.params[j]? = some t → args[j]? = some v → Value.okWide Try.prog W .any base t v := hval0
  clear hval0
  have hl := whole_length hW
  obtain ⟨c0, c1, c2, rfl⟩ := args3 (hl.trans rfl)
  rw [Try.params7] at hval
  obtain ⟨pp_, qq_, hA, _⟩ := id hW
  rw [Try.params7] at hA
  obtain ⟨cs, rfl, hcs, hc⟩ := val_cells (ts := [24, 24]) (by kernel_rfl) (by kernel_rfl) (by kernel_rfl) (hval 0 26 c0 rfl rfl)
  obtain ⟨x0, x1, rfl⟩ := list2 hcs
  obtain ⟨a, rfl, h_a⟩ := int_ok Try.underlying24 (hc 0 24 x0 rfl rfl)
  replace h_a := has_u64 h_a
  obtain ⟨b, rfl, h_b⟩ := int_ok Try.underlying24 (hc 1 24 x1 rfl rfl)
  replace h_b := has_u64 h_b
  clear hc hcs
  obtain ⟨_, _, _, _, _, _, hA⟩ := trodAll_cons hA
  obtain ⟨cs, rfl, hcs, hc⟩ := val_cells (ts := [24, 24]) (by kernel_rfl) (by kernel_rfl) (by kernel_rfl) (hval 1 26 c1 rfl rfl)
  obtain ⟨x0, x1, rfl⟩ := list2 hcs
  obtain ⟨c, rfl, h_c⟩ := int_ok Try.underlying24 (hc 0 24 x0 rfl rfl)
  replace h_c := has_u64 h_c
  obtain ⟨d, rfl, h_d⟩ := int_ok Try.underlying24 (hc 1 24 x1 rfl rfl)
  replace h_d := has_u64 h_d
  clear hc hcs
  obtain ⟨_, _, _, _, _, _, hA⟩ := trodAll_cons hA
  obtain ⟨d_2, ds_2, p_2, q_2, _, hT_2, hA⟩ := trodAll_cons hA
  obtain ⟨A_s, n_s, c_s, x_s, rfl, hn_s, hs_s, hd_s⟩ := open_bytes Try.underlying37 Try.underlying5 (by kernel_rfl) (okWide_slice Try.underlying37 (hval 2 37 c2 rfl rfl)) hT_2
  refine (wideBytes_any a b c d h_a h_b h_c h_d A_s n_s c_s hn_s x_s hd_s W hs_s).mono fun e W' ⟨he, hb⟩ => ?_
  subst he
  exact ⟨_, rfl, law_post hW rfl rfl Try.underlying4 (fun l hl => by obtain ⟨y0, y1, y2, rfl⟩ := list3 (hl.trans rfl); rfl) (by kernel_rfl) (by kernel_rfl) hb⟩

theorem wideBytes_holds : Rows.WideBytesSaid :=
  OpenClaim.holds_of_wide 7 Try.f7 rfl rfl rfl rfl rfl rfl rfl ⟨rfl, rfl, rfl, rfl, rfl⟩ rfl rfl rfl rfl rfl (by kernel_rfl) Try.func7 (by kernel_rfl)
    (of_decide_eq_true (by kernel_rfl)) (by unfold Func.isWrapper; first | (rw [if_pos (by decide +kernel)]; kernel_rfl) | (rw [if_neg (by decide +kernel)]; exact ⟨rfl, rfl⟩))
    (fun os started H enc _ => wideBytes_lifted os started H enc)
#print axioms wideBytes_holds
end Go.Proofs.Ytlmcneonbdgcnaa
