/-
  KeyRows, for every input: true; the input reads as it did. No condition.
-/
import Derived.Test.YtkgjpebekcgagaaKk
import Derived.Test.YtkgjpebekcgagaaLaw
import Derived.Test.YtkgjpebekcgagaaByArg
namespace Go.Proofs.Ytkgjpebekcgagaa
set_option linter.unusedVariables false
set_option linter.unusedSimpArgs false
open Go.ChangeShapes Go.WideShapes Go.ChangeAt Go.RowKit

set_option maxRecDepth 100000 in
theorem keyRows_lifted (os : Os) (started : os.Started) (H : Type) (enc : TypeId × Value → H) :
    ReturnsInHanded {} Try.checked os 3 .any (Rows.keyRowsSpec.pre6 enc Try.prog Try.f3 Rows.keyRowsRow.domain false) (Rows.keyRowsSpec.post enc Try.prog Try.f3 false true false false) := by
  refine returnsInHanded_of_change (C := Try.checked) own0 started (by kernel_rfl) Try.func3
    (ChangeSpec.witness6 (enc := enc) (C := Try.checked) false ⟨#[], #[.slice none 0 0, .slice none 0 0, .int .i64 0], []⟩ 8 (by kernel_rfl) (by kernel_rfl) (by kernel_rfl) (by kernel_rfl)) ?_
  intro W base args ds gs before hval0 hW hcnd _
  have hval : ∀ (j : Nat) t v, Try.f3.params[j]? = some t → args[j]? = some v → Value.okWide Try.prog W .any base t v := hval0
  clear hval0
  have hl := whole_length hW
  obtain ⟨c0, c1, c2, rfl⟩ := args3 (hl.trans rfl)
  rw [Try.params3] at hval
  obtain ⟨pp_, qq_, hA, _⟩ := id hW
  rw [Try.params3] at hA
  obtain ⟨d_0, ds_0, p_0, q_0, _, hT_0, hA1⟩ := trodAll_cons hA
  obtain ⟨A_a, n_a, c_a, x_a, rfl, hn_a, hs_a, hd_a⟩ := open_bytes Try.underlying22 Try.underlying5 (by kernel_rfl) (okWide_slice Try.underlying22 (hval 0 22 c0 rfl rfl)) hT_0
  obtain ⟨d_1, ds_1, p_1, q_1, _, hT_1, hA2⟩ := trodAll_cons hA1
  obtain ⟨A_b, n_b, c_b, x_b, rfl, hn_b, hs_b, hd_b⟩ := open_bytes Try.underlying22 Try.underlying5 (by kernel_rfl) (okWide_slice Try.underlying22 (hval 1 22 c1 rfl rfl)) hT_1
  obtain ⟨n, rfl, h_n⟩ := val_int Try.underlying3 (hval 2 3 c2 rfl rfl)
  replace h_n := has_i64 h_n
  obtain ⟨_, _, _, _, _, _, hA3⟩ := trodAll_cons hA2
  refine (keyRows_any A_a n_a c_a x_a hd_a hn_a A_b n_b c_b x_b hd_b hn_b n W hs_a hs_b).mono fun e W' ⟨he, hb⟩ => ?_
  subst he
  exact ⟨_, rfl, law_post hW rfl rfl Try.underlying4 (fun l hl => by obtain ⟨y0, y1, y2, rfl⟩ := list3 (hl.trans rfl); rfl) (by kernel_rfl) (by kernel_rfl) hb⟩

theorem keyRows_holds : Rows.KeyRowsSaid :=
  OpenClaim.holds_of_wide 3 Try.f3 rfl rfl rfl rfl rfl rfl rfl ⟨rfl, rfl, rfl, rfl, rfl⟩ rfl rfl rfl rfl rfl (by kernel_rfl) Try.func3 (by kernel_rfl)
    (of_decide_eq_true (by kernel_rfl)) (by unfold Func.isWrapper; first | (rw [if_pos (by decide +kernel)]; kernel_rfl) | (rw [if_neg (by decide +kernel)]; exact ⟨rfl, rfl⟩))
    (fun os started H enc _ => keyRows_lifted os started H enc)
#print axioms keyRows_holds
end Go.Proofs.Ytkgjpebekcgagaa
