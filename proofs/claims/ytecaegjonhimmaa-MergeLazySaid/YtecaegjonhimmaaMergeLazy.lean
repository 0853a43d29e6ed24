/-
  MergeLazy, for every input: true; the input reads as it did. No condition.
-/
import Derived.Test.YtecaegjonhimmaaLzD
import Derived.Test.YtecaegjonhimmaaMgX
import Derived.Test.YtecaegjonhimmaaLaw
import Derived.Test.YtecaegjonhimmaaJ3
namespace Go.Proofs.Ytecaegjonhimmaa
set_option linter.unusedVariables false
set_option linter.unusedSimpArgs false
open Go.ChangeShapes Go.WideShapes Go.ChangeAt Go.RowKit

set_option maxRecDepth 100000 in
theorem mergeLazy_lifted (os : Os) (started : os.Started) (H : Type) (enc : TypeId × Value → H) :
    ReturnsInHanded {} Try.checked os 6 .any (Rows.mergeLazySpec.pre6 enc Try.prog Try.f6 Rows.mergeLazyRow.domain false) (Rows.mergeLazySpec.post enc Try.prog Try.f6 false true false false) := by
  refine returnsInHanded_of_change (C := Try.checked) own0 started (by kernel_rfl) Try.func6
    (ChangeSpec.witness6 (enc := enc) (C := Try.checked) false ⟨#[], #[.bool false, .slice none 0 0, .int .u8 0], []⟩ 8 (by kernel_rfl) (by kernel_rfl) (by kernel_rfl) (by kernel_rfl)) ?_
  intro W base args ds gs before hval0 hW hcnd _
  have hval : ∀ (j : Nat) t v, Try.f6.params[j]? = some t → args[j]? = some v → Value.okWide Try.prog W .any base t v := hval0
  clear hval0
  have hl := whole_length hW
  obtain ⟨c0, c1, c2, rfl⟩ := args3 (hl.trans rfl)
  rw [Try.params6] at hval
  obtain ⟨pp_, qq_, hA, _⟩ := id hW
  rw [Try.params6] at hA
  obtain ⟨dn, rfl⟩ := val_bool Try.underlying4 (hval 0 4 c0 rfl rfl)
  obtain ⟨_, _, _, _, _, _, hA1⟩ := trodAll_cons hA
  obtain ⟨d_1, ds_1, p_1, q_1, _, hT_1, hA2⟩ := trodAll_cons hA1
  obtain ⟨A_l, n_l, c_l, L_l, rfl, hn_l, hc_l, hs_l⟩ := open_lists2 (okWide_slice Try.underlying22 (hval 1 22 c1 rfl rfl)) hT_1
  obtain ⟨k, rfl, h_k⟩ := val_int Try.underlying5 (hval 2 5 c2 rfl rfl)
  replace h_k := has_u8 h_k
  obtain ⟨_, _, _, _, _, _, hA3⟩ := trodAll_cons hA2
  refine (mergeLazy_any dn A_l n_l c_l L_l hn_l hc_l k h_k.1 h_k.2 W hs_l).mono fun e W' ⟨he, hb⟩ => ?_
  subst he
  exact ⟨_, rfl, law_post hW rfl rfl Try.underlying4 (fun l hl => by obtain ⟨y0, y1, y2, rfl⟩ := list3 (hl.trans rfl); rfl) (by kernel_rfl) (by kernel_rfl) hb⟩

theorem mergeLazy_holds : Rows.MergeLazySaid :=
  OpenClaim.holds_of_wide 6 Try.f6 rfl rfl rfl rfl rfl rfl rfl ⟨rfl, rfl, rfl, rfl, rfl⟩ rfl rfl rfl rfl rfl (by kernel_rfl) Try.func6 (by kernel_rfl)
    (of_decide_eq_true (by kernel_rfl)) (by unfold Func.isWrapper; first | (rw [if_pos (by decide +kernel)]; kernel_rfl) | (rw [if_neg (by decide +kernel)]; exact ⟨rfl, rfl⟩))
    (fun os started H enc _ => mergeLazy_lifted os started H enc)
#print axioms mergeLazy_holds
end Go.Proofs.Ytecaegjonhimmaa
