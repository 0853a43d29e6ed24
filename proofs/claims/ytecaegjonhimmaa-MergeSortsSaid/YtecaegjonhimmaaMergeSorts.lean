/-
  MergeSorts, for every input: true; the input reads as it did. No condition.
-/
import Derived.Test.YtecaegjonhimmaaSoC
import Derived.Test.YtecaegjonhimmaaMgX
import Derived.Test.YtecaegjonhimmaaLaw
import Derived.Test.YtecaegjonhimmaaJ3
namespace Go.Proofs.Ytecaegjonhimmaa
set_option linter.unusedVariables false
set_option linter.unusedSimpArgs false
open Go.ChangeShapes Go.WideShapes Go.ChangeAt Go.RowKit

set_option maxRecDepth 100000 in
theorem mergeSorts_lifted (os : Os) (started : os.Started) (H : Type) (enc : TypeId × Value → H) :
    ReturnsInHanded {} Try.checked os 5 .any (Rows.mergeSortsSpec.pre6 enc Try.prog Try.f5 Rows.mergeSortsRow.domain false) (Rows.mergeSortsSpec.post enc Try.prog Try.f5 false true false false) := by
  refine returnsInHanded_of_change (C := Try.checked) own0 started (by kernel_rfl) Try.func5
    (ChangeSpec.witness6 (enc := enc) (C := Try.checked) false ⟨#[], #[.slice none 0 0], []⟩ 8 (by kernel_rfl) (by kernel_rfl) (by kernel_rfl) (by kernel_rfl)) ?_
  intro W base args ds gs before hval0 hW hcnd _
  have hval : ∀ (j : Nat) t v, Try.f5.params[j]? = some t → args[j]? = some v → Value.okWide Try.prog W .any base t v := hval0
  clear hval0
  have hl := whole_length hW
  obtain ⟨c0, rfl⟩ := args1 (hl.trans rfl)
  rw [Try.params5] at hval
  obtain ⟨pp_, qq_, hA, _⟩ := id hW
  rw [Try.params5] at hA
  obtain ⟨d_0, ds_0, p_0, q_0, _, hT_0, hA1⟩ := trodAll_cons hA
  obtain ⟨A_l, n_l, c_l, L_l, rfl, hn_l, hc_l, hs_l⟩ := open_uss (okWide_slice Try.underlying44 (hval 0 44 c0 rfl rfl)) hT_0
  refine (mergeSorts_any A_l n_l c_l L_l.1 L_l.2 hn_l hc_l W hs_l).mono fun e W' ⟨he, hb⟩ => ?_
  subst he
  exact ⟨_, rfl, law_post hW rfl rfl Try.underlying4 (fun l hl => by obtain ⟨y0, rfl⟩ := list1 (hl.trans rfl); rfl) (by kernel_rfl) (by kernel_rfl) hb⟩

theorem mergeSorts_holds : Rows.MergeSortsSaid :=
  OpenClaim.holds_of_wide 5 Try.f5 rfl rfl rfl rfl rfl rfl rfl ⟨rfl, rfl, rfl, rfl, rfl⟩ rfl rfl rfl rfl rfl (by kernel_rfl) Try.func5 (by kernel_rfl)
    (of_decide_eq_true (by kernel_rfl)) (by unfold Func.isWrapper; first | (rw [if_pos (by decide +kernel)]; kernel_rfl) | (rw [if_neg (by decide +kernel)]; exact ⟨rfl, rfl⟩))
    (fun os started H enc _ => mergeSorts_lifted os started H enc)
#print axioms mergeSorts_holds
end Go.Proofs.Ytecaegjonhimmaa
