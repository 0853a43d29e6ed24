/-
  MergeAll, for every input: true; the input reads as it did. No condition.
-/
import Derived.Test.YtecaegjonhimmaaMgW
import Derived.Test.YtecaegjonhimmaaMgX
import Derived.Test.YtecaegjonhimmaaLaw
import Derived.Test.YtecaegjonhimmaaByArg2
namespace Go.Proofs.Ytecaegjonhimmaa
set_option linter.unusedVariables false
set_option linter.unusedSimpArgs false
open Go.ChangeShapes Go.WideShapes Go.ChangeAt Go.RowKit

set_option maxRecDepth 100000 in
theorem mergeAll_lifted (os : Os) (started : os.Started) (H : Type) (enc : TypeId × Value → H) :
    ReturnsInHanded {} Try.checked os 3 .any (Rows.mergeAllSpec.pre6 enc Try.prog Try.f3 Rows.mergeAllRow.domain false) (Rows.mergeAllSpec.post enc Try.prog Try.f3 false true false false) := by
  refine returnsInHanded_of_change (C := Try.checked) own0 started (by kernel_rfl) Try.func3
    (ChangeSpec.witness6 (enc := enc) (C := Try.checked) false ⟨#[], #[.bool false, .slice none 0 0], []⟩ 8 (by kernel_rfl) (by kernel_rfl) (by kernel_rfl) (by kernel_rfl)) ?_
  intro W base args ds gs before hval0 hW hcnd _
  have hval : ∀ (j : Nat) t v, Try.f3.params[j]? = some t → args[j]? = some v → Value.okWide Try.prog W .any base t v := hval0
  clear hval0
  have hl := whole_length hW
  obtain ⟨c0, c1, rfl⟩ := args2 (hl.trans rfl)
  rw [Try.params3] at hval
  obtain ⟨pp_, qq_, hA, _⟩ := id hW
  rw [Try.params3] at hA
  obtain ⟨dn, rfl⟩ := val_bool Try.underlying4 (hval 0 4 c0 rfl rfl)
  obtain ⟨_, _, _, _, _, _, hA1⟩ := trodAll_cons hA
  obtain ⟨d_1, ds_1, p_1, q_1, _, hT_1, hA2⟩ := trodAll_cons hA1
  obtain ⟨A_l, n_l, c_l, L_l, rfl, hn_l, hc_l, hs_l⟩ := open_lists2 (okWide_slice Try.underlying22 (hval 1 22 c1 rfl rfl)) hT_1
  refine (mergeAll_any dn A_l n_l c_l L_l hn_l hc_l W hs_l).mono fun e W' ⟨he, hb⟩ => ?_
  subst he
  exact ⟨_, rfl, law_post hW rfl rfl Try.underlying4 (fun l hl => by obtain ⟨y0, y1, rfl⟩ := list2 (hl.trans rfl); rfl) (by kernel_rfl) (by kernel_rfl) hb⟩

theorem mergeAll_holds : Rows.MergeAllSaid :=
  OpenClaim.holds_of_wide 3 Try.f3 rfl rfl rfl rfl rfl rfl rfl ⟨rfl, rfl, rfl, rfl, rfl⟩ rfl rfl rfl rfl rfl (by kernel_rfl) Try.func3 (by kernel_rfl)
    (of_decide_eq_true (by kernel_rfl)) (by unfold Func.isWrapper; first | (rw [if_pos (by decide +kernel)]; kernel_rfl) | (rw [if_neg (by decide +kernel)]; exact ⟨rfl, rfl⟩))
    (fun os started H enc _ => mergeAll_lifted os started H enc)
#print axioms mergeAll_holds
end Go.Proofs.Ytecaegjonhimmaa
