/-
  DigitsReads, for every input: true; the input reads as it did. No condition.
-/
import Derived.Test.YtmlaehjjeadbeaaDm
import Derived.Test.YtmlaehjjeadbeaaStrA
import Derived.Test.YtmlaehjjeadbeaaLaw
namespace Go.Proofs.Ytmlaehjjeadbeaa
set_option linter.unusedVariables false
set_option linter.unusedSimpArgs false
open Go.ChangeShapes Go.WideShapes Go.ChangeAt Go.RowKit

set_option maxRecDepth 100000 in
theorem digitsReads_lifted (os : Os) (started : os.Started) (H : Type) (enc : TypeId × Value → H) :
    ReturnsInHanded {} Try.checked os 4 .any (Rows.digitsReadsSpec.pre6 enc Try.prog Try.f4 Rows.digitsReadsRow.domain false) (Rows.digitsReadsSpec.post enc Try.prog Try.f4 false true false false) := by
  refine returnsInHanded_of_change (C := Try.checked) own0 started (by kernel_rfl) Try.func4
    (ChangeSpec.witness6 (enc := enc) (C := Try.checked) false ⟨#[], #[.string { data := #[] }], []⟩ 8 (by kernel_rfl) (by kernel_rfl) (by kernel_rfl) (by kernel_rfl)) ?_
  intro W base args ds gs before hval0 hW hcnd _
  have hval : ∀ (j : Nat) t v, Try.f4.params[j]? = some t → args[j]? = some v → Value.okWide Try.prog W .any base t v := hval0
  clear hval0
  have hl := whole_length hW
  obtain ⟨c0, rfl⟩ := args1 (hl.trans rfl)
  rw [Try.params4] at hval
  obtain ⟨s, rfl, hn_s⟩ := val_str Try.underlying9 (hval 0 9 c0 rfl rfl)
  refine (digitsReads_all s hn_s W).mono fun e W' ⟨he, hb⟩ => ?_
  subst he
  exact ⟨_, rfl, law_post hW rfl rfl Try.underlying4 (fun l hl => by obtain ⟨y0, rfl⟩ := list1 (hl.trans rfl); rfl) (by kernel_rfl) (by kernel_rfl) hb⟩

theorem digitsReads_holds : Rows.DigitsReadsSaid :=
  OpenClaim.holds_of_wide 4 Try.f4 rfl rfl rfl rfl rfl rfl rfl ⟨rfl, rfl, rfl, rfl, rfl⟩ rfl rfl rfl rfl rfl (by kernel_rfl) Try.func4 (by kernel_rfl)
    (of_decide_eq_true (by kernel_rfl)) (by unfold Func.isWrapper; first | (rw [if_pos (by decide +kernel)]; kernel_rfl) | (rw [if_neg (by decide +kernel)]; exact ⟨rfl, rfl⟩))
    (fun os started H enc _ => digitsReads_lifted os started H enc)
#print axioms digitsReads_holds
end Go.Proofs.Ytmlaehjjeadbeaa
