/-
  DigitsTexts, for every input: true; the input reads as it did. No condition.
-/
import Derived.Test.YtmlaehjjeadbeaaDoorDr
import Derived.Test.YtmlaehjjeadbeaaDoorLaw
import Derived.Test.YtmlaehjjeadbeaaDoorLaidW
namespace Go.Proofs.YtmlaehjjeadbeaaDoor
set_option linter.unusedVariables false
set_option linter.unusedSimpArgs false
open Go.ChangeShapes Go.WideShapes Go.ChangeAt Go.RowKit

theorem laid_met (os : Os) (args : Array Value) : laidMet Tryd.prog Rows.digitsTextsRow.laid ((laidWorld os).forCall (fun _ _ => 0) ⟨#[], args, []⟩).memory :=
  laidMet_of_run' 8 (by kernel_rfl) (by kernel_rfl)
set_option maxRecDepth 100000 in
theorem digitsTexts_lifted (os : Os) (started : os.Started) (H : Type) (enc : TypeId × Value → H) :
    ReturnsInHanded {} Tryd.checked os 3 .any (fun w args => (Rows.digitsTextsSpec.pre enc Tryd.prog Tryd.f3 Rows.digitsTextsRow.domain false w args ∧ laidMet Tryd.prog Rows.digitsTextsRow.laid w) ∧ sizedMet enc Tryd.prog Tryd.f3 (OpenSpec.ofChange Rows.digitsTextsSpec) false w args) (Rows.digitsTextsSpec.post enc Tryd.prog Tryd.f3 false true false false) := by
  refine returnsInHanded_of_change_and (C := Tryd.checked) (X := fun w _ => laidMet Tryd.prog Rows.digitsTextsRow.laid w) (fun _ _ _ hh h => h.of_heap hh) own0 started (by kernel_rfl) Tryd.func3
    (ChangeSpec.witness_at (enc := enc) (C := Tryd.checked) (os := os) (X := fun w _ => laidMet Tryd.prog Rows.digitsTextsRow.laid w) false (laidWorld os) #[.agg #[.int .u64 0, .int .u64 0]] 8 rfl (by kernel_rfl) (by kernel_rfl) (by kernel_rfl) (by kernel_rfl) (by kernel_rfl) (laid_met os _)) ?_
  intro W base args ds gs before hval0 hW hcnd _ hL _
  have hval : ∀ (j : Nat) t v, Tryd.f3.params[j]? = some t → args[j]? = some v → Value.okWide Tryd.prog W .any base t v := hval0
  clear hval0
  have hl := whole_length hW
  obtain ⟨c0, rfl⟩ := args1 (hl.trans rfl)
  rw [Tryd.params3] at hval
  obtain ⟨cs, rfl, hcs, hc⟩ := val_cells (ts := [22, 22]) (by kernel_rfl) (by kernel_rfl) (by kernel_rfl) (hval 0 24 c0 rfl rfl)
  obtain ⟨x0, x1, rfl⟩ := list2 hcs
  obtain ⟨a, rfl, h_a⟩ := int_ok Tryd.underlying22 (hc 0 22 x0 rfl rfl)
  replace h_a := has_u64 h_a
  obtain ⟨b, rfl, h_b⟩ := int_ok Tryd.underlying22 (hc 1 22 x1 rfl rfl)
  replace h_b := has_u64 h_b
  clear hc hcs
  refine (digitsTexts_any a b h_a h_b W (htab_of hL)).mono fun e W' ⟨he, hb⟩ => ?_
  subst he
  exact ⟨_, rfl, law_post hW rfl rfl Tryd.underlying4 (fun l hl => by obtain ⟨y0, rfl⟩ := list1 (hl.trans rfl); rfl) (by kernel_rfl) (by kernel_rfl) hb⟩

theorem digitsTexts_holds : Rows.DigitsTextsSaid :=
  OpenClaim.holds_of_wide 3 Tryd.f3 rfl rfl rfl rfl rfl rfl rfl ⟨rfl, rfl, rfl, rfl, rfl⟩ rfl rfl rfl rfl rfl (by kernel_rfl) Tryd.func3 (by kernel_rfl)
    (of_decide_eq_true (by kernel_rfl)) (by unfold Func.isWrapper; first | (rw [if_pos (by decide +kernel)]; kernel_rfl) | (rw [if_neg (by decide +kernel)]; exact ⟨rfl, rfl⟩))
    (fun os started H enc _ => digitsTexts_lifted os started H enc)
#print axioms digitsTexts_holds
end Go.Proofs.YtmlaehjjeadbeaaDoor
