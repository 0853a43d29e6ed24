/-
  A string as an argument.
-/
import Derived.Test.YtmlaehjjeadbeaaDoorLaw
namespace Go.Proofs.YtmlaehjjeadbeaaDoor
set_option linter.unusedVariables false
set_option linter.unusedSimpArgs false
open Go.ChangeShapes Go.WideShapes Go.ChangeAt Go.RowKit

theorem val_str {P : Program} {w : World} {r : Reach} {base : Nat} {t : TypeId} {v : Value} (ht : P.underlying t = some .string) (h : Value.okWide P w r base t v) : ∃ s : ByteArray, v = .string s ∧ s.size ≤ maxLen := by
  unfold Value.okWide at h
  rw [ht] at h
  simp only at h
  unfold Cell.okWide at h
  rw [ht] at h
  cases v <;> simp [Cell.ok, ht] at h
  refine ⟨_, rfl, ?_⟩
  have e : IntKind.i64.max = 9223372036854775807 := by decide
  first
    | (rw [e] at h; unfold maxLen; omega)
    | (unfold maxLen; omega)
end Go.Proofs.YtmlaehjjeadbeaaDoor
