/-
  Cells of structs that came as arguments: a cell of a struct, or of a struct in it.
-/
import Derived.Test.YtnbfnlpepnbppaaLaw
namespace Go.Proofs.Ytnbfnlpepnbppaa
set_option linter.unusedVariables false
set_option linter.unusedSimpArgs false

theorem take1 {cs : List Value} {p : Nat} {v : Value} (h : (cs.drop p).take 1 = [v]) : cs[p]? = some v := by
  have e : ((cs.drop p).take 1)[0]? = some v := by rw [h]; rfl
  rw [List.getElem?_take, if_pos (by omega), List.getElem?_drop] at e
  simpa using e
theorem take2 {cs : List Value} {p q m : Nat} {v : Value} (h : ((((cs.drop p).take m).drop q).take 1) = [v]) : cs[p + q]? = some v := by
  have e := take1 h
  rw [List.getElem?_take] at e
  split at e
  · rwa [List.getElem?_drop] at e
  · cases e
end Go.Proofs.Ytnbfnlpepnbppaa
