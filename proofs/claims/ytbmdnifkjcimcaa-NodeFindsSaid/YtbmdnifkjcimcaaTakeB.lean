/-
  Wide numbers taken from bytes; filters and results of bytes: the program's, walked.
-/
import Derived.Test.YtbmdnifkjcimcaaTakeA
namespace Go.Proofs.Ytbmdnifkjcimcaa
set_option linter.unusedVariables false
set_option linter.unusedSimpArgs false
open Go.RowKit

theorem setCell_twice (w : World) (a : Addr) (u v : Value) : (w.setCell a u).setCell a v = w.setCell a v := by
  unfold World.setCell
  congr 1
  apply Array.ext_getElem?
  intro i
  simp only [Array.getElem?_modify]
  by_cases h : a.block = i
  · simp only [h, if_true]
    cases w.heap[i]? with
    | none => rfl
    | some o => cases o with
      | cells c t f =>
        simp only [Option.map_some]
        split
        · simp_all
        · simp_all
      | _ => rfl
  · simp [h]

end Go.Proofs.Ytbmdnifkjcimcaa
