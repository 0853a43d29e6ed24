/-
  A world whose package variables hold the laid tables (door seat alone).
-/
import Derived.Test.YtmlaehjjeadbeaaDoorDr
import Derived.Test.YtmlaehjjeadbeaaDoorLaw
namespace Go.Proofs.YtmlaehjjeadbeaaDoor
set_option linter.unusedVariables false
set_option linter.unusedSimpArgs false
open Go.ChangeShapes Go.WideShapes Go.ChangeAt Go.RowKit

/-- the values of a laid table -/
def tabVals : DataW Unit → Array Value
  | .agg l => (l.filterMap fun | .lit (.int k n) => some (Value.int k n) | _ => none).toArray
  | _ => #[]
noncomputable def laidWorld (os : Os) : World :=
  let w0 := World.holding Tryd.prog os ⟨#[], #[], []⟩
  { w0 with heap := ((w0.heap.modify 2 fun
      | .cells _ t frozen => .cells (tabVals Rows.laid_internal_strconv_uint64pow10) t frozen
      | o => o).modify 3 fun
      | .cells _ t frozen => .cells (tabVals Rows.laid_math_bits_deBruijn32tab) t frozen
      | o => o).modify 4 fun
      | .cells _ t frozen => .cells (tabVals Rows.laid_math_bits_deBruijn64tab) t frozen
      | o => o }
end Go.Proofs.YtmlaehjjeadbeaaDoor
