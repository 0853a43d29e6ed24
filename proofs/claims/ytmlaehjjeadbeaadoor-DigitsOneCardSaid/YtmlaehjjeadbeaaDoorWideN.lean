/-
  A number's bytes as a text: the document's, walked.
-/
import Derived.Test.YtmlaehjjeadbeaaDoorWideB
import Derived.Test.YtmlaehjjeadbeaaDoorBytesL
namespace Go.Proofs.YtmlaehjjeadbeaaDoor
set_option linter.unusedVariables false
set_option linter.unusedSimpArgs false
open Go.RowKit

end Go.Proofs.YtmlaehjjeadbeaaDoor
