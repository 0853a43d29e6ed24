/-
  A number's bytes as a text: the document's, walked.
-/
import Derived.Test.YtmlaehjjeadbeaaWideB
import Derived.Test.YtmlaehjjeadbeaaBytesL
namespace Go.Proofs.Ytmlaehjjeadbeaa
set_option linter.unusedVariables false
set_option linter.unusedSimpArgs false
open Go.RowKit

end Go.Proofs.Ytmlaehjjeadbeaa
