/-
  A number's bytes as a text: the document's, walked.
-/
import Derived.Test.YtbmdnifkjcimcaaWideB
import Derived.Test.YtbmdnifkjcimcaaJ2
namespace Go.Proofs.Ytbmdnifkjcimcaa
set_option linter.unusedVariables false
set_option linter.unusedSimpArgs false
open Go.RowKit

end Go.Proofs.Ytbmdnifkjcimcaa
