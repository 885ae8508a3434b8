/-
  The contracts of the reference's successor and Next. Condition: the word is one.
-/
import Derived.Test.YtcgfglgcjpjbaaaDoorWrdC
namespace Go.Proofs.YtcgfglgcjpjbaaaDoor
open Go.RowKit
set_option linter.unusedSimpArgs false
set_option linter.unusedVariables false

end Go.Proofs.YtcgfglgcjpjbaaaDoor
