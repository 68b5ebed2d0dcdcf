/- Proved: slices.Clone,Small -/
import Derived.Test.YtlkcidmmpeebeaaBlk
import Derived.Test.YtlkcidmmpeebeaaRfCheck
set_option linter.unusedVariables false
set_option linter.unusedSimpArgs false
namespace Go.Proofs.Ytlkcidmmpeebeaa
open Go.RowKit
set_option maxRecDepth 100000
end Go.Proofs.Ytlkcidmmpeebeaa
