/- Proved: ref06.Values -/
import Derived.Test.YtlkcidmmpeebeaaOwn
import Derived.Test.YtlkcidmmpeebeaaIrCheck
set_option linter.unusedVariables false
set_option linter.unusedSimpArgs false
namespace Go.Proofs.Ytlkcidmmpeebeaa
open Go.RowKit
set_option maxRecDepth 100000
end Go.Proofs.Ytlkcidmmpeebeaa
