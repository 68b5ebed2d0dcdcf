/- Proved: ref06.term -/
import Derived.Test.YtlkcidmmpeebeaaHeads
set_option linter.unusedVariables false
set_option linter.unusedSimpArgs false
namespace Go.Proofs.Ytlkcidmmpeebeaa
open Go.RowKit
set_option maxRecDepth 100000
end Go.Proofs.Ytlkcidmmpeebeaa
