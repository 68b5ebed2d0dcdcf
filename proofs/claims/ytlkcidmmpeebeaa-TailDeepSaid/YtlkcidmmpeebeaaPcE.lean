/- Proved: small functions of the sink -/
import Derived.Test.YtlkcidmmpeebeaaCkD
set_option linter.unusedVariables false
set_option linter.unusedSimpArgs false
namespace Go.Proofs.Ytlkcidmmpeebeaa
open Go.RowKit Go.PX
set_option maxRecDepth 100000
end Go.Proofs.Ytlkcidmmpeebeaa
