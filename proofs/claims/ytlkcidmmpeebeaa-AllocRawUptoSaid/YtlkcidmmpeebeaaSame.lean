/- Proved: same.Code -/
import Derived.Test.YtlkcidmmpeebeaaScE
import Derived.Test.YtlkcidmmpeebeaaTl
set_option linter.unusedVariables false
set_option linter.unusedSimpArgs false
namespace Go.Proofs.Ytlkcidmmpeebeaa
open Go.RowKit
set_option maxRecDepth 100000
end Go.Proofs.Ytlkcidmmpeebeaa
