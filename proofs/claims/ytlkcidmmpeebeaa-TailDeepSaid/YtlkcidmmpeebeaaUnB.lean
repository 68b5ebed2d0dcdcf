/- Proved: debuggerref09.Name on plain data -/
import Derived.Test.YtlkcidmmpeebeaaPcE
import Derived.Test.YtlkcidmmpeebeaaPcP
import Derived.Test.YtlkcidmmpeebeaaPSmall
set_option linter.unusedVariables false
set_option linter.unusedSimpArgs false
namespace Go.Proofs.Ytlkcidmmpeebeaa
open Go.RowKit Go.PX
set_option maxRecDepth 100000
end Go.Proofs.Ytlkcidmmpeebeaa

/- Proved: debuggerref09: Edges,Values,Top -/
namespace Go.Proofs.Ytlkcidmmpeebeaa
open Go.RowKit Go.PX
set_option maxRecDepth 100000
end Go.Proofs.Ytlkcidmmpeebeaa
