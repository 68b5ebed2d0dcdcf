/- Proved: ref06.ops -/
import Derived.Test.YtlkcidmmpeebeaaValues
import Derived.Test.YtlkcidmmpeebeaaScC
set_option linter.unusedVariables false
set_option linter.unusedSimpArgs false
namespace Go.Proofs.Ytlkcidmmpeebeaa
open Go.RowKit
set_option maxRecDepth 100000
def stepB (c:CodeD) (params:Int) (all K:List Int) (o:OpD):Bool:=R.head K o&&(!R.defines o.kind||!(decide (o.dst<params)||decide (9999<o.dst)||R.has K o.dst))&&R.tail c all o
end Go.Proofs.Ytlkcidmmpeebeaa
