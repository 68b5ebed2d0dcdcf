/- Proved: small functions of the sink -/
import Derived.Test.YtlkcidmmpeebeaaPv2
set_option linter.unusedVariables false
set_option linter.unusedSimpArgs false
namespace Go.Proofs.Ytlkcidmmpeebeaa
open Go.RowKit Go.PX
set_option maxRecDepth 100000
def movesD (k:Int):Bool:=decide (1≤k)&&decide (k≤14)
def usesAD (k:Int):Bool:=decide (2≤k)&&decide (k≤16)||decide (k=18)
def usesBD (k:Int):Bool:=decide (3≤k)&&decide (k≤14)||decide (k=16)

end Go.Proofs.Ytlkcidmmpeebeaa
