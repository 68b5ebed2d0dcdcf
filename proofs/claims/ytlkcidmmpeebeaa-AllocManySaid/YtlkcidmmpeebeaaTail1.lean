/- Proved: returns,isTail,List -/
import Derived.Test.YtlkcidmmpeebeaaEdge2
set_option linter.unusedVariables false
set_option linter.unusedSimpArgs false
namespace Go.Proofs.Ytlkcidmmpeebeaa
open Go.RowKit
set_option maxRecDepth 100000
def retB (b:BlockD):Bool:=b.ops.all (fun o=>!(o.kind != 21&&o.kind != 20))&&(b.term.kind==4&&b.term.a==0)
def isTailD (c:CodeD) (t:TermD):Bool:=if ((t.kind != 3)||decide (0≤t.b1))||decide ((0:Int)<(t.args0.length:Int)) then false else match c.blocks[t.b0.toNat]? with | some b=>retB b | none=>false

end Go.Proofs.Ytlkcidmmpeebeaa
