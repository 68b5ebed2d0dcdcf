/- Proved: Small on plain data -/
import Derived.Test.YtlkcidmmpeebeaaPv2
set_option linter.unusedVariables false
set_option linter.unusedSimpArgs false
namespace Go.Proofs.Ytlkcidmmpeebeaa
open Go.RowKit Go.PX
set_option maxRecDepth 100000
def smallStep (z:Int) (b:BlockD):Int:=IntKind.i64.wrap (IntKind.i64.wrap (IntKind.i64.wrap (IntKind.i64.wrap (z+4)+(b.term.args.length:Int))+(b.term.args0.length:Int))+(b.term.args1.length:Int))
def small0 (c:CodeD):Int:=IntKind.i64.wrap (IntKind.i64.wrap ((c.contexts.length:Int)+(c.objects.length:Int))+totW c.blocks)
def smallZ (c:CodeD) (k:Nat):Int:=(c.blocks.take k).foldl smallStep (small0 c)
def smallD (c:CodeD):Bool:=c.blocks.all (fun b=>!decide ((100:Int)<b.params))&&decide (smallZ c c.blocks.length≤600)
end Go.Proofs.Ytlkcidmmpeebeaa
