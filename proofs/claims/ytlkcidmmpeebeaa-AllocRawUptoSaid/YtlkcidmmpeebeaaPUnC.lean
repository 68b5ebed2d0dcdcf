/- Proved: debuggerref09.Join on plain data -/
import Derived.Test.YtlkcidmmpeebeaaUnB
set_option linter.unusedVariables false
set_option linter.unusedSimpArgs false
namespace Go.Proofs.Ytlkcidmmpeebeaa
open Go.RowKit Go.PX
set_option maxRecDepth 100000
def argsN (l:List Int):List (Int × Int):=l.zipIdx.map (fun p=>((p.2:Int),p.1))
def numK (b t:BlockD) (k:Nat):Int:=topD b+1+(((dsts (t.ops.take k)).length:Nat):Int)
def nmK (b t:BlockD) (k:Nat):List (Int × Int):=argsN b.term.args0++(dsts (t.ops.take k)).zipIdx.map (fun p=>(p.1,topD b+1+(p.2:Int)))
def nmJ (b t:BlockD):List (Int × Int):=nmK b t t.ops.length
def joinD (b t:BlockD):BlockD:={ params:=b.params,ops:=b.ops++t.ops.map (renO_ (nmJ b t)),term:=renT_ (nmJ b t) t.term }
def joinOk (b t:BlockD):Bool:=decide (numK b t t.ops.length≤10000)
end Go.Proofs.Ytlkcidmmpeebeaa
