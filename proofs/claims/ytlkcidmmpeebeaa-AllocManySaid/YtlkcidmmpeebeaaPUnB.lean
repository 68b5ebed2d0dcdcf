/- Proved: debuggerref09: Edges,Values,Top -/
import Derived.Test.YtlkcidmmpeebeaaPUnA
set_option linter.unusedVariables false
set_option linter.unusedSimpArgs false
namespace Go.Proofs.Ytlkcidmmpeebeaa
open Go.RowKit Go.PX
set_option maxRecDepth 100000
def stepE (t n x:Int):Int:=if (x==t)=true then IntKind.i64.wrap (n+1) else n
def edgesK (c:CodeD) (t:Int) (k:Nat):Int:=(c.blocks.take k).foldl (fun n b=>stepE t (stepE t n b.term.b0) b.term.b1) 0
def mx (a b:Int):Int:=if b > a then b else a
def topD (b:BlockD):Int:=(R.values b).foldl mx (b.params-1)
def topK (b:BlockD) (k:Nat):Int:=((R.values b).take k).foldl mx (b.params-1)
theorem values_eq2 (b:BlockD):R.values b=R.upto b.params++dsts b.ops:=rfl
end Go.Proofs.Ytlkcidmmpeebeaa
