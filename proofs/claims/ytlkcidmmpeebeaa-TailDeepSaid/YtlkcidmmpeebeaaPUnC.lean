/- Proved: debuggerref09.Join on plain data -/
import Derived.Test.YtlkcidmmpeebeaaUnB
set_option linter.unusedVariables false
set_option linter.unusedSimpArgs false
namespace Go.Proofs.Ytlkcidmmpeebeaa
open Go.RowKit Go.PX
set_option maxRecDepth 100000
def argsN (l:List Int):List (Int × Int):=l.zipIdx.map (fun p=>((p.2:Int),p.1))
theorem argsN_take {l:List Int} {k:Nat} {y:Int} (hy:l[k]?=some y):argsN (l.take (k+1))=argsN (l.take k)++[((k:Int),y)]:=by
 have hk:=(List.getElem?_eq_some_iff.1 hy).1
 unfold argsN; rw [List.take_add_one,hy]; simp [List.zipIdx_append,Nat.min_eq_left (Nat.le_of_lt hk)]
end Go.Proofs.Ytlkcidmmpeebeaa
