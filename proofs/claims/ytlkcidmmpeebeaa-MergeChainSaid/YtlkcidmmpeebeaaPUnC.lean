/- Proved: debuggerref09.Join on plain data -/
import Derived.Test.YtlkcidmmpeebeaaUnB
set_option linter.unusedVariables false
set_option linter.unusedSimpArgs false
namespace Go.Proofs.Ytlkcidmmpeebeaa
open Go.RowKit Go.PX
set_option maxRecDepth 100000
def argsN (l:List Int):List (Int × Int):=l.zipIdx.map (fun p=>((p.2:Int),p.1))
def numK (b t:BlockD) (k:Nat):Int:=topD b+1+(((dsts (t.ops.take k)).length:Nat):Int)
def nmK (b t:BlockD) (k:Nat):List (Int × Int):=argsN b.term.args0++(dsts (t.ops.take k)).zipIdx.map (fun p=>(p.1,topD b+1+(p.2:Int)))
def nmJ (b t:BlockD):List (Int × Int):=nmK b t t.ops.length
def joinD (b t:BlockD):BlockD:={ params:=b.params,ops:=b.ops++t.ops.map (renO_ (nmJ b t)),term:=renT_ (nmJ b t) t.term }
def joinOk (b t:BlockD):Bool:=decide (numK b t t.ops.length≤10000)
theorem argsN_take {l:List Int} {k:Nat} {y:Int} (hy:l[k]?=some y):argsN (l.take (k+1))=argsN (l.take k)++[((k:Int),y)]:=by
 have hk:=(List.getElem?_eq_some_iff.1 hy).1
 unfold argsN; rw [List.take_add_one,hy]; simp [List.zipIdx_append,Nat.min_eq_left (Nat.le_of_lt hk)]
theorem nmK_yes {b t:BlockD} {k:Nat} {y:OpD} (hy:t.ops[k]?=some y) (h:R.defines y.kind=true):nmK b t (k+1)=nmK b t k++[(y.dst,numK b t k)]∧numK b t (k+1)=numK b t k+1:=by
 unfold nmK numK; rw [dsts_take hy,if_pos h]; simp [List.zipIdx_append]; omega
theorem nmK_no {b t:BlockD} {k:Nat} {y:OpD} (hy:t.ops[k]?=some y) (h:R.defines y.kind=false):nmK b t (k+1)=nmK b t k∧numK b t (k+1)=numK b t k:=by
 unfold nmK numK; rw [dsts_take hy,if_neg (by rw [h]; simp)]; simp
theorem numK_bd (b t:BlockD) (k:Nat):topD b+1≤numK b t k∧numK b t k≤topD b+1+(t.ops.length:Int):=by
 have h1:=dsts_len (t.ops.take k)
 rw [List.length_take] at h1
 unfold numK; omega

end Go.Proofs.Ytlkcidmmpeebeaa
