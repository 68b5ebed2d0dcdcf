/- Proved: debuggerref09.Name on plain data -/
import Derived.Test.YtlkcidmmpeebeaaPcE
import Derived.Test.YtlkcidmmpeebeaaPcP
import Derived.Test.YtlkcidmmpeebeaaPSmall
set_option linter.unusedVariables false
set_option linter.unusedSimpArgs false
namespace Go.Proofs.Ytlkcidmmpeebeaa
open Go.RowKit Go.PX
set_option maxRecDepth 100000
def nameOf (nm:List (Int × Int)) (v:Int):Int:=match nm.find? (fun p=>p.1==v) with | some p=>p.2 | none=>v
def renO_ (nm:List (Int × Int)) (o:OpD):OpD:={ o with dst:=if R.defines o.kind=true then nameOf nm o.dst else o.dst,a:=if R.usesA o.kind=true then nameOf nm o.a else o.a,b:=if R.usesB o.kind=true then nameOf nm o.b else o.b,sv:=if (o.sk==2)=true then nameOf nm o.sv else o.sv }
def renT_ (nm:List (Int × Int)) (t:TermD):TermD:={ t with a:=if (((t.kind==2)||(t.kind==4))||(t.kind==5))=true then nameOf nm t.a else t.a,args:=t.args.map (nameOf nm),args0:=t.args0.map (nameOf nm),args1:=t.args1.map (nameOf nm) }

end Go.Proofs.Ytlkcidmmpeebeaa

/- Proved: debuggerref09: Edges,Values,Top -/
namespace Go.Proofs.Ytlkcidmmpeebeaa
open Go.RowKit Go.PX
set_option maxRecDepth 100000
def stepE (t n x:Int):Int:=if (x==t)=true then IntKind.i64.wrap (n+1) else n
def edgesK (c:CodeD) (t:Int) (k:Nat):Int:=(c.blocks.take k).foldl (fun n b=>stepE t (stepE t n b.term.b0) b.term.b1) 0
theorem edgesK_succ {c:CodeD} {t:Int} {k:Nat} {y:BlockD} (hy:c.blocks[k]?=some y):edgesK c t (k+1)=stepE t (stepE t (edgesK c t k) y.term.b0) y.term.b1:=by
 unfold edgesK; rw [List.take_add_one,hy,List.foldl_append]; rfl
def mx (a b:Int):Int:=if b > a then b else a
def topD (b:BlockD):Int:=(R.values b).foldl mx (b.params-1)
theorem dsts_take {ops:List OpD} {k:Nat} {y:OpD} (hy:ops[k]?=some y):dsts (ops.take (k+1))=dsts (ops.take k)++(if R.defines y.kind=true then [y.dst] else []):=by
 unfold dsts; rw [List.take_add_one,hy,List.filter_append,List.map_append]
 by_cases h:R.defines y.kind=true <;> simp [List.filter_cons,h]
theorem values_eq2 (b:BlockD):R.values b=R.upto b.params++dsts b.ops:=rfl
theorem dsts_len (l:List OpD):(dsts l).length≤l.length:=by unfold dsts; rw [List.length_map]; exact List.length_filter_le _ _

end Go.Proofs.Ytlkcidmmpeebeaa
