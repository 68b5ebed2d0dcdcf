/- Proved: clones and counts of unroll -/
import Derived.Test.YtlkcidmmpeebeaaUnD
import Derived.Test.YtlkcidmmpeebeaaCkD
import Derived.Test.YtlkcidmmpeebeaaPcD
set_option linter.unusedVariables false
set_option linter.unusedSimpArgs false
namespace Go.Proofs.Ytlkcidmmpeebeaa
open Go.RowKit Go.PX
set_option maxRecDepth 100000
end Go.Proofs.Ytlkcidmmpeebeaa

/- Proved: rename of unroll -/
namespace Go.Proofs.Ytlkcidmmpeebeaa
open Go.RowKit Go.PX
set_option maxRecDepth 100000
def updI (D:List (Int × Int)) (n v:Int):List (Int × Int):=match D with
 | []=>[(n,v)]
 | p::D=>bif n==p.1 then (p.1,v)::D else p::updI D n v
def valD (D:List (Int × Int)) (n:Int):Int:=((D.find? (fun p=>n==p.1)).map (·.2)).getD 0
theorem look_iv (D:List (Int × Int)) (n:Int):PX.PV.sc ((PX.findV (iv D) n).getD (.I 0))=.sc (.I (valD D n)):=by
 congr 1
 unfold PX.findV valD iv
 rw [List.find?_map]
 simp only [Function.comp_def]
 cases D.find? (fun p=>n==p.1) <;> rfl
theorem upd_iv:∀ (D:List (Int × Int)) (n v:Int),PX.updV (iv D) n (.I v)=iv (updI D n v)
 | [],n,v=>rfl
 | p::D,n,v=>by
  have ih:=upd_iv D n v
  unfold iv at ih ⊢
  simp only [List.map_cons,PX.updV,updI]
  cases h:n==p.1 with
  | true=>simp
  | false=>simp [ih]
end Go.Proofs.Ytlkcidmmpeebeaa
