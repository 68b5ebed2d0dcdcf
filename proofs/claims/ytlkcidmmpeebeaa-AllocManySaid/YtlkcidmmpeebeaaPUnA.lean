/- Proved: debuggerref09.Name on plain data -/
import Derived.Test.YtlkcidmmpeebeaaPcE
import Derived.Test.YtlkcidmmpeebeaaPcD
import Derived.Test.YtlkcidmmpeebeaaPSmall
set_option linter.unusedVariables false
set_option linter.unusedSimpArgs false
namespace Go.Proofs.Ytlkcidmmpeebeaa
open Go.RowKit Go.PX
set_option maxRecDepth 100000
def enc1 (p:Int × Int):List PX.PV:=[.sc (.I p.1)]
def enc2 (p:Int × Int):List PX.PV:=[.sc (.I p.2)]
def nameOf (nm:List (Int × Int)) (v:Int):Int:=match nm.find? (fun p=>p.1==v) with | some p=>p.2 | none=>v
def renO_ (nm:List (Int × Int)) (o:OpD):OpD:={ o with dst:=if R.defines o.kind=true then nameOf nm o.dst else o.dst,a:=if R.usesA o.kind=true then nameOf nm o.a else o.a,b:=if R.usesB o.kind=true then nameOf nm o.b else o.b,sv:=if (o.sk==2)=true then nameOf nm o.sv else o.sv }
def renT_ (nm:List (Int × Int)) (t:TermD):TermD:={ t with a:=if (((t.kind==2)||(t.kind==4))||(t.kind==5))=true then nameOf nm t.a else t.a,args:=t.args.map (nameOf nm),args0:=t.args0.map (nameOf nm),args1:=t.args1.map (nameOf nm) }

end Go.Proofs.Ytlkcidmmpeebeaa
