/- Proved: the functions of the law that make code -/
import Derived.Test.YtlkcidmmpeebeaaPTail
set_option linter.unusedVariables false
set_option linter.unusedSimpArgs false
namespace Go.Proofs.Ytlkcidmmpeebeaa
open Go.RowKit Go.PX
set_option maxRecDepth 100000
def retD (p v:Int) (ops:List OpD):BlockD:={ params:=p,ops:=ops,term:={ kind:=4,a:=v,n:=0,args:=[],b0:=-1,args0:=[],b1:=-1,args1:=[] } }
def downA:BlockD:={ params:=1,ops:=[],term:={ kind:=2,a:=0,n:=0,args:=[],b0:=1,args0:=[0],b1:=3,args1:=[0] } }
def downB (l:List Int):BlockD:={ params:=1,ops:=[⟨1,1,0,0,1,0,0,0,0,0,0⟩,⟨4,2,0,1,0,0,0,0,0,0,0⟩],term:={ kind:=3,a:=0,n:=0,args:=[2],b0:=2,args0:=l,b1:=-1,args1:=[] } }
def downF:CodeD:={ params:=1,blocks:=[downA,downB [],retD 1 0 [⟨20,0,0,0,4,0,0,0,0,0,0⟩],retD 1 1 [⟨1,1,0,0,5,0,0,0,0,0,0⟩]],contexts:=[(-1,-1,0)],objects:=[] }
def downT:CodeD:={ params:=1,blocks:=[downA,downB [0],retD 2 0 [⟨20,0,0,0,4,0,0,0,0,0,0⟩],retD 1 1 [⟨1,1,0,0,5,0,0,0,0,0,0⟩]],contexts:=[(-1,-1,0)],objects:=[] }

end Go.Proofs.Ytlkcidmmpeebeaa
