/- Proved: ref06.CheckCode -/
import Derived.Test.YtlkcidmmpeebeaaRTrm
set_option linter.unusedVariables false
set_option linter.unusedSimpArgs false
namespace Go.Proofs.Ytlkcidmmpeebeaa
open Go.RowKit
set_option maxRecDepth 100000
def sumL:List BlockD→Nat
 | []=>0
 | b::l=>b.ops.length+sumL l
theorem CodeAt.small {w:World} {v1 v2 v3:Value} {c:CodeD} (h:CodeAt w v1 v2 v3 c):∀ x∈c.blocks,x.ops.length≤140737488351232:=fun x hx=>by
 obtain ⟨k,hk⟩:=List.mem_iff_getElem?.1 hx
 obtain ⟨A,cap,hv,h1,h2,h3⟩:=h.2.1
 obtain ⟨b,off,u1,u2,u3,u4,_,hb,_⟩:=h3 k x hk
 obtain ⟨A',cap',_,s⟩:=hb.2.1.shape
 exact s.1.2

end Go.Proofs.Ytlkcidmmpeebeaa
