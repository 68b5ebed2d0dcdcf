/- Proved: what Tail answers,as plain data; the append of a block. -/
import Derived.Test.YtlkcidmmpeebeaaBown
import Derived.Test.YtlkcidmmpeebeaaClone
set_option linter.unusedVariables false
set_option linter.unusedSimpArgs false
namespace Go.Proofs.Ytlkcidmmpeebeaa
open Go.RowKit

def tailT (t:TermD):TermD:={ kind:=6,a:=0,n:=t.n,args:=t.args,b0:=-1,args0:=[],b1:=-1,args1:=[] }
def tailY (b:BlockD):BlockD:={ params:=b.params,ops:=b.ops,term:=tailT b.term }
def tailB (c:CodeD) (b:BlockD):BlockD:=if isTailD c b.term then tailY b else b
def tailD (c:CodeD):CodeD:={ params:=c.params,blocks:=c.blocks.map (tailB c),contexts:=c.contexts,objects:=c.objects }
theorem ints_nil {w:World}:IntsAt w (.slice none 0 0) [] :=
  ⟨none,0,rfl,by simp,by simp,fun k x hx=>by simp at hx⟩
theorem BlkV.tail {w:World} {u1 u2 u3 u4:Value} {o:BlockD} (h:BlkAt w u1 u2 u3 u4 o):BlkV w (u1,u2,.slice none 0 0,.slice none 0 0) (tailY o):=by
  obtain ⟨⟨i1,i2,i3,i4,i5,i6⟩,h1,h2,h3,h4⟩:=h
  exact ⟨⟨i1,by simp [tailY,tailT,I64],by simp [tailY,tailT,I64],i4,by simp [tailY,tailT,I64],by simp [tailY,tailT,I64]⟩,h1,h2,ints_nil,ints_nil⟩
theorem BlocksOwn.lt {w:World} {B0 B H m:Nat} {v:Value} {xs:List BlockD} (h:BlocksOwn w B0 B H v xs) (e:w.heap.size=m):H≤m:=e ▸ h.hw
end Go.Proofs.Ytlkcidmmpeebeaa
