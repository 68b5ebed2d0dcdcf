/- Proved: ref13.Sink on plain data -/
import Derived.Test.YtlkcidmmpeebeaaPcE
set_option linter.unusedVariables false
set_option linter.unusedSimpArgs false
namespace Go.Proofs.Ytlkcidmmpeebeaa
open Go.RowKit Go.PX
set_option maxRecDepth 100000
def atD (l:List OpD) (o:OpD):Nat:=if movesD o.kind=true then l.findIdx (fun u=>usesD u o.dst) else 0
def insD (l:List OpD) (o:OpD):List OpD:=l.take (atD l o)++[o]++l.drop (atD l o)
def sinkL:List OpD→List OpD
 | []=>[]
 | o::l=>insD (sinkL l) o
def sinkB (b:BlockD):BlockD:={ b with ops:=sinkL b.ops }
def sinkD (c:CodeD):CodeD:={ c with blocks:=c.blocks.map sinkB }
theorem insD_len (l:List OpD) (o:OpD):(insD l o).length=l.length+1:=by
 unfold insD; simp; omega
theorem sinkL_len:∀ l:List OpD,(sinkL l).length=l.length
 | []=>rfl
 | o::l=>by rw [sinkL,insD_len,sinkL_len l]; rfl
instance:Inhabited OpD:=⟨⟨0,0,0,0,0,0,0,0,0,0,0⟩⟩
end Go.Proofs.Ytlkcidmmpeebeaa
