/- Proved: this program's data as plain data,and back. -/
import Derived.Test.YtlkcidmmpeebeaaPcC
import Derived.Test.YtlkcidmmpeebeaaDk
set_option linter.unusedVariables false
set_option linter.unusedSimpArgs false
namespace Go.PX
open Go.RowKit Go.SX
theorem EnvOk.le {E:Env} {H:Heap} {U:Upd} {lo top n:Nat} (h:EnvOk E H U lo top) (hn:n≤top):n≤E.top:=by rw [h.etop]; exact hn
theorem nm_int {a b:Int} (h:a=b):(PV.sc (.int .i64 a))=PV.sc (.int .i64 b):=by rw [h]
theorem nm_len {a b:Nat} (h:a=b):(PV.sc (.int .i64 (a:Int)))=PV.sc (.int .i64 (b:Int)):=by rw [h]
theorem map_get {α β:Type} {f:α→β} {xs:List α} {k:Nat} {x:α} (h:xs[k]?=some x):(xs.map f)[k]?=some (f x):=by simp [h]

end Go.PX
namespace Go.Proofs.Ytlkcidmmpeebeaa
open Go.RowKit Go.PX

def encI (x:Int):List PV:=[.sc (.int .i64 x)]
def encO (o:OpD):List PV:=[.sc (.int .i64 o.kind),.sc (.int .i64 o.dst),.sc (.int .i64 o.a),.sc (.int .i64 o.b),.sc (.int .i64 o.n),.sc (.int .i64 o.ctx),.sc (.int .i64 o.var),.sc (.int .i64 o.piece),.sc (.int .i64 o.sk),.sc (.int .i64 o.sv),.sc (.int .i64 o.sa)]
def encR (o:Int × Int × Int):List PV:=[.sc (.int .i64 o.1),.sc (.int .i64 o.2.1),.sc (.int .i64 o.2.2)]
def encB (b:BlockD):List PV:=[.sc (.int .i64 b.params),.imm 11 (b.ops.map encO),.sc (.int .i64 b.term.kind),.sc (.int .i64 b.term.a),.sc (.int .i64 b.term.n),.imm 1 (b.term.args.map encI),.sc (.int .i64 b.term.b0),.imm 1 (b.term.args0.map encI),.sc (.int .i64 b.term.b1),.imm 1 (b.term.args1.map encI)]
def codeP (c:CodeD):PV:=.agg [.sc (.int .i64 c.params),.imm 10 (c.blocks.map encB),.imm 3 (c.contexts.map encR),.imm 3 (c.objects.map encR)]
def BlkI (b:BlockD):Prop:=(I64 b.params∧I64 b.term.kind∧I64 b.term.a∧I64 b.term.n∧I64 b.term.b0∧I64 b.term.b1)∧(∀ o∈b.ops,OpI o)∧(∀ x∈b.term.args,I64 x)∧(∀ x∈b.term.args0,I64 x)∧(∀ x∈b.term.args1,I64 x)∧b.ops.length≤140737488351232
def RecI (o:Int × Int × Int):Prop:=I64 o.1∧I64 o.2.1∧I64 o.2.2
def CodeI (c:CodeD):Prop:=I64 c.params∧(∀ b∈c.blocks,BlkI b)∧(∀ o∈c.contexts,RecI o)∧∀ o∈c.objects,RecI o

section
variable {Z:Nat→Prop} {w:World} {v:Value}
end
abbrev codeL (c:CodeD):List PX.PV:=[.sc (.int .i64 c.params),.imm 10 (c.blocks.map encB),.imm 3 (c.contexts.map encR),.imm 3 (c.objects.map encR)]
end Go.Proofs.Ytlkcidmmpeebeaa
