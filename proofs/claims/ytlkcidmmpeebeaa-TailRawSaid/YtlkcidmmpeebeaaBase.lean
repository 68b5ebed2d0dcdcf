import Derived.Test.YtlkcidmmpeebeaaRows
import Derived.Test.YtlkcidmmpeebeaaCheck
import Derived.WalkKit
import Derived.WalkSpells
import Derived.WalkLawsBesides
import Derived.Deep.QuietTactic
import Derived.BigQuiet
import Derived.Lib.Hide
import Derived.Deep.Draws
import Derived.Lib.QuietBelow
import Derived.Deep.RegionHeld3
import Derived.Deep.DeepFit
import Derived.Deep.DeepCutAuto
set_option linter.unusedVariables false
set_option linter.unusedSimpArgs false
/- Words for memory: slices that read as lists; blocks and code. -/
namespace Go.Proofs.Ytlkcidmmpeebeaa
open Go.RowKit Go.Sort

def I64 (x:Int):Prop:=-9223372036854775808≤x∧x≤9223372036854775807

def IntsAt (w:World) (v:Value) (xs:List Int):Prop :=
  ∃ A cap,v=.slice A xs.length cap∧(xs.length≤cap∧xs.length≤140737488351232)∧(cap≤9223372036854775807∧(A=none→cap=0))∧∀ k x,xs[k]?=some x→∃ b off,A=some ⟨b,off,none⟩∧I64 x∧w.cell? ⟨b,off+k,none⟩=some (.int .i64 x)

theorem cell_below {w w':World} (hb:Below w.heap.size w w') {a:Addr} {v:Value} (h:w.cell? a=some v):w'.cell? a=some v :=
  (hb.cell (World.block_lt_of_cell? w a h)).trans h

theorem IntsAt.below {w w':World} {v:Value} {xs:List Int} (h:IntsAt w v xs) (hb:Below w.heap.size w w'):IntsAt w' v xs:=by
  obtain ⟨A,cap,hv,hl,hm,hc⟩:=h
  refine ⟨A,cap,hv,hl,hm,fun k x hx=>?_⟩
  obtain ⟨b,off,hA,hi,hc⟩:=hc k x hx
  exact ⟨b,off,hA,hi,cell_below hb hc⟩

theorem below_drewN {B:Nat} {a w:World} (h:Below B a w) (n:Nat):Below B a (w.drewN n):=⟨h.os,h.tape,h.output,h.size,h.block⟩
/-- everything that was there is as it was -/
theorem _root_.Go.RowKit.Below.tr {a b c:World} (h:Below a.heap.size a b) (k:Below b.heap.size b c):Below a.heap.size a c:=h.trans (k.mono h.size)
theorem _root_.Go.RowKit.Below.al {a b:World} (h:Below a.heap.size a b) (o:Obj):Below a.heap.size a (b.alloc o):=h.alloc h.size o

theorem ret_bool {a b:Bool} (h:a=b):Ending.returned (.bool a)=.returned (.bool b):=by rw [h]
theorem ret_int {a b:Int} (h:a=b):Ending.returned (.int .i64 a)=.returned (.int .i64 b):=by rw [h]

theorem get_of_lt {α:Type} {l:List α} {k:Nat} (h:k<l.length):∃ x,l[k]?=some x:=⟨l[k],List.getElem?_eq_getElem h⟩

/-- a slice of records of three ints -/
def RecsAt (w:World) (v:Value) (xs:List (Int × Int × Int)):Prop :=
  ∃ A cap,v=.slice A xs.length cap∧(xs.length≤cap∧xs.length≤140737488351232)∧(cap≤9223372036854775807∧(A=none→cap=0))∧∀ k o,xs[k]?=some o→∃ b off,A=some ⟨b,off,none⟩∧(I64 o.1∧I64 o.2.1∧I64 o.2.2)∧w.cell? ⟨b,off+k*3,none⟩=some (.int .i64 o.1)∧w.cell? ⟨b,off+k*3+1,none⟩=some (.int .i64 o.2.1)∧w.cell? ⟨b,off+k*3+2,none⟩=some (.int .i64 o.2.2)

/-- the numbers of an operation are numbers of the machine -/
def OpI (o:OpD):Prop:=I64 o.kind∧I64 o.dst∧I64 o.a∧I64 o.b∧I64 o.n∧I64 o.ctx∧I64 o.var∧I64 o.piece∧I64 o.sk∧I64 o.sv∧I64 o.sa

def OpsAt (w:World) (v:Value) (xs:List OpD):Prop :=
  ∃ A cap,v=.slice A xs.length cap∧(xs.length≤cap∧xs.length≤140737488351232)∧(cap≤9223372036854775807∧(A=none→cap=0))∧∀ k o,xs[k]?=some o→∃ b off,A=some ⟨b,off,none⟩∧OpI o∧w.cell? ⟨b,off+k*11,none⟩=some (.int .i64 o.kind)∧w.cell? ⟨b,off+k*11+1,none⟩=some (.int .i64 o.dst)∧w.cell? ⟨b,off+k*11+2,none⟩=some (.int .i64 o.a)∧w.cell? ⟨b,off+k*11+3,none⟩=some (.int .i64 o.b)∧w.cell? ⟨b,off+k*11+4,none⟩=some (.int .i64 o.n)∧w.cell? ⟨b,off+k*11+5,none⟩=some (.int .i64 o.ctx)∧w.cell? ⟨b,off+k*11+6,none⟩=some (.int .i64 o.var)∧w.cell? ⟨b,off+k*11+7,none⟩=some (.int .i64 o.piece)∧w.cell? ⟨b,off+k*11+8,none⟩=some (.int .i64 o.sk)∧w.cell? ⟨b,off+k*11+9,none⟩=some (.int .i64 o.sv)∧w.cell? ⟨b,off+k*11+10,none⟩=some (.int .i64 o.sa)

/-- a block's four slices -/
def BlkAt (w:World) (u1 u2 u3 u4:Value) (o:BlockD):Prop :=
  (I64 o.params∧I64 o.term.kind∧I64 o.term.a∧I64 o.term.n∧I64 o.term.b0∧I64 o.term.b1)∧OpsAt w u1 o.ops∧IntsAt w u2 o.term.args∧IntsAt w u3 o.term.args0∧IntsAt w u4 o.term.args1

def BlocksAt (w:World) (v:Value) (xs:List BlockD):Prop :=
  ∃ A cap,v=.slice A xs.length cap∧(xs.length≤cap∧xs.length≤140737488351232)∧(cap≤9223372036854775807∧(A=none→cap=0))∧∀ k o,xs[k]?=some o→∃ b off u1 u2 u3 u4,A=some ⟨b,off,none⟩∧BlkAt w u1 u2 u3 u4 o∧w.cell? ⟨b,off+k*10,none⟩=some (.int .i64 o.params)∧w.cell? ⟨b,off+k*10+1,none⟩=some u1∧w.cell? ⟨b,off+k*10+2,none⟩=some (.int .i64 o.term.kind)∧w.cell? ⟨b,off+k*10+3,none⟩=some (.int .i64 o.term.a)∧w.cell? ⟨b,off+k*10+4,none⟩=some (.int .i64 o.term.n)∧w.cell? ⟨b,off+k*10+5,none⟩=some u2∧w.cell? ⟨b,off+k*10+6,none⟩=some (.int .i64 o.term.b0)∧w.cell? ⟨b,off+k*10+7,none⟩=some u3∧w.cell? ⟨b,off+k*10+8,none⟩=some (.int .i64 o.term.b1)∧w.cell? ⟨b,off+k*10+9,none⟩=some u4

/-- a function's code: its three slices -/
def CodeAt (w:World) (v1 v2 v3:Value) (c:CodeD):Prop:=I64 c.params∧BlocksAt w v1 c.blocks∧RecsAt w v2 c.contexts∧RecsAt w v3 c.objects

/-- the value of an operation -/
def opV (o:OpD):Value:=.agg #[.int .i64 o.kind,.int .i64 o.dst,.int .i64 o.a,.int .i64 o.b,.int .i64 o.n,.int .i64 o.ctx,.int .i64 o.var,.int .i64 o.piece,.int .i64 o.sk,.int .i64 o.sv,.int .i64 o.sa]
/-- the value of a block -/
def blkV (u1 u2 u3 u4:Value) (o:BlockD):Value:=.agg #[.int .i64 o.params,u1,.int .i64 o.term.kind,.int .i64 o.term.a,.int .i64 o.term.n,u2,.int .i64 o.term.b0,u3,.int .i64 o.term.b1,u4]
/-- the value of a code -/
def codeV (v1 v2 v3:Value) (c:CodeD):Value:=.agg #[.int .i64 c.params,v1,v2,v3]

theorem RecsAt.below {w w':World} {v:Value} {xs:List (Int × Int × Int)} (h:RecsAt w v xs) (hb:Below w.heap.size w w'):RecsAt w' v xs:=by
  obtain ⟨A,cap,hv,hl,hm,hc⟩:=h
  refine ⟨A,cap,hv,hl,hm,fun k x hx=>?_⟩
  obtain ⟨b,off,hA,hi,c0,c1,c2⟩:=hc k x hx
  exact ⟨b,off,hA,hi,cell_below hb c0,cell_below hb c1,cell_below hb c2⟩
theorem OpsAt.below {w w':World} {v:Value} {xs:List OpD} (h:OpsAt w v xs) (hb:Below w.heap.size w w'):OpsAt w' v xs:=by
  obtain ⟨A,cap,hv,hl,hm,hc⟩:=h
  refine ⟨A,cap,hv,hl,hm,fun k x hx=>?_⟩
  obtain ⟨b,off,hA,hi,c0,c1,c2,c3,c4,c5,c6,c7,c8,c9,c10⟩:=hc k x hx
  exact ⟨b,off,hA,hi,cell_below hb c0,cell_below hb c1,cell_below hb c2,cell_below hb c3,cell_below hb c4,cell_below hb c5,cell_below hb c6,cell_below hb c7,cell_below hb c8,cell_below hb c9,cell_below hb c10⟩
theorem BlkAt.below {w w':World} {u1 u2 u3 u4:Value} {o:BlockD} (h:BlkAt w u1 u2 u3 u4 o) (hb:Below w.heap.size w w'):BlkAt w' u1 u2 u3 u4 o :=
  ⟨h.1,h.2.1.below hb,h.2.2.1.below hb,h.2.2.2.1.below hb,h.2.2.2.2.below hb⟩
theorem BlocksAt.below {w w':World} {v:Value} {xs:List BlockD} (h:BlocksAt w v xs) (hb:Below w.heap.size w w'):BlocksAt w' v xs:=by
  obtain ⟨A,cap,hv,hl,hm,hc⟩:=h
  refine ⟨A,cap,hv,hl,hm,fun k x hx=>?_⟩
  obtain ⟨b,off,u1,u2,u3,u4,hA,hi,c0,c1,c2,c3,c4,c5,c6,c7,c8,c9⟩:=hc k x hx
  exact ⟨b,off,u1,u2,u3,u4,hA,hi.below hb,cell_below hb c0,cell_below hb c1,cell_below hb c2,cell_below hb c3,cell_below hb c4,cell_below hb c5,cell_below hb c6,cell_below hb c7,cell_below hb c8,cell_below hb c9⟩
theorem CodeAt.below {w w':World} {v1 v2 v3:Value} {c:CodeD} (h:CodeAt w v1 v2 v3 c) (hb:Below w.heap.size w w'):CodeAt w' v1 v2 v3 c :=
  ⟨h.1,h.2.1.below hb,h.2.2.1.below hb,h.2.2.2.below hb⟩

end Go.Proofs.Ytlkcidmmpeebeaa
