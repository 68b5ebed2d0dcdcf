/- Proved: merge.join: its closure,and its iterators made -/
import Derived.Test.YtlkcidmmpeebeaaUnC
import Derived.Test.YtlkcidmmpeebeaaPDel
set_option linter.unusedVariables false
set_option linter.unusedSimpArgs false
namespace Go.Proofs.Ytlkcidmmpeebeaa
open Go.RowKit Go.PX
set_option maxRecDepth 100000
/-- a block whose slices are told as they lie -/
structure VB where
 (params:Int) (ops:Value) (kind a n:Int) (args:Value) (b0:Int) (a0:Value) (b1:Int) (a1:Value)
def encV (y:VB):List PX.PV:=[.sc (.I y.params),.sc y.ops,.sc (.I y.kind),.sc (.I y.a),.sc (.I y.n),.sc y.args,.sc (.I y.b0),.sc y.a0,.sc (.I y.b1),.sc y.a1]

set_option maxHeartbeats 400000 in
theorem con_ren1 (D:List (Int × Int)) (o:OpD):PX.Con Try.prog 115 [(.ptr 1 1),(.ptr 2 0)] [(1,.box 74 (encO o)),(2,.box 139 [(.map 3)]),(3,.mp (iv D))] 4 100000 (.tup []) [(1,some (.box 74 [(.J o.kind),(.sc (.I (valD D o.dst))),(.J o.a),(.J o.b),(.J o.n),(.J o.ctx),(.J o.var),(.J o.piece),(.J o.sk),(.J o.sv),(.J o.sa)])),(2,some (.box 139 [.map 3])),(3,some (.mp (iv D)))]:=by
 refine PX.con_intro [(.ptr 1 1),(.ptr 2 0)] 10 Try.func115 rfl rfl (by kernel_rfl) (by kernel_rfl) ?_
 intro E a hE hS
 generalize E.w0=w at hS ⊢
 have mix:=mixed
 refine PX.D0 [] [(1,.box 74 [(.J o.kind),(.sc (.I (valD D o.dst))),(.J o.a),(.J o.b),(.J o.n),(.J o.ctx),(.J o.var),(.J o.piece),(.J o.sk),(.J o.sv),(.J o.sa)])] 4 [.q ((.sc ((PX.findV (iv D) o.dst).getD (.I 0)):PX.PV)=(.sc (.I (valD D o.dst))))] [] [.au,.au,.au,.au,.au,.nm (.sc (.I (valD D o.dst))),.au,.au] [0,1] [1,2,3] hS mixed hE ⟨look_iv D o.dst,trivial⟩ fun a w hS=>?_
 exact PX.rt hS hE (.inr rfl)

set_option maxHeartbeats 400000 in
theorem con_ren2 (D:List (Int × Int)) (o:OpD):PX.Con Try.prog 115 [(.ptr 1 2),(.ptr 2 0)] [(1,.box 74 (encO o)),(2,.box 139 [(.map 3)]),(3,.mp (iv D))] 4 100000 (.tup []) [(1,some (.box 74 [(.J o.kind),(.J o.dst),(.sc (.I (valD D o.a))),(.J o.b),(.J o.n),(.J o.ctx),(.J o.var),(.J o.piece),(.J o.sk),(.J o.sv),(.J o.sa)])),(2,some (.box 139 [.map 3])),(3,some (.mp (iv D)))]:=by
 refine PX.con_intro [(.ptr 1 2),(.ptr 2 0)] 10 Try.func115 rfl rfl (by kernel_rfl) (by kernel_rfl) ?_
 intro E a hE hS
 generalize E.w0=w at hS ⊢
 have mix:=mixed
 refine PX.D0 [] [(1,.box 74 [(.J o.kind),(.J o.dst),(.sc (.I (valD D o.a))),(.J o.b),(.J o.n),(.J o.ctx),(.J o.var),(.J o.piece),(.J o.sk),(.J o.sv),(.J o.sa)])] 4 [.q ((.sc ((PX.findV (iv D) o.a).getD (.I 0)):PX.PV)=(.sc (.I (valD D o.a))))] [] [.au,.au,.au,.au,.au,.nm (.sc (.I (valD D o.a))),.au,.au] [0,1] [1,2,3] hS mixed hE ⟨look_iv D o.a,trivial⟩ fun a w hS=>?_
 exact PX.rt hS hE (.inr rfl)

set_option maxHeartbeats 400000 in
theorem con_ren3 (D:List (Int × Int)) (o:OpD):PX.Con Try.prog 115 [(.ptr 1 3),(.ptr 2 0)] [(1,.box 74 (encO o)),(2,.box 139 [(.map 3)]),(3,.mp (iv D))] 4 100000 (.tup []) [(1,some (.box 74 [(.J o.kind),(.J o.dst),(.J o.a),(.sc (.I (valD D o.b))),(.J o.n),(.J o.ctx),(.J o.var),(.J o.piece),(.J o.sk),(.J o.sv),(.J o.sa)])),(2,some (.box 139 [.map 3])),(3,some (.mp (iv D)))]:=by
 refine PX.con_intro [(.ptr 1 3),(.ptr 2 0)] 10 Try.func115 rfl rfl (by kernel_rfl) (by kernel_rfl) ?_
 intro E a hE hS
 generalize E.w0=w at hS ⊢
 have mix:=mixed
 refine PX.D0 [] [(1,.box 74 [(.J o.kind),(.J o.dst),(.J o.a),(.sc (.I (valD D o.b))),(.J o.n),(.J o.ctx),(.J o.var),(.J o.piece),(.J o.sk),(.J o.sv),(.J o.sa)])] 4 [.q ((.sc ((PX.findV (iv D) o.b).getD (.I 0)):PX.PV)=(.sc (.I (valD D o.b))))] [] [.au,.au,.au,.au,.au,.nm (.sc (.I (valD D o.b))),.au,.au] [0,1] [1,2,3] hS mixed hE ⟨look_iv D o.b,trivial⟩ fun a w hS=>?_
 exact PX.rt hS hE (.inr rfl)

set_option maxHeartbeats 400000 in
theorem con_ren9 (D:List (Int × Int)) (o:OpD):PX.Con Try.prog 115 [(.ptr 1 9),(.ptr 2 0)] [(1,.box 74 (encO o)),(2,.box 139 [(.map 3)]),(3,.mp (iv D))] 4 100000 (.tup []) [(1,some (.box 74 [(.J o.kind),(.J o.dst),(.J o.a),(.J o.b),(.J o.n),(.J o.ctx),(.J o.var),(.J o.piece),(.J o.sk),(.sc (.I (valD D o.sv))),(.J o.sa)])),(2,some (.box 139 [.map 3])),(3,some (.mp (iv D)))]:=by
 refine PX.con_intro [(.ptr 1 9),(.ptr 2 0)] 10 Try.func115 rfl rfl (by kernel_rfl) (by kernel_rfl) ?_
 intro E a hE hS
 generalize E.w0=w at hS ⊢
 have mix:=mixed
 refine PX.D0 [] [(1,.box 74 [(.J o.kind),(.J o.dst),(.J o.a),(.J o.b),(.J o.n),(.J o.ctx),(.J o.var),(.J o.piece),(.J o.sk),(.sc (.I (valD D o.sv))),(.J o.sa)])] 4 [.q ((.sc ((PX.findV (iv D) o.sv).getD (.I 0)):PX.PV)=(.sc (.I (valD D o.sv))))] [] [.au,.au,.au,.au,.au,.nm (.sc (.I (valD D o.sv))),.au,.au] [0,1] [1,2,3] hS mixed hE ⟨look_iv D o.sv,trivial⟩ fun a w hS=>?_
 exact PX.rt hS hE (.inr rfl)

set_option maxHeartbeats 400000 in
theorem con_renI (D:List (Int × Int)) (l:List Int) (i:Nat) (y:Int) (hy:l[i]?=some y):PX.Con Try.prog 115 [(.rptr 1 1 i 0),(.ptr 2 0)] [(1,.row 3 1 true (l.map encI)),(2,.box 139 [(.map 3)]),(3,.mp (iv D))] 4 100000 (.tup []) [(1,some (.row 3 1 true ((l.map encI).set i [.sc (.I (valD D y))]))),(2,some (.box 139 [.map 3])),(3,some (.mp (iv D)))]:=by
 refine PX.con_intro [(.rptr 1 1 i 0),(.ptr 2 0)] 10 Try.func115 rfl rfl (by kernel_rfl) (by kernel_rfl) ?_
 intro E a hE hS
 generalize E.w0=w at hS ⊢
 have mix:=mixed
 refine PX.D0 [] [(1,.row 3 1 true ((l.map encI).set i [(.sc (.I (valD D y)))]))] 4 [.q ((l.map encI)[i]?=some (encI y)),.q ((.sc ((PX.findV (iv D) y).getD (.I 0)):PX.PV)=(.sc (.I (valD D y)))),.q ((l.map encI)[i]?=some (encI y))] [] [.au,.au,.au,.au,.lr (encI y),.nm (.sc (.I (valD D y))),.au,.lr (encI y)] [0,1] [1,2,3] hS mixed hE ⟨PX.map_get hy,look_iv D y,PX.map_get hy,trivial⟩ fun a w hS=>?_
 exact PX.rt hS hE (.inr rfl)

set_option maxHeartbeats 400000 in
theorem con_renA (D:List (Int × Int)) (ys:List VB) (k:Nat) (y:VB) (hy:ys[k]?=some y):PX.Con Try.prog 115 [(.rptr 1 10 k 3),(.ptr 2 0)] [(1,.row 62 10 true (ys.map encV)),(2,.box 139 [(.map 3)]),(3,.mp (iv D))] 4 100000 (.tup []) [(1,some (.row 62 10 true ((ys.map encV).set k [(.J y.params),(.sc (y.ops)),(.J y.kind),(.sc (.I (valD D y.a))),(.J y.n),(.sc (y.args)),(.J y.b0),(.sc (y.a0)),(.J y.b1),(.sc (y.a1))]))),(2,some (.box 139 [.map 3])),(3,some (.mp (iv D)))]:=by
 refine PX.con_intro [(.rptr 1 10 k 3),(.ptr 2 0)] 10 Try.func115 rfl rfl (by kernel_rfl) (by kernel_rfl) ?_
 intro E a hE hS
 generalize E.w0=w at hS ⊢
 have mix:=mixed
 refine PX.D0 [] [(1,.row 62 10 true ((ys.map encV).set k [(.J y.params),(.sc (y.ops)),(.J y.kind),(.sc (.I (valD D y.a))),(.J y.n),(.sc (y.args)),(.J y.b0),(.sc (y.a0)),(.J y.b1),(.sc (y.a1))]))] 4 [.q ((ys.map encV)[k]?=some (encV y)),.q ((.sc ((PX.findV (iv D) y.a).getD (.I 0)):PX.PV)=(.sc (.I (valD D y.a)))),.q ((ys.map encV)[k]?=some (encV y))] [] [.au,.au,.au,.au,.lr (encV y),.nm (.sc (.I (valD D y.a))),.au,.lr (encV y)] [0,1] [1,2,3] hS mixed hE ⟨PX.map_get hy,look_iv D y.a,PX.map_get hy,trivial⟩ fun a w hS=>?_
 exact PX.rt hS hE (.inr rfl)

set_option maxHeartbeats 400000 in
theorem con_f116 (o:OpD):PX.Con Try.prog 116 [(.ptr 1 0)] [(1,.box 74 (encO o))] 2 100000 (.fn 148 [] [.ptr 2 0]) [(2,some (.box 169 [(.ptr 1 0)])),(1,some (.box 74 (encO o)))]:=by
 refine PX.con_intro [(.ptr 1 0)] 4 Try.func116 rfl rfl (by kernel_rfl) (by kernel_rfl) ?_
 intro E a hE hS
 generalize E.w0=w at hS ⊢
 have mix:=mixed
 refine PX.G [(.e 1 (.ptr 2 0))] [(2,.box 169 [(.ptr 1 0)])] 3 [] [] [.au,.au] [0,1] [1,2] hS hE trivial fun a w hS=>?_
 refine PX.G [(.e 2 (.fn 148 [] [(.ptr 2 0)]))] [] 3 [] [] [.au,.au] [0,2] [1,2] hS hE trivial fun a w hS=>?_
 refine wp_ret ?_
 exact PX.rt hS hE (.inl rfl)

set_option maxHeartbeats 400000 in
theorem con_f117 (rows:List (List PX.PV)) (k:Nat):PX.Con Try.prog 117 [(.rptr 1 10 k 2)] [(1,.row 62 10 true rows)] 2 100000 (.fn 149 [] [.ptr 2 0]) [(2,some (.box 171 [(.rptr 1 10 k 2)])),(1,some (.row 62 10 true rows))]:=by
 refine PX.con_intro [(.rptr 1 10 k 2)] 4 Try.func117 rfl rfl (by kernel_rfl) (by kernel_rfl) ?_
 intro E a hE hS
 generalize E.w0=w at hS ⊢
 have mix:=mixed
 refine PX.G [(.e 1 (.ptr 2 0))] [(2,.box 171 [(.rptr 1 10 k 2)])] 3 [] [] [.au,.au] [0,1] [1,2] hS hE trivial fun a w hS=>?_
 refine PX.G [(.e 2 (.fn 149 [] [(.ptr 2 0)]))] [] 3 [] [] [.au,.au] [0,2] [1,2] hS hE trivial fun a w hS=>?_
 refine wp_ret ?_
 exact PX.rt hS hE (.inl rfl)

set_option maxHeartbeats 400000 in
theorem con_f111o (p:Int) (rows cx ob:List (List PX.PV)) (n:Nat):PX.Con Try.prog 111 [(.agg [(.J p),(.own 1 10 n),(.imm 3 cx),(.imm 3 ob)])] [(1,.row 62 10 true rows)] 2 100000 (.fn 147 [] [.ptr 2 0]) [(2,some (.box 26 [(.J p),(.own 1 10 n),(.imm 3 cx),(.imm 3 ob)])),(1,some (.row 62 10 true rows))]:=by
 refine PX.con_intro [(.agg [(.J p),(.own 1 10 n),(.imm 3 cx),(.imm 3 ob)])] 4 Try.func111 rfl rfl (by kernel_rfl) (by kernel_rfl) ?_
 intro E a hE hS
 generalize E.w0=w at hS ⊢
 have mix:=mixed
 refine PX.G [(.e 1 (.ptr 2 0))] [(2,.box 26 [(.J p),(.own 1 10 n),(.imm 3 cx),(.imm 3 ob)])] 3 [] [] [.au,.au] [0,1] [1,2] hS hE trivial fun a w hS=>?_
 refine PX.G [(.e 2 (.fn 147 [] [(.ptr 2 0)]))] [] 3 [] [] [.au,.au] [0,2] [1,2] hS hE trivial fun a w hS=>?_
 refine wp_ret ?_
 exact PX.rt hS hE (.inl rfl)
end Go.Proofs.Ytlkcidmmpeebeaa
