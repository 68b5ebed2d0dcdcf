/- Proved: small functions of the sink -/
import Derived.Test.YtlkcidmmpeebeaaCkD
set_option linter.unusedVariables false
set_option linter.unusedSimpArgs false
namespace Go.Proofs.Ytlkcidmmpeebeaa
open Go.RowKit Go.PX
set_option maxRecDepth 100000
def usesAD (k:Int):Bool:=decide (2≤k)&&decide (k≤16)||decide (k=18)
def usesBD (k:Int):Bool:=decide (3≤k)&&decide (k≤14)||decide (k=16)

set_option maxHeartbeats 400000 in
theorem con_f88 (k:Int):PX.Con Try.prog 88 [(.J k)] [] 1 100000 (.sc (.bool (usesAD k))) []:=by
 refine PX.con_intro [(.J k)] 13 Try.func88 rfl rfl (by kernel_rfl) (by kernel_rfl) ?_
 intro E a hE hS
 generalize E.w0=w at hS ⊢
 have mix:=mixed
 refine PX.G [] [] 1 [] [] [.au] [0] [] hS hE trivial fun a w hS=>?_
 refine PX.G [(.e 2 (.sc (.bool ((decide (2≤k)&&decide (k≤16))||(k==18)))))] [] 1 [] [(2,decide (2≤k)),(6,(decide (2≤k)&&decide (k≤16)))] [.au,.au,.au,.au,.au,.pk,.au,.au,.au,.pk,.au] [2] [] hS hE trivial fun a w hS=>?_
 refine wp_ret ?_
 exact PX.rt hS hE (.inl rfl)

set_option maxHeartbeats 400000 in
theorem con_f89 (k:Int):PX.Con Try.prog 89 [(.J k)] [] 1 100000 (.sc (.bool (usesBD k))) []:=by
 refine PX.con_intro [(.J k)] 13 Try.func89 rfl rfl (by kernel_rfl) (by kernel_rfl) ?_
 intro E a hE hS
 generalize E.w0=w at hS ⊢
 have mix:=mixed
 refine PX.G [] [] 1 [] [] [.au] [0] [] hS hE trivial fun a w hS=>?_
 refine PX.G [(.e 2 (.sc (.bool ((decide (3≤k)&&decide (k≤14))||(k==16)))))] [] 1 [] [(2,decide (3≤k)),(6,(decide (3≤k)&&decide (k≤14)))] [.au,.au,.au,.au,.au,.pk,.au,.au,.au,.pk,.au] [2] [] hS hE trivial fun a w hS=>?_
 refine wp_ret ?_
 exact PX.rt hS hE (.inl rfl)
end Go.Proofs.Ytlkcidmmpeebeaa
