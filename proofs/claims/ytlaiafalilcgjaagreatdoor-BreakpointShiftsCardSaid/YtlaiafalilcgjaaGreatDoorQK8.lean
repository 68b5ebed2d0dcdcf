/- Proved: what function 21 answers on the example of the chapter, computed by the kernel -/
import Derived.Test.YtlaiafalilcgjaaGreatDoorQS27
import Derived.Test.YtlaiafalilcgjaaGreatDoorQS29
import Derived.Test.YtlaiafalilcgjaaGreatDoorQK7
import Derived.Test.YtlaiafalilcgjaaGreatDoorQL8
set_option linter.unusedVariables false
set_option linter.unusedSimpArgs false
namespace Go.Proofs.YtlaiafalilcgjaaGreatDoor
open Go.RowKit Go.PX
set_option maxRecDepth 1000000
def oc21 : Orc := (ocA 29 [([vImg], .tup [vDbg, i 0])] (ocA 28 [([vSrc, vUnit, i 0], .tup [vImg, i 0])] (ocA 27 [([vText, i 0], .tup [vSrc, vMod, vUnit, i 0, i 0])] oc0)))
theorem os21 : OS Tryz.prog oc21 := (osA1 (osA1 (osA1 os0 con_s27) con_s28) con_s29)
theorem st21 : runZ Tryz.prog lvT oc21 1000 21 [vText, i 0] = some (.agg ([t, i 0] ++ cs vSrc ++ cs vUnit ++ cs vImg ++ cs vDbg)) := by kernel_rfl
theorem con_s21 (lo top : Nat) : Con Tryz.prog 21 [vText, i 0] [] lo top (.agg ([t, i 0] ++ cs vSrc ++ cs vUnit ++ cs vImg ++ cs vDbg)) [] := runZ_con os21 mixed 1000 st21 lo top
end Go.Proofs.YtlaiafalilcgjaaGreatDoor
namespace Go.Proofs.YtlaiafalilcgjaaGreatDoor
open Go.RowKit Go.PX
set_option maxRecDepth 1000000
def oc22 : Orc := (ocA 55 [([vDbg, i 0], .imm 1 [[i 0]])] (ocA 58 [([vDbg, i 0], .imm 1 [[i 0]])] oc0))
theorem os22 : OS Tryz.prog oc22 := (osA1 (osA1 os0 fun lo top => con_any con_58) fun lo top => con_any con_55)
theorem st22 : runZ Tryz.prog lvT oc22 1000 22 [vDbg, s [102]] = some (.tup [i 1, .imm 1 [[i 0]], i 0]) := by kernel_rfl
theorem con_s22 (lo top : Nat) : Con Tryz.prog 22 [vDbg, s [102]] [] lo top (.tup [i 1, .imm 1 [[i 0]], i 0]) [] := runZ_con os22 mixed 1000 st22 lo top
end Go.Proofs.YtlaiafalilcgjaaGreatDoor
namespace Go.Proofs.YtlaiafalilcgjaaGreatDoor
open Go.RowKit Go.PX
set_option maxRecDepth 1000000
def AllE (g : FuncId) : List (List PV × PV) → Prop
  | [] => True
  | e :: l => (∀ lo top, Con Tryz.prog g e.1 [] lo top e.2 []) ∧ AllE g l
theorem allE_mem {g : FuncId} : ∀ {l : List (List PV × PV)}, AllE g l → ∀ e ∈ l, ∀ lo top, Con Tryz.prog g e.1 [] lo top e.2 []
  | [], _, e, h => by cases h
  | x :: l, h, e, he => by
    rcases List.mem_cons.1 he with rfl | he
    · exact h.1
    · exact allE_mem h.2 e he
theorem osL {oc : Orc} {g : FuncId} {es : List (List PV × PV)} (ho : OS Tryz.prog oc) (h : AllE g es) : OS Tryz.prog (ocA g es oc) := osA ho (allE_mem h)
def oc8 : Orc := (ocA 38 [([s [97, 10, 98, 10, 99], s [10]], i 1), ([s [98, 10, 99], s [10]], i 1), ([s [120, 10, 97, 10, 99], s [10]], i 1), ([s [97, 10, 99], s [10]], i 1)] (ocA 23 [([s [97, 10, 98, 10, 99], s [10]], i 2), ([s [120, 10, 97, 10, 99], s [10]], i 2)] (ocA 21 [([vText, i 0], .agg ([t, i 0] ++ cs vSrc ++ cs vUnit ++ cs vImg ++ cs vDbg))] (ocA 22 [([vDbg, s [102]], .tup [i 1, .imm 1 [[i 0]], i 0])] oc0))))
theorem os8 : OS Tryz.prog oc8 := (osL (osL (osA1 (osA1 os0 con_s22) con_s21) ⟨fun lo top => con_count [97, 10, 98, 10, 99] 10 lo top, fun lo top => con_count [120, 10, 97, 10, 99] 10 lo top, trivial⟩) ⟨fun lo top => con_index [97, 10, 98, 10, 99] 10 lo top, fun lo top => con_index [98, 10, 99] 10 lo top, fun lo top => con_index [120, 10, 97, 10, 99] 10 lo top, fun lo top => con_index [97, 10, 99] 10 lo top, trivial⟩)
theorem st8 : runZ Tryz.prog lvT oc8 1000 8 [] = some t := by kernel_rfl
theorem con_s8 (lo top : Nat) : Con Tryz.prog 8 [] [] lo top t [] := runZ_con os8 mixed 1000 st8 lo top
end Go.Proofs.YtlaiafalilcgjaaGreatDoor
namespace Go.Proofs.YtlaiafalilcgjaaGreatDoor
open Go.RowKit Go.PX
set_option maxRecDepth 1000000
theorem con_awake (lo top : Nat) : Con Tryz.prog 8 [] [] lo top (.sc (.bool true)) [] := con_s8 lo top
end Go.Proofs.YtlaiafalilcgjaaGreatDoor
