/- Proved: what function 49 answers on the example of the chapter, computed by the kernel -/
import Derived.Test.YtlaiafalilcgjaaGreatDoorQS0
set_option linter.unusedVariables false
set_option linter.unusedSimpArgs false
namespace Go.Proofs.YtlaiafalilcgjaaGreatDoor
open Go.RowKit Go.PX
set_option maxRecDepth 1000000
theorem st49 : runZ Tryz.prog lvT oc0 1000 49 [vFr] = some bFr := by kernel_rfl
theorem con_s49 (lo top : Nat) : Con Tryz.prog 49 [vFr] [] lo top bFr [] := runZ_con os0 mixed 1000 st49 lo top
end Go.Proofs.YtlaiafalilcgjaaGreatDoor
namespace Go.Proofs.YtlaiafalilcgjaaGreatDoor
open Go.RowKit Go.PX
set_option maxRecDepth 1000000
theorem st50 : runZ Tryz.prog lvT oc0 1000 50 [vUnit] = some vFr := by kernel_rfl
theorem con_s50 (lo top : Nat) : Con Tryz.prog 50 [vUnit] [] lo top vFr [] := runZ_con os0 mixed 1000 st50 lo top
end Go.Proofs.YtlaiafalilcgjaaGreatDoor
namespace Go.Proofs.YtlaiafalilcgjaaGreatDoor
open Go.RowKit Go.PX
set_option maxRecDepth 1000000
theorem st51 : runZ Tryz.prog lvT oc0 1000 51 [vIn] = some (.tup [bIna, bInb]) := by kernel_rfl
theorem con_s51 (lo top : Nat) : Con Tryz.prog 51 [vIn] [] lo top (.tup [bIna, bInb]) [] := runZ_con os0 mixed 1000 st51 lo top
end Go.Proofs.YtlaiafalilcgjaaGreatDoor
namespace Go.Proofs.YtlaiafalilcgjaaGreatDoor
open Go.RowKit Go.PX
set_option maxRecDepth 1000000
theorem st52 : runZ Tryz.prog lvT oc0 1000 52 [vSrc, vUnit, i 0] = some vIn := by kernel_rfl
theorem con_s52 (lo top : Nat) : Con Tryz.prog 52 [vSrc, vUnit, i 0] [] lo top vIn [] := runZ_con os0 mixed 1000 st52 lo top
end Go.Proofs.YtlaiafalilcgjaaGreatDoor
