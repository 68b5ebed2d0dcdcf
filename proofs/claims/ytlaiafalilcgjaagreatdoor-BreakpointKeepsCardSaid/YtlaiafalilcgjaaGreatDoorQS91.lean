/- Proved: what function 91 answers on the example of the chapter, computed by the kernel -/
import Derived.Test.YtlaiafalilcgjaaGreatDoorQS0
set_option linter.unusedVariables false
set_option linter.unusedSimpArgs false
namespace Go.Proofs.YtlaiafalilcgjaaGreatDoor
open Go.RowKit Go.PX
set_option maxRecDepth 1000000
theorem st91 : runZ Tryz.prog lvT oc0 1000 91 [bLs] = some (.tup [vD91, i 0]) := by kernel_rfl
theorem con_s91 (lo top : Nat) : Con Tryz.prog 91 [bLs] [] lo top (.tup [vD91, i 0]) [] := runZ_con os0 mixed 1000 st91 lo top
end Go.Proofs.YtlaiafalilcgjaaGreatDoor
namespace Go.Proofs.YtlaiafalilcgjaaGreatDoor
open Go.RowKit Go.PX
set_option maxRecDepth 1000000
theorem st92 : runZ Tryz.prog lvT oc0 1000 92 [bLo] = some (.tup [vD92, i 0]) := by kernel_rfl
theorem con_s92 (lo top : Nat) : Con Tryz.prog 92 [bLo] [] lo top (.tup [vD92, i 0]) [] := runZ_con os0 mixed 1000 st92 lo top
end Go.Proofs.YtlaiafalilcgjaaGreatDoor
namespace Go.Proofs.YtlaiafalilcgjaaGreatDoor
open Go.RowKit Go.PX
set_option maxRecDepth 1000000
theorem st93 : runZ Tryz.prog lvT oc0 1000 93 [bFr] = some (.tup [vD93, i 0]) := by kernel_rfl
theorem con_s93 (lo top : Nat) : Con Tryz.prog 93 [bFr] [] lo top (.tup [vD93, i 0]) [] := runZ_con os0 mixed 1000 st93 lo top
end Go.Proofs.YtlaiafalilcgjaaGreatDoor
