/- Proved: what function 44 answers on the example of the chapter, computed by the kernel -/
import Derived.Test.YtlaiafalilcgjaaGreatDoorQS0
set_option linter.unusedVariables false
set_option linter.unusedSimpArgs false
namespace Go.Proofs.YtlaiafalilcgjaaGreatDoor
open Go.RowKit Go.PX
set_option maxRecDepth 1000000
theorem st44 : runZ Tryz.prog lvT oc0 1000 44 [vMod, t] = some (.tup [vUnit, i 0]) := by kernel_rfl
theorem con_s44 (lo top : Nat) : Con Tryz.prog 44 [vMod, t] [] lo top (.tup [vUnit, i 0]) [] := runZ_con os0 mixed 1000 st44 lo top
end Go.Proofs.YtlaiafalilcgjaaGreatDoor
