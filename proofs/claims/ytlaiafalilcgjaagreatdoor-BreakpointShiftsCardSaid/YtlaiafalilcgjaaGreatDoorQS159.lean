/- Proved: what function 159 answers on the example of the chapter, computed by the kernel -/
import Derived.Test.YtlaiafalilcgjaaGreatDoorQS0
set_option linter.unusedVariables false
set_option linter.unusedSimpArgs false
namespace Go.Proofs.YtlaiafalilcgjaaGreatDoor
open Go.RowKit Go.PX
set_option maxRecDepth 1000000
theorem st159 : runZ Tryz.prog lvT oc0 1000 159 [bIna, bInb] = some (.tup [vD159, i 0]) := by kernel_rfl
theorem con_s159 (lo top : Nat) : Con Tryz.prog 159 [bIna, bInb] [] lo top (.tup [vD159, i 0]) [] := runZ_con os0 mixed 1000 st159 lo top
end Go.Proofs.YtlaiafalilcgjaaGreatDoor
