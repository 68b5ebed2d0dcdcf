/- Proved: what function 40 answers on the example of the chapter, computed by the kernel -/
import Derived.Test.YtlaiafalilcgjaaGreatDoorQS0
set_option linter.unusedVariables false
set_option linter.unusedSimpArgs false
namespace Go.Proofs.YtlaiafalilcgjaaGreatDoor
open Go.RowKit Go.PX
set_option maxRecDepth 1000000
theorem st40 : runZ Tryz.prog lvT oc0 1000 40 [vText] = some (.tup [vProg, i 0, i 0]) := by kernel_rfl
theorem con_s40 (lo top : Nat) : Con Tryz.prog 40 [vText] [] lo top (.tup [vProg, i 0, i 0]) [] := runZ_con os0 mixed 1000 st40 lo top
end Go.Proofs.YtlaiafalilcgjaaGreatDoor
