/- Proved: what function 41 answers on the example of the chapter, computed by the kernel -/
import Derived.Test.YtlaiafalilcgjaaGreatDoorQS0
set_option linter.unusedVariables false
set_option linter.unusedSimpArgs false
namespace Go.Proofs.YtlaiafalilcgjaaGreatDoor
open Go.RowKit Go.PX
set_option maxRecDepth 1000000
theorem st41 : runZ Tryz.prog lvT oc0 1000 41 [vProg] = some (.tup [vSrc, i 0, i 0]) := by kernel_rfl
theorem con_s41 (lo top : Nat) : Con Tryz.prog 41 [vProg] [] lo top (.tup [vSrc, i 0, i 0]) [] := runZ_con os0 mixed 1000 st41 lo top
end Go.Proofs.YtlaiafalilcgjaaGreatDoor
namespace Go.Proofs.YtlaiafalilcgjaaGreatDoor
open Go.RowKit Go.PX
set_option maxRecDepth 1000000
theorem st42 : runZ Tryz.prog lvT oc0 1000 42 [vSrc] = some (.tup [vMod, i 0]) := by kernel_rfl
theorem con_s42 (lo top : Nat) : Con Tryz.prog 42 [vSrc] [] lo top (.tup [vMod, i 0]) [] := runZ_con os0 mixed 1000 st42 lo top
end Go.Proofs.YtlaiafalilcgjaaGreatDoor
