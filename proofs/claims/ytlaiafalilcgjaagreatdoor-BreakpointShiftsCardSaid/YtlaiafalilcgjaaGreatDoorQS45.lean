/- Proved: what function 45 answers on the example of the chapter, computed by the kernel -/
import Derived.Test.YtlaiafalilcgjaaGreatDoorQS0
set_option linter.unusedVariables false
set_option linter.unusedSimpArgs false
namespace Go.Proofs.YtlaiafalilcgjaaGreatDoor
open Go.RowKit Go.PX
set_option maxRecDepth 1000000
theorem st45 : runZ Tryz.prog lvT oc0 1000 45 [vLs] = some bLs := by kernel_rfl
theorem con_s45 (lo top : Nat) : Con Tryz.prog 45 [vLs] [] lo top bLs [] := runZ_con os0 mixed 1000 st45 lo top
end Go.Proofs.YtlaiafalilcgjaaGreatDoor
namespace Go.Proofs.YtlaiafalilcgjaaGreatDoor
open Go.RowKit Go.PX
set_option maxRecDepth 1000000
theorem st46 : runZ Tryz.prog lvT oc0 1000 46 [vUnit] = some vLs := by kernel_rfl
theorem con_s46 (lo top : Nat) : Con Tryz.prog 46 [vUnit] [] lo top vLs [] := runZ_con os0 mixed 1000 st46 lo top
end Go.Proofs.YtlaiafalilcgjaaGreatDoor
namespace Go.Proofs.YtlaiafalilcgjaaGreatDoor
open Go.RowKit Go.PX
set_option maxRecDepth 1000000
theorem st47 : runZ Tryz.prog lvT oc0 1000 47 [vLo] = some bLo := by kernel_rfl
theorem con_s47 (lo top : Nat) : Con Tryz.prog 47 [vLo] [] lo top bLo [] := runZ_con os0 mixed 1000 st47 lo top
end Go.Proofs.YtlaiafalilcgjaaGreatDoor
namespace Go.Proofs.YtlaiafalilcgjaaGreatDoor
open Go.RowKit Go.PX
set_option maxRecDepth 1000000
theorem st48 : runZ Tryz.prog lvT oc0 1000 48 [vUnit] = some vLo := by kernel_rfl
theorem con_s48 (lo top : Nat) : Con Tryz.prog 48 [vUnit] [] lo top vLo [] := runZ_con os0 mixed 1000 st48 lo top
end Go.Proofs.YtlaiafalilcgjaaGreatDoor
