/- Proved: what function 29 answers on the example of the chapter, computed by the kernel -/
import Derived.Test.YtlaiafalilcgjaaGreatDoorQS91
import Derived.Test.YtlaiafalilcgjaaGreatDoorQS159
set_option linter.unusedVariables false
set_option linter.unusedSimpArgs false
namespace Go.Proofs.YtlaiafalilcgjaaGreatDoor
open Go.RowKit Go.PX
set_option maxRecDepth 1000000
def oc29 : Orc := (ocA 159 [([bIna, bInb], .tup [vD159, i 0])] (ocA 93 [([bFr], .tup [vD93, i 0])] (ocA 92 [([bLo], .tup [vD92, i 0])] (ocA 91 [([bLs], .tup [vD91, i 0])] oc0))))
theorem os29 : OS Tryz.prog oc29 := (osA1 (osA1 (osA1 (osA1 os0 con_s91) con_s92) con_s93) con_s159)
theorem st29 : runZ Tryz.prog lvT oc29 1000 29 [vImg] = some (.tup [vDbg, i 0]) := by kernel_rfl
theorem con_s29 (lo top : Nat) : Con Tryz.prog 29 [vImg] [] lo top (.tup [vDbg, i 0]) [] := runZ_con os29 mixed 1000 st29 lo top
end Go.Proofs.YtlaiafalilcgjaaGreatDoor
