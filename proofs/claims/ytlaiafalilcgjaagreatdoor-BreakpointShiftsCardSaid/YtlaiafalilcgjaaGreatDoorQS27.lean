/- Proved: what function 27 answers on the example of the chapter, computed by the kernel -/
import Derived.Test.YtlaiafalilcgjaaGreatDoorQS40
import Derived.Test.YtlaiafalilcgjaaGreatDoorQS41
import Derived.Test.YtlaiafalilcgjaaGreatDoorQS44
import Derived.Test.YtlaiafalilcgjaaGreatDoorQS45
import Derived.Test.YtlaiafalilcgjaaGreatDoorQS46
set_option linter.unusedVariables false
set_option linter.unusedSimpArgs false
namespace Go.Proofs.YtlaiafalilcgjaaGreatDoor
open Go.RowKit Go.PX
set_option maxRecDepth 1000000
def oc27 : Orc := (ocA 44 [([vMod, t], .tup [vUnit, i 0])] (ocA 42 [([vSrc], .tup [vMod, i 0])] (ocA 41 [([vProg], .tup [vSrc, i 0, i 0])] (ocA 40 [([vText], .tup [vProg, i 0, i 0])] oc0))))
theorem os27 : OS Tryz.prog oc27 := (osA1 (osA1 (osA1 (osA1 os0 con_s40) con_s41) con_s42) con_s44)
theorem st27 : runZ Tryz.prog lvT oc27 1000 27 [vText, i 0] = some (.tup [vSrc, vMod, vUnit, i 0, i 0]) := by kernel_rfl
theorem con_s27 (lo top : Nat) : Con Tryz.prog 27 [vText, i 0] [] lo top (.tup [vSrc, vMod, vUnit, i 0, i 0]) [] := runZ_con os27 mixed 1000 st27 lo top
end Go.Proofs.YtlaiafalilcgjaaGreatDoor
namespace Go.Proofs.YtlaiafalilcgjaaGreatDoor
open Go.RowKit Go.PX
set_option maxRecDepth 1000000
def oc28 : Orc := (ocA 51 [([vIn], .tup [bIna, bInb])] (ocA 52 [([vSrc, vUnit, i 0], vIn)] (ocA 49 [([vFr], bFr)] (ocA 50 [([vUnit], vFr)] (ocA 47 [([vLo], bLo)] (ocA 48 [([vUnit], vLo)] (ocA 45 [([vLs], bLs)] (ocA 46 [([vUnit], vLs)] oc0))))))))
theorem os28 : OS Tryz.prog oc28 := (osA1 (osA1 (osA1 (osA1 (osA1 (osA1 (osA1 (osA1 os0 con_s46) con_s45) con_s48) con_s47) con_s50) con_s49) con_s52) con_s51)
theorem st28 : runZ Tryz.prog lvT oc28 1000 28 [vSrc, vUnit, i 0] = some (.tup [vImg, i 0]) := by kernel_rfl
theorem con_s28 (lo top : Nat) : Con Tryz.prog 28 [vSrc, vUnit, i 0] [] lo top (.tup [vImg, i 0]) [] := runZ_con os28 mixed 1000 st28 lo top
end Go.Proofs.YtlaiafalilcgjaaGreatDoor
