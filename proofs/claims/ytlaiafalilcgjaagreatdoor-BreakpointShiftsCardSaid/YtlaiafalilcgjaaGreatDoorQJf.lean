/- Proved: closed facts of the program that the statements' rows ask for. -/
import Derived.Test.YtlaiafalilcgjaaGreatDoorCards
import Derived.Test.YtlaiafalilcgjaaGreatDoorTie
import Derived.JoinedOf
import Derived.SevenTiedAt
set_option linter.unusedVariables false
set_option linter.unusedSimpArgs false
namespace Go.Proofs.YtlaiafalilcgjaaGreatDoor
open Go
theorem jf_laid : laidOutB Tryz.prog = true := by kernel_rfl
theorem jf_maps : mapsRowed Tryz.prog = true := by kernel_rfl
theorem jf_stops : (Tryz.prog.stops == []) = true := by kernel_rfl
theorem jf_knobs : (Tryz.prog.stopKnobs == []) = true := by kernel_rfl
theorem jf_keys : (Rows.breakpointCountsRow.plainKeys == Tryz.prog.plainKeys) = true := by kernel_rfl
theorem jf_heard : Tryz.prog.stopsHeard = true := by kernel_rfl
theorem jf_enter : Tryz.prog.mayEnter = true := by kernel_rfl
theorem jf_lifts : (Rows.breakpointCountsRow.lifted == Tryz.prog.liftsFinal) = true := by kernel_rfl
theorem jf_make : (Tryz.prog.make == some Rows.breakpointCountsRow.make) = true := by kernel_rfl
theorem jf_looks : false = Tryz.prog.looks [] := by kernel_rfl
theorem andT {a b : Bool} (ha : a = true) (hb : b = true) : (a && b) = true := by rw [ha, hb]; rfl
end Go.Proofs.YtlaiafalilcgjaaGreatDoor
