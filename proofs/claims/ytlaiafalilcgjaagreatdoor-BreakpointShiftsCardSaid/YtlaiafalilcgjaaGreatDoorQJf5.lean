/- Proved: closed facts of the row of one statement. -/
import Derived.Test.YtlaiafalilcgjaaGreatDoorQJf
set_option linter.unusedVariables false
set_option linter.unusedSimpArgs false
namespace Go.Proofs.YtlaiafalilcgjaaGreatDoor.breakpointShifts
open Go
theorem jf_in : (Rows.breakpointShiftsRow.inPlace == Tryz.prog.inPlace 5) = true := by kernel_rfl
theorem jf_un : (Rows.breakpointShiftsRow.unfollowed == Tryz.prog.unfollowed 5) = true := by kernel_rfl
theorem jf_re : (Rows.breakpointShiftsRow.recurses == Tryz.prog.recurses 5) = true := by kernel_rfl
theorem jf_va : (Rows.breakpointShiftsRow.named == Tryz.prog.varsNamed 5) = true := by kernel_rfl
theorem jf_ve : Rows.breakpointShiftsRow.veiledFits Tryz.prog Tryz.f5.params.toList (Tryz.f5.params.toList ++ Rows.breakpointShiftsSpec.plain.varTypes Tryz.prog ++ Tryz.f5.resultTypes.toList) = true := by kernel_rfl
theorem jf_name : Tryz.prog.funcNamed Rows.breakpointShiftsRow.func = some 5 := by kernel_rfl
theorem jf_goes : false = Rows.breakpointShiftsRow.goesBy Tryz.prog := by kernel_rfl
theorem jf_all : joinedFacts Tryz.prog 5 Tryz.f5 Rows.breakpointShiftsSpec Rows.breakpointShiftsRow = true := by
  unfold joinedFacts
  exact (andT (andT (andT (andT (andT (andT (andT (andT (andT (andT (andT (andT (andT (andT (andT (andT (andT (andT (andT (andT (andT (andT (andT (andT (andT (andT (andT (andT (andT (andT (andT (by kernel_rfl) jf_laid) jf_maps) (by kernel_rfl)) (by kernel_rfl)) (by kernel_rfl)) jf_stops) (by kernel_rfl)) jf_knobs) jf_in) jf_un) jf_re) jf_va) (by kernel_rfl)) (by kernel_rfl)) (by kernel_rfl)) (by kernel_rfl)) (by kernel_rfl)) (by kernel_rfl)) (by kernel_rfl)) (by kernel_rfl)) (by kernel_rfl)) jf_keys) (by kernel_rfl)) jf_heard) jf_enter) jf_lifts) jf_make) (by kernel_rfl)) (by kernel_rfl)) (by kernel_rfl)) jf_ve)
end Go.Proofs.YtlaiafalilcgjaaGreatDoor.breakpointShifts
