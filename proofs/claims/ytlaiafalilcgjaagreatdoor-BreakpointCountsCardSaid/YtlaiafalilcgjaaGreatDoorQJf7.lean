/- Proved: closed facts of the row of one statement. -/
import Derived.Test.YtlaiafalilcgjaaGreatDoorQJf
set_option linter.unusedVariables false
set_option linter.unusedSimpArgs false
namespace Go.Proofs.YtlaiafalilcgjaaGreatDoor.breakpointCounts
open Go
theorem jf_in : (Rows.breakpointCountsRow.inPlace == Tryz.prog.inPlace 7) = true := by kernel_rfl
theorem jf_un : (Rows.breakpointCountsRow.unfollowed == Tryz.prog.unfollowed 7) = true := by kernel_rfl
theorem jf_re : (Rows.breakpointCountsRow.recurses == Tryz.prog.recurses 7) = true := by kernel_rfl
theorem jf_va : (Rows.breakpointCountsRow.named == Tryz.prog.varsNamed 7) = true := by kernel_rfl
theorem jf_ve : Rows.breakpointCountsRow.veiledFits Tryz.prog Tryz.f7.params.toList (Tryz.f7.params.toList ++ Rows.breakpointCountsSpec.plain.varTypes Tryz.prog ++ Tryz.f7.resultTypes.toList) = true := by kernel_rfl
theorem jf_name : Tryz.prog.funcNamed Rows.breakpointCountsRow.func = some 7 := by kernel_rfl
theorem jf_goes : false = Rows.breakpointCountsRow.goesBy Tryz.prog := by kernel_rfl
theorem jf_all : joinedFacts Tryz.prog 7 Tryz.f7 Rows.breakpointCountsSpec Rows.breakpointCountsRow = true := by
  unfold joinedFacts
  exact (andT (andT (andT (andT (andT (andT (andT (andT (andT (andT (andT (andT (andT (andT (andT (andT (andT (andT (andT (andT (andT (andT (andT (andT (andT (andT (andT (andT (andT (andT (andT (by kernel_rfl) jf_laid) jf_maps) (by kernel_rfl)) (by kernel_rfl)) (by kernel_rfl)) jf_stops) (by kernel_rfl)) jf_knobs) jf_in) jf_un) jf_re) jf_va) (by kernel_rfl)) (by kernel_rfl)) (by kernel_rfl)) (by kernel_rfl)) (by kernel_rfl)) (by kernel_rfl)) (by kernel_rfl)) (by kernel_rfl)) (by kernel_rfl)) jf_keys) (by kernel_rfl)) jf_heard) jf_enter) jf_lifts) jf_make) (by kernel_rfl)) (by kernel_rfl)) (by kernel_rfl)) jf_ve)
end Go.Proofs.YtlaiafalilcgjaaGreatDoor.breakpointCounts
