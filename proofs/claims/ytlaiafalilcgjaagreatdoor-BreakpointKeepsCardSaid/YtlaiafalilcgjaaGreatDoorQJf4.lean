/- Proved: closed facts of the row of one statement. -/
import Derived.Test.YtlaiafalilcgjaaGreatDoorQJf
set_option linter.unusedVariables false
set_option linter.unusedSimpArgs false
namespace Go.Proofs.YtlaiafalilcgjaaGreatDoor.breakpointKeeps
open Go
theorem jf_in : (Rows.breakpointKeepsRow.inPlace == Tryz.prog.inPlace 4) = true := by kernel_rfl
theorem jf_un : (Rows.breakpointKeepsRow.unfollowed == Tryz.prog.unfollowed 4) = true := by kernel_rfl
theorem jf_re : (Rows.breakpointKeepsRow.recurses == Tryz.prog.recurses 4) = true := by kernel_rfl
theorem jf_va : (Rows.breakpointKeepsRow.named == Tryz.prog.varsNamed 4) = true := by kernel_rfl
theorem jf_ve : Rows.breakpointKeepsRow.veiledFits Tryz.prog Tryz.f4.params.toList (Tryz.f4.params.toList ++ Rows.breakpointKeepsSpec.plain.varTypes Tryz.prog ++ Tryz.f4.resultTypes.toList) = true := by kernel_rfl
theorem jf_name : Tryz.prog.funcNamed Rows.breakpointKeepsRow.func = some 4 := by kernel_rfl
theorem jf_goes : false = Rows.breakpointKeepsRow.goesBy Tryz.prog := by kernel_rfl
theorem jf_all : joinedFacts Tryz.prog 4 Tryz.f4 Rows.breakpointKeepsSpec Rows.breakpointKeepsRow = true := by
  unfold joinedFacts
  exact (andT (andT (andT (andT (andT (andT (andT (andT (andT (andT (andT (andT (andT (andT (andT (andT (andT (andT (andT (andT (andT (andT (andT (andT (andT (andT (andT (andT (andT (andT (andT (by kernel_rfl) jf_laid) jf_maps) (by kernel_rfl)) (by kernel_rfl)) (by kernel_rfl)) jf_stops) (by kernel_rfl)) jf_knobs) jf_in) jf_un) jf_re) jf_va) (by kernel_rfl)) (by kernel_rfl)) (by kernel_rfl)) (by kernel_rfl)) (by kernel_rfl)) (by kernel_rfl)) (by kernel_rfl)) (by kernel_rfl)) (by kernel_rfl)) jf_keys) (by kernel_rfl)) jf_heard) jf_enter) jf_lifts) jf_make) (by kernel_rfl)) (by kernel_rfl)) (by kernel_rfl)) jf_ve)
end Go.Proofs.YtlaiafalilcgjaaGreatDoor.breakpointKeeps
