/- Proved: closed facts of the row of one statement. -/
import Derived.Test.YtlaiafalilcgjaaGreatDoorQJf
set_option linter.unusedVariables false
set_option linter.unusedSimpArgs false
namespace Go.Proofs.YtlaiafalilcgjaaGreatDoor.breakpointMoves
open Go
theorem jf_in : (Rows.breakpointMovesRow.inPlace == Tryz.prog.inPlace 3) = true := by kernel_rfl
theorem jf_un : (Rows.breakpointMovesRow.unfollowed == Tryz.prog.unfollowed 3) = true := by kernel_rfl
theorem jf_re : (Rows.breakpointMovesRow.recurses == Tryz.prog.recurses 3) = true := by kernel_rfl
theorem jf_va : (Rows.breakpointMovesRow.named == Tryz.prog.varsNamed 3) = true := by kernel_rfl
theorem jf_ve : Rows.breakpointMovesRow.veiledFits Tryz.prog Tryz.f3.params.toList (Tryz.f3.params.toList ++ Rows.breakpointMovesSpec.plain.varTypes Tryz.prog ++ Tryz.f3.resultTypes.toList) = true := by kernel_rfl
theorem jf_name : Tryz.prog.funcNamed Rows.breakpointMovesRow.func = some 3 := by kernel_rfl
theorem jf_goes : false = Rows.breakpointMovesRow.goesBy Tryz.prog := by kernel_rfl
theorem jf_all : joinedFacts Tryz.prog 3 Tryz.f3 Rows.breakpointMovesSpec Rows.breakpointMovesRow = true := by
  unfold joinedFacts
  exact (andT (andT (andT (andT (andT (andT (andT (andT (andT (andT (andT (andT (andT (andT (andT (andT (andT (andT (andT (andT (andT (andT (andT (andT (andT (andT (andT (andT (andT (andT (andT (by kernel_rfl) jf_laid) jf_maps) (by kernel_rfl)) (by kernel_rfl)) (by kernel_rfl)) jf_stops) (by kernel_rfl)) jf_knobs) jf_in) jf_un) jf_re) jf_va) (by kernel_rfl)) (by kernel_rfl)) (by kernel_rfl)) (by kernel_rfl)) (by kernel_rfl)) (by kernel_rfl)) (by kernel_rfl)) (by kernel_rfl)) (by kernel_rfl)) jf_keys) (by kernel_rfl)) jf_heard) jf_enter) jf_lifts) jf_make) (by kernel_rfl)) (by kernel_rfl)) (by kernel_rfl)) jf_ve)
end Go.Proofs.YtlaiafalilcgjaaGreatDoor.breakpointMoves
