/- Proved: closed facts of the row of one statement. -/
import Derived.Test.YtlaiafalilcgjaaGreatDoorQJf
set_option linter.unusedVariables false
set_option linter.unusedSimpArgs false
namespace Go.Proofs.YtlaiafalilcgjaaGreatDoor.breakpointHits
open Go
theorem jf_in : (Rows.breakpointHitsRow.inPlace == Tryz.prog.inPlace 6) = true := by kernel_rfl
theorem jf_un : (Rows.breakpointHitsRow.unfollowed == Tryz.prog.unfollowed 6) = true := by kernel_rfl
theorem jf_re : (Rows.breakpointHitsRow.recurses == Tryz.prog.recurses 6) = true := by kernel_rfl
theorem jf_va : (Rows.breakpointHitsRow.named == Tryz.prog.varsNamed 6) = true := by kernel_rfl
theorem jf_ve : Rows.breakpointHitsRow.veiledFits Tryz.prog Tryz.f6.params.toList (Tryz.f6.params.toList ++ Rows.breakpointHitsSpec.plain.varTypes Tryz.prog ++ Tryz.f6.resultTypes.toList) = true := by kernel_rfl
theorem jf_name : Tryz.prog.funcNamed Rows.breakpointHitsRow.func = some 6 := by kernel_rfl
theorem jf_goes : false = Rows.breakpointHitsRow.goesBy Tryz.prog := by kernel_rfl
theorem jf_all : joinedFacts Tryz.prog 6 Tryz.f6 Rows.breakpointHitsSpec Rows.breakpointHitsRow = true := by
  unfold joinedFacts
  exact (andT (andT (andT (andT (andT (andT (andT (andT (andT (andT (andT (andT (andT (andT (andT (andT (andT (andT (andT (andT (andT (andT (andT (andT (andT (andT (andT (andT (andT (andT (andT (by kernel_rfl) jf_laid) jf_maps) (by kernel_rfl)) (by kernel_rfl)) (by kernel_rfl)) jf_stops) (by kernel_rfl)) jf_knobs) jf_in) jf_un) jf_re) jf_va) (by kernel_rfl)) (by kernel_rfl)) (by kernel_rfl)) (by kernel_rfl)) (by kernel_rfl)) (by kernel_rfl)) (by kernel_rfl)) (by kernel_rfl)) (by kernel_rfl)) jf_keys) (by kernel_rfl)) jf_heard) jf_enter) jf_lifts) jf_make) (by kernel_rfl)) (by kernel_rfl)) (by kernel_rfl)) jf_ve)
end Go.Proofs.YtlaiafalilcgjaaGreatDoor.breakpointHits
