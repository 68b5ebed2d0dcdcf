/- Proved: for every pair of ints, debuggerlaw40.BreakpointCounts returns true (Rows.BreakpointCountsCardSaid). No conditions. -/
import Derived.Test.YtlaiafalilcgjaaGreatDoorTie
import Derived.Test.YtlaiafalilcgjaaGreatDoorCards
import Derived.Test.YtlaiafalilcgjaaGreatDoorQK3
import Derived.Test.YtlaiafalilcgjaaGreatDoorQK8
import Derived.Test.YtlaiafalilcgjaaGreatDoorQJf7
import Derived.WalkKit
import Derived.ProofKit
import Derived.OpenShut
import Derived.ShutString
import Derived.LaidMore
import Derived.Lay
import Derived.SevenTiedAt
import Derived.Stop.Joined
set_option linter.unusedVariables false
set_option linter.unusedSimpArgs false
namespace Go.Proofs.YtlaiafalilcgjaaGreatDoor.breakpointCounts
open Go.PX Go.RowKit Go.ChangeShapes Go.WideShapes Go.ChangeAt
open Go.ChangeMaps (open_string shut_string)
set_option linter.unusedVariables false
theorem own : ownKnob Tryz.prog.godebug = none := by kernel_rfl
theorem below_of_eff {σ σ' : Nm} {Z Z' : Nat → Prop} {w w' : World} (h : Eff σ Z w [] [] σ' Z' w') : Below w.heap.size w w' :=
  ⟨h.chg.os, h.chg.tape, h.chg.output, h.chg.size, fun k hk => h.chg.block k hk fun ⟨id, o, c, q, _⟩ => q rfl⟩
theorem walk (a0 a1 : Int) (w : World) : Calls Tryz.prog 7 #[.int .i64 a0, .int .i64 a1] w fun e w' => e = .returned (.bool true) ∧ Below w.heap.size w w' := by
  refine (counts_con con_awake a0 a1 w (fun _ => none) (fun _ => False) [.int .i64 a0, .int .i64 a1] ?_ (VRs.cons (.sc _ rfl) (VRs.cons (.sc _ rfl) VRs.nil)) (fun _ _ _ => rfl)).mono fun e w' ⟨u, σ', Z', he, hu, hf⟩ => ?_
  · exact { at_ := fun _ _ h => (nomatch h), inj := fun _ _ _ _ _ _ _ h => (nomatch h), off := fun _ _ _ _ h => (nomatch h), zlt := fun _ hb => hb.elim }
  · cases hu with
    | sc _ _ => exact ⟨he, below_of_eff hf⟩
set_option maxRecDepth 100000 in
theorem lifted (os : Os) (started : os.Started) (H : Type) (enc : TypeId × Value → H) :
    ReturnsInHanded {} Tryz.checked os 7 .any (fun w args => (Rows.breakpointCountsSpec.pre enc Tryz.prog Tryz.f7 Rows.breakpointCountsRow.domain false w args ∧ laidMetH Tryz.prog Rows.breakpointCountsRow.laid w) ∧ sizedMet enc Tryz.prog Tryz.f7 (OpenSpec.ofChange Rows.breakpointCountsSpec) false w args)
      (Rows.breakpointCountsSpec.post enc Tryz.prog Tryz.f7 false true false false) := by
  refine returnsInHanded_of_change_and (C := Tryz.checked) (X := fun w _ => laidMetH Tryz.prog Rows.breakpointCountsRow.laid w) (fun _ _ _ hh h => h.of_heap hh) own started (by kernel_rfl) Tryz.func7
    (ChangeSpec.witness_shaped (enc := enc) (C := Tryz.checked) (os := os) (X := fun w _ => laidMetH Tryz.prog Rows.breakpointCountsRow.laid w) false (World.laidAll Tryz.prog os Rows.breakpointCountsRow.laid) #[.int .i64 0, .int .i64 0] 8 (World.laidAll_os _ _ _)
      (World.shaped_of_ZipB (by kernel_rfl) (by kernel_rfl)) (by kernel_rfl) (by kernel_rfl) (by kernel_rfl)
      (by rw [MakeChecks.laidMetH_plain _ _ _ (by kernel_rfl)]; exact laidMet_laidAll _ (by kernel_rfl) (by kernel_rfl))) ?_
  intro W base args ds gs before hval0 hW hc _ hL _
  have hval : ∀ (j : Nat) t v, Tryz.f7.params[j]? = some t → args[j]? = some v → Value.okWide Tryz.prog W .any base t v := hval0
  have hW' := hW
  obtain ⟨p, q, hA0, hV, rfl, _, _⟩ := hW
  have hA : DataW.TrodAll enc Tryz.prog W 0 (fun _ => true) true Tryz.f7.params.toList args.toList ds p := hA0
  rw [Tryz.params7] at hA hval
  obtain ⟨v0, vs0, d0, ds0, p0, q0, hargs, rfl, rfl, h0, r0⟩ := trodAll_cons hA
  obtain ⟨v1, vs1, d1, ds1, p1, q1, rfl, rfl, rfl, h1, r1⟩ := trodAll_cons r0
  obtain ⟨rfl, rfl, rfl⟩ := trodAll_nil r1
  obtain rfl : args = #[v0, v1] := by cases args; simp_all
  obtain ⟨rfl, rfl⟩ := trodVars_none hV
  obtain ⟨a0, rfl, rfl, rfl, w0⟩ := open_int Tryz.underlying3 (hval 0 3 v0 rfl rfl) h0
  obtain ⟨a1, rfl, rfl, rfl, w1⟩ := open_int Tryz.underlying3 (hval 1 3 v1 rfl rfl) h1
  clear hA0 hval0
  simp only [List.append_nil] at hW'
  refine (walk a0 a1 W).mono fun e W' ⟨he, bel⟩ => ?_
  subst he
  exact ⟨_, rfl, _, _, _, [], _, [], hW', trodAll_mk1 (shut_bool Tryz.underlying4 _), (trodAll_cons_mk (shut_int Tryz.underlying3 w0) (trodAll_cons_mk (shut_int Tryz.underlying3 w1) trodAll_mk0)), rfl, bel.frame _, fun h => by cases h⟩
theorem holds : Rows.BreakpointCountsSaid :=
  OpenClaim.holds_of_wide 7 Tryz.f7 rfl rfl rfl rfl rfl rfl rfl ⟨rfl, rfl, rfl, rfl, rfl⟩ rfl rfl rfl rfl rfl jf_name Tryz.func7 jf_all
    (of_decide_eq_true (by kernel_rfl)) (by unfold Func.isWrapper; first | (rw [if_pos (by decide +kernel)]; kernel_rfl) | (rw [if_neg (by decide +kernel)]; exact ⟨rfl, rfl⟩))
    (fun os started H enc _ => lifted os started H enc)
/-- the statement -/
theorem proved : Rows.BreakpointCountsCardSaid :=
  Claim7.holds_tied_plain_at .later [] [.data, .pinned] true (true, "1bba85e7493fec091f958a2d88c6c0f94e5596ecd3d2f9835dee83cc33a99313") false holds (fun _ h => by cases h) (by kernel_rfl) (fun _ h => by cases h) breakpointCounts_row_tie rfl ⟨rfl, rfl⟩ (by kernel_rfl) rfl
    (fun f fn hf hfn => by
      obtain rfl : f = 7 := Option.some.inj ((show Tryz.prog.funcNamed "debugger/debuggerlaw40.BreakpointCounts" = some 7 from jf_name).symm.trans hf) |>.symm
      obtain rfl : fn = Tryz.f7 := (Option.some.inj (Tryz.func7.symm.trans hfn)).symm
      exact ⟨jf_looks, fun j t ht => by
        rw [Tryz.params7] at ht
        have h3 : t = 3 := by
          rcases j with _ | _ | j
          · simpa using ht.symm
          · simpa using ht.symm
          · simp at ht
        subst h3
        exact (show Tryz.prog.wantsStandIn 3 = false by kernel_rfl)⟩)
    jf_goes
end Go.Proofs.YtlaiafalilcgjaaGreatDoor.breakpointCounts
