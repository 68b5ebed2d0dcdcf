/- Proved: for every input, debuggerlaw40.BreakpointKeeps returns true and leaves its arguments as they were (Rows.BreakpointKeepsCardSaid). No conditions. -/
import Derived.Test.YtlaiafalilcgjaaGreatDoorTie
import Derived.Test.YtlaiafalilcgjaaGreatDoorCards
import Derived.Test.YtlaiafalilcgjaaGreatDoorQL12
import Derived.Test.YtlaiafalilcgjaaGreatDoorQK8
import Derived.Test.YtlaiafalilcgjaaGreatDoorQJf4
import Derived.Test.YtlaiafalilcgjaaGreatDoorQL9
import Derived.WalkKit
import Derived.ProofKit
import Derived.OpenShut
import Derived.ShutString
import Derived.LaidMore
import Derived.Lay
import Derived.SevenTiedAt
import Derived.Stop.Joined
import Derived.Below
set_option linter.unusedVariables false
set_option linter.unusedSimpArgs false
namespace Go.Proofs.YtlaiafalilcgjaaGreatDoor.breakpointKeeps
open Go.PX Go.RowKit Go.ChangeShapes Go.WideShapes Go.ChangeAt
open Go.ChangeMaps (open_string shut_string)
set_option linter.unusedVariables false
theorem own : ownKnob Tryz.prog.godebug = none := by kernel_rfl
theorem below_of_eff {σ σ' : Nm} {Z Z' : Nat → Prop} {w w' : World} (h : Eff σ Z w [] [] σ' Z' w') : Below w.heap.size w w' :=
  ⟨h.chg.os, h.chg.tape, h.chg.output, h.chg.size, fun k hk => h.chg.block k hk fun ⟨id, o, c, q, _⟩ => q rfl⟩
theorem walk (v0 : Value) (l0 : List Int) (v1 : Value) (l1 : List Int) (w : World) (h0 : IR (Zw w) w v0 (.imm 1 (l0.map encI))) (h1 : IR (Zw w) w v1 (.imm 1 (l1.map encI))) :
    Calls Tryz.prog 4 #[v0, v1] w fun e w' => e = .returned (.bool true) ∧ Below w.heap.size w w' := by
  refine (keeps_con con_awake l0 l1 w (fun _ => none) (Zw w) [v0, v1] ?_ (VRs.cons (.imm _ _ _ h0) (VRs.cons (.imm _ _ _ h1) VRs.nil)) (fun _ _ _ => rfl)).mono fun e w' ⟨u, σ', Z', he, hu, hf⟩ => ?_
  · exact { at_ := fun _ _ h => (nomatch h), inj := fun _ _ _ _ _ _ _ h => (nomatch h), off := fun _ _ _ _ h => (nomatch h), zlt := fun _ hb => hb }
  · cases hu with
    | sc _ _ => exact ⟨he, below_of_eff hf⟩
set_option maxRecDepth 100000 in
theorem lifted (os : Os) (started : os.Started) (H : Type) (enc : TypeId × Value → H) :
    ReturnsInHanded {} Tryz.checked os 4 .any (fun w args => (Rows.breakpointKeepsSpec.pre enc Tryz.prog Tryz.f4 Rows.breakpointKeepsRow.domain false w args ∧ laidMetH Tryz.prog Rows.breakpointKeepsRow.laid w) ∧ sizedMet enc Tryz.prog Tryz.f4 (OpenSpec.ofChange Rows.breakpointKeepsSpec) false w args)
      (Rows.breakpointKeepsSpec.post enc Tryz.prog Tryz.f4 false true false false) := by
  refine returnsInHanded_of_change_and (C := Tryz.checked) (X := fun w _ => laidMetH Tryz.prog Rows.breakpointKeepsRow.laid w) (fun _ _ _ hh h => h.of_heap hh) own started (by kernel_rfl) Tryz.func4
    (ChangeSpec.witness_shaped (enc := enc) (C := Tryz.checked) (os := os) (X := fun w _ => laidMetH Tryz.prog Rows.breakpointKeepsRow.laid w) false (World.laidAll Tryz.prog os Rows.breakpointKeepsRow.laid) #[.slice none 0 0, .slice none 0 0] 8 (World.laidAll_os _ _ _)
      (World.shaped_of_ZipB (by kernel_rfl) (by kernel_rfl)) (by kernel_rfl) (by kernel_rfl) (by kernel_rfl)
      (by rw [MakeChecks.laidMetH_plain _ _ _ (by kernel_rfl)]; exact laidMet_laidAll _ (by kernel_rfl) (by kernel_rfl))) ?_
  intro W base args ds gs before hval0 hW hc hsz hL _
  have hval : ∀ (j : Nat) t v, Tryz.f4.params[j]? = some t → args[j]? = some v → Value.okWide Tryz.prog W .any base t v := hval0
  have hW' := hW
  obtain ⟨p, q, hA0, hV, rfl, _, _⟩ := hW
  have hA : DataW.TrodAll enc Tryz.prog W 0 (fun _ => true) true Tryz.f4.params.toList args.toList ds p := hA0
  rw [Tryz.params4] at hA hval
  have hsz1 : (DataW.weightsEach Tryz.prog (Tryz.f4.params.toList ++ Rows.breakpointKeepsSpec.plain.varTypes Tryz.prog) (ds ++ gs)).all (· ≤ reachBytes) = true := hsz
  rw [Tryz.params4] at hsz1
  obtain ⟨v0, vs0, d0, ds0, p0, q0, hargs, rfl, rfl, h0, r0⟩ := trodAll_cons hA
  obtain ⟨v1, vs1, d1, ds1, p1, q1, rfl, rfl, rfl, h1, r1⟩ := trodAll_cons r0
  obtain ⟨rfl, rfl, rfl⟩ := trodAll_nil r1
  obtain rfl : args = #[v0, v1] := by cases args; simp_all
  obtain ⟨rfl, rfl⟩ := trodVars_none hV
  have k0 := h0
  have lt0 : ∀ x ∈ p0, x.block < W.heap.size := by obtain ⟨m, hm⟩ := k0; exact DataW.trod_lt m _ _ _ hm
  obtain ⟨x0, len0, cap0, rfl⟩ := okWide_slice Tryz.underlying22 (hval 0 22 v0 rfl rfl)
  obtain ⟨l0, g0⟩ : ∃ l : List Int, IR (Zw W) W (.slice x0 len0 cap0) (.imm 1 (l.map encI)) := by
    obtain ⟨fuel, hf⟩ := h0
    have ho : Arg.Op enc Tryz.prog W fuel 22 [.slice x0 len0 cap0] := ⟨_, by simpa [Value.cells] using hf, fun k hk => by
      have := List.all_eq_true.1 hsz1 k (DataW.weights_mem_each (j := 0) (t := 22) (d := d0) rfl rfl k hk)
      exact of_decide_eq_true this⟩
    obtain ⟨l, _, h⟩ := open_intsX ho
    exact ⟨l, h⟩
  have k1 := h1
  have lt1 : ∀ x ∈ p1, x.block < W.heap.size := by obtain ⟨m, hm⟩ := k1; exact DataW.trod_lt m _ _ _ hm
  obtain ⟨x1, len1, cap1, rfl⟩ := okWide_slice Tryz.underlying22 (hval 1 22 v1 rfl rfl)
  obtain ⟨l1, g1⟩ : ∃ l : List Int, IR (Zw W) W (.slice x1 len1 cap1) (.imm 1 (l.map encI)) := by
    obtain ⟨fuel, hf⟩ := h1
    have ho : Arg.Op enc Tryz.prog W fuel 22 [.slice x1 len1 cap1] := ⟨_, by simpa [Value.cells] using hf, fun k hk => by
      have := List.all_eq_true.1 hsz1 k (DataW.weights_mem_each (j := 1) (t := 22) (d := d1) rfl rfl k hk)
      exact of_decide_eq_true this⟩
    obtain ⟨l, _, h⟩ := open_intsX ho
    exact ⟨l, h⟩
  clear hA0 hval0
  refine (walk _ l0 _ l1 W g0 g1).mono fun e W' ⟨he, bel⟩ => ?_
  subst he
  have z0 := Below.trod jf_laid (by kernel_rfl) (of_decide_eq_true (by kernel_rfl)) k0 bel lt0
  have z1 := Below.trod jf_laid (by kernel_rfl) (of_decide_eq_true (by kernel_rfl)) k1 bel lt1
  exact ⟨_, rfl, _, _, _, [], _, [], hW', trodAll_mk1 (shut_bool Tryz.underlying4 _), (trodAll_cons_mk (z0) (trodAll_cons_mk (z1) trodAll_mk0)), rfl, bel.frame _, fun h => by cases h⟩
theorem holds : Rows.BreakpointKeepsSaid :=
  OpenClaim.holds_of_wide 4 Tryz.f4 rfl rfl rfl rfl rfl rfl rfl ⟨rfl, rfl, rfl, rfl, rfl⟩ rfl rfl rfl rfl rfl jf_name Tryz.func4 jf_all
    (of_decide_eq_true (by kernel_rfl)) (by unfold Func.isWrapper; first | (rw [if_pos (by decide +kernel)]; kernel_rfl) | (rw [if_neg (by decide +kernel)]; exact ⟨rfl, rfl⟩))
    (fun os started H enc _ => lifted os started H enc)
/-- the statement -/
theorem proved : Rows.BreakpointKeepsCardSaid :=
  Claim7.holds_tied_plain_at .later [] [.data, .pinned] true (true, "1bba85e7493fec091f958a2d88c6c0f94e5596ecd3d2f9835dee83cc33a99313") false holds (fun _ h => by cases h) (by kernel_rfl) (fun _ h => by cases h) breakpointKeeps_row_tie rfl ⟨rfl, rfl⟩ (by kernel_rfl) rfl
    (fun f fn hf hfn => by
      obtain rfl : f = 4 := Option.some.inj ((show Tryz.prog.funcNamed "debugger/debuggerlaw40.BreakpointKeeps" = some 4 from jf_name).symm.trans hf) |>.symm
      obtain rfl : fn = Tryz.f4 := (Option.some.inj (Tryz.func4.symm.trans hfn)).symm
      exact ⟨jf_looks, fun j t ht => by
        rw [Tryz.params4] at ht
        have h3 : t = 22 := by
          rcases j with _ | _ | j
          · exact (by simpa using ht.symm)
          · exact (by simpa using ht.symm)
          · simp at ht
        subst h3
        exact (show Tryz.prog.wantsStandIn 22 = false by kernel_rfl)⟩)
    jf_goes
end Go.Proofs.YtlaiafalilcgjaaGreatDoor.breakpointKeeps
