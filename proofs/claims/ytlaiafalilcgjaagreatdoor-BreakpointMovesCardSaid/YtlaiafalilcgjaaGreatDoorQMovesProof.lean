/- Proved: for every input, debuggerlaw40.BreakpointMoves returns true and leaves its arguments as they were (Rows.BreakpointMovesCardSaid). No conditions. -/
import Derived.Test.YtlaiafalilcgjaaGreatDoorTie
import Derived.Test.YtlaiafalilcgjaaGreatDoorCards
import Derived.Test.YtlaiafalilcgjaaGreatDoorQL11
import Derived.Test.YtlaiafalilcgjaaGreatDoorQK8
import Derived.Test.YtlaiafalilcgjaaGreatDoorQJf3
import Derived.Test.YtlaiafalilcgjaaGreatDoorQL9
import Derived.WalkKit
import Derived.ProofKit
import Derived.OpenShut
import Derived.ShutString
import Derived.LaidMore
import Derived.Lay
import Derived.SevenTiedAt
import Derived.Stop.Joined
import Derived.Below
set_option linter.unusedVariables false
set_option linter.unusedSimpArgs false
namespace Go.Proofs.YtlaiafalilcgjaaGreatDoor.breakpointMoves
open Go.PX Go.RowKit Go.ChangeShapes Go.WideShapes Go.ChangeAt
open Go.ChangeMaps (open_string shut_string)
set_option linter.unusedVariables false
theorem own : ownKnob Tryz.prog.godebug = none := by kernel_rfl
theorem below_of_eff {σ σ' : Nm} {Z Z' : Nat → Prop} {w w' : World} (h : Eff σ Z w [] [] σ' Z' w') : Below w.heap.size w w' :=
  ⟨h.chg.os, h.chg.tape, h.chg.output, h.chg.size, fun k hk => h.chg.block k hk fun ⟨id, o, c, q, _⟩ => q rfl⟩
theorem walk (s0 : ByteArray) (s1 : ByteArray) (v2 : Value) (l2 : List Int) (v3 : Value) (l3 : List Int) (a4 : Int) (w : World) (h2 : IR (Zw w) w v2 (.imm 1 (l2.map encI))) (h3 : IR (Zw w) w v3 (.imm 1 (l3.map encI))) (b4 : a4 ≤ 9223372036854775807) :
    Calls Tryz.prog 3 #[.string s0, .string s1, v2, v3, .int .i64 a4] w fun e w' => e = .returned (.bool true) ∧ Below w.heap.size w w' := by
  refine (moves_con con_awake s0.data.toList s1.data.toList l2 l3 a4 b4 w (fun _ => none) (Zw w) [.string s0, .string s1, v2, v3, .int .i64 a4] ?_ (VRs.cons (.sc _ rfl) (VRs.cons (.sc _ rfl) (VRs.cons (.imm _ _ _ h2) (VRs.cons (.imm _ _ _ h3) (VRs.cons (.sc _ rfl) VRs.nil))))) (fun _ _ _ => rfl)).mono fun e w' ⟨u, σ', Z', he, hu, hf⟩ => ?_
  · exact { at_ := fun _ _ h => (nomatch h), inj := fun _ _ _ _ _ _ _ h => (nomatch h), off := fun _ _ _ _ h => (nomatch h), zlt := fun _ hb => hb }
  · cases hu with
    | sc _ _ => exact ⟨he, below_of_eff hf⟩
set_option maxRecDepth 100000 in
theorem lifted (os : Os) (started : os.Started) (H : Type) (enc : TypeId × Value → H) :
    ReturnsInHanded {} Tryz.checked os 3 .any (fun w args => (Rows.breakpointMovesSpec.pre enc Tryz.prog Tryz.f3 Rows.breakpointMovesRow.domain false w args ∧ laidMetH Tryz.prog Rows.breakpointMovesRow.laid w) ∧ sizedMet enc Tryz.prog Tryz.f3 (OpenSpec.ofChange Rows.breakpointMovesSpec) false w args)
      (Rows.breakpointMovesSpec.post enc Tryz.prog Tryz.f3 false true false false) := by
  refine returnsInHanded_of_change_and (C := Tryz.checked) (X := fun w _ => laidMetH Tryz.prog Rows.breakpointMovesRow.laid w) (fun _ _ _ hh h => h.of_heap hh) own started (by kernel_rfl) Tryz.func3
    (ChangeSpec.witness_shaped (enc := enc) (C := Tryz.checked) (os := os) (X := fun w _ => laidMetH Tryz.prog Rows.breakpointMovesRow.laid w) false (World.laidAll Tryz.prog os Rows.breakpointMovesRow.laid) #[.string ByteArray.empty, .string ByteArray.empty, .slice none 0 0, .slice none 0 0, .int .i64 0] 8 (World.laidAll_os _ _ _)
      (World.shaped_of_ZipB (by kernel_rfl) (by kernel_rfl)) (by kernel_rfl) (by kernel_rfl) (by kernel_rfl)
      (by rw [MakeChecks.laidMetH_plain _ _ _ (by kernel_rfl)]; exact laidMet_laidAll _ (by kernel_rfl) (by kernel_rfl))) ?_
  intro W base args ds gs before hval0 hW hc hsz hL _
  have hval : ∀ (j : Nat) t v, Tryz.f3.params[j]? = some t → args[j]? = some v → Value.okWide Tryz.prog W .any base t v := hval0
  have hW' := hW
  obtain ⟨p, q, hA0, hV, rfl, _, _⟩ := hW
  have hA : DataW.TrodAll enc Tryz.prog W 0 (fun _ => true) true Tryz.f3.params.toList args.toList ds p := hA0
  rw [Tryz.params3] at hA hval
  have hsz1 : (DataW.weightsEach Tryz.prog (Tryz.f3.params.toList ++ Rows.breakpointMovesSpec.plain.varTypes Tryz.prog) (ds ++ gs)).all (· ≤ reachBytes) = true := hsz
  rw [Tryz.params3] at hsz1
  obtain ⟨v0, vs0, d0, ds0, p0, q0, hargs, rfl, rfl, h0, r0⟩ := trodAll_cons hA
  obtain ⟨v1, vs1, d1, ds1, p1, q1, rfl, rfl, rfl, h1, r1⟩ := trodAll_cons r0
  obtain ⟨v2, vs2, d2, ds2, p2, q2, rfl, rfl, rfl, h2, r2⟩ := trodAll_cons r1
  obtain ⟨v3, vs3, d3, ds3, p3, q3, rfl, rfl, rfl, h3, r3⟩ := trodAll_cons r2
  obtain ⟨v4, vs4, d4, ds4, p4, q4, rfl, rfl, rfl, h4, r4⟩ := trodAll_cons r3
  obtain ⟨rfl, rfl, rfl⟩ := trodAll_nil r4
  obtain rfl : args = #[v0, v1, v2, v3, v4] := by cases args; simp_all
  obtain ⟨rfl, rfl⟩ := trodVars_none hV
  obtain ⟨s0, rfl, rfl, rfl, w0⟩ := open_string Tryz.underlying9 (hval 0 9 v0 rfl rfl) h0
  obtain ⟨s1, rfl, rfl, rfl, w1⟩ := open_string Tryz.underlying9 (hval 1 9 v1 rfl rfl) h1
  have k2 := h2
  have lt2 : ∀ x ∈ p2, x.block < W.heap.size := by obtain ⟨m, hm⟩ := k2; exact DataW.trod_lt m _ _ _ hm
  obtain ⟨x2, len2, cap2, rfl⟩ := okWide_slice Tryz.underlying22 (hval 2 22 v2 rfl rfl)
  obtain ⟨l2, g2⟩ : ∃ l : List Int, IR (Zw W) W (.slice x2 len2 cap2) (.imm 1 (l.map encI)) := by
    obtain ⟨fuel, hf⟩ := h2
    have ho : Arg.Op enc Tryz.prog W fuel 22 [.slice x2 len2 cap2] := ⟨_, by simpa [Value.cells] using hf, fun k hk => by
      have := List.all_eq_true.1 hsz1 k (DataW.weights_mem_each (j := 2) (t := 22) (d := d2) rfl rfl k hk)
      exact of_decide_eq_true this⟩
    obtain ⟨l, _, h⟩ := open_intsX ho
    exact ⟨l, h⟩
  have k3 := h3
  have lt3 : ∀ x ∈ p3, x.block < W.heap.size := by obtain ⟨m, hm⟩ := k3; exact DataW.trod_lt m _ _ _ hm
  obtain ⟨x3, len3, cap3, rfl⟩ := okWide_slice Tryz.underlying22 (hval 3 22 v3 rfl rfl)
  obtain ⟨l3, g3⟩ : ∃ l : List Int, IR (Zw W) W (.slice x3 len3 cap3) (.imm 1 (l.map encI)) := by
    obtain ⟨fuel, hf⟩ := h3
    have ho : Arg.Op enc Tryz.prog W fuel 22 [.slice x3 len3 cap3] := ⟨_, by simpa [Value.cells] using hf, fun k hk => by
      have := List.all_eq_true.1 hsz1 k (DataW.weights_mem_each (j := 3) (t := 22) (d := d3) rfl rfl k hk)
      exact of_decide_eq_true this⟩
    obtain ⟨l, _, h⟩ := open_intsX ho
    exact ⟨l, h⟩
  obtain ⟨a4, rfl, rfl, rfl, w4⟩ := open_int Tryz.underlying3 (hval 4 3 v4 rfl rfl) h4
  clear hA0 hval0
  refine (walk s0 s1 _ l2 _ l3 a4 W g2 g3 (Go.bounds_i64 w4).2).mono fun e W' ⟨he, bel⟩ => ?_
  subst he
  have z2 := Below.trod jf_laid (by kernel_rfl) (of_decide_eq_true (by kernel_rfl)) k2 bel lt2
  have z3 := Below.trod jf_laid (by kernel_rfl) (of_decide_eq_true (by kernel_rfl)) k3 bel lt3
  exact ⟨_, rfl, _, _, _, [], _, [], hW', trodAll_mk1 (shut_bool Tryz.underlying4 _), (trodAll_cons_mk (shut_string Tryz.underlying9 w0) (trodAll_cons_mk (shut_string Tryz.underlying9 w1) (trodAll_cons_mk (z2) (trodAll_cons_mk (z3) (trodAll_cons_mk (shut_int Tryz.underlying3 w4) trodAll_mk0))))), rfl, bel.frame _, fun h => by cases h⟩
theorem holds : Rows.BreakpointMovesSaid :=
  OpenClaim.holds_of_wide 3 Tryz.f3 rfl rfl rfl rfl rfl rfl rfl ⟨rfl, rfl, rfl, rfl, rfl⟩ rfl rfl rfl rfl rfl jf_name Tryz.func3 jf_all
    (of_decide_eq_true (by kernel_rfl)) (by unfold Func.isWrapper; first | (rw [if_pos (by decide +kernel)]; kernel_rfl) | (rw [if_neg (by decide +kernel)]; exact ⟨rfl, rfl⟩))
    (fun os started H enc _ => lifted os started H enc)
/-- the statement -/
theorem proved : Rows.BreakpointMovesCardSaid :=
  Claim7.holds_tied_plain_at .later [] [.data, .pinned] true (true, "1bba85e7493fec091f958a2d88c6c0f94e5596ecd3d2f9835dee83cc33a99313") false holds (fun _ h => by cases h) (by kernel_rfl) (fun _ h => by cases h) breakpointMoves_row_tie rfl ⟨rfl, rfl⟩ (by kernel_rfl) rfl
    (fun f fn hf hfn => by
      obtain rfl : f = 3 := Option.some.inj ((show Tryz.prog.funcNamed "debugger/debuggerlaw40.BreakpointMoves" = some 3 from jf_name).symm.trans hf) |>.symm
      obtain rfl : fn = Tryz.f3 := (Option.some.inj (Tryz.func3.symm.trans hfn)).symm
      exact ⟨jf_looks, fun j t ht => by
        rw [Tryz.params3] at ht
        have h3 : t = 3 ∨ t = 9 ∨ t = 22 := by
          rcases j with _ | _ | _ | _ | _ | j
          · exact (.inr (.inl (by simpa using ht.symm)))
          · exact (.inr (.inl (by simpa using ht.symm)))
          · exact (.inr (.inr (by simpa using ht.symm)))
          · exact (.inr (.inr (by simpa using ht.symm)))
          · exact (.inl (by simpa using ht.symm))
          · simp at ht
        rcases h3 with rfl | rfl | rfl
        · exact (show Tryz.prog.wantsStandIn 3 = false by kernel_rfl)
        · exact (show Tryz.prog.wantsStandIn 9 = false by kernel_rfl)
        · exact (show Tryz.prog.wantsStandIn 22 = false by kernel_rfl)⟩)
    jf_goes
end Go.Proofs.YtlaiafalilcgjaaGreatDoor.breakpointMoves
