/- Proved: for every input, debuggerlaw40.BreakpointHits returns true and leaves its arguments as they were (Rows.BreakpointHitsCardSaid). No conditions. -/
import Derived.Test.YtlaiafalilcgjaaGreatDoorTie
import Derived.Test.YtlaiafalilcgjaaGreatDoorCards
import Derived.Test.YtlaiafalilcgjaaGreatDoorQK2
import Derived.Test.YtlaiafalilcgjaaGreatDoorQK8
import Derived.Test.YtlaiafalilcgjaaGreatDoorQJf6
import Derived.Test.YtlaiafalilcgjaaGreatDoorQL9
import Derived.WalkKit
import Derived.ProofKit
import Derived.OpenShut
import Derived.ShutString
import Derived.LaidMore
import Derived.Lay
import Derived.SevenTiedAt
import Derived.Stop.Joined
set_option linter.unusedVariables false
set_option linter.unusedSimpArgs false
namespace Go.Proofs.YtlaiafalilcgjaaGreatDoor.breakpointHits
open Go.PX Go.RowKit Go.ChangeShapes Go.WideShapes Go.ChangeAt
open Go.ChangeMaps (open_string shut_string)
set_option linter.unusedVariables false
theorem own : ownKnob Tryz.prog.godebug = none := by kernel_rfl
theorem below_of_eff {σ σ' : Nm} {Z Z' : Nat → Prop} {w w' : World} (h : Eff σ Z w [] [] σ' Z' w') : Below w.heap.size w w' :=
  ⟨h.chg.os, h.chg.tape, h.chg.output, h.chg.size, fun k hk => h.chg.block k hk fun ⟨id, o, c, q, _⟩ => q rfl⟩
theorem walk (vb vd : Value) (b : BrkD) (th : Int) (d : DatD) (e kind ig : Int) (tx : Bool) (w : World) (hb : ∀ σ, VR σ (Zw w) w vb (.agg (encK b))) (hd : ∀ σ, VR σ (Zw w) w vd (.agg (encD d))) :
    Calls Tryz.prog 6 #[vb, .int .i64 th, vd, .int .i64 e, .int .i64 kind, .int .i64 ig, .bool tx] w fun e w' => e = .returned (.bool true) ∧ Below w.heap.size w w' := by
  refine (hits_con con_awake b th d e kind ig tx w (fun _ => none) (Zw w) [vb, .int .i64 th, vd, .int .i64 e, .int .i64 kind, .int .i64 ig, .bool tx] ?_ (VRs.cons (hb _) (VRs.cons (.sc _ rfl) (VRs.cons (hd _) (VRs.cons (.sc _ rfl) (VRs.cons (.sc _ rfl) (VRs.cons (.sc _ rfl) (VRs.cons (.sc _ rfl) VRs.nil))))))) (fun _ _ _ => rfl)).mono fun e w' ⟨u, σ', Z', he, hu, hf⟩ => ?_
  · exact { at_ := fun _ _ h => (nomatch h), inj := fun _ _ _ _ _ _ _ h => (nomatch h), off := fun _ _ _ _ h => (nomatch h), zlt := fun _ hb => hb }
  · cases hu with
    | sc _ _ => exact ⟨he, below_of_eff hf⟩
set_option maxRecDepth 100000 in
theorem lifted (os : Os) (started : os.Started) (H : Type) (enc : TypeId × Value → H) :
    ReturnsInHanded {} Tryz.checked os 6 .any (fun w args => (Rows.breakpointHitsSpec.pre enc Tryz.prog Tryz.f6 Rows.breakpointHitsRow.domain false w args ∧ laidMetH Tryz.prog Rows.breakpointHitsRow.laid w) ∧ sizedMet enc Tryz.prog Tryz.f6 (OpenSpec.ofChange Rows.breakpointHitsSpec) false w args)
      (Rows.breakpointHitsSpec.post enc Tryz.prog Tryz.f6 false true false false) := by
  refine returnsInHanded_of_change_and (C := Tryz.checked) (X := fun w _ => laidMetH Tryz.prog Rows.breakpointHitsRow.laid w) (fun _ _ _ hh h => h.of_heap hh) own started (by kernel_rfl) Tryz.func6
    (ChangeSpec.witness_shaped (enc := enc) (C := Tryz.checked) (os := os) (X := fun w _ => laidMetH Tryz.prog Rows.breakpointHitsRow.laid w) false (World.laidAll Tryz.prog os Rows.breakpointHitsRow.laid) #[.agg #[.int .i64 0, .int .i64 0, .int .i64 0, .int .i64 0, .int .i64 0, .string ByteArray.empty, .string ByteArray.empty, .bool false, .slice none 0 0], .int .i64 0, .agg #[.int .i64 0, .int .i64 0, .slice none 0 0, .slice none 0 0], .int .i64 0, .int .i64 0, .int .i64 0, .bool false] 8 (World.laidAll_os _ _ _)
      (World.shaped_of_ZipB (by kernel_rfl) (by kernel_rfl)) (by kernel_rfl) (by kernel_rfl) (by kernel_rfl)
      (by rw [MakeChecks.laidMetH_plain _ _ _ (by kernel_rfl)]; exact laidMet_laidAll _ (by kernel_rfl) (by kernel_rfl))) ?_
  intro W base args ds gs before hval0 hW hc hsz hL _
  have hval : ∀ (j : Nat) t v, Tryz.f6.params[j]? = some t → args[j]? = some v → Value.okWide Tryz.prog W .any base t v := hval0
  have hW' := hW
  obtain ⟨p, q, hA0, hV, rfl, _, _⟩ := hW
  have hA : DataW.TrodAll enc Tryz.prog W 0 (fun _ => true) true Tryz.f6.params.toList args.toList ds p := hA0
  rw [Tryz.params6] at hA hval
  have hsz1 : (DataW.weightsEach Tryz.prog (Tryz.f6.params.toList ++ Rows.breakpointHitsSpec.plain.varTypes Tryz.prog) (ds ++ gs)).all (· ≤ reachBytes) = true := hsz
  rw [Tryz.params6] at hsz1
  obtain ⟨v0, vs0, d0, ds0, p0, q0, hargs, rfl, rfl, h0, r0⟩ := trodAll_cons hA
  obtain ⟨v1, vs1, d1, ds1, p1, q1, rfl, rfl, rfl, h1, r1⟩ := trodAll_cons r0
  obtain ⟨v2, vs2, d2, ds2, p2, q2, rfl, rfl, rfl, h2, r2⟩ := trodAll_cons r1
  obtain ⟨v3, vs3, d3, ds3, p3, q3, rfl, rfl, rfl, h3, r3⟩ := trodAll_cons r2
  obtain ⟨v4, vs4, d4, ds4, p4, q4, rfl, rfl, rfl, h4, r4⟩ := trodAll_cons r3
  obtain ⟨v5, vs5, d5, ds5, p5, q5, rfl, rfl, rfl, h5, r5⟩ := trodAll_cons r4
  obtain ⟨v6, vs6, d6, ds6, p6, q6, rfl, rfl, rfl, h6, r6⟩ := trodAll_cons r5
  obtain ⟨rfl, rfl, rfl⟩ := trodAll_nil r6
  obtain rfl : args = #[v0, v1, v2, v3, v4, v5, v6] := by cases args; simp_all
  obtain ⟨rfl, rfl⟩ := trodVars_none hV
  have k0 := h0
  have k2 := h2
  have lt0 : ∀ x ∈ p0, x.block < W.heap.size := by obtain ⟨m, hm⟩ := k0; exact DataW.trod_lt m _ _ _ hm
  have lt2 : ∀ x ∈ p2, x.block < W.heap.size := by obtain ⟨m, hm⟩ := k2; exact DataW.trod_lt m _ _ _ hm
  obtain ⟨a1, rfl, rfl, rfl, w1⟩ := open_int Tryz.underlying3 (hval 1 3 v1 rfl rfl) h1
  obtain ⟨a3, rfl, rfl, rfl, w3⟩ := open_int Tryz.underlying3 (hval 3 3 v3 rfl rfl) h3
  obtain ⟨a4, rfl, rfl, rfl, w4⟩ := open_int Tryz.underlying3 (hval 4 3 v4 rfl rfl) h4
  obtain ⟨a5, rfl, rfl, rfl, w5⟩ := open_int Tryz.underlying3 (hval 5 3 v5 rfl rfl) h5
  obtain ⟨a6, rfl, rfl, rfl⟩ := open_bool Tryz.underlying4 (hval 6 4 v6 rfl rfl) h6
  obtain ⟨c0, rfl, hc0⟩ := okWide_struct Tryz.underlying38 (hval 0 38 v0 rfl rfl)
  obtain ⟨c2, rfl, hc2⟩ := okWide_struct Tryz.underlying41 (hval 2 41 v2 rfl rfl)
  obtain ⟨b, hb⟩ : ∃ b : BrkD, ∀ σ : Nm, VR σ (Zw W) W (.agg c0) (.agg (encK b)) := by
    obtain ⟨fuel, hf⟩ := h0
    have ho : Arg.Op enc Tryz.prog W fuel 38 c0.toList := ⟨_, by simpa [Value.cells] using hf, fun k hk => by
      have := List.all_eq_true.1 hsz1 k (DataW.weights_mem_each (j := 0) (t := 38) (d := d0) rfl rfl k hk)
      exact of_decide_eq_true this⟩
    have h9 : c0.toList.length = 9 := by rw [Array.length_toList, hc0]; kernel_rfl
    simpa using open_break ho h9
  obtain ⟨d, hd⟩ : ∃ d : DatD, ∀ σ : Nm, VR σ (Zw W) W (.agg c2) (.agg (encD d)) := by
    obtain ⟨fuel, hf⟩ := h2
    have ho : Arg.Op enc Tryz.prog W fuel 41 c2.toList := ⟨_, by simpa [Value.cells] using hf, fun k hk => by
      have := List.all_eq_true.1 hsz1 k (DataW.weights_mem_each (j := 2) (t := 41) (d := d2) rfl rfl k hk)
      exact of_decide_eq_true this⟩
    have h4 : c2.toList.length = 4 := by rw [Array.length_toList, hc2]; kernel_rfl
    simpa using open_datum ho h4
  clear hA0 hval0 h0 h2
  refine (walk _ _ b a1 d a3 a4 a5 a6 W hb hd).mono fun e W' ⟨he, bel⟩ => ?_
  subst he
  have s0 := Below.trod jf_laid (by kernel_rfl) (of_decide_eq_true (by kernel_rfl)) k0 bel lt0
  have s2 := Below.trod jf_laid (by kernel_rfl) (of_decide_eq_true (by kernel_rfl)) k2 bel lt2
  exact ⟨_, rfl, _, _, _, [], _, [], hW', trodAll_mk1 (shut_bool Tryz.underlying4 _), (trodAll_cons_mk s0 (trodAll_cons_mk (shut_int Tryz.underlying3 w1) (trodAll_cons_mk s2 (trodAll_cons_mk (shut_int Tryz.underlying3 w3) (trodAll_cons_mk (shut_int Tryz.underlying3 w4) (trodAll_cons_mk (shut_int Tryz.underlying3 w5) (trodAll_cons_mk (shut_bool Tryz.underlying4 _) trodAll_mk0))))))), rfl, bel.frame _, fun h => by cases h⟩
theorem holds : Rows.BreakpointHitsSaid :=
  OpenClaim.holds_of_wide 6 Tryz.f6 rfl rfl rfl rfl rfl rfl rfl ⟨rfl, rfl, rfl, rfl, rfl⟩ rfl rfl rfl rfl rfl jf_name Tryz.func6 jf_all
    (of_decide_eq_true (by kernel_rfl)) (by unfold Func.isWrapper; first | (rw [if_pos (by decide +kernel)]; kernel_rfl) | (rw [if_neg (by decide +kernel)]; exact ⟨rfl, rfl⟩))
    (fun os started H enc _ => lifted os started H enc)
/-- the statement -/
theorem proved : Rows.BreakpointHitsCardSaid :=
  Claim7.holds_tied_plain_at .later [] [.data, .pinned] true (true, "1bba85e7493fec091f958a2d88c6c0f94e5596ecd3d2f9835dee83cc33a99313") false holds (fun _ h => by cases h) (by kernel_rfl) (fun _ h => by cases h) breakpointHits_row_tie rfl ⟨rfl, rfl⟩ (by kernel_rfl) rfl
    (fun f fn hf hfn => by
      obtain rfl : f = 6 := Option.some.inj ((show Tryz.prog.funcNamed "debugger/debuggerlaw40.BreakpointHits" = some 6 from jf_name).symm.trans hf) |>.symm
      obtain rfl : fn = Tryz.f6 := (Option.some.inj (Tryz.func6.symm.trans hfn)).symm
      exact ⟨jf_looks, fun j t ht => by
        rw [Tryz.params6] at ht
        have h3 : t = 38 ∨ t = 3 ∨ t = 41 ∨ t = 4 := by
          rcases j with _ | _ | _ | _ | _ | _ | _ | j
          · exact .inl (by simpa using ht.symm)
          · exact .inr (.inl (by simpa using ht.symm))
          · exact .inr (.inr (.inl (by simpa using ht.symm)))
          · exact .inr (.inl (by simpa using ht.symm))
          · exact .inr (.inl (by simpa using ht.symm))
          · exact .inr (.inl (by simpa using ht.symm))
          · exact .inr (.inr (.inr (by simpa using ht.symm)))
          · simp at ht
        rcases h3 with rfl | rfl | rfl | rfl
        · exact (show Tryz.prog.wantsStandIn 38 = false by kernel_rfl)
        · exact (show Tryz.prog.wantsStandIn 3 = false by kernel_rfl)
        · exact (show Tryz.prog.wantsStandIn 41 = false by kernel_rfl)
        · exact (show Tryz.prog.wantsStandIn 4 = false by kernel_rfl)⟩)
    jf_goes
end Go.Proofs.YtlaiafalilcgjaaGreatDoor.breakpointHits
