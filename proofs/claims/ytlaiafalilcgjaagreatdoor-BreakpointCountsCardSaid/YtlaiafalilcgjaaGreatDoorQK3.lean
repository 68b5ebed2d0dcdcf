/- Proved: BreakpointCounts -/
import Derived.Test.YtlaiafalilcgjaaGreatDoorQK2
set_option linter.unusedVariables false
set_option linter.unusedSimpArgs false
namespace Go.Proofs.YtlaiafalilcgjaaGreatDoor
open Go.RowKit Go.PX
set_option maxRecDepth 100000
/-- how often it is still ignored -/
def gK (ig : Int) (k : Nat) : Int := if (k : Int) < ig then ig - k else 0
def hit0 (G h : Int) : PV := .tup [.agg [.sc (.int .i64 1), .sc (.int .i64 (bif decide (0 < G) then IntKind.i64.wrap (G - 1) else G)), .sc (.int .i64 (IntKind.i64.wrap (h + 1))), .sc (.int .i64 (-1)), .sc (.int .i64 0), .sc (sV [102]), .sc (sV []), .sc (.bool false), .imm 1 []], .sc (.bool (!decide (0 < G)))]
theorem hit0_eq {ig : Int} {k : Nat} (h0 : 0 ≤ ig) (h1 : ig < 20) (hk : k < 30) : hit0 (gK ig k) k = .tup [.agg [.sc (.int .i64 1), .sc (.int .i64 (gK ig (k + 1))), .sc (.int .i64 ((k + 1 : Nat) : Int)), .sc (.int .i64 (-1)), .sc (.int .i64 0), .sc (sV [102]), .sc (sV []), .sc (.bool false), .imm 1 []], .sc (.bool (decide (ig ≤ (k : Int))))] := by
  unfold hit0 gK
  have e : IntKind.i64.wrap ((k : Int) + 1) = ((k + 1 : Nat) : Int) := by rw [IntWalk.i64_in _ (by omega)]; omega
  rw [e]
  by_cases h : (k : Int) < ig
  · have h2 : ¬ ig ≤ (k : Int) := by omega
    have h3 : 0 < ig - (k : Int) := by omega
    have h4 : IntKind.i64.wrap (ig - (k : Int) - 1) = if ((k + 1 : Nat) : Int) < ig then ig - ((k + 1 : Nat) : Int) else 0 := by
      rw [IntWalk.i64_in _ (by omega)]; split <;> omega
    simp only [if_pos h, h2, h3, h4, decide_true, decide_false, cond_true, Bool.not_true]
  · have h2 : ig ≤ (k : Int) := by omega
    have h3 : ¬ ((k + 1 : Nat) : Int) < ig := by omega
    simp [if_neg h, h2, if_neg h3]
    intro q; omega
theorem counts_ok {ig : Int} {k : Nat} (h0 : 0 ≤ ig) (h1 : ig < 20) (hk : k < 30) : gK ig (k + 1) = (if 0 > IntKind.i64.wrap (IntKind.i64.wrap (ig - (k : Int)) - 1) then 0 else IntKind.i64.wrap (IntKind.i64.wrap (ig - (k : Int)) - 1)) := by
  unfold gK
  rw [IntWalk.i64_in (ig - (k : Int)) (by omega), IntWalk.i64_in (ig - (k : Int) - 1) (by omega)]
  split <;> split <;> omega

set_option maxHeartbeats 400000 in
theorem con_hit0 (G h t : Int) : PX.Con Tryz.prog 18 [(.agg [(.sc (.int .i64 1)), (.sc (.int .i64 G)), (.sc (.int .i64 h)), (.sc (.int .i64 (-1))), (.sc (.int .i64 0)), (.sc (PX.sV [102])), (.sc (PX.sV [])), (.sc (.bool false)), (.imm 1 ([]))]), (.sc (.int .i64 t)), (.agg [(.sc (.int .i64 0)), (.sc (.int .i64 0)), (.sc (.slice none 0 0)), (.sc (.slice none 0 0))]), (.sc (.int .i64 0))] [] 1 100000 (hit0 G h) [] := by
  refine PX.con_intro [(.agg [(.sc (.int .i64 1)), (.sc (.int .i64 G)), (.sc (.int .i64 h)), (.sc (.int .i64 (-1))), (.sc (.int .i64 0)), (.sc (PX.sV [102])), (.sc (PX.sV [])), (.sc (.bool false)), (.imm 1 ([]))]), (.sc (.int .i64 t)), (.agg [(.sc (.int .i64 0)), (.sc (.int .i64 0)), (.sc (.slice none 0 0)), (.sc (.slice none 0 0))]), (.sc (.int .i64 0))] 57 Tryz.func18 rfl rfl (by kernel_rfl) (by kernel_rfl) ?_
  intro E a hE hS
  generalize E.w0 = w at hS ⊢
  have mix := mixed
  refine PX.G [⟨4, [], (.ptr 1 0)⟩, ⟨6, [], (.ptr 2 0)⟩, ⟨8, [], (.ptr 3 0)⟩] [(1, .box 38 [(.sc (.int .i64 1)), (.sc (.int .i64 G)), (.sc (.int .i64 h)), (.sc (.int .i64 (-1))), (.sc (.int .i64 0)), (.sc (PX.sV [102])), (.sc (PX.sV [])), (.sc (.bool false)), (.imm 1 ([]))]), (2, .box 41 [(.sc (.int .i64 0)), (.sc (.int .i64 0)), (.sc (.slice none 0 0)), (.sc (.slice none 0 0))]), (3, .box 38 [(.sc (.int .i64 0)), (.sc (.int .i64 0)), (.sc (.int .i64 0)), (.sc (.int .i64 0)), (.sc (.int .i64 0)), (.sc (PX.sV [])), (.sc (PX.sV [])), (.sc (.bool false)), (.sc (.slice none 0 0))])] 4 [] [] [.au, .au, .au, .au] [1, 3, 4, 6, 8] [1, 2, 3] hS hE trivial fun a w hS => ?_
  refine PX.G [] [(1, .box 38 [(.sc (.int .i64 1)), (.sc (.int .i64 G)), (.sc (.int .i64 h)), (.sc (.int .i64 (-1))), (.sc (.int .i64 0)), (.sc (PX.sV [102])), (.sc (PX.sV [])), (.sc (.bool false)), (.own 4 1 0)]), (4, .row 3 1 true ([]))] 5 [.b true, .b true, .b (Nat.ble (0) 1000000000)] [] [.au, .au, .au, .au, .au] [1, 3, 4, 6, 8] [1, 2, 3, 4] hS hE ⟨rfl, rfl, rfl, trivial⟩ fun a w hS => ?_
  replace hS := PX.fz 4 [] [(1, .box 38 [(.sc (.int .i64 1)), (.sc (.int .i64 G)), (.sc (.int .i64 h)), (.sc (.int .i64 (-1))), (.sc (.int .i64 0)), (.sc (PX.sV [102])), (.sc (PX.sV [])), (.sc (.bool false)), (.imm 1 ([]))])] [1, 3, 4, 6, 8] [1, 2, 3] [.b (PX.lenIs 0 ([]))] hS ⟨(rfl), trivial⟩
  refine wp_seq_k fun K1 hK1 => ?_
  refine PX.G [⟨22, [], (.sc (.bool false))⟩] [] 5 [] [(3, false)] [.au, .au, .au, .au, .dd, .dd, .dd, .dd, .au] [3, 4, 6, 8, 22] [1, 2, 3] hS hE trivial fun a w hS => ?_
  refine PX.cond_s false hS (by kernel_rfl) (fun h2 => nomatch h2) (fun h2 => ?_)
  refine wp_skip ?_
  refine hK1 _ _ ?_
  refine wp_seq_k fun K3 hK3 => ?_
  refine PX.G [⟨34, [], (.sc (.bool false))⟩] [] 5 [.q (PX.BinIs Tryz.prog .neq 9 (.tmp 25) (.const (.string ⟨#[]⟩)) (PX.sV []) (PX.sV []) (.bool false))] [(3, false), (7, false)] [.au, .au, .bs (.bool false), .au, .dd, .dd, .au, .au, .dd, .dd, .au] [3, 4, 8, 34] [1, 3] hS hE ⟨PX.str_ne _ _, trivial⟩ fun a w hS => ?_
  refine PX.cond_s false hS (by kernel_rfl) (fun h4 => nomatch h4) (fun h4 => ?_)
  refine wp_skip ?_
  refine hK3 _ _ ?_
  refine PX.G [] [(1, .box 38 [(.sc (.int .i64 1)), (.sc (.int .i64 G)), (.sc (.int .i64 (IntKind.i64.wrap (h + 1)))), (.sc (.int .i64 (-1))), (.sc (.int .i64 0)), (.sc (PX.sV [102])), (.sc (PX.sV [])), (.sc (.bool false)), (.imm 1 ([]))])] 5 [] [] [.au, .au, .au, .au, .au] [3, 4, 8] [1, 3] hS hE trivial fun a w hS => ?_
  refine wp_seq_k fun K5 hK5 => ?_
  refine PX.G [⟨46, [], (.sc (.bool false))⟩] [] 5 [.q (PX.BinIs Tryz.prog .neq 9 (.tmp 41) (.const (.string ⟨#[]⟩)) (PX.sV []) (PX.sV []) (.bool false))] [(3, false)] [.au, .au, .bs (.bool false), .au, .dd, .dd, .au] [4, 8, 46] [1, 3] hS hE ⟨PX.str_ne _ _, trivial⟩ fun a w hS => ?_
  refine PX.cond_s false hS (by kernel_rfl) (fun h6 => nomatch h6) (fun h6 => ?_)
  refine wp_skip ?_
  refine hK5 _ _ ?_
  refine wp_seq_k fun K7 hK7 => ?_
  refine PX.G [⟨50, [], (.sc (.bool (decide (0 < G))))⟩] [] 5 [] [] [.au, .au, .au] [4, 8, 50] [1, 3] hS hE trivial fun a w hS => ?_
  refine PX.cond_s (decide (0 < G)) hS (by kernel_rfl) (fun h8 => ?_) (fun h8 => ?_)
  · skip
    refine PX.G [] [(1, .box 38 [(.sc (.int .i64 1)), (.sc (.int .i64 (IntKind.i64.wrap (G - 1)))), (.sc (.int .i64 (IntKind.i64.wrap (h + 1)))), (.sc (.int .i64 (-1))), (.sc (.int .i64 0)), (.sc (PX.sV [102])), (.sc (PX.sV [])), (.sc (.bool false)), (.imm 1 ([]))])] 5 [] [] [.au, .au, .au, .au, .au] [4, 8] [1, 3] hS hE trivial fun a w hS => ?_
    refine PX.G [⟨9, [], (.sc (.bool false))⟩] [(3, .box 38 [(.sc (.int .i64 1)), (.sc (.int .i64 (IntKind.i64.wrap (G - 1)))), (.sc (.int .i64 (IntKind.i64.wrap (h + 1)))), (.sc (.int .i64 (-1))), (.sc (.int .i64 0)), (.sc (PX.sV [102])), (.sc (PX.sV [])), (.sc (.bool false)), (.imm 1 ([]))])] 5 [] [] [.au, .au, .au] [8, 9] [3] hS hE trivial fun a w hS => ?_
    refine wp_ret ?_
    try simp only [Exit.then, Exit.inBlock, Nat.reduceEqDiff, ↓reduceIte]
    rw [show (hit0 G h) = ((.tup [(.agg [(.sc (.int .i64 1)), (.sc (.int .i64 (IntKind.i64.wrap (G - 1)))), (.sc (.int .i64 (IntKind.i64.wrap (h + 1)))), (.sc (.int .i64 (-1))), (.sc (.int .i64 0)), (.sc (PX.sV [102])), (.sc (PX.sV [])), (.sc (.bool false)), (.imm 1 ([]))]), (.sc (.bool false))]) : PX.PV) from by unfold hit0; rw [h8]; rfl]
    exact PX.ret_s hS hE (by kernel_rfl) (by kernel_rfl) (by kernel_rfl) (.inl rfl)
  · skip
    refine wp_skip ?_
    refine hK7 _ _ ?_
    refine PX.G [⟨9, [], (.sc (.bool true))⟩] [(3, .box 38 [(.sc (.int .i64 1)), (.sc (.int .i64 G)), (.sc (.int .i64 (IntKind.i64.wrap (h + 1)))), (.sc (.int .i64 (-1))), (.sc (.int .i64 0)), (.sc (PX.sV [102])), (.sc (PX.sV [])), (.sc (.bool false)), (.imm 1 ([]))])] 5 [] [] [.au, .au, .au] [8, 9] [3] hS hE trivial fun a w hS => ?_
    refine wp_ret ?_
    try simp only [Exit.then, Exit.inBlock, Nat.reduceEqDiff, ↓reduceIte]
    rw [show (hit0 G h) = ((.tup [(.agg [(.sc (.int .i64 1)), (.sc (.int .i64 G)), (.sc (.int .i64 (IntKind.i64.wrap (h + 1)))), (.sc (.int .i64 (-1))), (.sc (.int .i64 0)), (.sc (PX.sV [102])), (.sc (PX.sV [])), (.sc (.bool false)), (.imm 1 ([]))]), (.sc (.bool true))]) : PX.PV) from by unfold hit0; rw [h8]; rfl]
    exact PX.ret_s hS hE (by kernel_rfl) (by kernel_rfl) (by kernel_rfl) (.inl rfl)

set_option maxHeartbeats 1000000 in
theorem counts_con (hA : ∀ lo top, PX.Con Tryz.prog 8 [] [] lo top (.sc (.bool true)) []) (ignore times : Int) : PX.Con Tryz.prog 7 [(.sc (.int .i64 ignore)), (.sc (.int .i64 times))] [] 1 100000 (.sc (.bool true)) [] := by
  refine PX.con_intro [(.sc (.int .i64 ignore)), (.sc (.int .i64 times))] 50 Tryz.func7 rfl rfl (by kernel_rfl) (by kernel_rfl) ?_
  intro E a hE hS
  generalize E.w0 = w at hS ⊢
  have mix := mixed
  refine PX.G [] [] 1 [] [] [.au] [0, 1] [] hS hE trivial fun a w hS => ?_
  refine PX.G [⟨0, [], (.sc (.int .i64 (modD ignore 20)))⟩, ⟨1, [], (.sc (.int .i64 (modD times 30)))⟩] [] 1 [.q (PX.Con Tryz.prog 12 [(.sc (.int .i64 ignore)), (.sc (.int .i64 20))] [] 1 1 (.sc (.int .i64 (modD ignore 20))) []), .q (PX.Con Tryz.prog 12 [(.sc (.int .i64 times)), (.sc (.int .i64 30))] [] 1 1 (.sc (.int .i64 (modD times 30))) [])] [] [.au, .cl [] (.sc (.int .i64 (modD ignore 20))) [] 1, .au, .cl [] (.sc (.int .i64 (modD times 30))) [] 1, .au, .au] [0, 1] [] hS hE ⟨PX.con_any (con_mod20 ignore), PX.con_any (con_mod30 times), trivial⟩ fun a w hS => ?_
  have hig := modD_range (n := ignore) (k := 20) (by omega) (by omega)
  have hti := modD_range (n := times) (k := 30) (by omega) (by omega)
  generalize modD ignore 20 = ig at hS hig
  generalize modD times 30 = tm at hS hti
  obtain ⟨n, rfl⟩ := Int.eq_ofNat_of_zero_le hti.1
  refine PX.G [⟨5, [], (.ptr 1 0)⟩] [(1, .box 38 [(.sc (.int .i64 1)), (.sc (.int .i64 ig)), (.sc (.int .i64 0)), (.sc (.int .i64 (-1))), (.sc (.int .i64 0)), (.sc (PX.sV [102])), (.sc (PX.sV [])), (.sc (.bool false)), (.sc (.slice none 0 0))])] 2 [] [] [.au, .au, .au, .au] [0, 1, 5] [1] hS hE trivial fun a w hS => ?_
  refine wp_seq_k fun K1 hK1 => ?_
  refine PX.G [⟨6, [], (.sc (.int .i64 0))⟩] [] 2 [] [] [.au] [0, 1, 5, 6] [1] hS hE trivial fun a w hS => ?_
  refine wp_block ?_
  replace hS := PX.recell (id := 1) (j := 8) (.imm 1 []) hS rfl rfl rfl (PX.nil_imm 1)
  replace hS := PX.recell (id := 1) (j := 1) (.sc (.int .i64 (gK ig 0))) hS rfl rfl rfl (fun _ _ _ _ h => (show ((.sc (.int .i64 ig)) : PX.PV) = .sc (.int .i64 (gK ig 0)) from by unfold gK; split <;> (congr 2; simp at *; try omega)) ▸ h)
  refine wp_loop_ghost (fun m2 a' w' => ∃ k : Nat, m2 = n - k ∧ k ≤ n ∧ True ∧ PX.Sat E 50 [⟨0, [], (.sc (.int .i64 ig))⟩, ⟨1, [], (.sc (.int .i64 ((n : Nat) : Int)))⟩, ⟨5, [], (.ptr 1 0)⟩, ⟨6, [], (.sc (.int .i64 ((k : Nat) : Int)))⟩] [(1, .box 38 [(.sc (.int .i64 1)), (.sc (.int .i64 (gK ig (k)))), (.sc (.int .i64 ((k : Nat) : Int))), (.sc (.int .i64 (-1))), (.sc (.int .i64 0)), (.sc (PX.sV [102])), (.sc (PX.sV [])), (.sc (.bool false)), (.imm 1 ([]))])] 2 a' w') (n - 0) ⟨0, rfl, Nat.zero_le _, trivial, (PX.canon [] _ _ 2 hS hE (by kernel_rfl) (by kernel_rfl) (by kernel_rfl))⟩ ?_
  clear hS; rintro m2 a w ⟨k, hm2, hlek, hIk, hS⟩
  refine wp_seq_k fun K3 hK3 => ?_
  refine PX.G [⟨16, [], (.sc (.bool (decide (((k : Nat) : Int) < ((n : Nat) : Int)))))⟩] [] 2 [] [] [.au, .au, .au] [0, 1, 5, 6, 16] [1] hS hE trivial fun a w hS => ?_
  refine PX.cond_s (decide (((k : Nat) : Int) < ((n : Nat) : Int))) hS (by kernel_rfl) (fun h4 => ?_) (fun h4 => ?_)
  · skip
    refine wp_skip ?_
    refine hK3 _ _ ?_
    refine wp_seq_k fun K5 hK5 => ?_
    refine wp_block ?_
    refine PX.G [] [] 2 [] [] [.au] [0, 1, 5, 6] [1] hS hE trivial fun a w hS => ?_
    have hkn : k < n := by simpa using h4
    refine PX.G [⟨7, [], (.sc (.bool (decide (ig ≤ (k : Int)))))⟩] [(1, .box 38 [(.sc (.int .i64 1)), (.sc (.int .i64 (gK ig (k + 1)))), (.sc (.int .i64 ((k + 1 : Nat) : Int))), (.sc (.int .i64 (-1))), (.sc (.int .i64 0)), (.sc (PX.sV [102])), (.sc (PX.sV [])), (.sc (.bool false)), (.imm 1 ([]))])] 2 [.q (PX.Con Tryz.prog 18 [(.agg [(.sc (.int .i64 1)), (.sc (.int .i64 (gK ig (k)))), (.sc (.int .i64 ((k : Nat) : Int))), (.sc (.int .i64 (-1))), (.sc (.int .i64 0)), (.sc (PX.sV [102])), (.sc (PX.sV [])), (.sc (.bool false)), (.imm 1 ([]))]), (.sc (.int .i64 (Int.tmod ((k : Nat) : Int) 3))), (.agg [(.sc (.int .i64 0)), (.sc (.int .i64 0)), (.sc (.slice none 0 0)), (.sc (.slice none 0 0))]), (.sc (.int .i64 0))] [] 2 2 (.tup [(.agg [(.sc (.int .i64 1)), (.sc (.int .i64 (gK ig (k + 1)))), (.sc (.int .i64 ((k + 1 : Nat) : Int))), (.sc (.int .i64 (-1))), (.sc (.int .i64 0)), (.sc (PX.sV [102])), (.sc (PX.sV [])), (.sc (.bool false)), (.imm 1 ([]))]), (.sc (.bool (decide (ig ≤ (k : Int)))))]) [])] [] [.au, .au, .au, .au, .cl [] (.tup [(.agg [(.sc (.int .i64 1)), (.sc (.int .i64 (gK ig (k + 1)))), (.sc (.int .i64 ((k + 1 : Nat) : Int))), (.sc (.int .i64 (-1))), (.sc (.int .i64 0)), (.sc (PX.sV [102])), (.sc (PX.sV [])), (.sc (.bool false)), (.imm 1 ([]))]), (.sc (.bool (decide (ig ≤ (k : Int)))))]) [] 2, .au, .au, .au, .au, .au] [0, 1, 5, 6, 7] [1] hS hE ⟨by have h := con_hit0 (gK ig k) (k : Int) (Int.tmod (k : Int) 3); rw [hit0_eq hig.1 hig.2 (by omega)] at h; exact PX.con_any h, trivial⟩ fun a w hS => ?_
    refine PX.G [⟨48, [], (.sc (.bool ((((decide (ig ≤ (k : Int))) != (decide (ig ≤ ((k : Nat) : Int)))) || (((k + 1 : Nat) : Int) != ((k + 1 : Nat) : Int))) || ((gK ig (k + 1)) != (if 0 > (IntKind.i64.wrap ((IntKind.i64.wrap (ig - ((k : Nat) : Int))) - 1)) then 0 else (IntKind.i64.wrap ((IntKind.i64.wrap (ig - ((k : Nat) : Int))) - 1)))))))⟩] [] 2 [.q (SX.pv [(5, ((decide (ig ≤ (k : Int))) != (decide (ig ≤ ((k : Nat) : Int))))), (12, (((decide (ig ≤ (k : Int))) != (decide (ig ≤ ((k : Nat) : Int)))) || (((k + 1 : Nat) : Int) != ((k + 1 : Nat) : Int))))] [(5, false)] = true → PX.AllOb [.q ((.sc (.int .i64 (IntKind.i64.wrap (((k : Nat) : Int) + 1))) : PX.PV) = (.sc (.int .i64 ((k + 1 : Nat) : Int))))])] [(5, ((decide (ig ≤ (k : Int))) != (decide (ig ≤ ((k : Nat) : Int))))), (12, (((decide (ig ≤ (k : Int))) != (decide (ig ≤ ((k : Nat) : Int)))) || (((k + 1 : Nat) : Int) != ((k + 1 : Nat) : Int))))] [.au, .au, .au, .au, .au, .au, .au, .au, .au, .nm (.sc (.int .i64 ((k + 1 : Nat) : Int))), .au, .pk, .au, .au, .au, .au, .au, .au, .au, .au, .au, .pk] [0, 1, 5, 6, 48] [1] hS hE ⟨fun hg => ⟨PX.nm_int (by rw [IntWalk.i64_in _ (by omega)]; omega), trivial⟩, trivial⟩ fun a w hS => ?_
    refine PX.cond_s ((((decide (ig ≤ (k : Int))) != (decide (ig ≤ ((k : Nat) : Int)))) || (((k + 1 : Nat) : Int) != ((k + 1 : Nat) : Int))) || ((gK ig (k + 1)) != (if 0 > (IntKind.i64.wrap ((IntKind.i64.wrap (ig - ((k : Nat) : Int))) - 1)) then 0 else (IntKind.i64.wrap ((IntKind.i64.wrap (ig - ((k : Nat) : Int))) - 1))))) hS (by kernel_rfl) (fun h6 => ?_) (fun h6 => ?_)
    · skip
      have hc := counts_ok (k := k) hig.1 hig.2 (by omega)
      rw [← hc] at h6
      simp at h6
    · skip
      refine wp_skip ?_
      refine hK5 _ _ ?_
      refine PX.G0 [⟨6, [], (.sc (.int .i64 ((k + 1 : Nat) : Int)))⟩] [] 2 [.q ((.sc (.int .i64 (IntKind.i64.wrap (((k : Nat) : Int) + 1))) : PX.PV) = (.sc (.int .i64 ((k + 1 : Nat) : Int))))] [] [.au, .nm (.sc (.int .i64 ((k + 1 : Nat) : Int))), .au] [0, 1, 5, 6] [1] hS hE ⟨PX.nm_int (by rw [IntWalk.i64_in _ (by omega)]; omega), trivial⟩ fun a w hS => ?_
      exact ⟨n - (k + 1), by omega, k + 1, rfl, by omega, trivial, (PX.canon [] _ _ 2 hS hE (by kernel_rfl) (by kernel_rfl) (by kernel_rfl))⟩
  · skip
    refine wp_exit ?_
    refine hK1 _ _ ?_
    refine PX.G [⟨4, [], (.sc (.bool true))⟩] [] 2 [.q (PX.Con Tryz.prog 8 [] [] 2 2 (.sc (.bool true)) [])] [] [.cl [] (.sc (.bool true)) [] 2, .au] [4] [] hS hE ⟨hA _ _, trivial⟩ fun a w hS => ?_
    refine wp_ret ?_
    try simp only [Exit.then, Exit.inBlock, Nat.reduceEqDiff, ↓reduceIte]
    rw [show (.sc (.bool true)) = ((.sc (.bool true)) : PX.PV) from rfl]
    exact PX.ret_s hS hE (by kernel_rfl) (by kernel_rfl) (by kernel_rfl) (.inl rfl)
end Go.Proofs.YtlaiafalilcgjaaGreatDoor
