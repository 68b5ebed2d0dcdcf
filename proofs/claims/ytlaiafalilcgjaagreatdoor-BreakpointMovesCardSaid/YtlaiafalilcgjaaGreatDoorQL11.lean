/- Proved: BreakpointMoves -/
import Derived.Test.YtlaiafalilcgjaaGreatDoorQL10
import Derived.Test.YtlaiafalilcgjaaGreatDoorQL7
set_option linter.unusedVariables false
set_option linter.unusedSimpArgs false
namespace Go.Proofs.YtlaiafalilcgjaaGreatDoor
open Go.RowKit Go.PX
set_option maxRecDepth 100000
open Go.BK
def encW (p : List UInt8 × List UInt8) : List PV := [.sc (sV p.1), .sc (sV p.2)]
theorem four_le {o t ga gb : List UInt8} (h1 : o.length ≤ 300) (h2 : t.length ≤ 300) (h3 : ga.length ≤ 300) (h4 : gb.length ≤ 300) : ∀ p ∈ ([(o, t), (ga, gb), (gb, ga), (ga, o)] : List (List UInt8 × List UInt8)), p.1.length ≤ 300 ∧ p.2.length ≤ 300 := by
  intro p hp
  simp only [List.mem_cons, List.not_mem_nil, or_false] at hp
  rcases hp with rfl | rfl | rfl | rfl <;> exact ⟨by assumption, by assumption⟩

theorem modk_sub {n k : Int} (h1 : 0 < k) (h2 : k ≤ 1000000) : IntKind.i64.wrap (modD n k - 1) = modD n k - 1 := by
  have := modD_range (n := n) h1 h2; rw [IntWalk.i64_in _ (by omega)]

set_option maxHeartbeats 1000000 in
theorem moves_con (hA : ∀ lo top, PX.Con Tryz.prog 8 [] [] lo top (.sc (.bool true)) []) (o t : List UInt8) (l other : List Int) (line : Int) (hline : line ≤ 9223372036854775807) : PX.Con Tryz.prog 3 [(.sc (PX.sV o)), (.sc (PX.sV t)), (.imm 1 (l.map encI)), (.imm 1 (other.map encI)), (.sc (.int .i64 line))] [] 1 100000 (.sc (.bool true)) [] := by
  refine PX.con_intro [(.sc (PX.sV o)), (.sc (PX.sV t)), (.imm 1 (l.map encI)), (.imm 1 (other.map encI)), (.sc (.int .i64 line))] 91 Tryz.func3 rfl rfl (by kernel_rfl) (by kernel_rfl) ?_
  intro E a hE hS
  generalize E.w0 = w at hS ⊢
  have mix := mixed
  refine PX.G [] [] 1 [] [] [.au] [0, 1, 2, 3, 4] [] hS hE trivial fun a w hS => ?_
  refine wp_seq_k fun K1 hK1 => ?_
  refine PX.G [⟨25, [], (.sc (.bool (decide (300 < ((o.length : Nat) : Int)) || decide (300 < ((t.length : Nat) : Int)))))⟩] [] 1 [.q ((.sc (.int .i64 (((PX.sB o).size : Nat) : Int)) : PX.PV) = (.sc (.int .i64 ((o.length : Nat) : Int)))), .q (SX.pv [(3, decide (300 < ((o.length : Nat) : Int)))] [(3, false)] = true → PX.AllOb [.q ((.sc (.int .i64 (((PX.sB t).size : Nat) : Int)) : PX.PV) = (.sc (.int .i64 ((t.length : Nat) : Int))))])] [(3, decide (300 < ((o.length : Nat) : Int)))] [.au, .nm (.sc (.int .i64 ((o.length : Nat) : Int))), .au, .au, .au, .nm (.sc (.int .i64 ((t.length : Nat) : Int))), .au, .pk] [0, 1, 2, 3, 4, 25] [] hS hE ⟨PX.nm_len (PX.sB_size _), fun hg => ⟨PX.nm_len (PX.sB_size _), trivial⟩, trivial⟩ fun a w hS => ?_
  refine PX.cond_s (decide (300 < ((o.length : Nat) : Int)) || decide (300 < ((t.length : Nat) : Int))) hS (by kernel_rfl) (fun h2 => ?_) (fun h2 => ?_)
  · skip
    refine PX.G [⟨10, [], (.sc (.bool true))⟩] [] 1 [.q (PX.Con Tryz.prog 8 [] [] 1 1 (.sc (.bool true)) [])] [] [.cl [] (.sc (.bool true)) [] 1, .au] [10] [] hS hE ⟨hA _ _, trivial⟩ fun a w hS => ?_
    refine wp_ret ?_
    try simp only [Exit.then, Exit.inBlock, Nat.reduceEqDiff, ↓reduceIte]
    rw [show (.sc (.bool true)) = ((.sc (.bool true)) : PX.PV) from rfl]
    exact PX.ret_s hS hE (by kernel_rfl) (by kernel_rfl) (by kernel_rfl) (.inl rfl)
  · skip
    refine wp_skip ?_
    refine hK1 _ _ ?_
    have hot : o.length ≤ 300 ∧ t.length ≤ 300 := by have := h2; simp at this; omega
    refine PX.G [⟨11, [], (.sc (PX.sV (tA l (min l.length 30))))⟩, ⟨12, [], (.sc (PX.sV (tB l other (min l.length 30))))⟩] [] 1 [.q (PX.Con Tryz.prog 9 [(.imm 1 (l.map encI)), (.imm 1 (other.map encI))] [] 1 1 (.tup [(.sc (PX.sV (tA l (min l.length 30)))), (.sc (PX.sV (tB l other (min l.length 30))))]) [])] [] [.au, .au, .cl [] (.tup [(.sc (PX.sV (tA l (min l.length 30)))), (.sc (PX.sV (tB l other (min l.length 30))))]) [] 1, .au, .au, .au, .au, .au] [0, 1, 4, 11, 12] [] hS hE ⟨PX.con_any (con_texts l other), trivial⟩ fun a w hS => ?_
    have hga := tA_len l (min l.length 30); have hgb := tB_len l other (min l.length 30)
    generalize tA l (min l.length 30) = ga at hS hga; generalize tB l other (min l.length 30) = gb at hS hgb
    refine wp_seq_k fun K3 hK3 => ?_
    refine PX.G [⟨45, [], (.own 1 2 4)⟩, ⟨46, [], (.sc (.int .i64 ((4 : Nat) : Int)))⟩, ⟨47, [], (.sc (.int .i64 0))⟩] [(1, .row 26 2 true ([[(.sc (PX.sV o)), (.sc (PX.sV t))], [(.sc (PX.sV ga)), (.sc (PX.sV gb))], [(.sc (PX.sV gb)), (.sc (PX.sV ga))], [(.sc (PX.sV ga)), (.sc (PX.sV o))]]))] 2 [] [] [.au, .au, .au, .au, .au, .au, .au, .au, .au, .au, .au, .au, .au, .au, .au] [4, 45, 46, 47] [1] hS hE trivial fun a w hS => ?_
    refine wp_block ?_
    replace hS := PX.rerow (id := 1) (([(o, t), (ga, gb), (gb, ga), (ga, o)].map encW)) hS rfl (rfl)
    have hxb := four_le hot.1 hot.2 (show ga.length ≤ 300 by omega) (show gb.length ≤ 300 by omega)
    have hx4 : ([(o, t), (ga, gb), (gb, ga), (ga, o)] : List (List UInt8 × List UInt8)).length = 4 := rfl
    generalize ([(o, t), (ga, gb), (gb, ga), (ga, o)] : List (List UInt8 × List UInt8)) = XS at hS hxb hx4
    refine wp_loop_ghost (fun m4 a' w' => ∃ k : Nat, m4 = 4 - k ∧ k ≤ 4 ∧ True ∧ PX.Sat E 91 [⟨4, [], (.sc (.int .i64 line))⟩, ⟨45, [], (.own 1 2 4)⟩, ⟨46, [], (.sc (.int .i64 ((4 : Nat) : Int)))⟩, ⟨47, [], (.sc (.int .i64 ((k : Nat) : Int)))⟩] [(1, .row 26 2 true (XS.map encW))] 2 a' w') (4 - 0) ⟨0, rfl, Nat.zero_le _, trivial, (PX.canon [] _ _ 2 hS hE (by kernel_rfl) (by kernel_rfl) (by kernel_rfl))⟩ ?_
    clear hS; rintro m4 a w ⟨k, hm4, hlek, hIk, hS⟩
    refine PX.G [⟨48, [], (.sc (.bool (decide (((k : Nat) : Int) < ((4 : Nat) : Int)))))⟩] [] 2 [] [] [.au] [4, 45, 46, 47, 48] [1] hS hE trivial fun a w hS => ?_
    refine wp_seq_k fun K5 hK5 => ?_
    refine PX.cond_s (decide (((k : Nat) : Int) < ((4 : Nat) : Int))) hS (by kernel_rfl) (fun h6 => ?_) (fun h6 => ?_)
    · skip
      refine wp_skip ?_
      refine hK5 _ _ ?_
      refine wp_seq_k fun K7 hK7 => ?_
      refine wp_block ?_
      have hk4 : k < 4 := by have := of_decide_eq_true h6; omega
      obtain ⟨p, hp⟩ := get_of_lt (show k < XS.length by omega)
      have hpb := hxb p (List.mem_of_getElem? hp)
      refine PX.G [⟨14, [], (.ptr 2 0)⟩] [(2, .box 26 [(.sc (PX.sV p.1)), (.sc (PX.sV p.2))])] 3 [.q (((k : Nat) : Int) = ((k : Nat) : Int)), .q (k < 4), .q ((XS.map encW)[k]? = some (encW p))] [] [.ix k [], .lr (encW p), .au, .au] [4, 14, 45, 46, 47] [1, 2] hS hE ⟨rfl, hk4, PX.map_get hp, trivial⟩ fun a w hS => ?_
      have hl1 := linesL_len p.1; have hl2 := linesL_len p.2; have hc1 := count_le_len p.1 10; have hc2 := count_le_len p.2 10
      refine PX.G [⟨15, [], (.imm 1 ((moveD (linesL p.1) (linesL p.2)).map encN))⟩] [] 3 [.q (PX.Con Tryz.prog 10 [(.sc (PX.sV p.1)), (.sc (PX.sV p.2))] [] 3 3 (.imm 1 ((moveD (linesL p.1) (linesL p.2)).map encN)) [])] [] [.au, .au, .au, .au, .cl [] (.imm 1 ((moveD (linesL p.1) (linesL p.2)).map encN)) [] 3, .au] [4, 14, 15, 45, 46, 47] [1, 2] hS hE ⟨PX.con_any (con_move p.1 p.2 _ _ rfl rfl (by omega) (by omega) (by omega) (by omega) hl1 hl2), trivial⟩ fun a w hS => ?_
      refine PX.G [⟨16, [], (.imm 1 ((moveD (linesL p.1) (linesL p.2)).map encN))⟩] [] 3 [.q (PX.Con Tryz.prog 11 [(.sc (PX.sV p.1)), (.sc (PX.sV p.2))] [] 3 3 (.imm 1 ((moveD (linesL p.1) (linesL p.2)).map encN)) [])] [] [.au, .au, .au, .au, .cl [] (.imm 1 ((moveD (linesL p.1) (linesL p.2)).map encN)) [] 3, .au] [4, 15, 16, 45, 46, 47] [1] hS hE ⟨PX.con_any (con_moveR p.1 p.2 _ _ rfl rfl (by omega) (by omega) (by omega) (by omega)), trivial⟩ fun a w hS => ?_
      have hml := moveD_len (linesL p.1) (linesL p.2); generalize moveD (linesL p.1) (linesL p.2) = mv at hS hml
      refine PX.G [⟨17, [], (.sc (.int .i64 ((modD line ((mv.length + 3 : Nat) : Int)) - 1)))⟩] [] 3 [.q ((.sc (.int .i64 (((mv.map encN).length : Nat) : Int)) : PX.PV) = (.sc (.int .i64 ((mv.length : Nat) : Int)))), .q ((.sc (.int .i64 (IntKind.i64.wrap (((mv.length : Nat) : Int) + 3))) : PX.PV) = (.sc (.int .i64 ((mv.length + 3 : Nat) : Int)))), .q (PX.Con Tryz.prog 12 [(.sc (.int .i64 line)), (.sc (.int .i64 ((mv.length + 3 : Nat) : Int)))] [] 3 3 (.sc (.int .i64 (modD line ((mv.length + 3 : Nat) : Int)))) []), .q ((.sc (.int .i64 (IntKind.i64.wrap ((modD line ((mv.length + 3 : Nat) : Int)) - 1))) : PX.PV) = (.sc (.int .i64 ((modD line ((mv.length + 3 : Nat) : Int)) - 1))))] [] [.au, .au, .nm (.sc (.int .i64 ((mv.length : Nat) : Int))), .nm (.sc (.int .i64 ((mv.length + 3 : Nat) : Int))), .cl [] (.sc (.int .i64 (modD line ((mv.length + 3 : Nat) : Int)))) [] 3, .nm (.sc (.int .i64 ((modD line ((mv.length + 3 : Nat) : Int)) - 1))), .au] [4, 15, 16, 17, 45, 46, 47] [1] hS hE ⟨PX.nm_len (by simp), PX.nm_int (by rw [IntWalk.i64_in _ (by omega)]; omega), PX.con_any (con_modk _ _ (by omega)), PX.nm_int (modk_sub (by omega) (by omega)), trivial⟩ fun a w hS => ?_
      have hk17 : modD line (((mv.length + 3 : Nat) : Int)) - 1 ≤ 9223372036854775807 := by have := modD_range (n := line) (k := ((mv.length + 3 : Nat) : Int)) (by omega) (by omega); omega
      refine PX.G [⟨72, [], (.imm 1 (mv.map encN))⟩, ⟨73, [], (.sc (.int .i64 line))⟩, ⟨74, [], (.sc (.int .i64 (((followD mv line) : Nat) : Int)))⟩, ⟨75, [], (.imm 1 (mv.map encN))⟩, ⟨76, [], (.sc (.int .i64 line))⟩, ⟨77, [], (.sc (.int .i64 (((followD mv line) : Nat) : Int)))⟩, ⟨78, [], (.sc (.bool ((((followD mv line) : Nat) : Int) != (((followD mv line) : Nat) : Int))))⟩, ⟨88, [], (.sc (.bool (((((followD mv line) : Nat) : Int) != (((followD mv line) : Nat) : Int)) || ((((followD mv ((modD line ((mv.length + 3 : Nat) : Int)) - 1)) : Nat) : Int) != (((followD mv ((modD line ((mv.length + 3 : Nat) : Int)) - 1)) : Nat) : Int)))))⟩] [] 3 [.q (PX.Con Tryz.prog 13 [(.imm 1 (mv.map encN)), (.imm 1 (mv.map encN))] [] 3 3 (.sc (.bool true)) []), .q (PX.Con Tryz.prog 14 [(.imm 1 (mv.map encN)), (.sc (.int .i64 line))] [] 3 3 (.sc (.int .i64 (((followD mv line) : Nat) : Int))) []), .q (PX.Con Tryz.prog 15 [(.imm 1 (mv.map encN)), (.sc (.int .i64 line))] [] 3 3 (.sc (.int .i64 (((followD mv line) : Nat) : Int))) []), .q (SX.pv [(13, ((((followD mv line) : Nat) : Int) != (((followD mv line) : Nat) : Int)))] [(13, false)] = true → PX.AllOb [.q (PX.Con Tryz.prog 14 [(.imm 1 (mv.map encN)), (.sc (.int .i64 ((modD line ((mv.length + 3 : Nat) : Int)) - 1)))] [] 3 3 (.sc (.int .i64 (((followD mv ((modD line ((mv.length + 3 : Nat) : Int)) - 1)) : Nat) : Int))) [])]), .q (SX.pv [(13, ((((followD mv line) : Nat) : Int) != (((followD mv line) : Nat) : Int)))] [(13, false)] = true → PX.AllOb [.q (PX.Con Tryz.prog 15 [(.imm 1 (mv.map encN)), (.sc (.int .i64 ((modD line ((mv.length + 3 : Nat) : Int)) - 1)))] [] 3 3 (.sc (.int .i64 (((followD mv ((modD line ((mv.length + 3 : Nat) : Int)) - 1)) : Nat) : Int))) [])])] [(13, ((((followD mv line) : Nat) : Int) != (((followD mv line) : Nat) : Int)))] [.au, .au, .cl [] (.sc (.bool true)) [] 3, .au, .au, .au, .au, .cl [] (.sc (.int .i64 (((followD mv line) : Nat) : Int))) [] 3, .au, .au, .cl [] (.sc (.int .i64 (((followD mv line) : Nat) : Int))) [] 3, .au, .au, .au, .au, .au, .cl [] (.sc (.int .i64 (((followD mv ((modD line ((mv.length + 3 : Nat) : Int)) - 1)) : Nat) : Int))) [] 3, .au, .au, .cl [] (.sc (.int .i64 (((followD mv ((modD line ((mv.length + 3 : Nat) : Int)) - 1)) : Nat) : Int))) [] 3, .au, .pk] [4, 45, 46, 47, 72, 73, 74, 75, 76, 77, 78, 88] [1] hS hE ⟨PX.con_any (con_list mv (by omega)), PX.con_any (con_follow mv _ (by omega)), PX.con_any (con_followR mv _ (by omega) hline), fun hg => ⟨PX.con_any (con_follow mv _ (by omega)), trivial⟩, fun hg => ⟨PX.con_any (con_followR mv _ (by omega) hk17), trivial⟩, trivial⟩ fun a w hS => ?_
      refine PX.cond_s (((((followD mv line) : Nat) : Int) != (((followD mv line) : Nat) : Int)) || ((((followD mv ((modD line ((mv.length + 3 : Nat) : Int)) - 1)) : Nat) : Int) != (((followD mv ((modD line ((mv.length + 3 : Nat) : Int)) - 1)) : Nat) : Int))) hS (by kernel_rfl) (fun h8 => ?_) (fun h8 => ?_)
      · skip
        simp at h8
      · skip
        refine wp_skip ?_
        refine hK7 _ _ ?_
        refine PX.G0 [⟨47, [], (.sc (.int .i64 ((k + 1 : Nat) : Int)))⟩] [] 3 [.q ((.sc (.int .i64 (IntKind.i64.wrap (((k : Nat) : Int) + 1))) : PX.PV) = (.sc (.int .i64 ((k + 1 : Nat) : Int))))] [] [.nm (.sc (.int .i64 ((k + 1 : Nat) : Int))), .au] [4, 45, 46, 47, 72, 73, 74, 75, 76, 77, 78] [1] hS hE ⟨PX.nm_int (by rw [IntWalk.i64_in _ (by omega)]; omega), trivial⟩ fun a w hS => ?_
        replace hS := PX.sl [4, 45, 46, 47] hS
        exact ⟨4 - (k + 1), by omega, k + 1, rfl, by omega, trivial, (PX.canon [] _ _ 2 hS hE (by kernel_rfl) (by kernel_rfl) (by kernel_rfl))⟩
    · skip
      refine wp_exit ?_
      refine hK3 _ _ ?_
      refine PX.G [⟨10, [], (.sc (.bool true))⟩] [] 2 [.q (PX.Con Tryz.prog 8 [] [] 2 2 (.sc (.bool true)) [])] [] [.cl [] (.sc (.bool true)) [] 2, .au] [10] [] hS hE ⟨hA _ _, trivial⟩ fun a w hS => ?_
      refine wp_ret ?_
      try simp only [Exit.then, Exit.inBlock, Nat.reduceEqDiff, ↓reduceIte]
      rw [show (.sc (.bool true)) = ((.sc (.bool true)) : PX.PV) from rfl]
      exact PX.ret_s hS hE (by kernel_rfl) (by kernel_rfl) (by kernel_rfl) (.inl rfl)
end Go.Proofs.YtlaiafalilcgjaaGreatDoor
