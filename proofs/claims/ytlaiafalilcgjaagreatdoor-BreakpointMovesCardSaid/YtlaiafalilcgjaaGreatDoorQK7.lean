/- Proved: position.Marks, marked and Entry on the example -/
import Derived.Test.YtlaiafalilcgjaaGreatDoorQL7
import Derived.Test.YtlaiafalilcgjaaGreatDoorQS0
set_option linter.unusedVariables false
set_option linter.unusedSimpArgs false
namespace Go.Proofs.YtlaiafalilcgjaaGreatDoor
open Go.RowKit Go.PX
set_option maxRecDepth 100000
attribute [local go_sem] Oper.semAt_some
def vSt : List (List PX.PV) := [[.sc (.int .i64 0), .sc (.int .i64 6), .sc (.int .i64 1)], [.sc (.int .i64 0), .sc (.int .i64 10), .sc (.int .i64 1)]]
def vQ4 : PX.PV := .imm 7 [[.sc (.string ⟨[97].toArray⟩), .sc (.int .i64 1), .sc (.int .i64 (-1)), .sc (.int .i64 1), .sc (.bool true), .sc (.int .i64 0), .sc (.int .i64 1)], [.sc (.string ⟨[98].toArray⟩), .sc (.int .i64 1), .sc (.int .i64 (-1)), .sc (.int .i64 1), .sc (.bool true), .sc (.int .i64 0), .sc (.int .i64 1)]]
def vQ7 : PX.PV := .imm 6 [[.sc (.int .i64 0), .sc (.int .i64 0), .sc (.int .i64 0), .sc (.int .i64 0), .sc (.int .i64 4), .imm 3 [[.sc (.int .i64 2), .sc (.int .i64 1), .sc (.int .i64 0)]]], [.sc (.int .i64 0), .sc (.int .i64 1), .sc (.int .i64 0), .sc (.int .i64 0), .sc (.int .i64 4), .imm 3 [[.sc (.int .i64 2), .sc (.int .i64 2), .sc (.int .i64 0)]]]]
def vPr : List (List PX.PV) := [[.sc (.string ⟨[102].toArray⟩), .sc (.int .i64 1), .sc (.int .i64 0), .sc (.int .i64 4), vQ4, .imm 3 [[.sc (.int .i64 (-1)), .sc (.int .i64 (-1)), .sc (.int .i64 0)]], .imm 4 [[.sc (.int .i64 0), .sc (.int .i64 0), .sc (.int .i64 0), .sc (.bool true)]], vQ7, .sc (.slice none 0 0), .imm 2 [[.sc (.int .i64 0), .sc (.int .i64 0)]], .sc (.slice none 0 0)]]
theorem con_99 : PX.Con Tryz.prog 99 [.own 1 1 1] [(1, .row 3 1 true [[.sc (.int .i64 0)]])] 2 2 (.tup []) [(1, some (.row 3 1 true [[.sc (.int .i64 0)]]))] := PX.run_con os0 mixed 1000 (lv := lvT) (by kernel_rfl)

set_option maxHeartbeats 1000000 in
theorem con_55 : PX.Con Tryz.prog 55 [(.agg [(.sc (.int .i64 0)), (.sc (.int .i64 4)), (.sc (.slice none 0 0)), (.imm 3 vSt), (.imm 11 vPr)]), (.sc (.int .i64 0))] [] 1 100000 (.imm 1 [[.sc (.int .i64 0)]]) [] := by
  refine PX.con_intro_w (n := 5) [(.agg [(.sc (.int .i64 0)), (.sc (.int .i64 4)), (.sc (.slice none 0 0)), (.imm 3 vSt), (.imm 11 vPr)]), (.sc (.int .i64 0))] 22 Tryz.func55 rfl rfl (by kernel_rfl) rfl ?_
  intro E a hE hS
  obtain ⟨w, hw0⟩ : ∃ w, w = E.w0 := ⟨_, rfl⟩
  rw [← hw0] at hS ⊢
  have mix := mixed
  refine PX.Gw [⟨2, [], (.ptr 1 0)⟩, ⟨3, [], (.ptr 2 0)⟩] [(1, .box 67 [(.sc (.int .i64 0)), (.sc (.int .i64 4)), (.sc (.slice none 0 0)), (.imm 3 vSt), (.imm 11 vPr)]), (2, .box 3 [(.sc (.int .i64 0))])] 3 [] [] [.au, .au, .au] [2, 3] [1, 2] hS hE trivial fun a w hS => ?_
  refine PX.Gw [⟨5, [], (.ptr 3 0)⟩] [(3, .box 22 [(.sc (.slice none 0 0))])] 4 [] [] [.au] [2, 3, 5] [1, 2, 3] hS hE trivial fun a w hS => ?_
  refine wpIn_seq_k fun K1 hK1 => ?_
  refine PX.Gw [⟨8, [], (.fn 174 [] [(.ptr 4 0)])⟩] [(4, .box 67 [(.sc (.int .i64 0)), (.sc (.int .i64 4)), (.sc (.slice none 0 0)), (.imm 3 vSt), (.imm 11 vPr)])] 5 [.q (PX.Con Tryz.prog 98 [(.agg [(.sc (.int .i64 0)), (.sc (.int .i64 4)), (.sc (.slice none 0 0)), (.imm 3 vSt), (.imm 11 vPr)])] [] 4 5 (.fn 174 [] [(.ptr 4 0)]) [(4, some (.box 67 [(.sc (.int .i64 0)), (.sc (.int .i64 4)), (.sc (.slice none 0 0)), (.imm 3 vSt), (.imm 11 vPr)]))])] [] [.au, .cl [] (.fn 174 [] [(.ptr 4 0)]) [(4, some (.box 67 [(.sc (.int .i64 0)), (.sc (.int .i64 4)), (.sc (.slice none 0 0)), (.imm 3 vSt), (.imm 11 vPr)]))] 5] [3, 5, 8] [2, 3, 4] hS hE ⟨PX.con_as [(4, 1)] [(1, 4)] (con_98 0 4 vSt vPr) (by kernel_rfl) (by kernel_rfl) (by kernel_rfl) (by kernel_rfl) (by kernel_rfl) (by kernel_rfl), trivial⟩ fun a w hS => ?_
  refine wpIn_block ?_
  have hsz1 : E.w0.heap.size ≤ w.heap.size := by obtain ⟨_, _, q⟩ := hS; exact q.chg.size
  have hNt1 : a.tmps.size = 22 := by obtain ⟨_, _, q⟩ := hS; exact q.rs.size
  have hE0 := hE
  refine range_mrk (n := 5) (d := 6) hS hE.etop (by decide) (by decide) 4 (c0 := .sc (.int .i64 0)) (c1 := .sc (.int .i64 4)) (c2 := .sc (.slice none 0 0)) (c3 := .imm 3 vSt) (s0 := ⟨[102].toArray⟩) (i1 := 1) (i2 := 0) (i3 := 4) (q4 := vQ4) (q5 := .imm 3 [[.sc (.int .i64 (-1)), .sc (.int .i64 (-1)), .sc (.int .i64 0)]]) (q7 := vQ7) (q8 := .sc (.slice none 0 0)) (q9 := .imm 2 [[.sc (.int .i64 0), .sc (.int .i64 0)]]) (q10 := .sc (.slice none 0 0)) ⟨trivial, trivial, trivial, trivial, trivial, trivial⟩ (by kernel_rfl) (by kernel_rfl) [3, 5] [2, 3] (by kernel_rfl : PX.keepR _ [3, 5] = some [⟨3, [], (.ptr 2 0)⟩, ⟨5, [], (.ptr 3 0)⟩]) (Hk := [(2, .box 3 [(.sc (.int .i64 0))]), (3, .box 22 [(.sc (.slice none 0 0))])]) (by kernel_rfl) (by kernel_rfl) [(2, .box 3 [(.sc (.int .i64 0))]), (3, .box 22 [(.own 6 1 1)]), (6, .row 3 1 true ([[(.sc (.int .i64 0))]]))] [] 7 True False (by kernel_rfl) (by kernel_rfl) (by kernel_rfl) ?asg (by decide) (by kernel_rfl) ?body ?done ?stop
  case asg =>
    clear hS
    intro l W K hK
    generalize a.tmps = tm at hNt1 hK ⊢
    obtain ⟨tl⟩ := tm
    match tl, hNt1 with
    | [t0, t1, t2, t3, t4, t5, t6, t7, t8, t9, t10, t11, t12, t13, t14, t15, t16, t17, t18, t19, t20, t21], _ =>
      simp only [mrkRow] at hK ⊢
      gi_wp2
      exact hK
  case stop => exact fun D W _ hp => hp.elim
  case body =>
    intro l E w a hE hS
    replace hS : PX.Sat E 22 [⟨6, [], (.ptr 5 0)⟩, ⟨3, [], (.ptr 2 0)⟩, ⟨5, [], (.ptr 3 0)⟩] [(5, .box 233 [(.sc (.int .i64 0)), (.sc (.int .i64 0)), (.sc (.int .i64 0)), (.sc (.bool true))]), (2, .box 3 [(.sc (.int .i64 0))]), (3, .box 22 [(.sc (.slice none 0 0))])] 6 _ w := hS
    replace hS := PX.canon [] [⟨3, [], (.ptr 2 0)⟩, ⟨5, [], (.ptr 3 0)⟩, ⟨6, [], (.ptr 5 0)⟩] [(2, .box 3 [(.sc (.int .i64 0))]), (3, .box 22 [(.sc (.slice none 0 0))]), (5, .box 233 [(.sc (.int .i64 0)), (.sc (.int .i64 0)), (.sc (.int .i64 0)), (.sc (.bool true))])] 6 (PX.sl [3, 5, 6] hS) hE (by kernel_rfl) (by kernel_rfl) (by kernel_rfl)
    refine wpIn_block ?_
    refine PX.Gw [⟨10, [], (.ptr 5 2)⟩, ⟨11, [], (.sc (.int .i64 0))⟩, ⟨12, [], (.sc (.int .i64 0))⟩, ⟨13, [], (.sc (.bool true))⟩] [] 6 [] [] [.au, .au, .au, .au] [3, 5, 6, 10, 11, 12, 13] [2, 3, 5] hS hE trivial fun a w hS => ?_
    refine PX.cond_w true hS (by kernel_rfl) (fun h2 => ?_) (fun h2 => nomatch h2)
    refine PX.G0w [⟨14, [], (.sc (.slice none 0 0))⟩, ⟨15, [], (.ptr 5 0)⟩, ⟨16, [], (.sc (.int .i64 0))⟩, ⟨17, [], (.own 6 1 1)⟩, ⟨18, [], (.own 7 1 1)⟩] [(3, .box 22 [(.own 7 1 1)]), (6, .row 3 1 true ([[(.sc (.int .i64 0))]])), (7, .row 3 1 true ([[(.sc (.int .i64 0))]]))] 8 [.b true, .b (lenIs 1 ([[(.sc (.int .i64 0))]])), .b (Nat.ble (1) 1000000000)] [] [.au, .au, .au, .au, .au, .au] [3, 5, 6, 10, 11, 12, 13, 14, 15, 16, 17, 18] [2, 3, 5, 6, 7] hS hE ⟨rfl, rfl, rfl, trivial⟩ fun a w hS => ?_
    replace hS := PX.sl [] hS
    exact And.intro trivial (PX.Sat.with0 (PX.canon [(6, 7)] [] [(2, .box 3 [(.sc (.int .i64 0))]), (3, .box 22 [(.own 6 1 1)]), (6, .row 3 1 true ([[(.sc (.int .i64 0))]]))] 7 hS hE (by kernel_rfl) (by kernel_rfl) (by kernel_rfl)))
  case done =>
    intro D1 w E hD1 _ hN1 hE hS hd1 hw1
    replace hS : PX.Sat E 22 [⟨3, [], (.ptr 2 0)⟩, ⟨5, [], (.ptr 3 0)⟩] [(2, .box 3 [(.sc (.int .i64 0))]), (3, .box 22 [(.own 6 1 1)]), (6, .row 3 1 true ([[(.sc (.int .i64 0))]]))] 7 _ w := hS
    replace hS := PX.canon [] [⟨3, [], (.ptr 2 0)⟩, ⟨5, [], (.ptr 3 0)⟩] [(2, .box 3 [(.sc (.int .i64 0))]), (3, .box 22 [(.own 6 1 1)]), (6, .row 3 1 true ([[(.sc (.int .i64 0))]]))] 7 hS hE (by kernel_rfl) (by kernel_rfl) (by kernel_rfl)
    refine hK1 _ _ ?_
    refine PX.Gw [] [] 7 [.q (PX.Con Tryz.prog 99 [(.own 6 1 1)] [(6, .row 3 1 true ([[(.sc (.int .i64 0))]]))] 7 7 (.tup []) [(6, some (.row 3 1 true ([[(.sc (.int .i64 0))]])))])] [] [.au, .cl [6] (.tup []) [(6, some (.row 3 1 true ([[(.sc (.int .i64 0))]])))] 7] [5] [3, 6] hS hE ⟨PX.con_as [(6, 1)] [(1, 6)] (con_99) (by kernel_rfl) (by kernel_rfl) (by kernel_rfl) (by kernel_rfl) (by kernel_rfl) (by kernel_rfl), trivial⟩ fun a w hS => ?_
    replace hS := PX.fz 6 [] [(3, .box 22 [(.imm 1 ([[(.sc (.int .i64 0))]]))])] [5] [3] [.b (PX.lenIs 1 ([[(.sc (.int .i64 0))]]))] hS ⟨(rfl), trivial⟩
    refine PX.Gw [⟨4, [], (.imm 1 ([[(.sc (.int .i64 0))]]))⟩] [] 7 [] [] [.au, .au] [4] [] hS hE trivial fun a w hS => ?_
    refine wpIn_ret ?_
    have hS0 := (hN1.2.2 _ _ _ _ _ _ hS).1
    have hd1f := (hN1.2.2 _ _ _ _ _ _ hS).2 D1 _ hd1
    exact PX.ret_w (a := a) [D1] hS0 hE0 (by simp) (fun D hD => by
      simp only [List.mem_cons, List.not_mem_nil, or_false] at hD
      subst hD
      exact ⟨by omega, hd1f⟩) (by kernel_rfl) (by kernel_rfl) (by kernel_rfl) (by kernel_rfl)

set_option maxHeartbeats 1000000 in
theorem con_56 : PX.Con Tryz.prog 56 [(.agg [(.sc (.int .i64 0)), (.sc (.int .i64 4)), (.sc (.slice none 0 0)), (.imm 3 vSt), (.imm 11 vPr)])] [] 1 100000 (.fn 100 [] [.ptr 1 0]) [(1, some (.box 39 [.imm 1 [[.sc (.bool true)], [.sc (.bool false)]]]))] := by
  refine PX.con_intro_w (n := 5) [(.agg [(.sc (.int .i64 0)), (.sc (.int .i64 4)), (.sc (.slice none 0 0)), (.imm 3 vSt), (.imm 11 vPr)])] 27 Tryz.func56 rfl rfl (by kernel_rfl) rfl ?_
  intro E a hE hS
  obtain ⟨w, hw0⟩ : ∃ w, w = E.w0 := ⟨_, rfl⟩
  rw [← hw0] at hS ⊢
  have mix := mixed
  refine PX.Gw [⟨1, [], (.ptr 1 0)⟩] [(1, .box 67 [(.sc (.int .i64 0)), (.sc (.int .i64 4)), (.sc (.slice none 0 0)), (.imm 3 vSt), (.imm 11 vPr)])] 2 [] [] [.au, .au] [1] [1] hS hE trivial fun a w hS => ?_
  refine PX.Gw [⟨3, [], (.ptr 3 0)⟩] [(2, .row 4 1 true (List.replicate 2 [(.sc (.bool false))])), (3, .box 39 [(.own 2 1 2)])] 4 [.q ((.sc (.int .i64 ((vSt.length : Nat) : Int)) : PX.PV) = (.sc (.int .i64 2))), .q ((2 : Int) = ((2 : Nat) : Int)), .q ((2 : Int) = ((2 : Nat) : Int)), .b (Nat.ble 2 1000000000)] [] [.au, .au, .nm (.sc (.int .i64 2)), .mk 2, .au, .au] [1, 3] [1, 2, 3] hS hE ⟨rfl, rfl, rfl, by decide, trivial⟩ fun a w hS => ?_
  replace hS := PX.rerow (id := 2) ([[.sc (.bool false)], [.sc (.bool false)]]) hS rfl (rfl)
  refine wpIn_seq_k fun K1 hK1 => ?_
  refine PX.Gw [⟨10, [], (.fn 174 [] [(.ptr 4 0)])⟩] [(4, .box 67 [(.sc (.int .i64 0)), (.sc (.int .i64 4)), (.sc (.slice none 0 0)), (.imm 3 vSt), (.imm 11 vPr)])] 5 [.q (PX.Con Tryz.prog 98 [(.agg [(.sc (.int .i64 0)), (.sc (.int .i64 4)), (.sc (.slice none 0 0)), (.imm 3 vSt), (.imm 11 vPr)])] [] 4 5 (.fn 174 [] [(.ptr 4 0)]) [(4, some (.box 67 [(.sc (.int .i64 0)), (.sc (.int .i64 4)), (.sc (.slice none 0 0)), (.imm 3 vSt), (.imm 11 vPr)]))])] [] [.au, .cl [] (.fn 174 [] [(.ptr 4 0)]) [(4, some (.box 67 [(.sc (.int .i64 0)), (.sc (.int .i64 4)), (.sc (.slice none 0 0)), (.imm 3 vSt), (.imm 11 vPr)]))] 5] [3, 10] [2, 3, 4] hS hE ⟨PX.con_as [(4, 1)] [(1, 4)] (con_98 0 4 vSt vPr) (by kernel_rfl) (by kernel_rfl) (by kernel_rfl) (by kernel_rfl) (by kernel_rfl) (by kernel_rfl), trivial⟩ fun a w hS => ?_
  refine wpIn_block ?_
  have hsz1 : E.w0.heap.size ≤ w.heap.size := by obtain ⟨_, _, q⟩ := hS; exact q.chg.size
  have hNt1 : a.tmps.size = 27 := by obtain ⟨_, _, q⟩ := hS; exact q.rs.size
  have hE0 := hE
  refine range_mrk (n := 5) (d := 4) hS hE.etop (by decide) (by decide) 4 (c0 := .sc (.int .i64 0)) (c1 := .sc (.int .i64 4)) (c2 := .sc (.slice none 0 0)) (c3 := .imm 3 vSt) (s0 := ⟨[102].toArray⟩) (i1 := 1) (i2 := 0) (i3 := 4) (q4 := vQ4) (q5 := .imm 3 [[.sc (.int .i64 (-1)), .sc (.int .i64 (-1)), .sc (.int .i64 0)]]) (q7 := vQ7) (q8 := .sc (.slice none 0 0)) (q9 := .imm 2 [[.sc (.int .i64 0), .sc (.int .i64 0)]]) (q10 := .sc (.slice none 0 0)) ⟨trivial, trivial, trivial, trivial, trivial, trivial⟩ (by kernel_rfl) (by kernel_rfl) [3] [2, 3] (by kernel_rfl : PX.keepR _ [3] = some [⟨3, [], (.ptr 3 0)⟩]) (Hk := [(2, .row 4 1 true ([[(.sc (.bool false))], [(.sc (.bool false))]])), (3, .box 39 [(.own 2 1 2)])]) (by kernel_rfl) (by kernel_rfl) [(2, .row 4 1 true ([[(.sc (.bool true))], [(.sc (.bool false))]])), (3, .box 39 [(.own 2 1 2)])] [] 6 True False (by kernel_rfl) (by kernel_rfl) (by kernel_rfl) ?asg (by decide) (by kernel_rfl) ?body ?done ?stop
  case asg =>
    clear hS
    intro l W K hK
    generalize a.tmps = tm at hNt1 hK ⊢
    obtain ⟨tl⟩ := tm
    match tl, hNt1 with
    | [t0, t1, t2, t3, t4, t5, t6, t7, t8, t9, t10, t11, t12, t13, t14, t15, t16, t17, t18, t19, t20, t21, t22, t23, t24, t25, t26], _ =>
      simp only [mrkRow] at hK ⊢
      gi_wp2
      exact hK
  case stop => exact fun D W _ hp => hp.elim
  case body =>
    intro l E w a hE hS
    replace hS : PX.Sat E 27 [⟨4, [], (.ptr 5 0)⟩, ⟨3, [], (.ptr 3 0)⟩] [(5, .box 233 [(.sc (.int .i64 0)), (.sc (.int .i64 0)), (.sc (.int .i64 0)), (.sc (.bool true))]), (2, .row 4 1 true ([[(.sc (.bool false))], [(.sc (.bool false))]])), (3, .box 39 [(.own 2 1 2)])] 6 _ w := hS
    replace hS := PX.canon [] [⟨3, [], (.ptr 3 0)⟩, ⟨4, [], (.ptr 5 0)⟩] [(2, .row 4 1 true ([[(.sc (.bool false))], [(.sc (.bool false))]])), (3, .box 39 [(.own 2 1 2)]), (5, .box 233 [(.sc (.int .i64 0)), (.sc (.int .i64 0)), (.sc (.int .i64 0)), (.sc (.bool true))])] 6 (PX.sl [3, 4] hS) hE (by kernel_rfl) (by kernel_rfl) (by kernel_rfl)
    refine wpIn_block ?_
    refine PX.Gw [⟨12, [], (.ptr 5 2)⟩, ⟨13, [], (.sc (.int .i64 0))⟩, ⟨14, [], (.sc (.bool true))⟩, ⟨15, [], (.sc (.bool true))⟩, ⟨16, [], (.ptr 5 2)⟩, ⟨17, [], (.sc (.int .i64 0))⟩, ⟨18, [], (.own 2 1 2)⟩, ⟨19, [], (.sc (.int .i64 2))⟩, ⟨20, [], (.sc (.bool true))⟩, ⟨21, [], (.sc (.bool true))⟩] [] 6 [.q ((.sc (.int .i64 ((2 : Nat) : Int)) : PX.PV) = (.sc (.int .i64 2)))] [] [.au, .au, .au, .au, .au, .au, .au, .nm (.sc (.int .i64 2)), .au, .au] [3, 4, 12, 13, 14, 15, 16, 17, 18, 19, 20, 21] [2, 3, 5] hS hE ⟨rfl, trivial⟩ fun a w hS => ?_
    refine PX.cond_w true hS (by kernel_rfl) (fun h2 => ?_) (fun h2 => nomatch h2)
    refine PX.G0w [⟨22, [], (.own 2 1 2)⟩, ⟨23, [], (.ptr 5 2)⟩, ⟨24, [], (.sc (.int .i64 0))⟩, ⟨25, [], (.rptr 2 1 0 0)⟩] [(2, .row 4 1 true ([[(.sc (.bool true))], [(.sc (.bool false))]]))] 6 [.q (0 = ((0 : Nat) : Int)), .q (0 < 2)] [] [.au, .au, .au, .ix 0 [], .au] [3, 4, 12, 13, 14, 15, 16, 17, 18, 19, 20, 21, 22, 23, 24, 25] [2, 3, 5] hS hE ⟨by omega, by decide, trivial⟩ fun a w hS => ?_
    replace hS := PX.sl [] hS
    exact And.intro trivial (PX.Sat.with0 (PX.canon [] [] [(2, .row 4 1 true ([[(.sc (.bool true))], [(.sc (.bool false))]])), (3, .box 39 [(.own 2 1 2)])] 6 hS hE (by kernel_rfl) (by kernel_rfl) (by kernel_rfl)))
  case done =>
    intro D1 w E hD1 _ hN1 hE hS hd1 hw1
    replace hS : PX.Sat E 27 [⟨3, [], (.ptr 3 0)⟩] [(2, .row 4 1 true ([[(.sc (.bool true))], [(.sc (.bool false))]])), (3, .box 39 [(.own 2 1 2)])] 6 _ w := hS
    replace hS := PX.canon [] [⟨3, [], (.ptr 3 0)⟩] [(2, .row 4 1 true ([[(.sc (.bool true))], [(.sc (.bool false))]])), (3, .box 39 [(.own 2 1 2)])] 6 hS hE (by kernel_rfl) (by kernel_rfl) (by kernel_rfl)
    refine hK1 _ _ ?_
    refine PX.Gw [⟨2, [], (.fn 100 [] [(.ptr 3 0)])⟩] [] 6 [] [] [.au, .au] [2] [2, 3] hS hE trivial fun a w hS => ?_
    replace hS := PX.fz 2 [] [(3, .box 39 [(.imm 1 ([[(.sc (.bool true))], [(.sc (.bool false))]]))])] [2] [3] [.b (PX.lenIs 2 ([[(.sc (.bool true))], [(.sc (.bool false))]]))] hS ⟨(rfl), trivial⟩
    refine wpIn_ret ?_
    have hS0 := (hN1.2.2 _ _ _ _ _ _ hS).1
    have hd1f := (hN1.2.2 _ _ _ _ _ _ hS).2 D1 _ hd1
    replace hS0 := PX.canon [(1, 3)] [⟨2, [], (.fn 100 [] [.ptr 1 0])⟩] [(1, .box 39 [.imm 1 [[.sc (.bool true)], [.sc (.bool false)]]])] 4 (PX.sl [2] hS0) hE0 (by kernel_rfl) (by kernel_rfl) (by kernel_rfl)
    exact PX.ret_w (a := a) [D1] hS0 hE0 (by simp) (fun D hD => by
      simp only [List.mem_cons, List.not_mem_nil, or_false] at hD
      subst hD
      exact ⟨by omega, hd1f⟩) (by kernel_rfl) (by kernel_rfl) (by kernel_rfl) (by kernel_rfl)

theorem noMp_no {H : PX.Heap} (h : PX.noMp H = true) {id : Nat} {o : PX.PO} (hl : PX.hlook H id = some o) (ho : PX.isMp o = true) : False := by
  obtain ⟨_, x, hx, e⟩ := PX.key_of_look hl
  have := List.all_eq_true.1 h x hx
  rw [e, ho] at this; cases this

set_option maxHeartbeats 1000000 in
theorem con_58 : PX.Con Tryz.prog 58 [(.agg [(.sc (.int .i64 0)), (.sc (.int .i64 4)), (.sc (.slice none 0 0)), (.imm 3 vSt), (.imm 11 vPr)]), (.sc (.int .i64 0))] [] 1 100000 (.imm 1 [[.sc (.int .i64 0)]]) [] := by
  refine PX.con_intro_w (n := 5) [(.agg [(.sc (.int .i64 0)), (.sc (.int .i64 4)), (.sc (.slice none 0 0)), (.imm 3 vSt), (.imm 11 vPr)]), (.sc (.int .i64 0))] 20 Tryz.func58 rfl rfl (by kernel_rfl) rfl ?_
  intro E a hE hS
  obtain ⟨w, hw0⟩ : ∃ w, w = E.w0 := ⟨_, rfl⟩
  rw [← hw0] at hS ⊢
  have mix := mixed
  refine PX.Gw [⟨2, [], (.ptr 1 0)⟩, ⟨3, [], (.ptr 2 0)⟩, ⟨4, [], (.ptr 3 0)⟩] [(1, .box 67 [(.sc (.int .i64 0)), (.sc (.int .i64 4)), (.sc (.slice none 0 0)), (.imm 3 vSt), (.imm 11 vPr)]), (2, .box 3 [(.sc (.int .i64 0))]), (3, .box 22 [(.sc (.slice none 0 0))])] 4 [] [] [.au, .au, .au] [2, 3, 4] [1, 2, 3] hS hE trivial fun a w hS => ?_
  refine wpIn_seq_k fun K1 hK1 => ?_
  refine PX.Gw [⟨7, [], (.fn 100 [] [(.ptr 4 0)])⟩] [(4, .box 39 [(.imm 1 ([[.sc (.bool true)], [.sc (.bool false)]]))])] 5 [.q (PX.Con Tryz.prog 56 [(.agg [(.sc (.int .i64 0)), (.sc (.int .i64 4)), (.sc (.slice none 0 0)), (.imm 3 vSt), (.imm 11 vPr)])] [] 4 5 (.fn 100 [] [(.ptr 4 0)]) [(4, some (.box 39 [(.imm 1 ([[.sc (.bool true)], [.sc (.bool false)]]))]))])] [] [.au, .cl [] (.fn 100 [] [(.ptr 4 0)]) [(4, some (.box 39 [(.imm 1 ([[.sc (.bool true)], [.sc (.bool false)]]))]))] 5] [2, 3, 4, 7] [1, 2, 3, 4] hS hE ⟨PX.con_as [(4, 1)] [(1, 4)] (con_56) (by kernel_rfl) (by kernel_rfl) (by kernel_rfl) (by kernel_rfl) (by kernel_rfl) (by kernel_rfl), trivial⟩ fun a w hS => ?_
  refine wpIn_block ?_
  have hsz1 : E.w0.heap.size ≤ w.heap.size := by obtain ⟨_, _, q⟩ := hS; exact q.chg.size
  have hNt1 : a.tmps.size = 20 := by obtain ⟨_, _, q⟩ := hS; exact q.rs.size
  have hE0 := hE
  refine range_mkd (n := 5) hS hE.etop (by decide) 4 (by kernel_rfl) (by kernel_rfl) [2, 3, 4] [1, 2, 3] (by kernel_rfl : PX.keepR _ [2, 3, 4] = some [⟨2, [], (.ptr 1 0)⟩, ⟨3, [], (.ptr 2 0)⟩, ⟨4, [], (.ptr 3 0)⟩]) (fun pre => pre = []) (fun _ => True) rfl (fun _ => [(1, .box 67 [(.sc (.int .i64 0)), (.sc (.int .i64 4)), (.sc (.slice none 0 0)), (.imm 3 vSt), (.imm 11 vPr)]), (2, .box 3 [(.sc (.int .i64 0))]), (3, .box 22 [(.sc (.slice none 0 0))])]) (fun _ => [(3, .box 22 [(.imm 1 ([[.sc (.int .i64 0)]]))])]) (by kernel_rfl) (by kernel_rfl) (fun pre id o h ho => PX.shape_mp (by kernel_rfl) h ho) (fun pre id o h ho => (noMp_no (H := [(3, .box 22 [(.imm 1 ([[.sc (.int .i64 0)]]))])]) (by kernel_rfl) h ho).elim) (fun _ => ⟨(a.tmps.setIfInBounds 8 (.int .i64 0)).setIfInBounds 5 (.int .i64 0), []⟩) ?asg (fun _ => [⟨5, [], (.sc (.int .i64 0))⟩, ⟨2, [], (.ptr 1 0)⟩, ⟨3, [], (.ptr 2 0)⟩, ⟨4, [], (.ptr 3 0)⟩]) ?rs ?body ?done ?stop
  case asg => exact fun l x W K hK => PX.asg_region (by simp [hNt1]) hK
  case rs => exact fun x σ' Z' W q => PX.rs_asg q (by decide) (by kernel_rfl) (.sc _ rfl)
  case done => exact fun D W E3 _ hp => by cases hp
  case body =>
    intro l pre x E w hpre hpn hE hS
    replace hS : PX.Sat E 20 [⟨5, [], (.sc (.int .i64 0))⟩, ⟨2, [], (.ptr 1 0)⟩, ⟨3, [], (.ptr 2 0)⟩, ⟨4, [], (.ptr 3 0)⟩] [(1, .box 67 [(.sc (.int .i64 0)), (.sc (.int .i64 4)), (.sc (.slice none 0 0)), (.imm 3 vSt), (.imm 11 vPr)]), (2, .box 3 [(.sc (.int .i64 0))]), (3, .box 22 [(.sc (.slice none 0 0))])] 5 _ w := hS
    replace hS := PX.canon [] [⟨2, [], (.ptr 1 0)⟩, ⟨3, [], (.ptr 2 0)⟩, ⟨4, [], (.ptr 3 0)⟩, ⟨5, [], (.sc (.int .i64 0))⟩] [(1, .box 67 [(.sc (.int .i64 0)), (.sc (.int .i64 4)), (.sc (.slice none 0 0)), (.imm 3 vSt), (.imm 11 vPr)]), (2, .box 3 [(.sc (.int .i64 0))]), (3, .box 22 [(.sc (.slice none 0 0))])] 5 (PX.sl [2, 3, 4, 5] hS) hE (by kernel_rfl) (by kernel_rfl) (by kernel_rfl)
    refine wpIn_block ?_
    refine PX.Dw [⟨9, [], (.ptr 1 3)⟩, ⟨10, [], (.imm 3 vSt)⟩, ⟨11, [], (.sc (.int .i64 0))⟩, ⟨12, [], (.iptr ([.sc (.int .i64 0), .sc (.int .i64 6), .sc (.int .i64 1)]) 0)⟩, ⟨13, [], (.iptr ([.sc (.int .i64 0), .sc (.int .i64 6), .sc (.int .i64 1)]) 0)⟩, ⟨14, [], (.sc (.int .i64 0))⟩, ⟨15, [], (.sc (.int .i64 0))⟩, ⟨16, [], (.sc (.bool true))⟩] [] 5 [.q (0 = ((0 : Nat) : Int)), .q (vSt[0]? = some ([.sc (.int .i64 0), .sc (.int .i64 6), .sc (.int .i64 1)]))] [] [.au, .au, .au, .ix 0 ([.sc (.int .i64 0), .sc (.int .i64 6), .sc (.int .i64 1)]), .au, .au, .au, .au] [2, 3, 4, 5, 9, 10, 11, 12, 13, 14, 15, 16] [1, 2, 3] hS mixed hE ⟨by omega, rfl, trivial⟩ fun a w hS => ?_
    refine PX.cond_w true hS (by kernel_rfl) (fun h2 => ?_) (fun h2 => nomatch h2)
    refine PX.Gw [] [(3, .box 22 [(.imm 1 ([[.sc (.int .i64 0)]]))])] 5 [.q (PX.Con Tryz.prog 55 [(.agg [(.sc (.int .i64 0)), (.sc (.int .i64 4)), (.sc (.slice none 0 0)), (.imm 3 vSt), (.imm 11 vPr)]), (.sc (.int .i64 0))] [] 5 5 (.imm 1 ([[.sc (.int .i64 0)]])) [])] [] [.au, .au, .cl [] (.imm 1 ([[.sc (.int .i64 0)]])) [] 5, .au] [2, 3, 4, 5] [1, 2, 3] hS hE ⟨PX.con_any con_55, trivial⟩ fun a w hS => ?_
    refine wpIn_ret ?_
    replace hS := PX.sl [] hS
    exact And.intro trivial (PX.Sat.with0 (PX.canon [] [] [(3, .box 22 [(.imm 1 ([[.sc (.int .i64 0)]]))])] 5 hS hE (by kernel_rfl) (by kernel_rfl) (by kernel_rfl)))
  case stop =>
    intro D1 pre w hD1 _ _ hS hd1 hw1
    replace hS : PX.Sat E 20 [⟨2, [], (.ptr 1 0)⟩, ⟨3, [], (.ptr 2 0)⟩, ⟨4, [], (.ptr 3 0)⟩] [(3, .box 22 [(.imm 1 ([[.sc (.int .i64 0)]]))])] 5 _ w := hS
    refine wpIn_ret ?_
    exact PX.ret_w (a := a) [D1] hS hE0 (by simp) (fun D hD => by
      simp only [List.mem_cons, List.not_mem_nil, or_false] at hD
      subst hD
      exact ⟨by omega, hd1⟩) (by kernel_rfl) (by kernel_rfl) (by kernel_rfl) (by kernel_rfl)
end Go.Proofs.YtlaiafalilcgjaaGreatDoor
