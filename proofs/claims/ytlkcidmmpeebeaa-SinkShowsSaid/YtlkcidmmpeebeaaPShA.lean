/- Proved: SinkShows: what is shown -/
import Derived.Test.YtlkcidmmpeebeaaPcD
import Derived.Test.YtlkcidmmpeebeaaPSmall
set_option linter.unusedVariables false
set_option linter.unusedSimpArgs false
namespace Go.Proofs.Ytlkcidmmpeebeaa
open Go.RowKit Go.PX
set_option maxRecDepth 100000
abbrev shR2c9698:List (List PX.PV):=[[(.sc (.string ⟨#[]⟩)),(.J 1),(.J 0),(.J 1),(.sc (.bool false)),(.J 0),(.J 9)]]

abbrev shRc7ce6f:List (List PX.PV):=[[(.J 21),(.J 0),(.J 0),(.J 0),(.J 0),(.J 0),(.J 0),(.J 0),(.J 2),(.J 1),(.J 0)],[(.J 19),(.J 0),(.J 0),(.J 0),(.J 3),(.J 0),(.J 0),(.J 0),(.J 0),(.J 0),(.J 0)],[(.J 3),(.J 1),(.J 0),(.J 0),(.J 0),(.J 0),(.J 0),(.J 0),(.J 0),(.J 0),(.J 0)]]

abbrev shR912a32:List (List PX.PV):=[[(.J 1),(.imm 11 shRc7ce6f),(.J 4),(.J 1),(.J 0),(.imm 1 ([])),(.sc (.I (-1))),(.imm 1 ([])),(.sc (.I (-1))),(.imm 1 ([]))]]

abbrev shR8cf714:List (List PX.PV):=[[(.sc (.I (-1))),(.sc (.I (-1))),(.J 0)]]

abbrev shR20c178:List (List PX.PV):=[[(.J 1),(.imm 10 shR912a32),(.imm 3 shR8cf714),(.imm 3 ([]))]]

abbrev shR439b68:List (List PX.PV):=[[(.J 21),(.J 0),(.J 0),(.J 0),(.J 0),(.J 0),(.J 0),(.J 0),(.J 2),(.J 1),(.J 0)]]

abbrev shR37cddb:List (List PX.PV):=[[(.J 0),(.imm 1 ([[(.sc (.bool false))]])),(.imm 1 ([[(.J 0)]]))]]

abbrev shR3542f3:List (List PX.PV):=[[(.J 0),(.J 3),(.imm 3 shR37cddb)]]

abbrev shRf3bb33:List (List PX.PV):=[[(.J 21),(.J 0),(.J 0),(.J 0),(.J 0),(.J 0),(.J 0),(.J 0),(.J 2),(.J 1),(.J 0)],[(.J 3),(.J 1),(.J 0),(.J 0),(.J 0),(.J 0),(.J 0),(.J 0),(.J 0),(.J 0),(.J 0)],[(.J 18),(.J 0),(.J 1),(.J 0),(.J 0),(.J 0),(.J 0),(.J 0),(.J 0),(.J 0),(.J 0)],[(.J 19),(.J 0),(.J 0),(.J 0),(.J 3),(.J 0),(.J 0),(.J 0),(.J 0),(.J 0),(.J 0)]]

abbrev shRf7d06f:List (List PX.PV):=[[(.J 1),(.imm 11 shRf3bb33),(.J 4),(.J 1),(.J 0),(.imm 1 ([])),(.sc (.I (-1))),(.imm 1 ([])),(.sc (.I (-1))),(.imm 1 ([]))]]

abbrev shR0c7572:List (List PX.PV):=[[(.J 1),(.imm 10 shRf7d06f),(.imm 3 shR8cf714),(.imm 3 ([]))]]

abbrev shR79a67e (z:Int):List (List PX.PV):=[[(.sc (.I (IntKind.i64.wrap (z+z))))]]

abbrev shR1c80af (z:Int):List (List PX.PV):=[[(.sc (.I (IntKind.i64.wrap ((IntKind.i64.wrap (z+z))+0))))]]

abbrev shRdb9fec (z:Int):List (List PX.PV):=[[(.J 0),(.imm 1 ([[(.sc (.bool true))]])),(.imm 1 (shR1c80af z))]]

abbrev shRe55e87 (z:Int):List (List PX.PV):=[[(.J 0),(.J 3),(.imm 3 (shRdb9fec z))]]

set_option maxHeartbeats 400000 in
theorem sh165_0 (z:Int):PX.Con Try.prog 165 [(.agg [(.sc (.slice none 0 0)),(.sc (.slice none 0 0)),(.imm 1 ([[(.imm 7 shR2c9698)]])),(.sc (.slice none 0 0))]),(.J 0),(.J 3)] [] 1 100000 (.imm 1 ([[(.J 0)]])) []:=by
 refine PX.con_intro [(.agg [(.sc (.slice none 0 0)),(.sc (.slice none 0 0)),(.imm 1 ([[(.imm 7 shR2c9698)]])),(.sc (.slice none 0 0))]),(.J 0),(.J 3)] 46 Try.func165 rfl rfl (by kernel_rfl) (by kernel_rfl) ?_
 intro E a hE hS
 generalize E.w0=w at hS ⊢
 have mix:=mixed
 refine PX.G [(.e 3 (.ptr 1 0))] [(1,.box 47 [(.sc (.slice none 0 0)),(.sc (.slice none 0 0)),(.imm 1 ([[(.imm 7 shR2c9698)]])),(.sc (.slice none 0 0))])] 2 [] [] [.au,.au] [1,2,3] [1] hS hE trivial fun a w hS=>?_
 refine PX.G [(.e 7 (.sc (.slice none 0 0)))] [] 2 [] [] [.au] [1,2,3,7] [1] hS hE trivial fun a w hS=>?_
 refine wp_seq_k fun K1 hK1=>?_
 refine PX.G [(.e 18 (.sc (.bool false)))] [] 2 [.q ((.sc (.I ((([[(.imm 7 shR2c9698)]]:List (List PX.PV)).length:Nat):Int)):PX.PV)=(.J 1))] [] [.au,.au,.au,.au,.au,.au,.nm (.J 1),.au,.au] [1,2,3,7,18] [1] hS hE ⟨rfl,trivial⟩ fun a w hS=>?_
 refine PX.cond_s false hS (by kernel_rfl) (fun h2=>nomatch h2) (fun h2=>?_)
 refine wp_skip ?_
 refine hK1 _ _ ?_
 refine wp_seq_k fun K3 hK3=>?_
 refine PX.G [(.e 23 (.imm 7 shR2c9698)),(.e 24 (.J 1)),(.e 25 (.J 0))] [] 2 [.q (0=((0:Nat):Int)),.q (([[(.imm 7 shR2c9698)]]:List (List PX.PV))[0]?=some ([(.imm 7 shR2c9698)])),.q ((.sc (.I (shR2c9698.length:Int)):PX.PV)=(.J 1))] [] [.au,.au,.au,.ix 0 ([(.imm 7 shR2c9698)]),.au,.nm (.J 1),.au] [2,7,23,24,25] [] hS hE ⟨rfl,rfl,rfl,trivial⟩ fun a w hS=>?_
 refine wp_block ?_
 refine wp_loop_rounds 2 ?_
 rw [rounds_succ]
 refine PX.G [(.e 26 (.sc (.bool true)))] [] 2 [] [] [.au] [2,7,23,24,25,26] [] hS hE trivial fun a w hS=>?_
 refine wp_seq_k fun K4 hK4=>?_
 refine PX.cond_s true hS (by kernel_rfl) (fun h5=>?_) (fun h5=>nomatch h5)
 refine wp_skip ?_
 refine hK4 _ _ ?_
 refine wp_seq_k fun K6 hK6=>?_
 refine wp_block ?_
 refine PX.G [(.e 8 (.J 0)),(.e 9 (.ptr 2 0))] [(2,.box 84 [(.sc (.string ⟨#[]⟩)),(.J 1),(.J 0),(.J 1),(.sc (.bool false)),(.J 0),(.J 9)])] 3 [.q (0=((0:Nat):Int)),.q (shR2c9698[0]?=some ([(.sc (.string ⟨#[]⟩)),(.J 1),(.J 0),(.J 1),(.sc (.bool false)),(.J 0),(.J 9)]))] [] [.au,.ix 0 ([(.sc (.string ⟨#[]⟩)),(.J 1),(.J 0),(.J 1),(.sc (.bool false)),(.J 0),(.J 9)]),.au,.au,.au,.au] [2,7,8,9,23,24,25] [2] hS hE ⟨rfl,rfl,trivial⟩ fun a w hS=>?_
 refine PX.G [(.e 35 (.J 3)),(.e 36 (.ptr 2 6)),(.e 37 (.J 9)),(.e 38 (.sc (.bool true))),(.e 39 (.sc (.bool true)))] [] 3 [] [] [.au,.au,.au,.au,.au,.au,.au,.au,.au,.au] [2,7,8,23,24,25,35,36,37,38,39] [2] hS hE trivial fun a w hS=>?_
 refine PX.cond_s true hS (by kernel_rfl) (fun h7=>?_) (fun h7=>nomatch h7)
 refine PX.G0 [(.e 7 (.own 4 1 1))] [(4,.row 3 1 true ([[(.J 0)]]))] 5 [.b true,.b (lenIs 1 ([[(.J 0)]])),.b (Nat.ble (1) 1000000000)] [] [.au,.au,.au,.au,.au] [2,7,23,24,25,35,36,37,38] [2,4] hS hE ⟨rfl,rfl,rfl,trivial⟩ fun a w hS=>?_
 refine hK6 _ _ ?_
 refine PX.G0 [(.e 25 (.J 1))] [] 5 [] [] [.au,.au] [2,7,23,24,25,35,36,37,38] [2,4] hS hE trivial fun a w hS=>?_
 show Code.rounds _ _ _ 1 _ _
 rw [rounds_succ]
 refine PX.G [(.e 26 (.sc (.bool false)))] [] 5 [] [] [.au] [2,7,23,24,25,26,35,36,37,38] [2,4] hS hE trivial fun a w hS=>?_
 refine wp_seq_k fun K8 hK8=>?_
 refine PX.cond_s false hS (by kernel_rfl) (fun h9=>nomatch h9) (fun h9=>?_)
 refine wp_exit ?_
 refine hK3 _ _ ?_
 refine PX.G [(.e 6 (.own 4 1 1))] [] 5 [] [] [.au,.au] [6] [4] hS hE trivial fun a w hS=>?_
 refine wp_ret ?_
 try simp only [Exit.then,Exit.inBlock,Nat.reduceEqDiff,↓reduceIte]
 replace hS:=PX.fz 4 [(.e 6 (.imm 1 ([[(.J 0)]])))] [] [6] [] [.b (PX.lenIs 1 ([[(.J 0)]]))] hS ⟨(rfl),trivial⟩
 exact PX.ret_s hS hE (by kernel_rfl) (by kernel_rfl) (by kernel_rfl) (.inl rfl)

set_option maxHeartbeats 400000 in
theorem sh168_0 (z:Int):PX.Con Try.prog 168 [(.ptr 2 0),(.J 0),(.J 0),(.J 0)] [(2,.box 142 [(.J 0),.any,(.map 3),.any,(.J 0),(.J 3),(.imm 11 shR439b68),.any,.any,.any,.any]),(3,.mp ([(0,.I z)]))] 4 100000 (.tup [(.J 0),(.sc (.bool false))]) [(2,some (.box 142 [(.J 0),.any,(.map 3),.any,(.J 0),(.J 3),(.imm 11 shR439b68),.any,.any,.any,.any])),(3,some (.mp ([(0,.I z)])))]:=by
 refine PX.con_intro [(.ptr 2 0),(.J 0),(.J 0),(.J 0)] 82 Try.func168 rfl rfl (by kernel_rfl) (by kernel_rfl) ?_
 intro E a hE hS
 generalize E.w0=w at hS ⊢
 have mix:=mixed
 refine PX.G [] [] 4 [] [] [.au,.au] [0,1,2,3] [2,3] hS hE trivial fun a w hS=>?_
 refine wp_seq_k fun K1 hK1=>?_
 refine PX.G [(.e 17 (.imm 11 shR439b68)),(.e 18 (.J 1)),(.e 19 (.J 0))] [] 4 [.q ((.sc (.I (shR439b68.length:Int)):PX.PV)=(.J 1))] [] [.au,.au,.au,.au,.nm (.J 1),.au] [0,1,2,3,17,18,19] [2,3] hS hE ⟨rfl,trivial⟩ fun a w hS=>?_
 refine wp_block ?_
 refine wp_loop_rounds 2 ?_
 rw [rounds_succ]
 refine PX.G [(.e 20 (.sc (.bool true)))] [] 4 [] [] [.au] [0,1,2,3,17,18,19,20] [2,3] hS hE trivial fun a w hS=>?_
 refine wp_seq_k fun K2 hK2=>?_
 refine PX.cond_s true hS (by kernel_rfl) (fun h3=>?_) (fun h3=>nomatch h3)
 refine wp_skip ?_
 refine hK2 _ _ ?_
 refine wp_seq_k fun K4 hK4=>?_
 refine wp_block ?_
 refine PX.G [(.e 11 (.ptr 4 0))] [(4,.box 74 [(.J 21),(.J 0),(.J 0),(.J 0),(.J 0),(.J 0),(.J 0),(.J 0),(.J 2),(.J 1),(.J 0)])] 5 [.q (0=((0:Nat):Int)),.q (shR439b68[0]?=some ([(.J 21),(.J 0),(.J 0),(.J 0),(.J 0),(.J 0),(.J 0),(.J 0),(.J 2),(.J 1),(.J 0)]))] [] [.ix 0 ([(.J 21),(.J 0),(.J 0),(.J 0),(.J 0),(.J 0),(.J 0),(.J 0),(.J 2),(.J 1),(.J 0)]),.au,.au,.au] [0,1,2,3,11,17,18,19] [2,3,4] hS hE ⟨rfl,rfl,trivial⟩ fun a w hS=>?_
 refine wp_seq_k fun K5 hK5=>?_
 refine PX.G [(.e 28 (.ptr 4 6)),(.e 29 (.J 0)),(.e 30 (.J 0)),(.e 31 (.sc (.bool false))),(.e 34 (.ptr 4 7)),(.e 35 (.J 0)),(.e 36 (.J 0)),(.e 37 (.sc (.bool false))),(.e 38 (.sc (.bool false)))] [] 5 [] [] [.au,.au,.au,.au,.au,.au,.au,.au,.au,.au,.au,.au,.au,.au,.au,.au] [0,1,2,3,11,17,18,19,28,29,30,31,34,35,36,37,38] [2,3,4] hS hE trivial fun a w hS=>?_
 refine PX.cond_s false hS (by kernel_rfl) (fun h6=>nomatch h6) (fun h6=>?_)
 refine wp_skip ?_
 refine hK5 _ _ ?_
 refine PX.G [(.e 41 (.J 2))] [] 5 [] [] [.au,.au,.au] [0,1,2,3,11,17,18,19,28,29,30,31,34,35,36,37,41] [2,3,4] hS hE trivial fun a w hS=>?_
 refine wp_block ?_
 refine PX.G [(.e 42 (.sc (.bool false)))] [] 5 [] [] [.au,.au] [0,1,2,3,11,17,18,19,28,29,30,31,34,35,36,37,41,42] [2,3,4] hS hE trivial fun a w hS=>?_
 refine PX.cond_s false hS (by kernel_rfl) (fun h7=>nomatch h7) (fun h7=>?_)
 refine PX.G [(.e 47 (.sc (.bool true)))] [] 5 [] [] [.au,.au] [0,1,2,3,11,17,18,19,28,29,30,31,34,35,36,37,41,47] [2,3,4] hS hE trivial fun a w hS=>?_
 refine PX.cond_s true hS (by kernel_rfl) (fun h8=>?_) (fun h8=>nomatch h8)
 refine PX.D [(.e 12 (.J 0)),(.e 13 (.sc (.bool false)))] [] 5 [.q ((.tup [.sc ((PX.findV ([(0,.I z)]) 1).getD (.I 0)),.sc (.bool (PX.findV ([(0,.I z)]) 1).isSome)]:PX.PV)=(.tup [(.J 0),(.sc (.bool false))]))] [] [.au,.au,.au,.au,.au,.au,.au,.nm (.tup [(.J 0),(.sc (.bool false))]),.au,.au,.au,.au,.au] [0,1,2,3,11,12,13,17,18,19,28,29,30,31,34,35,36,37] [2,3,4] hS mixed hE ⟨rfl,trivial⟩ fun a w hS=>?_
 refine PX.G [(.e 60 (.sc (.bool false)))] [] 5 [] [] [.au] [0,1,2,3,11,12,17,18,19,28,29,30,31,34,35,36,37,60] [2,3,4] hS hE trivial fun a w hS=>?_
 refine PX.cond_s false hS (by kernel_rfl) (fun h9=>nomatch h9) (fun h9=>?_)
 refine wp_skip ?_
 refine hK4 _ _ ?_
 refine PX.G0 [(.e 19 (.J 1))] [] 5 [] [] [.au,.au] [0,1,2,3,17,18,19,28,29,30,31,34,35,36,37] [2,3,4] hS hE trivial fun a w hS=>?_
 show Code.rounds _ _ _ 1 _ _
 rw [rounds_succ]
 refine PX.G [(.e 20 (.sc (.bool false)))] [] 5 [] [] [.au] [0,1,2,3,17,18,19,20,28,29,30,31,34,35,36,37] [2,3,4] hS hE trivial fun a w hS=>?_
 refine wp_seq_k fun K10 hK10=>?_
 refine PX.cond_s false hS (by kernel_rfl) (fun h11=>nomatch h11) (fun h11=>?_)
 refine wp_exit ?_
 refine hK1 _ _ ?_
 refine PX.G [(.e 8 (.J 0)),(.e 9 (.sc (.bool false)))] [] 5 [] [] [.au,.au] [8,9] [2,3] hS hE trivial fun a w hS=>?_
 refine wp_ret ?_
 try simp only [Exit.then,Exit.inBlock,Nat.reduceEqDiff,↓reduceIte]
 exact PX.ret_s hS hE (by kernel_rfl) (by kernel_rfl) (by kernel_rfl) (.inl rfl)

set_option maxHeartbeats 400000 in
theorem sh166_0 (z:Int):PX.Con Try.prog 166 [(.ptr 1 0),(.ptr 2 0),(.J 0),(.J 0),(.J 0)] [(1,.box 116 [(.sc (.slice none 0 0)),(.sc (.slice none 0 0)),(.imm 1 ([[(.imm 7 shR2c9698)]])),(.sc (.slice none 0 0)),(.imm 4 shR20c178),(.J 3),(.J 0),(.J 3),(.J 0),(.J 1),(.own 4 1 1),(.sc (.slice none 0 0)),(.J 0),(.sc (.bool false)),(.J 0),(.sc (.slice none 0 0))]),(2,.box 142 [(.J 0),.any,(.map 3),.any,(.J 0),(.J 3),(.imm 11 shR439b68),.any,.any,.any,.any]),(3,.mp ([(0,.I z)])),(4,.row 138 1 false ([[(.ptr 2 0)]]))] 5 100000 (.agg [(.J 0),(.imm 1 ([[(.sc (.bool false))]])),(.imm 1 ([[(.J 0)]]))]) [(1,some (.box 116 [(.sc (.slice none 0 0)),(.sc (.slice none 0 0)),(.imm 1 ([[(.imm 7 shR2c9698)]])),(.sc (.slice none 0 0)),(.imm 4 shR20c178),(.J 3),(.J 0),(.J 3),(.J 0),(.J 1),(.own 4 1 1),(.sc (.slice none 0 0)),(.J 0),(.sc (.bool false)),(.J 0),(.sc (.slice none 0 0))])),(2,some (.box 142 [(.J 0),.any,(.map 3),.any,(.J 0),(.J 3),(.imm 11 shR439b68),.any,.any,.any,.any])),(3,some (.mp ([(0,.I z)]))),(4,some (.row 138 1 false ([[(.ptr 2 0)]])))]:=by
 refine PX.con_intro [(.ptr 1 0),(.ptr 2 0),(.J 0),(.J 0),(.J 0)] 106 Try.func166 rfl rfl (by kernel_rfl) (by kernel_rfl) ?_
 intro E a hE hS
 generalize E.w0=w at hS ⊢
 have mix:=mixed
 refine PX.G [(.e 10 (.ptr 5 0))] [(5,.box 94 [(.J 0),(.sc (.slice none 0 0)),(.sc (.slice none 0 0))])] 6 [] [] [.au] [0,1,2,3,4,10] [1,2,3,4,5] hS hE trivial fun a w hS=>?_
 refine PX.G [(.e 11 (.ptr 6 0))] [(6,.box 84 [(.sc (.string ⟨#[]⟩)),(.J 1),(.J 0),(.J 1),(.sc (.bool false)),(.J 0),(.J 9)])] 7 [.q (0=((0:Nat):Int)),.q (([[(.imm 7 shR2c9698)]]:List (List PX.PV))[0]?=some ([(.imm 7 shR2c9698)])),.q (0=((0:Nat):Int)),.q (shR2c9698[0]?=some ([(.sc (.string ⟨#[]⟩)),(.J 1),(.J 0),(.J 1),(.sc (.bool false)),(.J 0),(.J 9)]))] [] [.au,.au,.au,.au,.au,.au,.ix 0 ([(.imm 7 shR2c9698)]),.au,.au,.ix 0 ([(.sc (.string ⟨#[]⟩)),(.J 1),(.J 0),(.J 1),(.sc (.bool false)),(.J 0),(.J 9)]),.au,.au,.au] [0,1,2,4,10,11] [1,2,3,4,5,6] hS hE ⟨rfl,rfl,rfl,rfl,trivial⟩ fun a w hS=>?_
 refine PX.G [(.e 12 (.ptr 7 0))] [(7,.box 94 [(.J 0),(.sc (.slice none 0 0)),(.sc (.slice none 0 0))])] 8 [] [] [.au,.au,.au,.au] [0,1,2,4,10,11,12] [1,2,3,4,5,6,7] hS hE trivial fun a w hS=>?_
 refine wp_seq_k fun K1 hK1=>?_
 refine PX.G [(.e 13 (.J 0))] [] 8 [] [] [.au] [0,1,2,4,10,11,12,13] [1,2,3,4,5,6,7] hS hE trivial fun a w hS=>?_
 refine wp_block ?_
 refine wp_loop_rounds 2 ?_
 rw [rounds_succ]
 refine wp_seq_k fun K2 hK2=>?_
 refine PX.G [(.e 34 (.sc (.bool true)))] [] 8 [] [] [.au,.au,.au,.au] [0,1,2,4,10,11,12,13,34] [1,2,3,4,5,6,7] hS hE trivial fun a w hS=>?_
 refine PX.cond_s true hS (by kernel_rfl) (fun h3=>?_) (fun h3=>nomatch h3)
 refine wp_skip ?_
 refine hK2 _ _ ?_
 refine wp_seq_k fun K4 hK4=>?_
 refine wp_block ?_
 refine PX.G [(.e 14 (.J 0)),(.e 15 (.sc (.bool false)))] [] 8 [] [] [.au,.au] [0,1,2,4,10,11,12,13,14,15] [1,2,3,4,5,6,7] hS hE trivial fun a w hS=>?_
 refine wp_seq_k fun K5 hK5=>?_
 refine PX.G [(.e 39 (.sc (.bool false)))] [] 8 [] [] [.au,.au,.au] [0,1,2,4,10,11,12,13,14,15,39] [1,2,3,4,5,6,7] hS hE trivial fun a w hS=>?_
 refine PX.cond_s false hS (by kernel_rfl) (fun h6=>nomatch h6) (fun h6=>?_)
 refine PX.G0 [(.e 14 (.J 0)),(.e 15 (.sc (.bool false)))] [] 8 [.q (PX.Con Try.prog 168 [(.ptr 2 0),(.J 0),(.J 0),(.J 0)] [(2,.box 142 [(.J 0),.any,(.map 3),.any,(.J 0),(.J 3),(.imm 11 shR439b68),.any,.any,.any,.any]),(3,.mp ([(0,.I z)]))] 8 8 (.tup [(.J 0),(.sc (.bool false))]) [(2,some (.box 142 [(.J 0),.any,(.map 3),.any,(.J 0),(.J 3),(.imm 11 shR439b68),.any,.any,.any,.any])),(3,some (.mp ([(0,.I z)])))])] [] [.au,.au,.au,.au,.cl [2,3] (.tup [(.J 0),(.sc (.bool false))]) [(2,some (.box 142 [(.J 0),.any,(.map 3),.any,(.J 0),(.J 3),(.imm 11 shR439b68),.any,.any,.any,.any])),(3,some (.mp ([(0,.I z)])))] 8,.au,.au,.au,.au,.au] [0,1,2,4,10,11,12,13,14,15] [1,2,3,4,5,6,7] hS hE ⟨PX.con_as [(2,2),(3,3)] [(2,2),(3,3)] (sh168_0 z) (by kernel_rfl) (by kernel_rfl) (by kernel_rfl) (by kernel_rfl) (by kernel_rfl) (by kernel_rfl),trivial⟩ fun a w hS=>?_
 refine hK5 _ _ ?_
 refine PX.D0 [] [(7,.box 94 [(.J 0),(.own 11 1 1),(.own 9 1 1)]),(9,.row 3 1 true ([[(.J 0)]])),(11,.row 4 1 true ([[(.sc (.bool false))]]))] 12 [.b true,.b (lenIs 1 ([[(.J 0)]])),.b (Nat.ble (1) 1000000000),.b true,.b (lenIs 1 ([[(.sc (.bool false))]])),.b (Nat.ble (1) 1000000000)] [] [.au,.au,.au,.au,.au,.au,.au,.au,.au,.au,.au,.au,.au,.au] [0,1,2,4,10,11,12,13] [1,2,3,4,5,6,7,9,11] hS mixed hE ⟨rfl,rfl,rfl,rfl,rfl,rfl,trivial⟩ fun a w hS=>?_
 refine hK4 _ _ ?_
 refine PX.G0 [(.e 13 (.J 1))] [] 12 [] [] [.au,.au,.au] [0,1,2,4,10,11,12,13] [1,2,3,4,5,6,7,9,11] hS hE trivial fun a w hS=>?_
 show Code.rounds _ _ _ 1 _ _
 rw [rounds_succ]
 refine wp_seq_k fun K7 hK7=>?_
 refine PX.G [(.e 34 (.sc (.bool false)))] [] 12 [] [] [.au,.au,.au,.au] [0,1,2,4,10,11,12,13,34] [1,2,3,4,5,6,7,9,11] hS hE trivial fun a w hS=>?_
 refine PX.cond_s false hS (by kernel_rfl) (fun h8=>nomatch h8) (fun h8=>?_)
 refine wp_exit ?_
 refine hK1 _ _ ?_
 refine PX.G [] [(5,.box 94 [(.J 0),(.own 11 1 1),(.own 9 1 1)])] 12 [] [] [.au,.au] [10] [1,2,3,4,5,9,11] hS hE trivial fun a w hS=>?_
 refine wp_ret ?_
 try simp only [Exit.then,Exit.inBlock,Nat.reduceEqDiff,↓reduceIte]
 replace hS:=PX.fz 11 [] [(5,.box 94 [(.J 0),(.imm 1 ([[(.sc (.bool false))]])),(.own 9 1 1)])] [10] [1,2,3,4,5,9] [.b (PX.lenIs 1 ([[(.sc (.bool false))]]))] hS ⟨(rfl),trivial⟩
 replace hS:=PX.fz 9 [] [(5,.box 94 [(.J 0),(.imm 1 ([[(.sc (.bool false))]])),(.imm 1 ([[(.J 0)]]))])] [10] [1,2,3,4,5] [.b (PX.lenIs 1 ([[(.J 0)]]))] hS ⟨(rfl),trivial⟩
 exact PX.ret_s hS hE (by kernel_rfl) (by kernel_rfl) (by kernel_rfl) (.inl rfl)

set_option maxHeartbeats 400000 in
theorem sh158_0 (z:Int):PX.Con Try.prog 158 [(.ptr 1 0),(.ptr 2 0)] [(1,.box 116 [(.sc (.slice none 0 0)),(.sc (.slice none 0 0)),(.imm 1 ([[(.imm 7 shR2c9698)]])),(.sc (.slice none 0 0)),(.imm 4 shR20c178),(.J 3),(.J 0),(.J 3),(.J 0),(.J 1),(.own 4 1 1),(.sc (.slice none 0 0)),(.J 0),(.sc (.bool false)),(.J 0),(.sc (.slice none 0 0))]),(2,.box 142 [(.J 0),.any,(.map 3),.any,(.J 0),(.J 3),(.imm 11 shR439b68),.any,.any,.any,.any]),(3,.mp ([(0,.I z)])),(4,.row 138 1 false ([[(.ptr 2 0)]]))] 5 100000 (.imm 3 shR3542f3) [(1,some (.box 116 [(.sc (.slice none 0 0)),(.sc (.slice none 0 0)),(.imm 1 ([[(.imm 7 shR2c9698)]])),(.sc (.slice none 0 0)),(.imm 4 shR20c178),(.J 3),(.J 0),(.J 3),(.J 0),(.J 1),(.own 4 1 1),(.sc (.slice none 0 0)),(.J 0),(.sc (.bool false)),(.J 0),(.sc (.slice none 0 0))])),(2,some (.box 142 [(.J 0),.any,(.map 3),.any,(.J 0),(.J 3),(.imm 11 shR439b68),.any,.any,.any,.any])),(3,some (.mp ([(0,.I z)]))),(4,some (.row 138 1 false ([[(.ptr 2 0)]])))]:=by
 refine PX.con_intro [(.ptr 1 0),(.ptr 2 0)] 96 Try.func158 rfl rfl (by kernel_rfl) (by kernel_rfl) ?_
 intro E a hE hS
 generalize E.w0=w at hS ⊢
 have mix:=mixed
 refine PX.G [] [] 5 [] [] [.au] [0,1] [1,2,3,4] hS hE trivial fun a w hS=>?_
 refine PX.D [(.e 5 (.ptr 5 0))] [(5,.box 26 [(.J 1),(.imm 10 shR912a32),(.imm 3 shR8cf714),(.imm 3 ([]))])] 6 [.q (0=((0:Nat):Int)),.q (shR20c178[0]?=some ([(.J 1),(.imm 10 shR912a32),(.imm 3 shR8cf714),(.imm 3 ([]))]))] [] [.au,.au,.au,.au,.au,.au,.au,.au,.au,.ix 0 ([(.J 1),(.imm 10 shR912a32),(.imm 3 shR8cf714),(.imm 3 ([]))]),.au,.au,.au] [0,1,5] [1,2,3,4,5] hS mixed hE ⟨rfl,rfl,trivial⟩ fun a w hS=>?_
 refine wp_seq_k fun K1 hK1=>?_
 refine PX.G [(.e 28 (.sc (.bool false)))] [] 6 [] [] [.au,.au,.au,.au,.au] [0,1,5,28] [1,2,3,4,5] hS hE trivial fun a w hS=>?_
 refine PX.cond_s false hS (by kernel_rfl) (fun h2=>nomatch h2) (fun h2=>?_)
 refine wp_skip ?_
 refine hK1 _ _ ?_
 refine PX.G [(.e 6 (.sc (.slice none 0 0)))] [] 6 [] [] [.au] [0,1,5,6] [1,2,3,4,5] hS hE trivial fun a w hS=>?_
 refine PX.D [(.e 7 (.J 0)),(.e 8 (.J 3))] [] 6 [] [] [.au,.au,.au,.au,.au,.au,.au,.au,.au,.au] [0,1,5,6,7,8] [1,2,3,4,5] hS mixed hE trivial fun a w hS=>?_
 refine wp_seq_k fun K3 hK3=>?_
 refine wp_block ?_
 refine wp_loop_rounds 2 ?_
 rw [rounds_succ]
 refine wp_seq_k fun K4 hK4=>?_
 refine PX.G [(.e 45 (.sc (.bool true)))] [] 6 [] [] [.au,.au] [0,1,5,6,7,8,45] [1,2,3,4,5] hS hE trivial fun a w hS=>?_
 refine PX.cond_s true hS (by kernel_rfl) (fun h5=>?_) (fun h5=>nomatch h5)
 refine wp_skip ?_
 refine hK4 _ _ ?_
 refine wp_block ?_
 refine PX.G [(.e 9 (.J 0))] [] 6 [.q (0=((0:Nat):Int)),.q (shR8cf714[0]?=some ([(.sc (.I (-1))),(.sc (.I (-1))),(.J 0)]))] [] [.au,.au,.au,.ix 0 ([(.sc (.I (-1))),(.sc (.I (-1))),(.J 0)]),.au,.au,.au] [0,1,5,6,7,8,9] [1,2,3,4,5] hS hE ⟨rfl,rfl,trivial⟩ fun a w hS=>?_
 refine PX.G [(.e 10 (.ptr 6 0))] [(6,.box 91 [(.J 0),(.J 3),(.sc (.slice none 0 0))])] 7 [] [] [.au,.au,.au,.au,.au] [0,1,5,6,7,8,9,10] [1,2,3,4,5,6] hS hE trivial fun a w hS=>?_
 refine wp_seq_k fun K6 hK6=>?_
 refine PX.G [(.e 61 (.imm 1 ([[(.J 0)]]))),(.e 62 (.J 1)),(.e 63 (.J 0))] [] 7 [.q (PX.Con Try.prog 165 [(.agg [(.sc (.slice none 0 0)),(.sc (.slice none 0 0)),(.imm 1 ([[(.imm 7 shR2c9698)]])),(.sc (.slice none 0 0))]),(.J 0),(.J 3)] [] 7 7 (.imm 1 ([[(.J 0)]])) []),.q ((.sc (.I ((([[(.J 0)]]:List (List PX.PV)).length:Nat):Int)):PX.PV)=(.J 1))] [] [.au,.au,.au,.au,.au,.au,.cl [] (.imm 1 ([[(.J 0)]])) [] 7,.nm (.J 1),.au] [0,1,5,6,7,8,9,10,61,62,63] [1,2,3,4,5,6] hS hE ⟨PX.con_any (sh165_0 z),rfl,trivial⟩ fun a w hS=>?_
 refine wp_block ?_
 refine wp_loop_rounds 2 ?_
 rw [rounds_succ]
 refine PX.G [(.e 64 (.sc (.bool true)))] [] 7 [] [] [.au] [0,1,5,6,7,8,9,10,61,62,63,64] [1,2,3,4,5,6] hS hE trivial fun a w hS=>?_
 refine wp_seq_k fun K7 hK7=>?_
 refine PX.cond_s true hS (by kernel_rfl) (fun h8=>?_) (fun h8=>nomatch h8)
 refine wp_skip ?_
 refine hK7 _ _ ?_
 refine wp_seq_k fun K9 hK9=>?_
 refine wp_block ?_
 refine PX.G [(.e 12 (.J 0))] [] 7 [.q (0=((0:Nat):Int)),.q (([[(.J 0)]]:List (List PX.PV))[0]?=some ([(.J 0)]))] [] [.ix 0 ([(.J 0)]),.au,.au] [0,1,5,6,7,8,9,10,12,61,62,63] [1,2,3,4,5,6] hS hE ⟨rfl,rfl,trivial⟩ fun a w hS=>?_
 refine PX.D0 [] [(6,.box 91 [(.J 0),(.J 3),(.own 8 3 1)]),(8,.row 94 3 true ([[(.J 0),(.imm 1 ([[(.sc (.bool false))]])),(.imm 1 ([[(.J 0)]]))]]))] 9 [.q (PX.Con Try.prog 166 [(.ptr 1 0),(.ptr 2 0),(.J 0),(.J 0),(.J 0)] [(1,.box 116 [(.sc (.slice none 0 0)),(.sc (.slice none 0 0)),(.imm 1 ([[(.imm 7 shR2c9698)]])),(.sc (.slice none 0 0)),(.imm 4 shR20c178),(.J 3),(.J 0),(.J 3),(.J 0),(.J 1),(.own 4 1 1),(.sc (.slice none 0 0)),(.J 0),(.sc (.bool false)),(.J 0),(.sc (.slice none 0 0))]),(2,.box 142 [(.J 0),.any,(.map 3),.any,(.J 0),(.J 3),(.imm 11 shR439b68),.any,.any,.any,.any]),(3,.mp ([(0,.I z)])),(4,.row 138 1 false ([[(.ptr 2 0)]]))] 7 7 (.agg [(.J 0),(.imm 1 ([[(.sc (.bool false))]])),(.imm 1 ([[(.J 0)]]))]) [(1,some (.box 116 [(.sc (.slice none 0 0)),(.sc (.slice none 0 0)),(.imm 1 ([[(.imm 7 shR2c9698)]])),(.sc (.slice none 0 0)),(.imm 4 shR20c178),(.J 3),(.J 0),(.J 3),(.J 0),(.J 1),(.own 4 1 1),(.sc (.slice none 0 0)),(.J 0),(.sc (.bool false)),(.J 0),(.sc (.slice none 0 0))])),(2,some (.box 142 [(.J 0),.any,(.map 3),.any,(.J 0),(.J 3),(.imm 11 shR439b68),.any,.any,.any,.any])),(3,some (.mp ([(0,.I z)]))),(4,some (.row 138 1 false ([[(.ptr 2 0)]])))]),.b true,.b (lenIs 1 ([[(.J 0),(.imm 1 ([[(.sc (.bool false))]])),(.imm 1 ([[(.J 0)]]))]])),.b (Nat.ble (1) 1000000000)] [] [.au,.au,.au,.au,.au,.au,.au,.cl [1,2,3,4] (.agg [(.J 0),(.imm 1 ([[(.sc (.bool false))]])),(.imm 1 ([[(.J 0)]]))]) [(1,some (.box 116 [(.sc (.slice none 0 0)),(.sc (.slice none 0 0)),(.imm 1 ([[(.imm 7 shR2c9698)]])),(.sc (.slice none 0 0)),(.imm 4 shR20c178),(.J 3),(.J 0),(.J 3),(.J 0),(.J 1),(.own 4 1 1),(.sc (.slice none 0 0)),(.J 0),(.sc (.bool false)),(.J 0),(.sc (.slice none 0 0))])),(2,some (.box 142 [(.J 0),.any,(.map 3),.any,(.J 0),(.J 3),(.imm 11 shR439b68),.any,.any,.any,.any])),(3,some (.mp ([(0,.I z)]))),(4,some (.row 138 1 false ([[(.ptr 2 0)]])))] 7,.au,.au,.au,.au] [0,1,5,6,7,8,9,10,61,62,63] [1,2,3,4,5,6,8] hS mixed hE ⟨PX.con_as [(1,1),(2,2),(3,3),(4,4)] [(1,1),(2,2),(3,3),(4,4)] (sh166_0 z) (by kernel_rfl) (by kernel_rfl) (by kernel_rfl) (by kernel_rfl) (by kernel_rfl) (by kernel_rfl),rfl,rfl,rfl,trivial⟩ fun a w hS=>?_
 refine hK9 _ _ ?_
 refine PX.G0 [(.e 63 (.J 1))] [] 9 [] [] [.au,.au] [0,1,5,6,7,8,9,10,61,62,63] [1,2,3,4,5,6,8] hS hE trivial fun a w hS=>?_
 show Code.rounds _ _ _ 1 _ _
 rw [rounds_succ]
 refine PX.G [(.e 64 (.sc (.bool false)))] [] 9 [] [] [.au] [0,1,5,6,7,8,9,10,61,62,63,64] [1,2,3,4,5,6,8] hS hE trivial fun a w hS=>?_
 refine wp_seq_k fun K10 hK10=>?_
 refine PX.cond_s false hS (by kernel_rfl) (fun h11=>nomatch h11) (fun h11=>?_)
 refine wp_exit ?_
 refine hK6 _ _ ?_
 replace hS:=PX.fz 8 [] [(6,.box 91 [(.J 0),(.J 3),(.imm 3 ([[(.J 0),(.imm 1 ([[(.sc (.bool false))]])),(.imm 1 ([[(.J 0)]]))]]))])] [0,1,5,6,7,8,9,10,61,62,63,64] [1,2,3,4,5,6] [.b (PX.lenIs 1 ([[(.J 0),(.imm 1 ([[(.sc (.bool false))]])),(.imm 1 ([[(.J 0)]]))]]))] hS ⟨(rfl),trivial⟩
 refine PX.G [(.e 6 (.own 10 3 1))] [(10,.row 91 3 true ([[(.J 0),(.J 3),(.imm 3 ([[(.J 0),(.imm 1 ([[(.sc (.bool false))]])),(.imm 1 ([[(.J 0)]]))]]))]]))] 11 [.b true,.b (lenIs 1 ([[(.J 0),(.J 3),(.imm 3 ([[(.J 0),(.imm 1 ([[(.sc (.bool false))]])),(.imm 1 ([[(.J 0)]]))]]))]])),.b (Nat.ble (1) 1000000000)] [] [.au,.au,.au,.au,.au] [0,1,5,6,7,8] [1,2,3,4,5,10] hS hE ⟨rfl,rfl,rfl,trivial⟩ fun a w hS=>?_
 refine PX.G [(.e 8 (.sc (.I (-1))))] [] 11 [.q (0=((0:Nat):Int)),.q (shR8cf714[0]?=some ([(.sc (.I (-1))),(.sc (.I (-1))),(.J 0)]))] [] [.au,.au,.au,.ix 0 ([(.sc (.I (-1))),(.sc (.I (-1))),(.J 0)]),.au,.au,.au] [0,1,5,6,7,8] [1,2,3,4,5,10] hS hE ⟨rfl,rfl,trivial⟩ fun a w hS=>?_
 refine PX.G0 [(.e 7 (.sc (.I (-1))))] [] 11 [.q (0=((0:Nat):Int)),.q (shR8cf714[0]?=some ([(.sc (.I (-1))),(.sc (.I (-1))),(.J 0)]))] [] [.au,.au,.au,.ix 0 ([(.sc (.I (-1))),(.sc (.I (-1))),(.J 0)]),.au,.au,.au] [0,1,5,6,7,8] [1,2,3,4,5,10] hS hE ⟨rfl,rfl,trivial⟩ fun a w hS=>?_
 show Code.rounds _ _ _ 1 _ _
 rw [rounds_succ]
 refine wp_seq_k fun K12 hK12=>?_
 refine PX.G [(.e 45 (.sc (.bool false)))] [] 11 [] [] [.au,.au] [0,1,5,6,7,8,45] [1,2,3,4,5,10] hS hE trivial fun a w hS=>?_
 refine PX.cond_s false hS (by kernel_rfl) (fun h13=>nomatch h13) (fun h13=>?_)
 refine wp_exit ?_
 refine hK3 _ _ ?_
 refine PX.G [(.e 4 (.own 10 3 1))] [] 11 [] [] [.au,.au] [4] [1,2,3,4,10] hS hE trivial fun a w hS=>?_
 refine wp_ret ?_
 try simp only [Exit.then,Exit.inBlock,Nat.reduceEqDiff,↓reduceIte]
 replace hS:=PX.fz 10 [(.e 4 (.imm 3 ([[(.J 0),(.J 3),(.imm 3 ([[(.J 0),(.imm 1 ([[(.sc (.bool false))]])),(.imm 1 ([[(.J 0)]]))]]))]])))] [] [4] [1,2,3,4] [.b (PX.lenIs 1 ([[(.J 0),(.J 3),(.imm 3 ([[(.J 0),(.imm 1 ([[(.sc (.bool false))]])),(.imm 1 ([[(.J 0)]]))]]))]]))] hS ⟨(rfl),trivial⟩
 exact PX.ret_s hS hE (by kernel_rfl) (by kernel_rfl) (by kernel_rfl) (.inl rfl)

set_option maxHeartbeats 400000 in
theorem sh165_1 (z:Int):PX.Con Try.prog 165 [(.agg [(.sc (.slice none 0 0)),(.sc (.slice none 0 0)),(.imm 1 ([[(.imm 7 shR2c9698)]])),(.sc (.slice none 0 0))]),(.J 0),(.J 3)] [] 1 100000 (.imm 1 ([[(.J 0)]])) []:=by
 refine PX.con_intro [(.agg [(.sc (.slice none 0 0)),(.sc (.slice none 0 0)),(.imm 1 ([[(.imm 7 shR2c9698)]])),(.sc (.slice none 0 0))]),(.J 0),(.J 3)] 46 Try.func165 rfl rfl (by kernel_rfl) (by kernel_rfl) ?_
 intro E a hE hS
 generalize E.w0=w at hS ⊢
 have mix:=mixed
 refine PX.G [(.e 3 (.ptr 1 0))] [(1,.box 47 [(.sc (.slice none 0 0)),(.sc (.slice none 0 0)),(.imm 1 ([[(.imm 7 shR2c9698)]])),(.sc (.slice none 0 0))])] 2 [] [] [.au,.au] [1,2,3] [1] hS hE trivial fun a w hS=>?_
 refine PX.G [(.e 7 (.sc (.slice none 0 0)))] [] 2 [] [] [.au] [1,2,3,7] [1] hS hE trivial fun a w hS=>?_
 refine wp_seq_k fun K1 hK1=>?_
 refine PX.G [(.e 18 (.sc (.bool false)))] [] 2 [.q ((.sc (.I ((([[(.imm 7 shR2c9698)]]:List (List PX.PV)).length:Nat):Int)):PX.PV)=(.J 1))] [] [.au,.au,.au,.au,.au,.au,.nm (.J 1),.au,.au] [1,2,3,7,18] [1] hS hE ⟨rfl,trivial⟩ fun a w hS=>?_
 refine PX.cond_s false hS (by kernel_rfl) (fun h2=>nomatch h2) (fun h2=>?_)
 refine wp_skip ?_
 refine hK1 _ _ ?_
 refine wp_seq_k fun K3 hK3=>?_
 refine PX.G [(.e 23 (.imm 7 shR2c9698)),(.e 24 (.J 1)),(.e 25 (.J 0))] [] 2 [.q (0=((0:Nat):Int)),.q (([[(.imm 7 shR2c9698)]]:List (List PX.PV))[0]?=some ([(.imm 7 shR2c9698)])),.q ((.sc (.I (shR2c9698.length:Int)):PX.PV)=(.J 1))] [] [.au,.au,.au,.ix 0 ([(.imm 7 shR2c9698)]),.au,.nm (.J 1),.au] [2,7,23,24,25] [] hS hE ⟨rfl,rfl,rfl,trivial⟩ fun a w hS=>?_
 refine wp_block ?_
 refine wp_loop_rounds 2 ?_
 rw [rounds_succ]
 refine PX.G [(.e 26 (.sc (.bool true)))] [] 2 [] [] [.au] [2,7,23,24,25,26] [] hS hE trivial fun a w hS=>?_
 refine wp_seq_k fun K4 hK4=>?_
 refine PX.cond_s true hS (by kernel_rfl) (fun h5=>?_) (fun h5=>nomatch h5)
 refine wp_skip ?_
 refine hK4 _ _ ?_
 refine wp_seq_k fun K6 hK6=>?_
 refine wp_block ?_
 refine PX.G [(.e 8 (.J 0)),(.e 9 (.ptr 2 0))] [(2,.box 84 [(.sc (.string ⟨#[]⟩)),(.J 1),(.J 0),(.J 1),(.sc (.bool false)),(.J 0),(.J 9)])] 3 [.q (0=((0:Nat):Int)),.q (shR2c9698[0]?=some ([(.sc (.string ⟨#[]⟩)),(.J 1),(.J 0),(.J 1),(.sc (.bool false)),(.J 0),(.J 9)]))] [] [.au,.ix 0 ([(.sc (.string ⟨#[]⟩)),(.J 1),(.J 0),(.J 1),(.sc (.bool false)),(.J 0),(.J 9)]),.au,.au,.au,.au] [2,7,8,9,23,24,25] [2] hS hE ⟨rfl,rfl,trivial⟩ fun a w hS=>?_
 refine PX.G [(.e 35 (.J 3)),(.e 36 (.ptr 2 6)),(.e 37 (.J 9)),(.e 38 (.sc (.bool true))),(.e 39 (.sc (.bool true)))] [] 3 [] [] [.au,.au,.au,.au,.au,.au,.au,.au,.au,.au] [2,7,8,23,24,25,35,36,37,38,39] [2] hS hE trivial fun a w hS=>?_
 refine PX.cond_s true hS (by kernel_rfl) (fun h7=>?_) (fun h7=>nomatch h7)
 refine PX.G0 [(.e 7 (.own 4 1 1))] [(4,.row 3 1 true ([[(.J 0)]]))] 5 [.b true,.b (lenIs 1 ([[(.J 0)]])),.b (Nat.ble (1) 1000000000)] [] [.au,.au,.au,.au,.au] [2,7,23,24,25,35,36,37,38] [2,4] hS hE ⟨rfl,rfl,rfl,trivial⟩ fun a w hS=>?_
 refine hK6 _ _ ?_
 refine PX.G0 [(.e 25 (.J 1))] [] 5 [] [] [.au,.au] [2,7,23,24,25,35,36,37,38] [2,4] hS hE trivial fun a w hS=>?_
 show Code.rounds _ _ _ 1 _ _
 rw [rounds_succ]
 refine PX.G [(.e 26 (.sc (.bool false)))] [] 5 [] [] [.au] [2,7,23,24,25,26,35,36,37,38] [2,4] hS hE trivial fun a w hS=>?_
 refine wp_seq_k fun K8 hK8=>?_
 refine PX.cond_s false hS (by kernel_rfl) (fun h9=>nomatch h9) (fun h9=>?_)
 refine wp_exit ?_
 refine hK3 _ _ ?_
 refine PX.G [(.e 6 (.own 4 1 1))] [] 5 [] [] [.au,.au] [6] [4] hS hE trivial fun a w hS=>?_
 refine wp_ret ?_
 try simp only [Exit.then,Exit.inBlock,Nat.reduceEqDiff,↓reduceIte]
 replace hS:=PX.fz 4 [(.e 6 (.imm 1 ([[(.J 0)]])))] [] [6] [] [.b (PX.lenIs 1 ([[(.J 0)]]))] hS ⟨(rfl),trivial⟩
 exact PX.ret_s hS hE (by kernel_rfl) (by kernel_rfl) (by kernel_rfl) (.inl rfl)

set_option maxHeartbeats 400000 in
theorem sh168_1 (z:Int):PX.Con Try.prog 168 [(.ptr 2 0),(.J 0),(.J 0),(.J 0)] [(2,.box 142 [(.J 0),.any,(.map 3),.any,(.J 0),(.J 3),(.imm 11 shR439b68),.any,.any,.any,.any]),(3,.mp (PX.updV [(0,.I z)] 1 (.I (IntKind.i64.wrap (z+z)))))] 4 100000 (.tup [(.sc (.I (IntKind.i64.wrap ((IntKind.i64.wrap (z+z))+0)))),(.sc (.bool true))]) [(2,some (.box 142 [(.J 0),.any,(.map 3),.any,(.J 0),(.J 3),(.imm 11 shR439b68),.any,.any,.any,.any])),(3,some (.mp (PX.updV [(0,.I z)] 1 (.I (IntKind.i64.wrap (z+z))))))]:=by
 refine PX.con_intro [(.ptr 2 0),(.J 0),(.J 0),(.J 0)] 82 Try.func168 rfl rfl (by kernel_rfl) (by kernel_rfl) ?_
 intro E a hE hS
 generalize E.w0=w at hS ⊢
 have mix:=mixed
 refine PX.G [] [] 4 [] [] [.au,.au] [0,1,2,3] [2,3] hS hE trivial fun a w hS=>?_
 refine wp_seq_k fun K1 hK1=>?_
 refine PX.G [(.e 17 (.imm 11 shR439b68)),(.e 18 (.J 1)),(.e 19 (.J 0))] [] 4 [.q ((.sc (.I (shR439b68.length:Int)):PX.PV)=(.J 1))] [] [.au,.au,.au,.au,.nm (.J 1),.au] [0,1,2,3,17,18,19] [2,3] hS hE ⟨rfl,trivial⟩ fun a w hS=>?_
 refine wp_block ?_
 refine wp_loop_rounds 1 ?_
 rw [rounds_succ]
 refine PX.G [(.e 20 (.sc (.bool true)))] [] 4 [] [] [.au] [0,1,2,3,17,18,19,20] [2,3] hS hE trivial fun a w hS=>?_
 refine wp_seq_k fun K2 hK2=>?_
 refine PX.cond_s true hS (by kernel_rfl) (fun h3=>?_) (fun h3=>nomatch h3)
 refine wp_skip ?_
 refine hK2 _ _ ?_
 refine wp_seq_k fun K4 hK4=>?_
 refine wp_block ?_
 refine PX.G [(.e 11 (.ptr 4 0))] [(4,.box 74 [(.J 21),(.J 0),(.J 0),(.J 0),(.J 0),(.J 0),(.J 0),(.J 0),(.J 2),(.J 1),(.J 0)])] 5 [.q (0=((0:Nat):Int)),.q (shR439b68[0]?=some ([(.J 21),(.J 0),(.J 0),(.J 0),(.J 0),(.J 0),(.J 0),(.J 0),(.J 2),(.J 1),(.J 0)]))] [] [.ix 0 ([(.J 21),(.J 0),(.J 0),(.J 0),(.J 0),(.J 0),(.J 0),(.J 0),(.J 2),(.J 1),(.J 0)]),.au,.au,.au] [0,1,2,3,11,17,18,19] [2,3,4] hS hE ⟨rfl,rfl,trivial⟩ fun a w hS=>?_
 refine wp_seq_k fun K5 hK5=>?_
 refine PX.G [(.e 28 (.ptr 4 6)),(.e 29 (.J 0)),(.e 30 (.J 0)),(.e 31 (.sc (.bool false))),(.e 34 (.ptr 4 7)),(.e 35 (.J 0)),(.e 36 (.J 0)),(.e 37 (.sc (.bool false))),(.e 38 (.sc (.bool false)))] [] 5 [] [] [.au,.au,.au,.au,.au,.au,.au,.au,.au,.au,.au,.au,.au,.au,.au,.au] [0,1,2,3,11,17,18,19,28,29,30,31,34,35,36,37,38] [2,3,4] hS hE trivial fun a w hS=>?_
 refine PX.cond_s false hS (by kernel_rfl) (fun h6=>nomatch h6) (fun h6=>?_)
 refine wp_skip ?_
 refine hK5 _ _ ?_
 refine PX.G [(.e 41 (.J 2))] [] 5 [] [] [.au,.au,.au] [0,1,2,3,11,17,18,19,28,29,30,31,34,35,36,37,41] [2,3,4] hS hE trivial fun a w hS=>?_
 refine wp_block ?_
 refine PX.G [(.e 42 (.sc (.bool false)))] [] 5 [] [] [.au,.au] [0,1,2,3,11,17,18,19,28,29,30,31,34,35,36,37,41,42] [2,3,4] hS hE trivial fun a w hS=>?_
 refine PX.cond_s false hS (by kernel_rfl) (fun h7=>nomatch h7) (fun h7=>?_)
 refine PX.G [(.e 47 (.sc (.bool true)))] [] 5 [] [] [.au,.au] [0,1,2,3,11,17,18,19,28,29,30,31,34,35,36,37,41,47] [2,3,4] hS hE trivial fun a w hS=>?_
 refine PX.cond_s true hS (by kernel_rfl) (fun h8=>?_) (fun h8=>nomatch h8)
 refine PX.D [(.e 12 (.sc (.I (IntKind.i64.wrap (z+z))))),(.e 13 (.sc (.bool true)))] [] 5 [.q ((.tup [.sc ((PX.findV (PX.updV [(0,.I z)] 1 (.I (IntKind.i64.wrap (z+z)))) 1).getD (.I 0)),.sc (.bool (PX.findV (PX.updV [(0,.I z)] 1 (.I (IntKind.i64.wrap (z+z)))) 1).isSome)]:PX.PV)=(.tup [(.sc (.I (IntKind.i64.wrap (z+z)))),(.sc (.bool true))]))] [] [.au,.au,.au,.au,.au,.au,.au,.nm (.tup [(.sc (.I (IntKind.i64.wrap (z+z)))),(.sc (.bool true))]),.au,.au,.au,.au,.au] [0,1,2,3,11,12,13,17,18,19,28,29,30,31,34,35,36,37] [2,3,4] hS mixed hE ⟨rfl,trivial⟩ fun a w hS=>?_
 refine PX.G [(.e 60 (.sc (.bool true)))] [] 5 [] [] [.au] [0,1,2,3,11,12,17,18,19,28,29,30,31,34,35,36,37,60] [2,3,4] hS hE trivial fun a w hS=>?_
 refine PX.cond_s true hS (by kernel_rfl) (fun h9=>?_) (fun h9=>nomatch h9)
 refine PX.G [(.e 8 (.sc (.I (IntKind.i64.wrap ((IntKind.i64.wrap (z+z))+0))))),(.e 9 (.sc (.bool true)))] [] 5 [] [] [.au,.au,.au,.au,.au,.au,.au] [0,1,2,3,8,9,17,18,19,28,29,30,31,34,35,36,37] [2,3,4] hS hE trivial fun a w hS=>?_
 refine wp_ret ?_
 try simp only [Exit.then,Exit.inBlock,Nat.reduceEqDiff,↓reduceIte]
 exact PX.ret_s hS hE (by kernel_rfl) (by kernel_rfl) (by kernel_rfl) (.inl rfl)

set_option maxHeartbeats 400000 in
theorem sh166_1 (z:Int):PX.Con Try.prog 166 [(.ptr 1 0),(.ptr 2 0),(.J 0),(.J 0),(.J 0)] [(1,.box 116 [(.sc (.slice none 0 0)),(.sc (.slice none 0 0)),(.imm 1 ([[(.imm 7 shR2c9698)]])),(.sc (.slice none 0 0)),(.imm 4 shR0c7572),(.J 3),(.J 0),(.J 3),(.J 0),(.J 1),(.own 4 1 1),(.sc (.slice none 0 0)),(.J 0),(.sc (.bool false)),(.J 0),(.imm 1 (shR79a67e z))]),(2,.box 142 [(.J 0),.any,(.map 3),.any,(.J 0),(.J 3),(.imm 11 shR439b68),.any,.any,.any,.any]),(3,.mp (PX.updV [(0,.I z)] 1 (.I (IntKind.i64.wrap (z+z))))),(4,.row 138 1 false ([[(.ptr 2 0)]]))] 5 100000 (.agg [(.J 0),(.imm 1 ([[(.sc (.bool true))]])),(.imm 1 (shR1c80af z))]) [(1,some (.box 116 [(.sc (.slice none 0 0)),(.sc (.slice none 0 0)),(.imm 1 ([[(.imm 7 shR2c9698)]])),(.sc (.slice none 0 0)),(.imm 4 shR0c7572),(.J 3),(.J 0),(.J 3),(.J 0),(.J 1),(.own 4 1 1),(.sc (.slice none 0 0)),(.J 0),(.sc (.bool false)),(.J 0),(.imm 1 (shR79a67e z))])),(2,some (.box 142 [(.J 0),.any,(.map 3),.any,(.J 0),(.J 3),(.imm 11 shR439b68),.any,.any,.any,.any])),(3,some (.mp (PX.updV [(0,.I z)] 1 (.I (IntKind.i64.wrap (z+z)))))),(4,some (.row 138 1 false ([[(.ptr 2 0)]])))]:=by
 refine PX.con_intro [(.ptr 1 0),(.ptr 2 0),(.J 0),(.J 0),(.J 0)] 106 Try.func166 rfl rfl (by kernel_rfl) (by kernel_rfl) ?_
 intro E a hE hS
 generalize E.w0=w at hS ⊢
 have mix:=mixed
 refine PX.G [(.e 10 (.ptr 5 0))] [(5,.box 94 [(.J 0),(.sc (.slice none 0 0)),(.sc (.slice none 0 0))])] 6 [] [] [.au] [0,1,2,3,4,10] [1,2,3,4,5] hS hE trivial fun a w hS=>?_
 refine PX.G [(.e 11 (.ptr 6 0))] [(6,.box 84 [(.sc (.string ⟨#[]⟩)),(.J 1),(.J 0),(.J 1),(.sc (.bool false)),(.J 0),(.J 9)])] 7 [.q (0=((0:Nat):Int)),.q (([[(.imm 7 shR2c9698)]]:List (List PX.PV))[0]?=some ([(.imm 7 shR2c9698)])),.q (0=((0:Nat):Int)),.q (shR2c9698[0]?=some ([(.sc (.string ⟨#[]⟩)),(.J 1),(.J 0),(.J 1),(.sc (.bool false)),(.J 0),(.J 9)]))] [] [.au,.au,.au,.au,.au,.au,.ix 0 ([(.imm 7 shR2c9698)]),.au,.au,.ix 0 ([(.sc (.string ⟨#[]⟩)),(.J 1),(.J 0),(.J 1),(.sc (.bool false)),(.J 0),(.J 9)]),.au,.au,.au] [0,1,2,4,10,11] [1,2,3,4,5,6] hS hE ⟨rfl,rfl,rfl,rfl,trivial⟩ fun a w hS=>?_
 refine PX.G [(.e 12 (.ptr 7 0))] [(7,.box 94 [(.J 0),(.sc (.slice none 0 0)),(.sc (.slice none 0 0))])] 8 [] [] [.au,.au,.au,.au] [0,1,2,4,10,11,12] [1,2,3,4,5,6,7] hS hE trivial fun a w hS=>?_
 refine wp_seq_k fun K1 hK1=>?_
 refine PX.G [(.e 13 (.J 0))] [] 8 [] [] [.au] [0,1,2,4,10,11,12,13] [1,2,3,4,5,6,7] hS hE trivial fun a w hS=>?_
 refine wp_block ?_
 refine wp_loop_rounds 2 ?_
 rw [rounds_succ]
 refine wp_seq_k fun K2 hK2=>?_
 refine PX.G [(.e 34 (.sc (.bool true)))] [] 8 [] [] [.au,.au,.au,.au] [0,1,2,4,10,11,12,13,34] [1,2,3,4,5,6,7] hS hE trivial fun a w hS=>?_
 refine PX.cond_s true hS (by kernel_rfl) (fun h3=>?_) (fun h3=>nomatch h3)
 refine wp_skip ?_
 refine hK2 _ _ ?_
 refine wp_seq_k fun K4 hK4=>?_
 refine wp_block ?_
 refine PX.G [(.e 14 (.J 0)),(.e 15 (.sc (.bool false)))] [] 8 [] [] [.au,.au] [0,1,2,4,10,11,12,13,14,15] [1,2,3,4,5,6,7] hS hE trivial fun a w hS=>?_
 refine wp_seq_k fun K5 hK5=>?_
 refine PX.G [(.e 39 (.sc (.bool false)))] [] 8 [] [] [.au,.au,.au] [0,1,2,4,10,11,12,13,14,15,39] [1,2,3,4,5,6,7] hS hE trivial fun a w hS=>?_
 refine PX.cond_s false hS (by kernel_rfl) (fun h6=>nomatch h6) (fun h6=>?_)
 refine PX.G0 [(.e 14 (.sc (.I (IntKind.i64.wrap ((IntKind.i64.wrap (z+z))+0))))),(.e 15 (.sc (.bool true)))] [] 8 [.q (PX.Con Try.prog 168 [(.ptr 2 0),(.J 0),(.J 0),(.J 0)] [(2,.box 142 [(.J 0),.any,(.map 3),.any,(.J 0),(.J 3),(.imm 11 shR439b68),.any,.any,.any,.any]),(3,.mp (PX.updV [(0,.I z)] 1 (.I (IntKind.i64.wrap (z+z)))))] 8 8 (.tup [(.sc (.I (IntKind.i64.wrap ((IntKind.i64.wrap (z+z))+0)))),(.sc (.bool true))]) [(2,some (.box 142 [(.J 0),.any,(.map 3),.any,(.J 0),(.J 3),(.imm 11 shR439b68),.any,.any,.any,.any])),(3,some (.mp (PX.updV [(0,.I z)] 1 (.I (IntKind.i64.wrap (z+z))))))])] [] [.au,.au,.au,.au,.cl [2,3] (.tup [(.sc (.I (IntKind.i64.wrap ((IntKind.i64.wrap (z+z))+0)))),(.sc (.bool true))]) [(2,some (.box 142 [(.J 0),.any,(.map 3),.any,(.J 0),(.J 3),(.imm 11 shR439b68),.any,.any,.any,.any])),(3,some (.mp (PX.updV [(0,.I z)] 1 (.I (IntKind.i64.wrap (z+z))))))] 8,.au,.au,.au,.au,.au] [0,1,2,4,10,11,12,13,14,15] [1,2,3,4,5,6,7] hS hE ⟨PX.con_as [(2,2),(3,3)] [(2,2),(3,3)] (sh168_1 z) (by kernel_rfl) (by kernel_rfl) (by kernel_rfl) (by kernel_rfl) (by kernel_rfl) (by kernel_rfl),trivial⟩ fun a w hS=>?_
 refine hK5 _ _ ?_
 refine PX.D0 [] [(7,.box 94 [(.J 0),(.own 11 1 1),(.own 9 1 1)]),(9,.row 3 1 true ([[(.sc (.I (IntKind.i64.wrap ((IntKind.i64.wrap (z+z))+0))))]])),(11,.row 4 1 true ([[(.sc (.bool true))]]))] 12 [.b true,.b (lenIs 1 ([[(.sc (.I (IntKind.i64.wrap ((IntKind.i64.wrap (z+z))+0))))]])),.b (Nat.ble (1) 1000000000),.b true,.b (lenIs 1 ([[(.sc (.bool true))]])),.b (Nat.ble (1) 1000000000)] [] [.au,.au,.au,.au,.au,.au,.au,.au,.au,.au,.au,.au,.au,.au] [0,1,2,4,10,11,12,13] [1,2,3,4,5,6,7,9,11] hS mixed hE ⟨rfl,rfl,rfl,rfl,rfl,rfl,trivial⟩ fun a w hS=>?_
 refine hK4 _ _ ?_
 refine PX.G0 [(.e 13 (.J 1))] [] 12 [] [] [.au,.au,.au] [0,1,2,4,10,11,12,13] [1,2,3,4,5,6,7,9,11] hS hE trivial fun a w hS=>?_
 show Code.rounds _ _ _ 1 _ _
 rw [rounds_succ]
 refine wp_seq_k fun K7 hK7=>?_
 refine PX.G [(.e 34 (.sc (.bool false)))] [] 12 [] [] [.au,.au,.au,.au] [0,1,2,4,10,11,12,13,34] [1,2,3,4,5,6,7,9,11] hS hE trivial fun a w hS=>?_
 refine PX.cond_s false hS (by kernel_rfl) (fun h8=>nomatch h8) (fun h8=>?_)
 refine wp_exit ?_
 refine hK1 _ _ ?_
 refine PX.G [] [(5,.box 94 [(.J 0),(.own 11 1 1),(.own 9 1 1)])] 12 [] [] [.au,.au] [10] [1,2,3,4,5,9,11] hS hE trivial fun a w hS=>?_
 refine wp_ret ?_
 try simp only [Exit.then,Exit.inBlock,Nat.reduceEqDiff,↓reduceIte]
 replace hS:=PX.fz 11 [] [(5,.box 94 [(.J 0),(.imm 1 ([[(.sc (.bool true))]])),(.own 9 1 1)])] [10] [1,2,3,4,5,9] [.b (PX.lenIs 1 ([[(.sc (.bool true))]]))] hS ⟨(rfl),trivial⟩
 replace hS:=PX.fz 9 [] [(5,.box 94 [(.J 0),(.imm 1 ([[(.sc (.bool true))]])),(.imm 1 ([[(.sc (.I (IntKind.i64.wrap ((IntKind.i64.wrap (z+z))+0))))]]))])] [10] [1,2,3,4,5] [.b (PX.lenIs 1 ([[(.sc (.I (IntKind.i64.wrap ((IntKind.i64.wrap (z+z))+0))))]]))] hS ⟨(rfl),trivial⟩
 exact PX.ret_s hS hE (by kernel_rfl) (by kernel_rfl) (by kernel_rfl) (.inl rfl)

set_option maxHeartbeats 400000 in
theorem sh158_1 (z:Int):PX.Con Try.prog 158 [(.ptr 1 0),(.ptr 2 0)] [(1,.box 116 [(.sc (.slice none 0 0)),(.sc (.slice none 0 0)),(.imm 1 ([[(.imm 7 shR2c9698)]])),(.sc (.slice none 0 0)),(.imm 4 shR0c7572),(.J 3),(.J 0),(.J 3),(.J 0),(.J 1),(.own 4 1 1),(.sc (.slice none 0 0)),(.J 0),(.sc (.bool false)),(.J 0),(.imm 1 (shR79a67e z))]),(2,.box 142 [(.J 0),.any,(.map 3),.any,(.J 0),(.J 3),(.imm 11 shR439b68),.any,.any,.any,.any]),(3,.mp (PX.updV [(0,.I z)] 1 (.I (IntKind.i64.wrap (z+z))))),(4,.row 138 1 false ([[(.ptr 2 0)]]))] 5 100000 (.imm 3 (shRe55e87 z)) [(1,some (.box 116 [(.sc (.slice none 0 0)),(.sc (.slice none 0 0)),(.imm 1 ([[(.imm 7 shR2c9698)]])),(.sc (.slice none 0 0)),(.imm 4 shR0c7572),(.J 3),(.J 0),(.J 3),(.J 0),(.J 1),(.own 4 1 1),(.sc (.slice none 0 0)),(.J 0),(.sc (.bool false)),(.J 0),(.imm 1 (shR79a67e z))])),(2,some (.box 142 [(.J 0),.any,(.map 3),.any,(.J 0),(.J 3),(.imm 11 shR439b68),.any,.any,.any,.any])),(3,some (.mp (PX.updV [(0,.I z)] 1 (.I (IntKind.i64.wrap (z+z)))))),(4,some (.row 138 1 false ([[(.ptr 2 0)]])))]:=by
 refine PX.con_intro [(.ptr 1 0),(.ptr 2 0)] 96 Try.func158 rfl rfl (by kernel_rfl) (by kernel_rfl) ?_
 intro E a hE hS
 generalize E.w0=w at hS ⊢
 have mix:=mixed
 refine PX.G [] [] 5 [] [] [.au] [0,1] [1,2,3,4] hS hE trivial fun a w hS=>?_
 refine PX.D [(.e 5 (.ptr 5 0))] [(5,.box 26 [(.J 1),(.imm 10 shRf7d06f),(.imm 3 shR8cf714),(.imm 3 ([]))])] 6 [.q (0=((0:Nat):Int)),.q (shR0c7572[0]?=some ([(.J 1),(.imm 10 shRf7d06f),(.imm 3 shR8cf714),(.imm 3 ([]))]))] [] [.au,.au,.au,.au,.au,.au,.au,.au,.au,.ix 0 ([(.J 1),(.imm 10 shRf7d06f),(.imm 3 shR8cf714),(.imm 3 ([]))]),.au,.au,.au] [0,1,5] [1,2,3,4,5] hS mixed hE ⟨rfl,rfl,trivial⟩ fun a w hS=>?_
 refine wp_seq_k fun K1 hK1=>?_
 refine PX.G [(.e 28 (.sc (.bool false)))] [] 6 [] [] [.au,.au,.au,.au,.au] [0,1,5,28] [1,2,3,4,5] hS hE trivial fun a w hS=>?_
 refine PX.cond_s false hS (by kernel_rfl) (fun h2=>nomatch h2) (fun h2=>?_)
 refine wp_skip ?_
 refine hK1 _ _ ?_
 refine PX.G [(.e 6 (.sc (.slice none 0 0)))] [] 6 [] [] [.au] [0,1,5,6] [1,2,3,4,5] hS hE trivial fun a w hS=>?_
 refine PX.D [(.e 7 (.J 0)),(.e 8 (.J 3))] [] 6 [] [] [.au,.au,.au,.au,.au,.au,.au,.au,.au,.au] [0,1,5,6,7,8] [1,2,3,4,5] hS mixed hE trivial fun a w hS=>?_
 refine wp_seq_k fun K3 hK3=>?_
 refine wp_block ?_
 refine wp_loop_rounds 2 ?_
 rw [rounds_succ]
 refine wp_seq_k fun K4 hK4=>?_
 refine PX.G [(.e 45 (.sc (.bool true)))] [] 6 [] [] [.au,.au] [0,1,5,6,7,8,45] [1,2,3,4,5] hS hE trivial fun a w hS=>?_
 refine PX.cond_s true hS (by kernel_rfl) (fun h5=>?_) (fun h5=>nomatch h5)
 refine wp_skip ?_
 refine hK4 _ _ ?_
 refine wp_block ?_
 refine PX.G [(.e 9 (.J 0))] [] 6 [.q (0=((0:Nat):Int)),.q (shR8cf714[0]?=some ([(.sc (.I (-1))),(.sc (.I (-1))),(.J 0)]))] [] [.au,.au,.au,.ix 0 ([(.sc (.I (-1))),(.sc (.I (-1))),(.J 0)]),.au,.au,.au] [0,1,5,6,7,8,9] [1,2,3,4,5] hS hE ⟨rfl,rfl,trivial⟩ fun a w hS=>?_
 refine PX.G [(.e 10 (.ptr 6 0))] [(6,.box 91 [(.J 0),(.J 3),(.sc (.slice none 0 0))])] 7 [] [] [.au,.au,.au,.au,.au] [0,1,5,6,7,8,9,10] [1,2,3,4,5,6] hS hE trivial fun a w hS=>?_
 refine wp_seq_k fun K6 hK6=>?_
 refine PX.G [(.e 61 (.imm 1 ([[(.J 0)]]))),(.e 62 (.J 1)),(.e 63 (.J 0))] [] 7 [.q (PX.Con Try.prog 165 [(.agg [(.sc (.slice none 0 0)),(.sc (.slice none 0 0)),(.imm 1 ([[(.imm 7 shR2c9698)]])),(.sc (.slice none 0 0))]),(.J 0),(.J 3)] [] 7 7 (.imm 1 ([[(.J 0)]])) []),.q ((.sc (.I ((([[(.J 0)]]:List (List PX.PV)).length:Nat):Int)):PX.PV)=(.J 1))] [] [.au,.au,.au,.au,.au,.au,.cl [] (.imm 1 ([[(.J 0)]])) [] 7,.nm (.J 1),.au] [0,1,5,6,7,8,9,10,61,62,63] [1,2,3,4,5,6] hS hE ⟨PX.con_any (sh165_1 z),rfl,trivial⟩ fun a w hS=>?_
 refine wp_block ?_
 refine wp_loop_rounds 2 ?_
 rw [rounds_succ]
 refine PX.G [(.e 64 (.sc (.bool true)))] [] 7 [] [] [.au] [0,1,5,6,7,8,9,10,61,62,63,64] [1,2,3,4,5,6] hS hE trivial fun a w hS=>?_
 refine wp_seq_k fun K7 hK7=>?_
 refine PX.cond_s true hS (by kernel_rfl) (fun h8=>?_) (fun h8=>nomatch h8)
 refine wp_skip ?_
 refine hK7 _ _ ?_
 refine wp_seq_k fun K9 hK9=>?_
 refine wp_block ?_
 refine PX.G [(.e 12 (.J 0))] [] 7 [.q (0=((0:Nat):Int)),.q (([[(.J 0)]]:List (List PX.PV))[0]?=some ([(.J 0)]))] [] [.ix 0 ([(.J 0)]),.au,.au] [0,1,5,6,7,8,9,10,12,61,62,63] [1,2,3,4,5,6] hS hE ⟨rfl,rfl,trivial⟩ fun a w hS=>?_
 refine PX.D0 [] [(6,.box 91 [(.J 0),(.J 3),(.own 8 3 1)]),(8,.row 94 3 true ([[(.J 0),(.imm 1 ([[(.sc (.bool true))]])),(.imm 1 (shR1c80af z))]]))] 9 [.q (PX.Con Try.prog 166 [(.ptr 1 0),(.ptr 2 0),(.J 0),(.J 0),(.J 0)] [(1,.box 116 [(.sc (.slice none 0 0)),(.sc (.slice none 0 0)),(.imm 1 ([[(.imm 7 shR2c9698)]])),(.sc (.slice none 0 0)),(.imm 4 shR0c7572),(.J 3),(.J 0),(.J 3),(.J 0),(.J 1),(.own 4 1 1),(.sc (.slice none 0 0)),(.J 0),(.sc (.bool false)),(.J 0),(.imm 1 (shR79a67e z))]),(2,.box 142 [(.J 0),.any,(.map 3),.any,(.J 0),(.J 3),(.imm 11 shR439b68),.any,.any,.any,.any]),(3,.mp (PX.updV [(0,.I z)] 1 (.I (IntKind.i64.wrap (z+z))))),(4,.row 138 1 false ([[(.ptr 2 0)]]))] 7 7 (.agg [(.J 0),(.imm 1 ([[(.sc (.bool true))]])),(.imm 1 (shR1c80af z))]) [(1,some (.box 116 [(.sc (.slice none 0 0)),(.sc (.slice none 0 0)),(.imm 1 ([[(.imm 7 shR2c9698)]])),(.sc (.slice none 0 0)),(.imm 4 shR0c7572),(.J 3),(.J 0),(.J 3),(.J 0),(.J 1),(.own 4 1 1),(.sc (.slice none 0 0)),(.J 0),(.sc (.bool false)),(.J 0),(.imm 1 (shR79a67e z))])),(2,some (.box 142 [(.J 0),.any,(.map 3),.any,(.J 0),(.J 3),(.imm 11 shR439b68),.any,.any,.any,.any])),(3,some (.mp (PX.updV [(0,.I z)] 1 (.I (IntKind.i64.wrap (z+z)))))),(4,some (.row 138 1 false ([[(.ptr 2 0)]])))]),.b true,.b (lenIs 1 ([[(.J 0),(.imm 1 ([[(.sc (.bool true))]])),(.imm 1 (shR1c80af z))]])),.b (Nat.ble (1) 1000000000)] [] [.au,.au,.au,.au,.au,.au,.au,.cl [1,2,3,4] (.agg [(.J 0),(.imm 1 ([[(.sc (.bool true))]])),(.imm 1 (shR1c80af z))]) [(1,some (.box 116 [(.sc (.slice none 0 0)),(.sc (.slice none 0 0)),(.imm 1 ([[(.imm 7 shR2c9698)]])),(.sc (.slice none 0 0)),(.imm 4 shR0c7572),(.J 3),(.J 0),(.J 3),(.J 0),(.J 1),(.own 4 1 1),(.sc (.slice none 0 0)),(.J 0),(.sc (.bool false)),(.J 0),(.imm 1 (shR79a67e z))])),(2,some (.box 142 [(.J 0),.any,(.map 3),.any,(.J 0),(.J 3),(.imm 11 shR439b68),.any,.any,.any,.any])),(3,some (.mp (PX.updV [(0,.I z)] 1 (.I (IntKind.i64.wrap (z+z)))))),(4,some (.row 138 1 false ([[(.ptr 2 0)]])))] 7,.au,.au,.au,.au] [0,1,5,6,7,8,9,10,61,62,63] [1,2,3,4,5,6,8] hS mixed hE ⟨PX.con_as [(1,1),(2,2),(3,3),(4,4)] [(1,1),(2,2),(3,3),(4,4)] (sh166_1 z) (by kernel_rfl) (by kernel_rfl) (by kernel_rfl) (by kernel_rfl) (by kernel_rfl) (by kernel_rfl),rfl,rfl,rfl,trivial⟩ fun a w hS=>?_
 refine hK9 _ _ ?_
 refine PX.G0 [(.e 63 (.J 1))] [] 9 [] [] [.au,.au] [0,1,5,6,7,8,9,10,61,62,63] [1,2,3,4,5,6,8] hS hE trivial fun a w hS=>?_
 show Code.rounds _ _ _ 1 _ _
 rw [rounds_succ]
 refine PX.G [(.e 64 (.sc (.bool false)))] [] 9 [] [] [.au] [0,1,5,6,7,8,9,10,61,62,63,64] [1,2,3,4,5,6,8] hS hE trivial fun a w hS=>?_
 refine wp_seq_k fun K10 hK10=>?_
 refine PX.cond_s false hS (by kernel_rfl) (fun h11=>nomatch h11) (fun h11=>?_)
 refine wp_exit ?_
 refine hK6 _ _ ?_
 replace hS:=PX.fz 8 [] [(6,.box 91 [(.J 0),(.J 3),(.imm 3 ([[(.J 0),(.imm 1 ([[(.sc (.bool true))]])),(.imm 1 (shR1c80af z))]]))])] [0,1,5,6,7,8,9,10,61,62,63,64] [1,2,3,4,5,6] [.b (PX.lenIs 1 ([[(.J 0),(.imm 1 ([[(.sc (.bool true))]])),(.imm 1 (shR1c80af z))]]))] hS ⟨(rfl),trivial⟩
 refine PX.G [(.e 6 (.own 10 3 1))] [(10,.row 91 3 true ([[(.J 0),(.J 3),(.imm 3 ([[(.J 0),(.imm 1 ([[(.sc (.bool true))]])),(.imm 1 (shR1c80af z))]]))]]))] 11 [.b true,.b (lenIs 1 ([[(.J 0),(.J 3),(.imm 3 ([[(.J 0),(.imm 1 ([[(.sc (.bool true))]])),(.imm 1 (shR1c80af z))]]))]])),.b (Nat.ble (1) 1000000000)] [] [.au,.au,.au,.au,.au] [0,1,5,6,7,8] [1,2,3,4,5,10] hS hE ⟨rfl,rfl,rfl,trivial⟩ fun a w hS=>?_
 refine PX.G [(.e 8 (.sc (.I (-1))))] [] 11 [.q (0=((0:Nat):Int)),.q (shR8cf714[0]?=some ([(.sc (.I (-1))),(.sc (.I (-1))),(.J 0)]))] [] [.au,.au,.au,.ix 0 ([(.sc (.I (-1))),(.sc (.I (-1))),(.J 0)]),.au,.au,.au] [0,1,5,6,7,8] [1,2,3,4,5,10] hS hE ⟨rfl,rfl,trivial⟩ fun a w hS=>?_
 refine PX.G0 [(.e 7 (.sc (.I (-1))))] [] 11 [.q (0=((0:Nat):Int)),.q (shR8cf714[0]?=some ([(.sc (.I (-1))),(.sc (.I (-1))),(.J 0)]))] [] [.au,.au,.au,.ix 0 ([(.sc (.I (-1))),(.sc (.I (-1))),(.J 0)]),.au,.au,.au] [0,1,5,6,7,8] [1,2,3,4,5,10] hS hE ⟨rfl,rfl,trivial⟩ fun a w hS=>?_
 show Code.rounds _ _ _ 1 _ _
 rw [rounds_succ]
 refine wp_seq_k fun K12 hK12=>?_
 refine PX.G [(.e 45 (.sc (.bool false)))] [] 11 [] [] [.au,.au] [0,1,5,6,7,8,45] [1,2,3,4,5,10] hS hE trivial fun a w hS=>?_
 refine PX.cond_s false hS (by kernel_rfl) (fun h13=>nomatch h13) (fun h13=>?_)
 refine wp_exit ?_
 refine hK3 _ _ ?_
 refine PX.G [(.e 4 (.own 10 3 1))] [] 11 [] [] [.au,.au] [4] [1,2,3,4,10] hS hE trivial fun a w hS=>?_
 refine wp_ret ?_
 try simp only [Exit.then,Exit.inBlock,Nat.reduceEqDiff,↓reduceIte]
 replace hS:=PX.fz 10 [(.e 4 (.imm 3 ([[(.J 0),(.J 3),(.imm 3 ([[(.J 0),(.imm 1 ([[(.sc (.bool true))]])),(.imm 1 (shR1c80af z))]]))]])))] [] [4] [1,2,3,4] [.b (PX.lenIs 1 ([[(.J 0),(.J 3),(.imm 3 ([[(.J 0),(.imm 1 ([[(.sc (.bool true))]])),(.imm 1 (shR1c80af z))]]))]]))] hS ⟨(rfl),trivial⟩
 exact PX.ret_s hS hE (by kernel_rfl) (by kernel_rfl) (by kernel_rfl) (.inl rfl)
end Go.Proofs.Ytlkcidmmpeebeaa
