/- Proved: ir.Trace with a stack: push,pop,Check -/
import Derived.Test.YtlkcidmmpeebeaaPTsA
set_option linter.unusedVariables false
set_option linter.unusedSimpArgs false
namespace Go.Proofs.Ytlkcidmmpeebeaa
open Go.RowKit Go.PX
set_option maxRecDepth 100000
theorem opsR_step {steps:Int} {l:List OpD} {k:Nat} {y:OpD} {D:List (Int × Int)} {n e:Int} (hy:l[k]?=some y) (hst:¬ (y.kind=19∧steps≤n)):opsR steps (l.drop (k+1)) (opD y D) (opN y n) (opE y e)=opsR steps (l.drop k) D n e:=by
 have hk:=(List.getElem?_eq_some_iff.1 hy).1
 rw [List.drop_eq_getElem_cons hk,(List.getElem?_eq_some_iff.1 hy).2,opsR,if_neg hst]
theorem opsR_stop {steps:Int} {l:List OpD} {k:Nat} {y:OpD} {D:List (Int × Int)} {n e:Int} (hy:l[k]?=some y) (hst:y.kind=19∧steps≤n):opsR steps (l.drop k) D n e=none:=by
 have hk:=(List.getElem?_eq_some_iff.1 hy).1
 rw [List.drop_eq_getElem_cons hk,(List.getElem?_eq_some_iff.1 hy).2,opsR,if_pos hst]
theorem noB {b:BlockD} (h:∀ o∈b.ops,OpS o):∀ o∈b.ops,o.kind≠21:=fun o ho=>by
 have:=h o ho; unfold OpS at this; omega

theorem con_op (c:CodeD) (steps n e err val:Int) (D:List (Int × Int)) (ln:Nat) (lr:List (List PX.PV)) (b:BlockD) (k:Nat) (o:OpD) (hy:b.ops[k]?=some o) (hop:OpS o) (hst:¬ (o.kind=19∧steps≤n)) (hbl:b.ops.length≤1000000) (hnb:∀ o∈b.ops,o.kind≠21):PX.Con Try.prog 95 [.ptr 1 0,.ptr 2 0,.agg (encB b),.sc (.I (k:Int))] [(1,.box 116 [(.sc (.slice none 0 0)),(.sc (.slice none 0 0)),(.sc (.slice none 0 0)),(.sc (.slice none 0 0)),(.imm 4 ([[(.J c.params),(.imm 10 (c.blocks.map encB)),(.imm 3 (c.contexts.map encR)),(.imm 3 ([]))]])),(.J steps),(.J 0),(.J 0),(.J n),(.J e),(.own 4 1 ln),(.sc (.slice none 0 0)),(.J err),(.sc (.bool false)),(.J val),(.sc (.slice none 0 0))]),(2,.box 142 [(.J 0),.any,(.map 3),.any,.any,.any,.any,.any,.any,.any,.any]),(3,.mp (iv D)),(4,.row 138 1 true lr)] 5 100000 (.sc (.bool true)) [(1,some (.box 116 [(.sc (.slice none 0 0)),(.sc (.slice none 0 0)),(.sc (.slice none 0 0)),(.sc (.slice none 0 0)),(.imm 4 ([[(.J c.params),(.imm 10 (c.blocks.map encB)),(.imm 3 (c.contexts.map encR)),(.imm 3 ([]))]])),(.J steps),(.J 0),(.J 0),(.sc (.I (opN o n))),(.sc (.I (opE o e))),(.own 4 1 ln),(.sc (.slice none 0 0)),(.J err),(.sc (.bool false)),(.J val),(.sc (.slice none 0 0))])),(2,some (.box 142 [(.J 0),.any,(.map 3),.any,.any,.any,.any,.any,.any,.any,.any])),(3,some (.mp (iv (opD o D)))),(4,some (.row 138 1 true lr))]:=by
 rcases hop with h | h | h | h | h
 ·rw [show opN o n=n from by unfold opN; rw [h]; rfl,show opE o e=e from by unfold opE; rw [h]; rfl,show opD o D=updI D o.dst o.n from by unfold opD; rw [h] <;> rfl]
  exact con_op1 c steps n e err val D ln lr b k o hy h hbl hnb
 ·rw [show opN o n=n from by unfold opN; rw [h]; rfl,show opE o e=e from by unfold opE; rw [h]; rfl,show opD o D=updI D o.dst (IntKind.i64.wrap (valD D o.a+valD D o.b)) from by unfold opD; rw [h] <;> rfl]
  exact con_op3 c steps n e err val D ln lr b k o hy h hbl hnb
 ·rw [show opN o n=n from by unfold opN; rw [h]; rfl,show opE o e=e from by unfold opE; rw [h]; rfl,show opD o D=updI D o.dst (IntKind.i64.wrap (valD D o.a-valD D o.b)) from by unfold opD; rw [h] <;> rfl]
  exact con_op4 c steps n e err val D ln lr b k o hy h hbl hnb
 ·rw [show opN o n=IntKind.i64.wrap (n+1) from by unfold opN; rw [h]; rfl,show opE o e=(0:Int) from by unfold opE; rw [h]; rfl,show opD o D=D from by unfold opD; rw [h] <;> rfl]
  exact con_op19y c steps n e err val D ln lr b k o hy h hbl hnb (decide_eq_false fun q=>hst ⟨h,q⟩)
 ·rw [show opN o n=n from by unfold opN; rw [h]; rfl,show opE o e=e from by unfold opE; rw [h]; rfl,show opD o D=D from by unfold opD; rw [h] <;> rfl]
  exact con_op20 c steps n e err val D ln lr b k o hy h hbl hnb

set_option maxHeartbeats 1000000 in
theorem con_f94 (c:CodeD) (steps n e val:Int) (as_:List Int) (lr:List (List PX.PV)) (hlt:lr.length<20):PX.ConX Try.prog 94 [(.ptr 1 0),(.J 0),(.imm 1 (as_.map encI))] [(1,.box 116 [(.sc (.slice none 0 0)),(.sc (.slice none 0 0)),(.sc (.slice none 0 0)),(.sc (.slice none 0 0)),(.imm 4 ([[(.J c.params),(.imm 10 (c.blocks.map encB)),(.imm 3 (c.contexts.map encR)),(.imm 3 ([]))]])),(.J steps),(.J 0),(.J 0),(.J n),(.J e),(.own 80 1 lr.length),(.sc (.slice none 0 0)),(.J 0),(.sc (.bool false)),(.J val),(.sc (.slice none 0 0))]),(80,.row 138 1 true lr)] 81 100000 (.sc (.bool true)) (fun pv:Value=>[(1,some (.box 116 [(.sc (.slice none 0 0)),(.sc (.slice none 0 0)),(.sc (.slice none 0 0)),(.sc (.slice none 0 0)),(.imm 4 ([[(.J c.params),(.imm 10 (c.blocks.map encB)),(.imm 3 (c.contexts.map encR)),(.imm 3 ([]))]])),(.J steps),(.J 0),(.J 0),(.J n),(.J e),(.own 81 1 (lr.length+1)),(.sc (.slice none 0 0)),(.J 0),(.sc (.bool false)),(.J val),(.sc (.slice none 0 0))])),(80,none),(81,some (.row 138 1 true (lr++[[.sc pv]]))),(82,some (.box 142 [(.J 0),.any,.any,.any,.any,.any,.any,.any,.any,.any,.any])),(83,some (.ty pv (.ptr 82 0)))]) (fun _=>True):=by
 refine PX.con_introX ([(1,some (.box 116 [(.sc (.slice none 0 0)),(.sc (.slice none 0 0)),(.sc (.slice none 0 0)),(.sc (.slice none 0 0)),(.imm 4 ([[(.J c.params),(.imm 10 (c.blocks.map encB)),(.imm 3 (c.contexts.map encR)),(.imm 3 ([]))]])),(.J steps),(.J 0),(.J 0),(.J n),(.J e),(.own 81 1 (lr.length+1)),(.sc (.slice none 0 0)),(.J 0),(.sc (.bool false)),(.J val),(.sc (.slice none 0 0))])),(80,none),(81,some (.row 138 1 true (lr++[[.sc undef]]))),(82,some (.box 142 [(.J 0),.any,.any,.any,.any,.any,.any,.any,.any,.any,.any])),(83,some (.ty undef (.ptr 82 0)))]) [(.ptr 1 0),(.J 0),(.imm 1 (as_.map encI))] 61 Try.func94 rfl rfl (by kernel_rfl) (by kernel_rfl) ?_
 intro E a hE hS
 generalize E.w0=w at hS ⊢
 have mix:=mixed
 refine PX.G [(.e 6 (.sc (.bool false)))] [] 81 [] [] [.au] [0,1,2,6] [1,80] hS hE trivial fun a w hS=>?_
 refine wp_seq_k fun K1 hK1=>?_
 refine PX.G [(.e 15 (.sc (.bool (decide (20≤(lr.length:Int))))))] [] 81 [] [] [.au,.au,.au,.au,.au,.au] [0,1,2,6,15] [1,80] hS hE trivial fun a w hS=>?_
 refine PX.cond_s (decide (20≤(lr.length:Int))) hS (by kernel_rfl) (fun h2=>?_) (fun h2=>?_)
 ·skip
  exact absurd h2 (by simp; omega)
 ·skip
  refine wp_skip ?_
  refine hK1 _ _ ?_
  refine PX.G [(.e 7 (.ptr 81 0))] [(81,.box 142 [(.J 0),(.imm 1 (as_.map encI)),(.sc (.map none)),(.sc (.slice none 0 0)),(.J 0),(.sc (.I (-1))),(.sc (.slice none 0 0)),(.J 0),(.sc (.slice none 0 0)),(.J 0),(.sc (.slice none 0 0))])] 82 [] [] [.au,.au,.au,.au,.au] [0,1,6,7] [1,80,81] hS hE trivial fun a w hS=>?_
  refine wp_seq_k fun K3 hK3=>?_
  refine PX.G [(.e 32 (.imm 3 ([]))),(.e 33 (.J 0)),(.e 34 (.J 0))] [] 82 [.q (0=((0:Nat):Int)),.q (([[(.J c.params),(.imm 10 (c.blocks.map encB)),(.imm 3 (c.contexts.map encR)),(.imm 3 ([]))]]:List (List PX.PV))[0]?=some ([(.J c.params),(.imm 10 (c.blocks.map encB)),(.imm 3 (c.contexts.map encR)),(.imm 3 ([]))])),.q ((.sc (.I ((([]:List (List PX.PV)).length:Nat):Int)):PX.PV)=(.J 0))] [] [.au,.au,.au,.au,.au,.au,.ix 0 ([(.J c.params),(.imm 10 (c.blocks.map encB)),(.imm 3 (c.contexts.map encR)),(.imm 3 ([]))]),.au,.au,.nm (.J 0),.au] [0,6,7,32,33,34] [1,80,81] hS hE ⟨rfl,rfl,rfl,trivial⟩ fun a w hS=>?_
  refine wp_block ?_
  refine wp_loop_rounds 1 ?_
  rw [rounds_succ]
  refine PX.G [(.e 35 (.sc (.bool false)))] [] 82 [] [] [.au] [0,6,7,32,33,34,35] [1,80,81] hS hE trivial fun a w hS=>?_
  refine wp_seq_k fun K4 hK4=>?_
  refine PX.cond_s false hS (by kernel_rfl) (fun h5=>nomatch h5) (fun h5=>?_)
  refine wp_exit ?_
  refine hK3 _ _ ?_
  obtain ⟨pv,hS⟩:=PX.Sat.ptrN (t:=7) hS rfl (hE.le (by decide))
  replace hS:=PX.sl [0,6,7,32,33,34,35] hS
  refine PX.G [] [(1,.box 116 [(.sc (.slice none 0 0)),(.sc (.slice none 0 0)),(.sc (.slice none 0 0)),(.sc (.slice none 0 0)),(.imm 4 ([[(.J c.params),(.imm 10 (c.blocks.map encB)),(.imm 3 (c.contexts.map encR)),(.imm 3 ([]))]])),(.J steps),(.J 0),(.J 0),(.J n),(.J e),(.own 84 1 ((lr:List (List PX.PV)).length+1)),(.sc (.slice none 0 0)),(.J 0),(.sc (.bool false)),(.J val),(.sc (.slice none 0 0))]),(84,.row 138 1 true (lr++[[(.sc (pv))]]))] 85 [.b (lenIs lr.length lr),.b (lenIs 1 ([[(.sc (pv))]])),.b (Nat.ble ((lr:List (List PX.PV)).length+1) 1000000000)] [] [.au,.au,.au,.au,.au,.au,.au,.au,.au,.au,.au] [6] [1,81,82,84] hS hE ⟨by simp [PX.lenIs],rfl,by simp; omega,trivial⟩ fun a w hS=>?_
  refine PX.G [(.e 6 (.sc (.bool true)))] [] 85 [] [] [.au] [6] [1,81,82,84] hS hE trivial fun a w hS=>?_
  refine wp_ret ?_
  replace hS:=PX.recell (id:=81) (j:=1) .any hS rfl rfl rfl (PX.any_of rfl)
  replace hS:=PX.recell (id:=81) (j:=2) .any hS rfl rfl rfl (PX.any_of rfl)
  replace hS:=PX.recell (id:=81) (j:=3) .any hS rfl rfl rfl (PX.any_of rfl)
  replace hS:=PX.recell (id:=81) (j:=4) .any hS rfl rfl rfl (PX.any_of rfl)
  replace hS:=PX.recell (id:=81) (j:=5) .any hS rfl rfl rfl (PX.any_of rfl)
  replace hS:=PX.recell (id:=81) (j:=6) .any hS rfl rfl rfl (PX.any_of rfl)
  replace hS:=PX.recell (id:=81) (j:=7) .any hS rfl rfl rfl (PX.any_of rfl)
  replace hS:=PX.recell (id:=81) (j:=8) .any hS rfl rfl rfl (PX.any_of rfl)
  replace hS:=PX.recell (id:=81) (j:=9) .any hS rfl rfl rfl (PX.any_of rfl)
  replace hS:=PX.recell (id:=81) (j:=10) .any hS rfl rfl rfl (PX.any_of rfl)
  replace hS:=(PX.cn [(81,84),(82,81),(83,82)] [(.e 6 (.sc (.bool true)))] [(1,.box 116 [(.sc (.slice none 0 0)),(.sc (.slice none 0 0)),(.sc (.slice none 0 0)),(.sc (.slice none 0 0)),(.imm 4 ([[(.J c.params),(.imm 10 (c.blocks.map encB)),(.imm 3 (c.contexts.map encR)),(.imm 3 ([]))]])),(.J steps),(.J 0),(.J 0),(.J n),(.J e),(.own 81 1 (lr.length+1)),(.sc (.slice none 0 0)),(.J 0),(.sc (.bool false)),(.J val),(.sc (.slice none 0 0))]),(81,.row 138 1 true (lr++[[.sc pv]])),(82,.box 142 [(.J 0),.any,.any,.any,.any,.any,.any,.any,.any,.any,.any]),(83,.ty pv (.ptr 82 0))] 84 hS hE)
  exact PX.ret_sX pv trivial (by rfl) hS hE (by kernel_rfl) (by kernel_rfl) (by kernel_rfl) (.inl rfl)

set_option maxHeartbeats 1000000 in
theorem con_f94n (c:CodeD) (steps n e val:Int) (as_:List Int) (lr:List (List PX.PV)) (hlt:20≤lr.length):PX.Con Try.prog 94 [(.ptr 1 0),(.J 0),(.imm 1 (as_.map encI))] [(1,.box 116 [(.sc (.slice none 0 0)),(.sc (.slice none 0 0)),(.sc (.slice none 0 0)),(.sc (.slice none 0 0)),(.imm 4 ([[(.J c.params),(.imm 10 (c.blocks.map encB)),(.imm 3 (c.contexts.map encR)),(.imm 3 ([]))]])),(.J steps),(.J 0),(.J 0),(.J n),(.J e),(.own 4 1 lr.length),(.sc (.slice none 0 0)),(.J 0),(.sc (.bool false)),(.J val),(.sc (.slice none 0 0))]),(4,.row 138 1 true lr)] 5 100000 (.sc (.bool false)) [(1,some (.box 116 [(.sc (.slice none 0 0)),(.sc (.slice none 0 0)),(.sc (.slice none 0 0)),(.sc (.slice none 0 0)),(.imm 4 ([[(.J c.params),(.imm 10 (c.blocks.map encB)),(.imm 3 (c.contexts.map encR)),(.imm 3 ([]))]])),(.J steps),(.J 0),(.J 0),(.J n),(.J e),(.own 4 1 lr.length),(.sc (.slice none 0 0)),(.J 5),(.sc (.bool false)),(.J val),(.sc (.slice none 0 0))])),(4,some (.row 138 1 true lr))]:=by
 refine PX.con_intro [(.ptr 1 0),(.J 0),(.imm 1 (as_.map encI))] 61 Try.func94 rfl rfl (by kernel_rfl) (by kernel_rfl) ?_
 intro E a hE hS
 generalize E.w0=w at hS ⊢
 have mix:=mixed
 refine PX.G [] [] 5 [] [] [.au] [0,1,2] [1,4] hS hE trivial fun a w hS=>?_
 refine wp_seq_k fun K1 hK1=>?_
 refine PX.G [(.e 15 (.sc (.bool (decide (20≤(lr.length:Int))))))] [] 5 [] [] [.au,.au,.au,.au,.au,.au] [0,1,2,15] [1,4] hS hE trivial fun a w hS=>?_
 refine PX.cond_s (decide (20≤(lr.length:Int))) hS (by kernel_rfl) (fun h2=>?_) (fun h2=>?_)
 ·skip
  refine PX.G [] [(1,.box 116 [(.sc (.slice none 0 0)),(.sc (.slice none 0 0)),(.sc (.slice none 0 0)),(.sc (.slice none 0 0)),(.imm 4 ([[(.J c.params),(.imm 10 (c.blocks.map encB)),(.imm 3 (c.contexts.map encR)),(.imm 3 ([]))]])),(.J steps),(.J 0),(.J 0),(.J n),(.J e),(.own 4 1 lr.length),(.sc (.slice none 0 0)),(.J 5),(.sc (.bool false)),(.J val),(.sc (.slice none 0 0))])] 5 [] [] [.au,.au,.au,.au,.au] [] [1,4] hS hE trivial fun a w hS=>?_
  refine PX.G [(.e 6 (.sc (.bool false)))] [] 5 [] [] [.au] [6] [1,4] hS hE trivial fun a w hS=>?_
  refine wp_ret ?_
  exact PX.rt hS hE (.inl rfl)
 ·skip
  exact absurd h2 (by simp; omega)

set_option maxHeartbeats 400000 in
theorem con_f96e (p q:Int):PX.Con Try.prog 96 [(.ptr 2 0),(.imm 1 ([]))] [(2,.box 142 [(.J 0),.any,.any,.any,.any,.any,.any,(.J p),(.imm 1 ([])),(.J q),(.imm 1 ([]))])] 3 100000 (.sc (.slice none 0 0)) [(2,some (.box 142 [(.J 0),.any,.any,.any,.any,.any,.any,(.J p),(.imm 1 ([])),(.J q),(.imm 1 ([]))]))]:=by
 refine PX.con_intro [(.ptr 2 0),(.imm 1 ([]))] 25 Try.func96 rfl rfl (by kernel_rfl) (by kernel_rfl) ?_
 intro E a hE hS
 generalize E.w0=w at hS ⊢
 have mix:=mixed
 refine PX.G [] [] 3 [] [] [.au] [0,1] [2] hS hE trivial fun a w hS=>?_
 refine PX.G [(.e 5 (.sc (.slice none 0 0)))] [] 3 [] [] [.au] [0,1,5] [2] hS hE trivial fun a w hS=>?_
 refine wp_seq_k fun K1 hK1=>?_
 refine PX.G [(.e 8 (.imm 1 ([]))),(.e 9 (.J 0)),(.e 10 (.J 0))] [] 3 [.q ((.sc (.I ((([]:List (List PX.PV)).length:Nat):Int)):PX.PV)=(.J 0))] [] [.au,.nm (.J 0),.au] [0,5,8,9,10] [2] hS hE ⟨rfl,trivial⟩ fun a w hS=>?_
 refine wp_block ?_
 refine wp_loop_rounds 1 ?_
 rw [rounds_succ]
 refine PX.G [(.e 11 (.sc (.bool false)))] [] 3 [] [] [.au] [0,5,8,9,10,11] [2] hS hE trivial fun a w hS=>?_
 refine wp_seq_k fun K2 hK2=>?_
 refine PX.cond_s false hS (by kernel_rfl) (fun h3=>nomatch h3) (fun h3=>?_)
 refine wp_exit ?_
 refine hK1 _ _ ?_
 refine PX.G [(.e 4 (.sc (.slice none 0 0)))] [] 3 [] [] [.au,.au] [4] [2] hS hE trivial fun a w hS=>?_
 refine wp_ret ?_
 exact PX.rt hS hE (.inl rfl)

set_option maxHeartbeats 1000000 in
theorem con_f97a (c:CodeD) (steps n e val v:Int) (lr:List (List PX.PV)) (pv:Value) (hlr:lr=[]) (hlt:lr.length<30):PX.Con Try.prog 97 [(.ptr 1 0),(.J v),(.sc (.bool false))] [(1,.box 116 [(.sc (.slice none 0 0)),(.sc (.slice none 0 0)),(.sc (.slice none 0 0)),(.sc (.slice none 0 0)),(.imm 4 ([[(.J c.params),(.imm 10 (c.blocks.map encB)),(.imm 3 (c.contexts.map encR)),(.imm 3 ([]))]])),(.J steps),(.J 0),(.J 0),(.J n),(.J e),(.own 4 1 (lr.length+1)),(.sc (.slice none 0 0)),(.J 0),(.sc (.bool false)),(.J val),(.sc (.slice none 0 0))]),(4,.row 138 1 true (lr++[[PX.PV.sc pv]]))] 5 100000 (.tup [.sc (.I (-1)),.sc (.slice none 0 0)]) [(1,some (.box 116 [(.sc (.slice none 0 0)),(.sc (.slice none 0 0)),(.sc (.slice none 0 0)),(.sc (.slice none 0 0)),(.imm 4 ([[(.J c.params),(.imm 10 (c.blocks.map encB)),(.imm 3 (c.contexts.map encR)),(.imm 3 ([]))]])),(.J steps),(.J 0),(.J 0),(.J n),(.J e),.any,(.sc (.slice none 0 0)),(.J 0),(.sc (.bool false)),(.J v),(.sc (.slice none 0 0))])),(4,none)]:=by
 refine PX.con_intro [(.ptr 1 0),(.J v),(.sc (.bool false))] 77 Try.func97 rfl rfl (by kernel_rfl) (by kernel_rfl) ?_
 intro E a hE hS
 generalize E.w0=w at hS ⊢
 have mix:=mixed
 refine PX.G [] [] 5 [] [] [.au,.au] [0,1,2] [1,4] hS hE trivial fun a w hS=>?_
 refine wp_block ?_
 refine wp_loop_rounds 1 ?_
 rw [rounds_succ]
 refine wp_block ?_
 replace hS:=PX.fz 4 [] [(1,.box 116 [(.sc (.slice none 0 0)),(.sc (.slice none 0 0)),(.sc (.slice none 0 0)),(.sc (.slice none 0 0)),(.imm 4 ([[(.J c.params),(.imm 10 (c.blocks.map encB)),(.imm 3 (c.contexts.map encR)),(.imm 3 ([]))]])),(.J steps),(.J 0),(.J 0),(.J n),(.J e),(.imm 1 (lr++[[PX.PV.sc pv]])),(.sc (.slice none 0 0)),(.J 0),(.sc (.bool false)),(.J val),(.sc (.slice none 0 0))])] [0,1,2] [1] [.b (PX.lenIs (lr.length+1) (lr++[[PX.PV.sc pv]]))] hS ⟨(by simp [PX.lenIs]),trivial⟩
 refine PX.D [] [(1,.box 116 [(.sc (.slice none 0 0)),(.sc (.slice none 0 0)),(.sc (.slice none 0 0)),(.sc (.slice none 0 0)),(.imm 4 ([[(.J c.params),(.imm 10 (c.blocks.map encB)),(.imm 3 (c.contexts.map encR)),(.imm 3 ([]))]])),(.J steps),(.J 0),(.J 0),(.J n),(.J e),(.own 6 1 (0+lr.length)),(.sc (.slice none 0 0)),(.J 0),(.sc (.bool false)),(.J val),(.sc (.slice none 0 0))]),(6,.row 138 1 true lr)] 7 [.q ((.sc (.I (((lr++[[PX.PV.sc pv]]).length:Nat):Int)):PX.PV)=(.sc (.I (((lr.length+1):Nat):Int)))),.q ((.sc (.I (IntKind.i64.wrap ((((lr.length+1):Nat):Int)-1))):PX.PV)=(.sc (.I (lr.length:Int)))),.q ((0:Nat)≤lr.length),.q (lr.length≤(lr++[[PX.PV.sc pv]]).length),.q (((lr++[[PX.PV.sc pv]]).take lr.length).drop 0=lr),.q ((0:Nat)=0),.q ((lr.length:Int)=(lr.length:Int)),.b (lenIs 0 ([])),.b true,.b (Nat.ble (0+lr.length) 1000000000)] [] [.au,.au,.au,.au,.au,.au,.au,.au,.au,.au,.nm (.sc (.I (((lr.length+1):Nat):Int))),.nm (.sc (.I (lr.length:Int))),.sl 0 lr.length lr,.au,.au,.au,.au] [0,1,2] [1,6] hS mixed hE ⟨PX.nm_len (by simp),PX.nm_int (by simp; rw [IntWalk.i64_in _ (by omega)]; try omega),Nat.zero_le _,by simp,by rw [List.drop_zero]; exact List.take_left' rfl,rfl,rfl,rfl,rfl,by simp; omega,trivial⟩ fun a w hS=>?_
 refine wp_seq_k fun K1 hK1=>?_
 refine PX.G [(.e 31 (.sc (.bool (((0+lr.length:Nat):Int)==0))))] [] 7 [] [] [.au,.au,.au,.au,.au,.au] [0,1,2,31] [1,6] hS hE trivial fun a w hS=>?_
 refine PX.cond_s (((0+lr.length:Nat):Int)==0) hS (by kernel_rfl) (fun h2=>?_) (fun h2=>?_)
 ·skip
  refine PX.G [] [(1,.box 116 [(.sc (.slice none 0 0)),(.sc (.slice none 0 0)),(.sc (.slice none 0 0)),(.sc (.slice none 0 0)),(.imm 4 ([[(.J c.params),(.imm 10 (c.blocks.map encB)),(.imm 3 (c.contexts.map encR)),(.imm 3 ([]))]])),(.J steps),(.J 0),(.J 0),(.J n),(.J e),(.own 6 1 (0+lr.length)),(.sc (.slice none 0 0)),(.J 0),(.sc (.bool false)),(.J v),(.sc (.slice none 0 0))])] 7 [] [] [.au,.au,.au,.au,.au,.au,.au,.au,.au,.au,.au,.au] [0,1,2] [1,6] hS hE trivial fun a w hS=>?_
  refine PX.G [(.e 6 (.sc (.I (-1)))),(.e 7 (.sc (.slice none 0 0)))] [] 7 [] [] [.au,.au] [0,1,2,6,7] [1,6] hS hE trivial fun a w hS=>?_
  refine wp_ret ?_
  replace hS:=PX.recell (id:=1) (j:=10) .any hS rfl rfl rfl (PX.any_of rfl)
  exact PX.rt hS hE (.inl rfl)
 ·skip
  exact absurd h2 (by simp [hlr])

set_option maxHeartbeats 1000000 in
theorem con_f97b (c:CodeD) (steps n e val v:Int) (lr0:List (List PX.PV)) (pv xv:Value) (p q:Int) (hp:0≤p) (hlt:lr0.length<30):PX.Con Try.prog 97 [(.ptr 1 0),(.J v),(.sc (.bool false))] [(1,.box 116 [(.sc (.slice none 0 0)),(.sc (.slice none 0 0)),(.sc (.slice none 0 0)),(.sc (.slice none 0 0)),(.imm 4 ([[(.J c.params),(.imm 10 (c.blocks.map encB)),(.imm 3 (c.contexts.map encR)),(.imm 3 ([]))]])),(.J steps),(.J 0),(.J 0),(.J n),(.J e),(.own 4 1 ((lr0++[[PX.PV.sc xv]]).length+1)),(.sc (.slice none 0 0)),(.J 0),(.sc (.bool false)),(.J val),(.sc (.slice none 0 0))]),(2,.box 142 [(.J 0),.any,.any,.any,.any,.any,.any,(.J p),(.imm 1 ([])),(.J q),(.imm 1 ([]))]),(3,.ty xv (.ptr 2 0)),(4,.row 138 1 true ((lr0++[[PX.PV.sc xv]])++[[PX.PV.sc pv]]))] 5 100000 (.tup [.sc (.I p),.own 6 1 1]) [(1,some (.box 116 [(.sc (.slice none 0 0)),(.sc (.slice none 0 0)),(.sc (.slice none 0 0)),(.sc (.slice none 0 0)),(.imm 4 ([[(.J c.params),(.imm 10 (c.blocks.map encB)),(.imm 3 (c.contexts.map encR)),(.imm 3 ([]))]])),(.J steps),(.J 0),(.J 0),(.J n),(.J e),(.own 5 1 ((lr0++[[PX.PV.sc xv]]).length)),(.sc (.slice none 0 0)),(.J 0),(.sc (.bool false)),(.J val),(.sc (.slice none 0 0))])),(2,some (.box 142 [(.J 0),.any,.any,.any,.any,.any,.any,(.J p),(.imm 1 ([])),(.J q),(.imm 1 ([]))])),(3,some (.ty xv (.ptr 2 0))),(4,none),(5,some (.row 138 1 true (lr0++[[PX.PV.sc xv]]))),(6,some (.row 3 1 true ([[(.J v)]])))]:=by
 refine PX.con_intro [(.ptr 1 0),(.J v),(.sc (.bool false))] 77 Try.func97 rfl rfl (by kernel_rfl) (by kernel_rfl) ?_
 intro E a hE hS
 generalize E.w0=w at hS ⊢
 have mix:=mixed
 refine PX.G [] [] 5 [] [] [.au,.au] [0,1,2] [1,2,3,4] hS hE trivial fun a w hS=>?_
 refine wp_block ?_
 refine wp_loop_rounds 1 ?_
 rw [rounds_succ]
 refine wp_block ?_
 replace hS:=PX.fz 4 [] [(1,.box 116 [(.sc (.slice none 0 0)),(.sc (.slice none 0 0)),(.sc (.slice none 0 0)),(.sc (.slice none 0 0)),(.imm 4 ([[(.J c.params),(.imm 10 (c.blocks.map encB)),(.imm 3 (c.contexts.map encR)),(.imm 3 ([]))]])),(.J steps),(.J 0),(.J 0),(.J n),(.J e),(.imm 1 ((lr0++[[PX.PV.sc xv]])++[[PX.PV.sc pv]])),(.sc (.slice none 0 0)),(.J 0),(.sc (.bool false)),(.J val),(.sc (.slice none 0 0))])] [0,1,2] [1,2,3] [.b (PX.lenIs ((lr0++[[PX.PV.sc xv]]).length+1) ((lr0++[[PX.PV.sc xv]])++[[PX.PV.sc pv]]))] hS ⟨(by simp [PX.lenIs]),trivial⟩
 refine PX.D [] [(1,.box 116 [(.sc (.slice none 0 0)),(.sc (.slice none 0 0)),(.sc (.slice none 0 0)),(.sc (.slice none 0 0)),(.imm 4 ([[(.J c.params),(.imm 10 (c.blocks.map encB)),(.imm 3 (c.contexts.map encR)),(.imm 3 ([]))]])),(.J steps),(.J 0),(.J 0),(.J n),(.J e),(.own 6 1 (0+(lr0++[[PX.PV.sc xv]]).length)),(.sc (.slice none 0 0)),(.J 0),(.sc (.bool false)),(.J val),(.sc (.slice none 0 0))]),(6,.row 138 1 true (lr0++[[PX.PV.sc xv]]))] 7 [.q ((.sc (.I ((((lr0++[[PX.PV.sc xv]])++[[PX.PV.sc pv]]).length:Nat):Int)):PX.PV)=(.sc (.I ((((lr0++[[PX.PV.sc xv]]).length+1):Nat):Int)))),.q ((.sc (.I (IntKind.i64.wrap (((((lr0++[[PX.PV.sc xv]]).length+1):Nat):Int)-1))):PX.PV)=(.sc (.I (((lr0++[[PX.PV.sc xv]]).length:Nat):Int)))),.q ((0:Nat)≤(lr0++[[PX.PV.sc xv]]).length),.q ((lr0++[[PX.PV.sc xv]]).length≤((lr0++[[PX.PV.sc xv]])++[[PX.PV.sc pv]]).length),.q ((((lr0++[[PX.PV.sc xv]])++[[PX.PV.sc pv]]).take ((lr0++[[PX.PV.sc xv]]).length)).drop 0=(lr0++[[PX.PV.sc xv]])),.q ((0:Nat)=0),.q ((((lr0++[[PX.PV.sc xv]]).length:Nat):Int)=(((lr0++[[PX.PV.sc xv]]).length:Nat):Int)),.b (lenIs 0 ([])),.b true,.b (Nat.ble (0+(lr0++[[PX.PV.sc xv]]).length) 1000000000)] [] [.au,.au,.au,.au,.au,.au,.au,.au,.au,.au,.nm (.sc (.I ((((lr0++[[PX.PV.sc xv]]).length+1):Nat):Int))),.nm (.sc (.I (((lr0++[[PX.PV.sc xv]]).length:Nat):Int))),.sl 0 ((lr0++[[PX.PV.sc xv]]).length) (lr0++[[PX.PV.sc xv]]),.au,.au,.au,.au] [0,1,2] [1,2,3,6] hS mixed hE ⟨PX.nm_len (by simp),PX.nm_int (by simp; rw [IntWalk.i64_in _ (by omega)]; try omega),Nat.zero_le _,by simp,by rw [List.drop_zero]; exact List.take_left' rfl,rfl,rfl,rfl,rfl,by simp; omega,trivial⟩ fun a w hS=>?_
 refine wp_seq_k fun K1 hK1=>?_
 refine PX.G [(.e 31 (.sc (.bool (((0+(lr0++[[PX.PV.sc xv]]).length:Nat):Int)==0))))] [] 7 [] [] [.au,.au,.au,.au,.au,.au] [0,1,2,31] [1,2,3,6] hS hE trivial fun a w hS=>?_
 refine PX.cond_s (((0+(lr0++[[PX.PV.sc xv]]).length:Nat):Int)==0) hS (by kernel_rfl) (fun h2=>?_) (fun h2=>?_)
 ·skip
  exact absurd h2 (by simp; omega)
 ·skip
  refine wp_skip ?_
  refine hK1 _ _ ?_
  refine PX.D [(.e 8 (.ptr 2 0))] [] 7 [.q ((.sc (.I (IntKind.i64.wrap (((0+(lr0++[[PX.PV.sc xv]]).length:Nat):Int)-1))):PX.PV)=(.sc (.I (lr0.length:Int)))),.q ((lr0.length:Int)=(lr0.length:Int)),.q (lr0.length<0+(lr0++[[PX.PV.sc xv]]).length),.q (((lr0++[[PX.PV.sc xv]]):List (List PX.PV))[lr0.length]?=some ([.sc xv])),.q ((xv:Value)=xv)] [] [.au,.au,.au,.au,.au,.au,.au,.au,.au,.nm (.sc (.I (lr0.length:Int))),.ix lr0.length [],.rt ([.sc xv]) [(0,3)],.au] [0,1,2,8] [1,2,3,6] hS mixed hE ⟨PX.nm_int (by simp; rw [IntWalk.i64_in _ (by omega)]; try omega),rfl,by simp,by simp,rfl,trivial⟩ fun a w hS=>?_
  refine PX.G [(.e 9 (.ptr 7 0))] [(7,.box 57 [(.J p),(.imm 1 ([]))])] 8 [] [] [.au,.au,.au,.au,.au,.au,.au] [0,1,2,8,9] [1,2,3,6,7] hS hE trivial fun a w hS=>?_
  refine wp_seq_k fun K3 hK3=>?_
  refine PX.G [(.e 59 (.sc (.bool false)))] [] 8 [] [] [.au] [0,1,2,8,9,59] [1,2,3,6,7] hS hE trivial fun a w hS=>?_
  refine PX.cond_s false hS (by kernel_rfl) (fun h4=>nomatch h4) (fun h4=>?_)
  refine wp_skip ?_
  refine hK3 _ _ ?_
  refine PX.G [(.e 67 (.sc (.bool (decide (0≤p)))))] [] 8 [] [] [.au,.au,.au] [0,1,2,8,9,67] [1,2,3,6,7] hS hE trivial fun a w hS=>?_
  refine PX.cond_s (decide (0≤p)) hS (by kernel_rfl) (fun h5=>?_) (fun h5=>?_)
  ·skip
   refine PX.D [(.e 6 (.J p)),(.e 7 (.own 9 1 1))] [(9,.row 3 1 true ([[(.J v)]]))] 10 [.q (PX.Con Try.prog 96 [(.ptr 2 0),(.imm 1 ([]))] [(2,.box 142 [(.J 0),.any,.any,.any,.any,.any,.any,(.J p),(.imm 1 ([])),(.J q),(.imm 1 ([]))])] 9 9 (.sc (.slice none 0 0)) [(2,some (.box 142 [(.J 0),.any,.any,.any,.any,.any,.any,(.J p),(.imm 1 ([])),(.J q),(.imm 1 ([]))]))]),.b (lenIs 1 ([[(.J v)]])),.b true,.b (Nat.ble (1) 1000000000)] [] [.au,.au,.au,.au,.au,.au,.au,.cl [2] (.sc (.slice none 0 0)) [(2,some (.box 142 [(.J 0),.any,.any,.any,.any,.any,.any,(.J p),(.imm 1 ([])),(.J q),(.imm 1 ([]))]))] 9,.au,.au,.au] [0,1,2,6,7] [1,2,3,6,9] hS mixed hE ⟨PX.con_as [(2,2)] [(2,2)] (con_f96e p q) (by kernel_rfl) (by kernel_rfl) (by kernel_rfl) (by kernel_rfl) (by kernel_rfl) (by kernel_rfl),rfl,rfl,rfl,trivial⟩ fun a w hS=>?_
   refine wp_ret ?_
   replace hS:=PX.recell (id:=1) (j:=10) (.own 6 1 ((lr0++[[PX.PV.sc xv]]).length)) hS rfl rfl rfl (fun _ _ _ _ h=>(show PX.PV.own 6 1 (0+(lr0++[[PX.PV.sc xv]]).length)=.own 6 1 (lr0++[[PX.PV.sc xv]]).length from by congr 1; simp) ▸ h)
   replace hS:=PX.sl [6,7] hS
   replace hS:=(PX.cn [(5,6),(6,9)] [(.e 6 (.J p)),(.e 7 (.own 6 1 1))] [(1,.box 116 [(.sc (.slice none 0 0)),(.sc (.slice none 0 0)),(.sc (.slice none 0 0)),(.sc (.slice none 0 0)),(.imm 4 ([[(.J c.params),(.imm 10 (c.blocks.map encB)),(.imm 3 (c.contexts.map encR)),(.imm 3 ([]))]])),(.J steps),(.J 0),(.J 0),(.J n),(.J e),(.own 5 1 ((lr0++[[PX.PV.sc xv]]).length)),(.sc (.slice none 0 0)),(.J 0),(.sc (.bool false)),(.J val),(.sc (.slice none 0 0))]),(2,.box 142 [(.J 0),.any,.any,.any,.any,.any,.any,(.J p),(.imm 1 ([])),(.J q),(.imm 1 ([]))]),(3,.ty xv (.ptr 2 0)),(5,.row 138 1 true (lr0++[[PX.PV.sc xv]])),(6,.row 3 1 true ([[(.J v)]]))] 7 hS hE)
   exact PX.rt hS hE (.inl rfl)
  ·skip
   exact absurd h5 (by simp; omega)

set_option maxHeartbeats 1000000 in
theorem con_f60 (c:CodeD) (hi:CodeI c) (hs:Simple c) (hfit:Fit c):PX.Con Try.prog 60 [(.agg [(.imm 4 ([[(.J c.params),(.imm 10 (c.blocks.map encB)),(.imm 3 (c.contexts.map encR)),(.imm 3 ([]))]]))])] [] 1 100000 (.J 0) []:=by
 refine PX.con_intro [(.agg [(.imm 4 ([[(.J c.params),(.imm 10 (c.blocks.map encB)),(.imm 3 (c.contexts.map encR)),(.imm 3 ([]))]]))])] 103 Try.func60 rfl rfl (by kernel_rfl) (by kernel_rfl) ?_
 intro E a hE hS
 generalize E.w0=w at hS ⊢
 have mix:=mixed
 refine PX.G [(.e 1 (.ptr 1 0))] [(1,.box 51 [(.imm 4 ([[(.J c.params),(.imm 10 (c.blocks.map encB)),(.imm 3 (c.contexts.map encR)),(.imm 3 ([]))]]))])] 2 [] [] [.au,.au] [1] [1] hS hE trivial fun a w hS=>?_
 refine wp_seq_k fun K1 hK1=>?_
 have fb:=hfit.blocks; have fc:=hfit.ctx
 refine PX.G [(.e 16 (.sc (.bool false)))] [] 2 [.q ((.sc (.I ((([[(.J c.params),(.imm 10 (c.blocks.map encB)),(.imm 3 (c.contexts.map encR)),(.imm 3 ([]))]]:List (List PX.PV)).length:Nat):Int)):PX.PV)=(.J 1))] [] [.au,.au,.nm (.J 1),.au] [1,16] [1] hS hE ⟨rfl,trivial⟩ fun a w hS=>?_
 refine PX.cond_s false hS (by kernel_rfl) (fun h2=>nomatch h2) (fun h2=>?_)
 refine wp_skip ?_
 refine hK1 _ _ ?_
 refine wp_seq_k fun K3 hK3=>?_
 refine PX.G [(.e 18 (.imm 4 ([[(.J c.params),(.imm 10 (c.blocks.map encB)),(.imm 3 (c.contexts.map encR)),(.imm 3 ([]))]]))),(.e 19 (.J 1)),(.e 20 (.J 0))] [] 2 [.q ((.sc (.I ((([[(.J c.params),(.imm 10 (c.blocks.map encB)),(.imm 3 (c.contexts.map encR)),(.imm 3 ([]))]]:List (List PX.PV)).length:Nat):Int)):PX.PV)=(.J 1))] [] [.au,.au,.nm (.J 1),.au] [1,18,19,20] [1] hS hE ⟨rfl,trivial⟩ fun a w hS=>?_
 refine wp_block ?_
 refine wp_loop_rounds 2 ?_
 rw [rounds_succ]
 refine PX.G [(.e 21 (.sc (.bool true)))] [] 2 [] [] [.au] [1,18,19,20,21] [1] hS hE trivial fun a w hS=>?_
 refine wp_seq_k fun K4 hK4=>?_
 refine PX.cond_s true hS (by kernel_rfl) (fun h5=>?_) (fun h5=>nomatch h5)
 refine wp_skip ?_
 refine hK4 _ _ ?_
 refine wp_seq_k fun K6 hK6=>?_
 refine wp_block ?_
 refine PX.G [(.e 4 (.ptr 2 0))] [(2,.box 26 [(.J c.params),(.imm 10 (c.blocks.map encB)),(.imm 3 (c.contexts.map encR)),(.imm 3 ([]))])] 3 [.q (0=((0:Nat):Int)),.q (([[(.J c.params),(.imm 10 (c.blocks.map encB)),(.imm 3 (c.contexts.map encR)),(.imm 3 ([]))]]:List (List PX.PV))[0]?=some ([(.J c.params),(.imm 10 (c.blocks.map encB)),(.imm 3 (c.contexts.map encR)),(.imm 3 ([]))]))] [] [.ix 0 ([(.J c.params),(.imm 10 (c.blocks.map encB)),(.imm 3 (c.contexts.map encR)),(.imm 3 ([]))]),.au,.au,.au] [1,4,18,19,20] [1,2] hS hE ⟨rfl,rfl,trivial⟩ fun a w hS=>?_
 refine PX.G [(.e 5 (.sc (.I (R.check c (totW c.blocks)))))] [] 3 [.q (PX.Con Try.prog 18 [(.agg [(.J c.params),(.imm 10 (c.blocks.map encB)),(.imm 3 (c.contexts.map encR)),(.imm 3 ([]))])] [] 3 3 (.sc (.I (R.check c (totW c.blocks)))) [])] [] [.au,.cl [] (.sc (.I (R.check c (totW c.blocks)))) [] 3,.au] [1,5,18,19,20] [1] hS hE ⟨by rw [show (PX.PV.imm 3 [])=.imm 3 (c.objects.map encR) from by rw [hs.obj] <;> rfl]; exact con_rcheck hi,trivial⟩ fun a w hS=>?_
 replace hS:=PX.sl [1,5,18,19,20] (PX.reslot (t:=5) (.sc (.I 0)) hS rfl (fun _ _ _ _ h=>(show PX.PV.sc (.I (R.check c (totW c.blocks)))=.sc (.I 0) from by rw [hs.chk]) ▸ h))
 refine PX.G [(.e 27 (.sc (.bool false)))] [] 3 [] [] [.au,.au] [1,5,18,19,20,27] [1] hS hE trivial fun a w hS=>?_
 refine PX.cond_s false hS (by kernel_rfl) (fun h7=>nomatch h7) (fun h7=>?_)
 refine wp_skip ?_
 refine hK6 _ _ ?_
 refine PX.G0 [(.e 20 (.J 1))] [] 3 [] [] [.au,.au] [1,18,19,20] [1] hS hE trivial fun a w hS=>?_
 show Code.rounds _ _ _ 1 _ _
 rw [rounds_succ]
 refine PX.G [(.e 21 (.sc (.bool false)))] [] 3 [] [] [.au] [1,18,19,20,21] [1] hS hE trivial fun a w hS=>?_
 refine wp_seq_k fun K8 hK8=>?_
 refine PX.cond_s false hS (by kernel_rfl) (fun h9=>nomatch h9) (fun h9=>?_)
 refine wp_exit ?_
 refine hK3 _ _ ?_
 refine wp_seq_k fun K10 hK10=>?_
 refine PX.G [(.e 31 (.imm 4 ([[(.J c.params),(.imm 10 (c.blocks.map encB)),(.imm 3 (c.contexts.map encR)),(.imm 3 ([]))]]))),(.e 32 (.J 1)),(.e 33 (.J 0))] [] 3 [.q ((.sc (.I ((([[(.J c.params),(.imm 10 (c.blocks.map encB)),(.imm 3 (c.contexts.map encR)),(.imm 3 ([]))]]:List (List PX.PV)).length:Nat):Int)):PX.PV)=(.J 1))] [] [.au,.au,.nm (.J 1),.au] [1,31,32,33] [1] hS hE ⟨rfl,trivial⟩ fun a w hS=>?_
 refine wp_block ?_
 refine wp_loop_rounds 2 ?_
 rw [rounds_succ]
 refine PX.G [(.e 34 (.sc (.bool true)))] [] 3 [] [] [.au] [1,31,32,33,34] [1] hS hE trivial fun a w hS=>?_
 refine wp_seq_k fun K11 hK11=>?_
 refine PX.cond_s true hS (by kernel_rfl) (fun h12=>?_) (fun h12=>nomatch h12)
 refine wp_skip ?_
 refine hK11 _ _ ?_
 refine wp_seq_k fun K13 hK13=>?_
 refine wp_block ?_
 refine PX.G [(.e 6 (.J 0)),(.e 7 (.ptr 3 0))] [(3,.box 26 [(.J c.params),(.imm 10 (c.blocks.map encB)),(.imm 3 (c.contexts.map encR)),(.imm 3 ([]))])] 4 [.q (0=((0:Nat):Int)),.q (([[(.J c.params),(.imm 10 (c.blocks.map encB)),(.imm 3 (c.contexts.map encR)),(.imm 3 ([]))]]:List (List PX.PV))[0]?=some ([(.J c.params),(.imm 10 (c.blocks.map encB)),(.imm 3 (c.contexts.map encR)),(.imm 3 ([]))]))] [] [.au,.ix 0 ([(.J c.params),(.imm 10 (c.blocks.map encB)),(.imm 3 (c.contexts.map encR)),(.imm 3 ([]))]),.au,.au,.au,.au] [1,6,7,31,32,33] [1,3] hS hE ⟨rfl,rfl,trivial⟩ fun a w hS=>?_
 refine wp_seq_k fun K14 hK14=>?_
 refine PX.G [(.e 39 (.imm 3 (c.contexts.map encR))),(.e 40 (.sc (.I (c.contexts.length:Int)))),(.e 41 (.J 0))] [] 4 [.q ((.sc (.I (((c.contexts.map encR).length:Nat):Int)):PX.PV)=(.sc (.I (c.contexts.length:Int))))] [] [.au,.au,.nm (.sc (.I (c.contexts.length:Int))),.au] [1,6,7,31,32,33,39,40,41] [1,3] hS hE ⟨PX.nm_len (by simp),trivial⟩ fun a w hS=>?_
 refine wp_block ?_
 refine wp_loop_ghost (fun m15 a' w'=>∃ k:Nat,m15=c.contexts.length-k∧k≤c.contexts.length∧True∧PX.Sat E 103 [(.e 1 (.ptr 1 0)),(.e 6 (.J 0)),(.e 7 (.ptr 3 0)),(.e 31 (.imm 4 ([[(.J c.params),(.imm 10 (c.blocks.map encB)),(.imm 3 (c.contexts.map encR)),(.imm 3 ([]))]]))),(.e 32 (.J 1)),(.e 33 (.J 0)),(.e 39 (.imm 3 (c.contexts.map encR))),(.e 40 (.sc (.I (c.contexts.length:Int)))),(.e 41 (.sc (.I (k:Int))))] [(1,.box 51 [(.imm 4 ([[(.J c.params),(.imm 10 (c.blocks.map encB)),(.imm 3 (c.contexts.map encR)),(.imm 3 ([]))]]))]),(3,.box 26 [(.J c.params),(.imm 10 (c.blocks.map encB)),(.imm 3 (c.contexts.map encR)),(.imm 3 ([]))])] 4 a' w') (c.contexts.length-0) ⟨0,rfl,Nat.zero_le _,trivial,(PX.cn [] _ _ 4 hS hE)⟩ ?_
 clear hS; rintro m15 a w ⟨k,hm15,hlek,hIk,hS⟩
 refine PX.G [(.e 42 (.sc (.bool (decide ((k:Int)<(c.contexts.length:Int))))))] [] 4 [] [] [.au] [1,6,7,31,32,33,39,40,41,42] [1,3] hS hE trivial fun a w hS=>?_
 refine wp_seq_k fun K16 hK16=>?_
 refine PX.cond_s (decide ((k:Int)<(c.contexts.length:Int))) hS (by kernel_rfl) (fun h17=>?_) (fun h17=>?_)
 ·skip
  refine wp_skip ?_
  refine hK16 _ _ ?_
  refine wp_seq_k fun K18 hK18=>?_
  refine wp_block ?_
  have hlty:k<c.contexts.length:=by simpa using h17
  obtain ⟨y,hy⟩:=get_of_lt hlty
  refine PX.G [(.e 8 (.sc (.I (k:Int)))),(.e 9 (.ptr 4 0))] [(4,.box 99 [(.J y.1),(.J y.2.1),(.J y.2.2)])] 5 [.q ((k:Int)=(k:Int)),.q ((c.contexts.map encR)[k]?=some (encR y))] [] [.au,.ix k (encR y),.au,.au,.au,.au] [1,6,7,8,9,31,32,33,39,40,41] [1,3,4] hS hE ⟨rfl,PX.map_get hy,trivial⟩ fun a w hS=>?_
  replace hS:=PX.recell (id:=4) (j:=2) (.sc (.I 0)) hS rfl rfl rfl (fun _ _ _ _ h=>(show PX.PV.sc (.I y.2.2)=.sc (.I 0) from by rw [hs.ctx y (List.mem_of_getElem? hy)]) ▸ h)
  refine PX.G [(.e 53 (.sc (.I (k:Int)))),(.e 54 (.sc (.bool ((k:Int)==0)))),(.e 55 (.sc (.bool ((k:Int)==0)))),(.e 60 (.sc (.bool (((k:Int)==0)&&false)))),(.e 61 (.sc (.bool (((k:Int)==0)&&false))))] [] 5 [.q ((.sc (.I ((([[(.J c.params),(.imm 10 (c.blocks.map encB)),(.imm 3 (c.contexts.map encR)),(.imm 3 ([]))]]:List (List PX.PV)).length:Nat):Int)):PX.PV)=(.J 1))] [(9,((k:Int)==0))] [.au,.au,.au,.au,.nm (.J 1),.au,.au,.au,.au,.au,.au,.au,.au,.au,.pk,.au] [1,6,7,31,32,33,39,40,41,53,54,55,60,61] [1,3] hS hE ⟨rfl,trivial⟩ fun a w hS=>?_
  refine PX.cond_s (((k:Int)==0)&&false) hS (by kernel_rfl) (fun h19=>?_) (fun h19=>?_)
  ·skip
   exact absurd h19 (by simp)
  ·skip
   refine wp_skip ?_
   refine hK18 _ _ ?_
   refine PX.G0 [(.e 41 (.sc (.I ((k+1:Nat):Int))))] [] 5 [.q ((.sc (.I (IntKind.i64.wrap ((k:Int)+1))):PX.PV)=(.sc (.I ((k+1:Nat):Int))))] [] [.nm (.sc (.I ((k+1:Nat):Int))),.au] [1,6,7,31,32,33,39,40,41,53,54,55,60] [1,3] hS hE ⟨PX.nm_int (by rw [IntWalk.i64_in _ (by omega)]; omega),trivial⟩ fun a w hS=>?_
   replace hS:=PX.sl [1,6,7,31,32,33,39,40,41] hS
   exact ⟨c.contexts.length-(k+1),by omega,k+1,rfl,by omega,trivial,(PX.cn [] _ _ 4 hS hE)⟩
 ·skip
  refine wp_exit ?_
  refine hK14 _ _ ?_
  refine PX.G [(.e 64 (.imm 10 (c.blocks.map encB))),(.e 65 (.sc (.I (c.blocks.length:Int)))),(.e 66 (.J 0))] [] 4 [.q ((.sc (.I (((c.blocks.map encB).length:Nat):Int)):PX.PV)=(.sc (.I (c.blocks.length:Int))))] [] [.au,.au,.nm (.sc (.I (c.blocks.length:Int))),.au] [1,31,32,33,64,65,66] [1] hS hE ⟨PX.nm_len (by simp),trivial⟩ fun a w hS=>?_
  refine wp_block ?_
  refine wp_loop_ghost (fun m20 a' w'=>∃ k:Nat,m20=c.blocks.length-k∧k≤c.blocks.length∧True∧PX.Sat E 103 [(.e 1 (.ptr 1 0)),(.e 31 (.imm 4 ([[(.J c.params),(.imm 10 (c.blocks.map encB)),(.imm 3 (c.contexts.map encR)),(.imm 3 ([]))]]))),(.e 32 (.J 1)),(.e 33 (.J 0)),(.e 64 (.imm 10 (c.blocks.map encB))),(.e 65 (.sc (.I (c.blocks.length:Int)))),(.e 66 (.sc (.I (k:Int))))] [(1,.box 51 [(.imm 4 ([[(.J c.params),(.imm 10 (c.blocks.map encB)),(.imm 3 (c.contexts.map encR)),(.imm 3 ([]))]]))])] 2 a' w') (c.blocks.length-0) ⟨0,rfl,Nat.zero_le _,trivial,(PX.cn [] _ _ 2 hS hE)⟩ ?_
  clear hS; rintro m20 a w ⟨k,hm20,hlek,hIk,hS⟩
  refine PX.G [(.e 67 (.sc (.bool (decide ((k:Int)<(c.blocks.length:Int))))))] [] 2 [] [] [.au] [1,31,32,33,64,65,66,67] [1] hS hE trivial fun a w hS=>?_
  refine wp_seq_k fun K21 hK21=>?_
  refine PX.cond_s (decide ((k:Int)<(c.blocks.length:Int))) hS (by kernel_rfl) (fun h22=>?_) (fun h22=>?_)
  ·skip
   refine wp_skip ?_
   refine hK21 _ _ ?_
   refine wp_seq_k fun K23 hK23=>?_
   refine wp_block ?_
   have hlty:k<c.blocks.length:=by simpa using h22
   obtain ⟨y,hy⟩:=get_of_lt hlty
   have ht:=hs.term y (List.mem_of_getElem? hy); have hcl:=hs.call y (List.mem_of_getElem? hy)
   refine PX.G [(.e 11 (.ptr 2 0))] [(2,.box 62 (encB y))] 3 [.q ((k:Int)=(k:Int)),.q ((c.blocks.map encB)[k]?=some (encB y))] [] [.ix k (encB y),.au,.au,.au] [1,11,31,32,33,64,65,66] [1,2] hS hE ⟨rfl,PX.map_get hy,trivial⟩ fun a w hS=>?_
   refine PX.G [(.e 12 (.ptr 3 0))] [(3,.box 60 [(.J y.term.kind),(.J y.term.a),(.J y.term.n),(.imm 1 (y.term.args.map encI)),(.J y.term.b0),(.imm 1 (y.term.args0.map encI)),(.J y.term.b1),(.imm 1 (y.term.args1.map encI))])] 4 [] [] [.au,.au,.au,.au] [1,12,31,32,33,64,65,66] [1,3] hS hE trivial fun a w hS=>?_
   refine PX.D [(.e 100 (.sc (.bool (((y.term.kind==3)||(y.term.kind==6))&&(decide (1≤y.term.n)||((y.term.args.length:Int) != c.params))))))] [] 4 [.q (SX.pv [(3,(y.term.kind==3)),(8,((y.term.kind==3)||(y.term.kind==6))),(15,decide (1≤y.term.n))] [(8,true)]=true→PX.AllOb [.q ((.sc (.I ((([[(.J c.params),(.imm 10 (c.blocks.map encB)),(.imm 3 (c.contexts.map encR)),(.imm 3 ([]))]]:List (List PX.PV)).length:Nat):Int)):PX.PV)=(.J 1))]),.q (SX.pv [(3,(y.term.kind==3)),(8,((y.term.kind==3)||(y.term.kind==6))),(15,decide (1≤y.term.n))] [(15,false),(8,true)]=true→PX.AllOb [.q ((.sc (.I (((y.term.args.map encI).length:Nat):Int)):PX.PV)=(.sc (.I (y.term.args.length:Int))))]),.q (SX.pv [(3,(y.term.kind==3)),(8,((y.term.kind==3)||(y.term.kind==6))),(15,decide (1≤y.term.n))] [(15,false),(8,true)]=true→PX.AllOb [.q (y.term.n=((0:Nat):Int)),.q (([[(.J c.params),(.imm 10 (c.blocks.map encB)),(.imm 3 (c.contexts.map encR)),(.imm 3 ([]))]]:List (List PX.PV))[0]?=some ([(.J c.params),(.imm 10 (c.blocks.map encB)),(.imm 3 (c.contexts.map encR)),(.imm 3 ([]))]))])] [(3,(y.term.kind==3)),(8,((y.term.kind==3)||(y.term.kind==6))),(15,decide (1≤y.term.n))] [.au,.au,.au,.au,.au,.au,.au,.pk,.au,.au,.au,.au,.au,.nm (.J 1),.au,.au,.au,.au,.nm (.sc (.I (y.term.args.length:Int))),.au,.au,.au,.au,.ix 0 ([(.J c.params),(.imm 10 (c.blocks.map encB)),(.imm 3 (c.contexts.map encR)),(.imm 3 ([]))]),.au,.au,.au,.pk,.pk] [1,31,32,33,64,65,66,100] [1] hS mixed hE ⟨fun hg=>⟨rfl,trivial⟩,fun hg=>⟨PX.nm_len (by simp),trivial⟩,fun hg=>⟨by simp [SX.pv,SX.kv] at hg; exact (hcl (by omega)).1,rfl,trivial⟩,trivial⟩ fun a w hS=>?_
   refine PX.cond_s (((y.term.kind==3)||(y.term.kind==6))&&(decide (1≤y.term.n)||((y.term.args.length:Int) != c.params))) hS (by kernel_rfl) (fun h24=>?_) (fun h24=>?_)
   ·skip
    exact absurd h24 (by rcases ht with q | q | q | q | q <;> simp [q] <;> (try obtain ⟨k1,k2,_⟩:=hcl (by omega)) <;> simp [k1,k2])
   ·skip
    refine wp_skip ?_
    refine hK23 _ _ ?_
    refine PX.G0 [(.e 66 (.sc (.I ((k+1:Nat):Int))))] [] 4 [.q ((.sc (.I (IntKind.i64.wrap ((k:Int)+1))):PX.PV)=(.sc (.I ((k+1:Nat):Int))))] [] [.nm (.sc (.I ((k+1:Nat):Int))),.au] [1,31,32,33,64,65,66] [1] hS hE ⟨PX.nm_int (by rw [IntWalk.i64_in _ (by omega)]; omega),trivial⟩ fun a w hS=>?_
    exact ⟨c.blocks.length-(k+1),by omega,k+1,rfl,by omega,trivial,(PX.cn [] _ _ 2 hS hE)⟩
  ·skip
   refine wp_exit ?_
   refine hK13 _ _ ?_
   refine PX.G0 [(.e 33 (.J 1))] [] 2 [] [] [.au,.au] [1,31,32,33] [1] hS hE trivial fun a w hS=>?_
   show Code.rounds _ _ _ 1 _ _
   rw [rounds_succ]
   refine PX.G [(.e 34 (.sc (.bool false)))] [] 2 [] [] [.au] [1,31,32,33,34] [1] hS hE trivial fun a w hS=>?_
   refine wp_seq_k fun K25 hK25=>?_
   refine PX.cond_s false hS (by kernel_rfl) (fun h26=>nomatch h26) (fun h26=>?_)
   refine wp_exit ?_
   refine hK10 _ _ ?_
   refine PX.G [(.e 2 (.J 0))] [] 2 [] [] [.au] [2] [] hS hE trivial fun a w hS=>?_
   refine wp_ret ?_
   exact PX.rt hS hE (.inl rfl)
end Go.Proofs.Ytlkcidmmpeebeaa
