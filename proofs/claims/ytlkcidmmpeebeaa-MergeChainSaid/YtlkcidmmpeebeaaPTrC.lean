/- Proved: ir.Trace: run -/
import Derived.Test.YtlkcidmmpeebeaaPTrB
set_option linter.unusedVariables false
set_option linter.unusedSimpArgs false
namespace Go.Proofs.Ytlkcidmmpeebeaa
open Go.RowKit Go.PX
set_option maxRecDepth 100000
theorem updI_nw:∀ (D:List (Int × Int)) (n v:Int),(∀ p∈D,n≠p.1)→updI D n v=D++[(n,v)]
 | [],n,v,_=>rfl
 | p::D,n,v,h=>by
  have h1:=h p (by simp)
  have:(n==p.1)=false:=by simpa using h1
  simp only [updI,this,cond_false,List.cons_append,updI_nw D n v fun q hq=>h q (by simp [hq])]
theorem argsN_up {l:List Int} {k:Nat} {y:Int} (hy:l[k]?=some y):PX.updV (iv (argsN (l.take k))) (k:Int) (.I y)=iv (argsN (l.take (k+1))):=by
 have hk:=(List.getElem?_eq_some_iff.1 hy).1
 rw [upd_iv,argsN_take hy,updI_nw]
 intro p hp
 unfold argsN at hp
 obtain ⟨⟨v,i⟩,hq,rfl⟩:=List.mem_map.1 hp
 have:=List.mem_zipIdx' hq
 simp at this ⊢
 omega
theorem at_some {c:CodeD} {steps:Int} {m:Nat} {at_:Int} {as_:List Int} {n e val:Int} {r:Int × Int} (hf:finD c steps (m+1) at_ as_ n e val=some r) (h1:decide (0≤at_)=true) (h2:decide (5000≤e)=false) :
  ∃ b,c.blocks[at_.toNat]?=some b∧(match opsR steps b.ops (argsN as_) n (IntKind.i64.wrap (e+1)) with
   | none=>some (13,val)
   | some (D,n',e') =>
    if b.term.kind=1 then finD c steps m b.term.b0 (b.term.args0.map (valD D)) n' e' val
    else if b.term.kind=2 then (if valD D b.term.a=0 then finD c steps m b.term.b1 (b.term.args1.map (valD D)) n' e' val else finD c steps m b.term.b0 (b.term.args0.map (valD D)) n' e' val)
    else if b.term.kind=4 then finD c steps m (-1) [] n' e' (valD D b.term.a)
    else none)=some r:=by
 rw [finD,if_neg (by have:=of_decide_eq_true h1; omega),if_neg (by have:=of_decide_eq_false h2; omega)] at hf
 cases h:c.blocks[at_.toNat]? with
 | none=>rw [h] at hf; cases hf
 | some b=>rw [h] at hf; exact ⟨b,rfl,hf⟩
theorem fin_end {c:CodeD} {steps:Int} {m:Nat} {at_:Int} {as_:List Int} {n e val err res:Int} (hf:finD c steps (m+1) at_ as_ n e val=some (err,res)) (h1:decide (0≤at_)=false):err=0∧res=val:=by
 rw [finD,if_pos (by have:=of_decide_eq_false h1; omega)] at hf
 simp only [Option.some.injEq,Prod.mk.injEq] at hf
 exact ⟨hf.1.symm,hf.2.symm⟩
theorem fin_fuel {c:CodeD} {steps:Int} {m:Nat} {at_:Int} {as_:List Int} {n e val err res:Int} (hf:finD c steps (m+1) at_ as_ n e val=some (err,res)) (h1:decide (0≤at_)=true) (h2:decide (5000≤e)=true):err=13∧res=val:=by
 rw [finD,if_neg (by have:=of_decide_eq_true h1; omega),if_pos (of_decide_eq_true h2)] at hf
 simp only [Option.some.injEq,Prod.mk.injEq] at hf
 exact ⟨hf.1.symm,hf.2.symm⟩

set_option maxHeartbeats 2000000 in
theorem con_f61 (c:CodeD) (hi:CodeI c) (hs:Simple c) (hfit:Fit c) (steps:Int) (F:Nat) (args:List Int) (err res:Int) (hfin0:finD c steps F 0 args 0 0 0=some (err,res)) (hal0:args.length≤1000000):PX.Con Try.prog 61 [(.ptr 1 0),(.J 0),(.own 2 1 (0+(args.map encI).length))] [(1,.box 116 [(.sc (.slice none 0 0)),(.sc (.slice none 0 0)),(.sc (.slice none 0 0)),(.sc (.slice none 0 0)),(.imm 4 ([[(.J c.params),(.imm 10 (c.blocks.map encB)),(.imm 3 (c.contexts.map encR)),(.imm 3 ([]))]])),(.J steps),(.J 0),(.J 0),(.J 0),(.J 0),(.sc (.slice none 0 0)),(.sc (.slice none 0 0)),(.J 0),(.sc (.bool false)),(.J 0),(.sc (.slice none 0 0))]),(2,.row 3 1 true (args.map encI))] 3 100000 (.tup []) [(1,some (.box 116 [(.sc (.slice none 0 0)),(.sc (.slice none 0 0)),(.sc (.slice none 0 0)),(.sc (.slice none 0 0)),(.imm 4 ([[(.J c.params),(.imm 10 (c.blocks.map encB)),(.imm 3 (c.contexts.map encR)),(.imm 3 ([]))]])),(.J steps),(.J 0),(.J 0),.any,.any,.any,(.sc (.slice none 0 0)),(.J err),(.sc (.bool false)),(.J res),(.sc (.slice none 0 0))])),(2,none)]:=by
 refine PX.con_intro [(.ptr 1 0),(.J 0),(.own 2 1 (0+(args.map encI).length))] 185 Try.func61 rfl rfl (by kernel_rfl) (by kernel_rfl) ?_
 intro E a hE hS
 generalize E.w0=w at hS ⊢
 have mix:=mixed
 refine wp_seq_k fun K1 hK1=>?_
 replace hS:=PX.fz 2 [(.e 2 (.imm 1 (args.map encI)))] [] [0,1,2] [1] [.b (PX.lenIs (0+(args.map encI).length) (args.map encI))] hS ⟨(by simp [PX.lenIs]),trivial⟩
 refine PX.G [(.e 18 (.sc (.bool false)))] [(1,.box 116 [(.sc (.slice none 0 0)),(.sc (.slice none 0 0)),(.sc (.slice none 0 0)),(.sc (.slice none 0 0)),(.imm 4 ([[(.J c.params),(.imm 10 (c.blocks.map encB)),(.imm 3 (c.contexts.map encR)),(.imm 3 ([]))]])),(.J steps),(.J 0),(.J 0),(.J 0),(.J 0),(.own 4 1 1),(.sc (.slice none 0 0)),(.J 0),(.sc (.bool false)),(.J 0),(.sc (.slice none 0 0))]),(3,.box 142 [(.J 0),.any,.any,.any,.any,.any,.any,.any,.any,.any,.any]),(4,.row 138 1 false ([[(.ptr 3 0)]]))] 5 [.q (PX.Con Try.prog 94 [(.ptr 1 0),(.J 0),(.imm 1 (args.map encI))] [(1,.box 116 [(.sc (.slice none 0 0)),(.sc (.slice none 0 0)),(.sc (.slice none 0 0)),(.sc (.slice none 0 0)),(.imm 4 ([[(.J c.params),(.imm 10 (c.blocks.map encB)),(.imm 3 (c.contexts.map encR)),(.imm 3 ([]))]])),(.J steps),(.J 0),(.J 0),(.J 0),(.J 0),(.sc (.slice none 0 0)),(.sc (.slice none 0 0)),(.J 0),(.sc (.bool false)),(.J 0),(.sc (.slice none 0 0))])] 3 5 (.sc (.bool true)) [(1,some (.box 116 [(.sc (.slice none 0 0)),(.sc (.slice none 0 0)),(.sc (.slice none 0 0)),(.sc (.slice none 0 0)),(.imm 4 ([[(.J c.params),(.imm 10 (c.blocks.map encB)),(.imm 3 (c.contexts.map encR)),(.imm 3 ([]))]])),(.J steps),(.J 0),(.J 0),(.J 0),(.J 0),(.own 4 1 1),(.sc (.slice none 0 0)),(.J 0),(.sc (.bool false)),(.J 0),(.sc (.slice none 0 0))])),(3,some (.box 142 [(.J 0),.any,.any,.any,.any,.any,.any,.any,.any,.any,.any])),(4,some (.row 138 1 false ([[(.ptr 3 0)]])))])] [] [.au,.au,.au,.cl [1] (.sc (.bool true)) [(1,some (.box 116 [(.sc (.slice none 0 0)),(.sc (.slice none 0 0)),(.sc (.slice none 0 0)),(.sc (.slice none 0 0)),(.imm 4 ([[(.J c.params),(.imm 10 (c.blocks.map encB)),(.imm 3 (c.contexts.map encR)),(.imm 3 ([]))]])),(.J steps),(.J 0),(.J 0),(.J 0),(.J 0),(.own 4 1 1),(.sc (.slice none 0 0)),(.J 0),(.sc (.bool false)),(.J 0),(.sc (.slice none 0 0))])),(3,some (.box 142 [(.J 0),.any,.any,.any,.any,.any,.any,.any,.any,.any,.any])),(4,some (.row 138 1 false ([[(.ptr 3 0)]])))] 5,.au] [0,2,18] [1,3,4] hS hE ⟨PX.con_as [(1,1),(3,2),(4,3)] [(1,1),(2,3),(3,4)] (con_f94 c steps args) (by kernel_rfl) (by kernel_rfl) (by kernel_rfl) (by kernel_rfl) (by kernel_rfl) (by kernel_rfl),trivial⟩ fun a w hS=>?_
 refine PX.cond_s false hS (by kernel_rfl) (fun h2=>nomatch h2) (fun h2=>?_)
 refine wp_skip ?_
 refine hK1 _ _ ?_
 refine PX.G [(.e 6 (.J 0))] [] 5 [] [] [.au] [0,2,6] [1,3,4] hS hE trivial fun a w hS=>?_
 refine wp_block ?_
 refine wp_loop_ghost (fun m a' w'=>∃ (at_:Int) (as_:List Int) (n e val:Int),finD c steps m at_ as_ n e val=some (err,res)∧as_.length≤1000000∧(PX.Sat E 185 [(.e 0 (.ptr 1 0)),(.e 2 (.imm 1 (as_.map encI))),(.e 6 (.J at_))] [(1,.box 116 [(.sc (.slice none 0 0)),(.sc (.slice none 0 0)),(.sc (.slice none 0 0)),(.sc (.slice none 0 0)),(.imm 4 ([[(.J c.params),(.imm 10 (c.blocks.map encB)),(.imm 3 (c.contexts.map encR)),(.imm 3 ([]))]])),(.J steps),(.J 0),(.J 0),(.J n),(.J e),(.own 4 1 1),(.sc (.slice none 0 0)),(.J 0),(.sc (.bool false)),(.J val),(.sc (.slice none 0 0))]),(3,.box 142 [(.J 0),.any,.any,.any,.any,.any,.any,.any,.any,.any,.any]),(4,.row 138 1 false ([[(.ptr 3 0)]]))] 5 a' w'∨(at_=-1∧PX.Sat E 185 [(.e 0 (.ptr 1 0)),(.e 6 (.sc (.I (-1))))] [(1,.box 116 [(.sc (.slice none 0 0)),(.sc (.slice none 0 0)),(.sc (.slice none 0 0)),(.sc (.slice none 0 0)),(.imm 4 ([[(.J c.params),(.imm 10 (c.blocks.map encB)),(.imm 3 (c.contexts.map encR)),(.imm 3 ([]))]])),(.J steps),(.J 0),(.J 0),(.J n),(.J e),.any,(.sc (.slice none 0 0)),(.J 0),(.sc (.bool false)),(.J val),(.sc (.slice none 0 0))])] 5 a' w'))) F ⟨0,args,0,0,0,hfin0,hal0,.inl (PX.cn [] _ _ 5 hS hE)⟩ ?_
 clear hS; rintro m a w ⟨at_,as_,n,e,val,hfin,hal,hS⟩
 obtain ⟨m,rfl⟩:∃ j,m=j+1:=by cases m with | zero=>exact absurd hfin (by simp [finD]) | succ j=>exact ⟨j,rfl⟩
 rcases hS with hS | ⟨rfl,hS⟩
 ·skip
  refine wp_seq_k fun K3 hK3=>?_
  refine PX.G [(.e 20 (.sc (.bool (decide (0≤at_)))))] [] 5 [] [] [.au,.au] [0,2,6,20] [1,3,4] hS hE trivial fun a w hS=>?_
  refine PX.cond_s (decide (0≤at_)) hS (by kernel_rfl) (fun h4=>?_) (fun h4=>?_)
  ·skip
   refine wp_skip ?_
   refine hK3 _ _ ?_
   refine wp_block ?_
   refine wp_seq_k fun K5 hK5=>?_
   refine PX.G [(.e 25 (.sc (.bool (decide (5000≤e)))))] [] 5 [] [] [.au,.au,.au,.au,.au] [0,2,6,25] [1,3,4] hS hE trivial fun a w hS=>?_
   refine PX.cond_s (decide (5000≤e)) hS (by kernel_rfl) (fun h6=>?_) (fun h6=>?_)
   ·skip
    refine PX.G [] [(1,.box 116 [(.sc (.slice none 0 0)),(.sc (.slice none 0 0)),(.sc (.slice none 0 0)),(.sc (.slice none 0 0)),(.imm 4 ([[(.J c.params),(.imm 10 (c.blocks.map encB)),(.imm 3 (c.contexts.map encR)),(.imm 3 ([]))]])),(.J steps),(.J 0),(.J 0),(.J n),(.J e),(.own 4 1 1),(.sc (.slice none 0 0)),(.J 13),(.sc (.bool false)),(.J val),(.sc (.slice none 0 0))])] 5 [] [] [.au,.au,.au,.au,.au] [0] [1,3,4] hS hE trivial fun a w hS=>?_
    refine wp_ret ?_
    obtain ⟨rfl,rfl⟩:=fin_fuel hfin h4 h6
    replace hS:=PX.recell (id:=1) (j:=8) .any hS rfl rfl rfl (PX.any_of rfl)
    replace hS:=PX.recell (id:=1) (j:=9) .any hS rfl rfl rfl (PX.any_of rfl)
    replace hS:=PX.recell (id:=1) (j:=10) .any hS rfl rfl rfl (PX.any_of rfl)
    exact PX.ret_s hS hE (by kernel_rfl) (by kernel_rfl) (by kernel_rfl) (by first | exact .inl rfl | exact .inr rfl)
   ·skip
    refine wp_skip ?_
    refine hK5 _ _ ?_
    refine PX.G [] [(1,.box 116 [(.sc (.slice none 0 0)),(.sc (.slice none 0 0)),(.sc (.slice none 0 0)),(.sc (.slice none 0 0)),(.imm 4 ([[(.J c.params),(.imm 10 (c.blocks.map encB)),(.imm 3 (c.contexts.map encR)),(.imm 3 ([]))]])),(.J steps),(.J 0),(.J 0),(.J n),(.sc (.I (IntKind.i64.wrap (e+1)))),(.own 4 1 1),(.sc (.slice none 0 0)),(.J 0),(.sc (.bool false)),(.J val),(.sc (.slice none 0 0))])] 5 [] [] [.au,.au,.au,.au,.au,.au,.au,.au] [0,2,6] [1,3,4] hS hE trivial fun a w hS=>?_
    refine PX.D [(.e 7 (.ptr 3 0))] [] 5 [.q ((.sc (.I ((1:Nat):Int)):PX.PV)=(.J 1)),.q (0=((0:Nat):Int)),.q (0<1)] [] [.au,.au,.au,.au,.au,.au,.au,.au,.nm (.J 1),.au,.ix 0 [],.au,.au] [0,2,6,7] [1,3,4] hS mixed hE ⟨rfl,by omega,by decide,trivial⟩ fun a w hS=>?_
    obtain ⟨b,hb,hf⟩:=at_some hfin h4 h6
    have hbm:=List.mem_of_getElem? hb
    have fb:=hfit.ops b hbm; have tb:=hfit.term b hbm
    have hat:0≤at_:=of_decide_eq_true h4
    refine PX.D [(.e 8 (.ptr 5 0))] [(5,.box 62 (encB b))] 6 [.q (0=((0:Nat):Int)),.q (([[(.J c.params),(.imm 10 (c.blocks.map encB)),(.imm 3 (c.contexts.map encR)),(.imm 3 ([]))]]:List (List PX.PV))[0]?=some ([(.J c.params),(.imm 10 (c.blocks.map encB)),(.imm 3 (c.contexts.map encR)),(.imm 3 ([]))])),.q (at_=(at_.toNat:Int)),.q ((c.blocks.map encB)[at_.toNat]?=some (encB b))] [] [.au,.au,.au,.au,.au,.au,.au,.au,.au,.ix 0 ([(.J c.params),(.imm 10 (c.blocks.map encB)),(.imm 3 (c.contexts.map encR)),(.imm 3 ([]))]),.au,.au,.au,.ix at_.toNat (encB b),.au,.au,.au] [0,2,7,8] [1,3,4,5] hS mixed hE ⟨rfl,rfl,by omega,PX.map_get hb,trivial⟩ fun a w hS=>?_
    refine PX.G [] [(3,.box 142 [(.J 0),.any,(.map 6),.any,.any,(.sc (.I (-1))),(.sc (.slice none 0 0)),.any,.any,.any,.any]),(6,.mp ([]))] 7 [] [] [.au,.au,.au,.au,.au,.au,.au,.au,.au,.au,.au,.au,.au] [0,2,7,8] [1,3,4,5,6] hS hE trivial fun a w hS=>?_
    replace hS:=PX.recell (id:=3) (j:=5) .any hS rfl rfl rfl (PX.any_of rfl)
    replace hS:=PX.recell (id:=3) (j:=6) .any hS rfl rfl rfl (PX.any_of rfl)
    refine wp_seq_k fun K7 hK7=>?_
    refine PX.G [(.e 74 (.imm 1 (as_.map encI))),(.e 75 (.sc (.I (as_.length:Int)))),(.e 76 (.J 0))] [] 7 [.q ((.sc (.I (((as_.map encI).length:Nat):Int)):PX.PV)=(.sc (.I (as_.length:Int))))] [] [.au,.nm (.sc (.I (as_.length:Int))),.au] [0,7,8,74,75,76] [1,3,4,5,6] hS hE ⟨PX.nm_len (by simp),trivial⟩ fun a w hS=>?_
    refine wp_block ?_
    rw [show (PX.PO.mp [])=.mp (iv (argsN (as_.take (0)))) from rfl] at hS
    refine wp_loop_ghost (fun m8 a' w'=>∃ k:Nat,m8=as_.length-k∧k≤as_.length∧True∧PX.Sat E 185 [(.e 0 (.ptr 1 0)),(.e 7 (.ptr 3 0)),(.e 8 (.ptr 5 0)),(.e 74 (.imm 1 (as_.map encI))),(.e 75 (.sc (.I (as_.length:Int)))),(.e 76 (.sc (.I (k:Int))))] [(1,.box 116 [(.sc (.slice none 0 0)),(.sc (.slice none 0 0)),(.sc (.slice none 0 0)),(.sc (.slice none 0 0)),(.imm 4 ([[(.J c.params),(.imm 10 (c.blocks.map encB)),(.imm 3 (c.contexts.map encR)),(.imm 3 ([]))]])),(.J steps),(.J 0),(.J 0),(.J n),(.sc (.I (IntKind.i64.wrap (e+1)))),(.own 4 1 1),(.sc (.slice none 0 0)),(.J 0),(.sc (.bool false)),(.J val),(.sc (.slice none 0 0))]),(3,.box 142 [(.J 0),.any,(.map 6),.any,.any,.any,.any,.any,.any,.any,.any]),(4,.row 138 1 false ([[(.ptr 3 0)]])),(5,.box 62 (encB b)),(6,.mp (iv (argsN (as_.take (k)))))] 7 a' w') (as_.length-0) ⟨0,rfl,Nat.zero_le _,trivial,(PX.cn [] _ _ 7 hS hE)⟩ ?_
    clear hS; rintro m8 a w ⟨k,hm8,hlek,hIk,hS⟩
    refine PX.G [(.e 77 (.sc (.bool (decide ((k:Int)<(as_.length:Int))))))] [] 7 [] [] [.au] [0,7,8,74,75,76,77] [1,3,4,5,6] hS hE trivial fun a w hS=>?_
    refine wp_seq_k fun K9 hK9=>?_
    refine PX.cond_s (decide ((k:Int)<(as_.length:Int))) hS (by kernel_rfl) (fun h10=>?_) (fun h10=>?_)
    ·skip
     refine wp_skip ?_
     refine hK9 _ _ ?_
     refine wp_seq_k fun K11 hK11=>?_
     refine wp_block ?_
     have hlty:k<as_.length:=by simpa using h10
     obtain ⟨y,hy⟩:=get_of_lt hlty
     refine PX.G [(.e 9 (.sc (.I (k:Int)))),(.e 10 (.J y))] [] 7 [.q ((k:Int)=(k:Int)),.q ((as_.map encI)[k]?=some (encI y))] [] [.au,.ix k (encI y),.au,.au,.au] [0,7,8,9,10,74,75,76] [1,3,4,5,6] hS hE ⟨rfl,PX.map_get hy,trivial⟩ fun a w hS=>?_
     refine PX.G0 [] [(6,.mp (PX.updV (iv (argsN (as_.take (k)))) (k:Int) (.I y)))] 7 [] [] [.au,.au,.au,.au,.au,.au,.au] [0,7,8,74,75,76] [1,3,4,5,6] hS hE trivial fun a w hS=>?_
     refine hK11 _ _ ?_
     refine PX.G0 [(.e 76 (.sc (.I ((k+1:Nat):Int))))] [] 7 [.q ((.sc (.I (IntKind.i64.wrap ((k:Int)+1))):PX.PV)=(.sc (.I ((k+1:Nat):Int))))] [] [.nm (.sc (.I ((k+1:Nat):Int))),.au] [0,7,8,74,75,76] [1,3,4,5,6] hS hE ⟨PX.nm_int (by rw [IntWalk.i64_in _ (by omega)]; omega),trivial⟩ fun a w hS=>?_
     rw [show (PX.updV (iv (argsN (as_.take (k)))) (k:Int) (.I y))=iv (argsN (as_.take (k+1))) from argsN_up hy] at hS
     exact ⟨as_.length-(k+1),by omega,k+1,rfl,by omega,trivial,(PX.cn [] _ _ 7 hS hE)⟩
    ·skip
     refine wp_exit ?_
     refine hK7 _ _ ?_
     refine wp_seq_k fun K12 hK12=>?_
     have hka:as_.length≤k:=le_of_dec h10
     rw [List.take_of_length_le hka] at hS
     refine PX.G [(.e 90 (.sc (.I (b.ops.length:Int)))),(.e 91 (.J 0))] [] 7 [.q ((.sc (.I (((b.ops.map encO).length:Nat):Int)):PX.PV)=(.sc (.I (b.ops.length:Int))))] [] [.au,.au,.nm (.sc (.I (b.ops.length:Int))),.au] [0,7,8,90,91] [1,3,4,5,6] hS hE ⟨PX.nm_len (by simp),trivial⟩ fun a w hS=>?_
     refine wp_block ?_
     refine wp_loop_ghost (fun j a' w'=>∃ (q:Nat) (D:List (Int × Int)) (n1 e1:Int),j=b.ops.length-q∧q≤b.ops.length∧opsR steps (b.ops.drop (q)) D n1 e1=opsR steps b.ops (argsN as_) n (IntKind.i64.wrap (e+1))∧PX.Sat E 185 [(.e 0 (.ptr 1 0)),(.e 7 (.ptr 3 0)),(.e 8 (.ptr 5 0)),(.e 90 (.sc (.I (b.ops.length:Int)))),(.e 91 (.sc (.I (q:Int))))] [(1,.box 116 [(.sc (.slice none 0 0)),(.sc (.slice none 0 0)),(.sc (.slice none 0 0)),(.sc (.slice none 0 0)),(.imm 4 ([[(.J c.params),(.imm 10 (c.blocks.map encB)),(.imm 3 (c.contexts.map encR)),(.imm 3 ([]))]])),(.J steps),(.J 0),(.J 0),(.J n1),(.J e1),(.own 4 1 1),(.sc (.slice none 0 0)),(.J 0),(.sc (.bool false)),(.J val),(.sc (.slice none 0 0))]),(3,.box 142 [(.J 0),.any,(.map 6),.any,.any,.any,.any,.any,.any,.any,.any]),(4,.row 138 1 false ([[(.ptr 3 0)]])),(5,.box 62 (encB b)),(6,.mp (iv D))] 7 a' w') (b.ops.length-0) ⟨0,argsN as_,n,IntKind.i64.wrap (e+1),rfl,Nat.zero_le _,rfl,(PX.cn [] _ _ 7 hS hE)⟩ ?_
     clear hS; rintro j a w ⟨q,D,n1,e1,hj,hle,hI,hS⟩
     refine PX.G [(.e 92 (.sc (.bool (decide ((q:Int)<(b.ops.length:Int))))))] [] 7 [] [] [.au] [0,7,8,90,91,92] [1,3,4,5,6] hS hE trivial fun a w hS=>?_
     refine wp_seq_k fun K13 hK13=>?_
     refine PX.cond_s (decide ((q:Int)<(b.ops.length:Int))) hS (by kernel_rfl) (fun h14=>?_) (fun h14=>?_)
     ·skip
      refine wp_skip ?_
      refine hK13 _ _ ?_
      have hlty:q<b.ops.length:=by simpa using h14
      obtain ⟨y,hy⟩:=get_of_lt hlty
      by_cases hst:y.kind=19∧steps≤n1
      ·skip
       have hstop:=hI.symm.trans (opsR_stop hy hst)
       refine wp_seq_k fun K15 hK15=>?_
       refine wp_block ?_
       refine PX.G [(.e 11 (.sc (.I (q:Int))))] [] 7 [] [] [.au,.au] [0,7,8,11,90,91] [1,3,4,5,6] hS hE trivial fun a w hS=>?_
       refine PX.G [(.e 99 (.sc (.bool true)))] [(1,.box 116 [(.sc (.slice none 0 0)),(.sc (.slice none 0 0)),(.sc (.slice none 0 0)),(.sc (.slice none 0 0)),(.imm 4 ([[(.J c.params),(.imm 10 (c.blocks.map encB)),(.imm 3 (c.contexts.map encR)),(.imm 3 ([]))]])),(.J steps),(.J 0),(.J 0),(.J n1),(.J e1),(.own 4 1 1),(.sc (.slice none 0 0)),(.J 13),(.sc (.bool false)),(.J val),(.sc (.slice none 0 0))]),(6,.mp (iv D))] 7 [.q (PX.Con Try.prog 95 [(.ptr 1 0),(.ptr 3 0),(.agg (encB b)),(.sc (.I (q:Int)))] [(1,.box 116 [(.sc (.slice none 0 0)),(.sc (.slice none 0 0)),(.sc (.slice none 0 0)),(.sc (.slice none 0 0)),(.imm 4 ([[(.J c.params),(.imm 10 (c.blocks.map encB)),(.imm 3 (c.contexts.map encR)),(.imm 3 ([]))]])),(.J steps),(.J 0),(.J 0),(.J n1),(.J e1),(.own 4 1 1),(.sc (.slice none 0 0)),(.J 0),(.sc (.bool false)),(.J val),(.sc (.slice none 0 0))]),(3,.box 142 [(.J 0),.any,(.map 6),.any,.any,.any,.any,.any,.any,.any,.any]),(6,.mp (iv D)),(4,.row 138 1 false ([[(.ptr 3 0)]]))] 7 7 (.sc (.bool false)) [(1,some (.box 116 [(.sc (.slice none 0 0)),(.sc (.slice none 0 0)),(.sc (.slice none 0 0)),(.sc (.slice none 0 0)),(.imm 4 ([[(.J c.params),(.imm 10 (c.blocks.map encB)),(.imm 3 (c.contexts.map encR)),(.imm 3 ([]))]])),(.J steps),(.J 0),(.J 0),(.J n1),(.J e1),(.own 4 1 1),(.sc (.slice none 0 0)),(.J 13),(.sc (.bool false)),(.J val),(.sc (.slice none 0 0))])),(3,some (.box 142 [(.J 0),.any,(.map 6),.any,.any,.any,.any,.any,.any,.any,.any])),(6,some (.mp (iv D))),(4,some (.row 138 1 false ([[(.ptr 3 0)]])))])] [] [.au,.au,.au,.au,.cl [1,3,6,4] (.sc (.bool false)) [(1,some (.box 116 [(.sc (.slice none 0 0)),(.sc (.slice none 0 0)),(.sc (.slice none 0 0)),(.sc (.slice none 0 0)),(.imm 4 ([[(.J c.params),(.imm 10 (c.blocks.map encB)),(.imm 3 (c.contexts.map encR)),(.imm 3 ([]))]])),(.J steps),(.J 0),(.J 0),(.J n1),(.J e1),(.own 4 1 1),(.sc (.slice none 0 0)),(.J 13),(.sc (.bool false)),(.J val),(.sc (.slice none 0 0))])),(3,some (.box 142 [(.J 0),.any,(.map 6),.any,.any,.any,.any,.any,.any,.any,.any])),(6,some (.mp (iv D))),(4,some (.row 138 1 false ([[(.ptr 3 0)]])))] 7,.au] [0,7,8,90,91,99] [1,3,4,5,6] hS hE ⟨PX.con_as [(1,1),(3,2),(6,3),(4,4)] [(1,1),(2,3),(3,6),(4,4)] (con_op19n c steps n1 e1 0 val D b q y hy hst.1 (by omega) (noB (hs.ops b hbm)) (decide_eq_true hst.2)) (by kernel_rfl) (by kernel_rfl) (by kernel_rfl) (by kernel_rfl) (by kernel_rfl) (by kernel_rfl),trivial⟩ fun a w hS=>?_
       refine PX.cond_s true hS (by kernel_rfl) (fun h16=>?_) (fun h16=>nomatch h16)
       refine wp_ret ?_
       rw [hstop] at hf; simp only [Option.some.injEq,Prod.mk.injEq] at hf; obtain ⟨rfl,rfl⟩:=hf
       replace hS:=PX.recell (id:=1) (j:=8) .any hS rfl rfl rfl (PX.any_of rfl)
       replace hS:=PX.recell (id:=1) (j:=9) .any hS rfl rfl rfl (PX.any_of rfl)
       replace hS:=PX.recell (id:=1) (j:=10) .any hS rfl rfl rfl (PX.any_of rfl)
       exact PX.ret_s hS hE (by kernel_rfl) (by kernel_rfl) (by kernel_rfl) (by first | exact .inl rfl | exact .inr rfl)
      ·skip
       refine wp_seq_k fun K17 hK17=>?_
       refine wp_block ?_
       refine PX.G [(.e 11 (.sc (.I (q:Int))))] [] 7 [] [] [.au,.au] [0,7,8,11,90,91] [1,3,4,5,6] hS hE trivial fun a w hS=>?_
       refine PX.G [(.e 99 (.sc (.bool false)))] [(1,.box 116 [(.sc (.slice none 0 0)),(.sc (.slice none 0 0)),(.sc (.slice none 0 0)),(.sc (.slice none 0 0)),(.imm 4 ([[(.J c.params),(.imm 10 (c.blocks.map encB)),(.imm 3 (c.contexts.map encR)),(.imm 3 ([]))]])),(.J steps),(.J 0),(.J 0),(.sc (.I (opN y n1))),(.sc (.I (opE y e1))),(.own 4 1 1),(.sc (.slice none 0 0)),(.J 0),(.sc (.bool false)),(.J val),(.sc (.slice none 0 0))]),(6,.mp (iv (opD y D)))] 7 [.q (PX.Con Try.prog 95 [(.ptr 1 0),(.ptr 3 0),(.agg (encB b)),(.sc (.I (q:Int)))] [(1,.box 116 [(.sc (.slice none 0 0)),(.sc (.slice none 0 0)),(.sc (.slice none 0 0)),(.sc (.slice none 0 0)),(.imm 4 ([[(.J c.params),(.imm 10 (c.blocks.map encB)),(.imm 3 (c.contexts.map encR)),(.imm 3 ([]))]])),(.J steps),(.J 0),(.J 0),(.J n1),(.J e1),(.own 4 1 1),(.sc (.slice none 0 0)),(.J 0),(.sc (.bool false)),(.J val),(.sc (.slice none 0 0))]),(3,.box 142 [(.J 0),.any,(.map 6),.any,.any,.any,.any,.any,.any,.any,.any]),(6,.mp (iv D)),(4,.row 138 1 false ([[(.ptr 3 0)]]))] 7 7 (.sc (.bool true)) [(1,some (.box 116 [(.sc (.slice none 0 0)),(.sc (.slice none 0 0)),(.sc (.slice none 0 0)),(.sc (.slice none 0 0)),(.imm 4 ([[(.J c.params),(.imm 10 (c.blocks.map encB)),(.imm 3 (c.contexts.map encR)),(.imm 3 ([]))]])),(.J steps),(.J 0),(.J 0),(.sc (.I (opN y n1))),(.sc (.I (opE y e1))),(.own 4 1 1),(.sc (.slice none 0 0)),(.J 0),(.sc (.bool false)),(.J val),(.sc (.slice none 0 0))])),(3,some (.box 142 [(.J 0),.any,(.map 6),.any,.any,.any,.any,.any,.any,.any,.any])),(6,some (.mp (iv (opD y D)))),(4,some (.row 138 1 false ([[(.ptr 3 0)]])))])] [] [.au,.au,.au,.au,.cl [1,3,6,4] (.sc (.bool true)) [(1,some (.box 116 [(.sc (.slice none 0 0)),(.sc (.slice none 0 0)),(.sc (.slice none 0 0)),(.sc (.slice none 0 0)),(.imm 4 ([[(.J c.params),(.imm 10 (c.blocks.map encB)),(.imm 3 (c.contexts.map encR)),(.imm 3 ([]))]])),(.J steps),(.J 0),(.J 0),(.sc (.I (opN y n1))),(.sc (.I (opE y e1))),(.own 4 1 1),(.sc (.slice none 0 0)),(.J 0),(.sc (.bool false)),(.J val),(.sc (.slice none 0 0))])),(3,some (.box 142 [(.J 0),.any,(.map 6),.any,.any,.any,.any,.any,.any,.any,.any])),(6,some (.mp (iv (opD y D)))),(4,some (.row 138 1 false ([[(.ptr 3 0)]])))] 7,.au] [0,7,8,90,91,99] [1,3,4,5,6] hS hE ⟨PX.con_as [(1,1),(3,2),(6,3),(4,4)] [(1,1),(2,3),(3,6),(4,4)] (con_op c steps n1 e1 0 val D b q y hy (hs.ops b hbm y (List.mem_of_getElem? hy)) hst (by omega) (noB (hs.ops b hbm))) (by kernel_rfl) (by kernel_rfl) (by kernel_rfl) (by kernel_rfl) (by kernel_rfl) (by kernel_rfl),trivial⟩ fun a w hS=>?_
       refine PX.cond_s false hS (by kernel_rfl) (fun h18=>nomatch h18) (fun h18=>?_)
       refine wp_skip ?_
       refine hK17 _ _ ?_
       refine PX.G0 [(.e 91 (.sc (.I ((q+1:Nat):Int))))] [] 7 [.q ((.sc (.I (IntKind.i64.wrap ((q:Int)+1))):PX.PV)=(.sc (.I ((q+1:Nat):Int))))] [] [.nm (.sc (.I ((q+1:Nat):Int))),.au] [0,7,8,90,91] [1,3,4,5,6] hS hE ⟨PX.nm_int (by rw [IntWalk.i64_in _ (by omega)]; omega),trivial⟩ fun a w hS=>?_
       exact ⟨b.ops.length-(q+1),by omega,q+1,opD y D,opN y n1,opE y e1,rfl,by omega,(opsR_step hy hst).trans hI,(PX.cn [] _ _ 7 hS hE)⟩
     ·skip
      refine wp_exit ?_
      refine hK12 _ _ ?_
      refine PX.G [(.e 12 (.ptr 7 0))] [(7,.box 60 [(.J b.term.kind),(.J b.term.a),(.J b.term.n),(.imm 1 (b.term.args.map encI)),(.J b.term.b0),(.imm 1 (b.term.args0.map encI)),(.J b.term.b1),(.imm 1 (b.term.args1.map encI))])] 8 [] [] [.au,.au,.au,.au] [0,7,12] [1,3,4,6,7] hS hE trivial fun a w hS=>?_
      have hko:b.ops.length≤q:=le_of_dec h14
      rw [← hI,List.drop_of_length_le hko,opsR] at hf; simp only at hf
      rcases hs.term b hbm with ht | ht | ht
      ·skip
       replace hS:=PX.recell (id:=7) (j:=0) (.sc (.I 1)) hS rfl rfl rfl (fun _ _ _ _ h=>(show PX.PV.sc (.I b.term.kind)=.sc (.I 1) from by rw [ht]) ▸ h)
       rw [if_pos ht] at hf
       refine PX.G [(.e 104 (.J 1))] [] 8 [] [] [.au,.au] [0,7,12,104] [1,3,4,6,7] hS hE trivial fun a w hS=>?_
       refine wp_block ?_
       refine wp_seq_k fun K19 hK19=>?_
       refine PX.G [(.e 120 (.sc (.bool true)))] [] 8 [] [] [.au,.au] [0,7,12,104,120] [1,3,4,6,7] hS hE trivial fun a w hS=>?_
       refine PX.cond_s true hS (by kernel_rfl) (fun h20=>?_) (fun h20=>nomatch h20)
       refine wp_skip ?_
       refine hK19 _ _ ?_
       refine PX.cond_s true hS (by kernel_rfl) (fun h21=>?_) (fun h21=>nomatch h21)
       refine PX.G [(.e 13 (.ptr 8 0))] [(8,.box 57 [(.J b.term.b0),(.imm 1 (b.term.args0.map encI))])] 9 [] [] [.au,.au,.au,.au,.au] [0,7,12,13] [1,3,4,6,7,8] hS hE trivial fun a w hS=>?_
       refine wp_seq_k fun K22 hK22=>?_
       refine PX.D [(.e 138 (.sc (.bool false)))] [] 9 [] [(3,false)] [.au,.au,.au,.au,.dd,.dd,.dd,.dd,.dd,.dd,.dd,.dd,.au] [0,7,12,13,138] [1,3,4,6,7,8] hS mixed hE trivial fun a w hS=>?_
       refine PX.cond_s false hS (by kernel_rfl) (fun h23=>nomatch h23) (fun h23=>?_)
       refine wp_skip ?_
       refine hK22 _ _ ?_
       refine PX.D0 [(.e 2 (.imm 1 ((b.term.args0.map (valD D)).map encI))),(.e 6 (.J b.term.b0))] [] 9 [.q (PX.Con Try.prog 96 [(.ptr 3 0),(.imm 1 (b.term.args0.map encI))] [(3,.box 142 [(.J 0),.any,(.map 6),.any,.any,.any,.any,.any,.any,.any,.any]),(6,.mp (iv D))] 9 9 (.imm 1 ((b.term.args0.map (valD D)).map encI)) [(3,some (.box 142 [(.J 0),.any,(.map 6),.any,.any,.any,.any,.any,.any,.any,.any])),(6,some (.mp (iv D)))])] [] [.au,.au,.au,.au,.au,.cl [3,6] (.imm 1 ((b.term.args0.map (valD D)).map encI)) [(3,some (.box 142 [(.J 0),.any,(.map 6),.any,.any,.any,.any,.any,.any,.any,.any])),(6,some (.mp (iv D)))] 9,.au,.au] [0,2,6] [1,3,4,6] hS mixed hE ⟨PX.con_as [(3,2),(6,3)] [(2,3),(3,6)] (con_f96 D b.term.args0 (by omega)) (by kernel_rfl) (by kernel_rfl) (by kernel_rfl) (by kernel_rfl) (by kernel_rfl) (by kernel_rfl),trivial⟩ fun a w hS=>?_
       replace hS:=PX.recell (id:=3) (j:=2) .any hS rfl rfl rfl (PX.any_of rfl)
       exact ⟨m,by omega,b.term.b0,(b.term.args0.map (valD D)),n1,e1,val,hf,by simp; omega,.inl (PX.cn [] _ _ 5 hS hE)⟩
      ·skip
       replace hS:=PX.recell (id:=7) (j:=0) (.sc (.I 2)) hS rfl rfl rfl (fun _ _ _ _ h=>(show PX.PV.sc (.I b.term.kind)=.sc (.I 2) from by rw [ht]) ▸ h)
       rw [if_neg (by omega),if_pos ht] at hf
       refine PX.G [(.e 104 (.J 2))] [] 8 [] [] [.au,.au] [0,7,12,104] [1,3,4,6,7] hS hE trivial fun a w hS=>?_
       refine wp_block ?_
       refine wp_seq_k fun K24 hK24=>?_
       refine PX.G [(.e 120 (.sc (.bool false)))] [] 8 [] [] [.au,.au] [0,7,12,104,120] [1,3,4,6,7] hS hE trivial fun a w hS=>?_
       refine PX.cond_s false hS (by kernel_rfl) (fun h25=>nomatch h25) (fun h25=>?_)
       refine PX.G0 [(.e 120 (.sc (.bool true)))] [] 8 [] [] [.au,.au] [0,7,12,104,120] [1,3,4,6,7] hS hE trivial fun a w hS=>?_
       refine hK24 _ _ ?_
       refine PX.cond_s true hS (by kernel_rfl) (fun h26=>?_) (fun h26=>nomatch h26)
       refine PX.G [(.e 13 (.ptr 8 0))] [(8,.box 57 [(.J b.term.b0),(.imm 1 (b.term.args0.map encI))])] 9 [] [] [.au,.au,.au,.au,.au] [0,7,12,13] [1,3,4,6,7,8] hS hE trivial fun a w hS=>?_
       refine wp_seq_k fun K27 hK27=>?_
       refine PX.D [(.e 130 (.ptr 3 0)),(.e 131 (.ptr 3 0)),(.e 132 (.ptr 3 2)),(.e 133 (.map 6)),(.e 134 (.ptr 7 1)),(.e 135 (.J b.term.a)),(.e 136 (.sc (.I (valD D b.term.a)))),(.e 137 (.sc (.bool ((valD D b.term.a)==0)))),(.e 138 (.sc (.bool ((valD D b.term.a)==0))))] [] 9 [.q ((.sc ((PX.findV (iv D) b.term.a).getD (.I 0)):PX.PV)=(.sc (.I (valD D b.term.a))))] [] [.au,.au,.au,.au,.au,.au,.au,.au,.au,.au,.nm (.sc (.I (valD D b.term.a))),.au,.au] [0,7,12,13,130,131,132,133,134,135,136,137,138] [1,3,4,6,7,8] hS mixed hE ⟨look_iv D b.term.a,trivial⟩ fun a w hS=>?_
       refine PX.cond_s ((valD D b.term.a)==0) hS (by kernel_rfl) (fun h28=>?_) (fun h28=>?_)
       ·skip
        refine PX.G0 [] [(8,.box 57 [(.J b.term.b1),(.imm 1 (b.term.args1.map encI))])] 9 [] [] [.au,.au,.au,.au] [0,7,13,130,131,132,133,134,135,136,137] [1,3,4,6,7,8] hS hE trivial fun a w hS=>?_
        refine hK27 _ _ ?_
        refine PX.D0 [(.e 2 (.imm 1 ((b.term.args1.map (valD D)).map encI))),(.e 6 (.J b.term.b1))] [] 9 [.q (PX.Con Try.prog 96 [(.ptr 3 0),(.imm 1 (b.term.args1.map encI))] [(3,.box 142 [(.J 0),.any,(.map 6),.any,.any,.any,.any,.any,.any,.any,.any]),(6,.mp (iv D))] 9 9 (.imm 1 ((b.term.args1.map (valD D)).map encI)) [(3,some (.box 142 [(.J 0),.any,(.map 6),.any,.any,.any,.any,.any,.any,.any,.any])),(6,some (.mp (iv D)))])] [] [.au,.au,.au,.au,.au,.cl [3,6] (.imm 1 ((b.term.args1.map (valD D)).map encI)) [(3,some (.box 142 [(.J 0),.any,(.map 6),.any,.any,.any,.any,.any,.any,.any,.any])),(6,some (.mp (iv D)))] 9,.au,.au] [0,2,6,130,131,132,133,134,135,136,137] [1,3,4,6,7] hS mixed hE ⟨PX.con_as [(3,2),(6,3)] [(2,3),(3,6)] (con_f96 D b.term.args1 (by omega)) (by kernel_rfl) (by kernel_rfl) (by kernel_rfl) (by kernel_rfl) (by kernel_rfl) (by kernel_rfl),trivial⟩ fun a w hS=>?_
        rw [if_pos (by simpa using h28)] at hf
        replace hS:=PX.recell (id:=3) (j:=2) .any hS rfl rfl rfl (PX.any_of rfl)
        replace hS:=PX.sl [0,2,6] hS
        exact ⟨m,by omega,b.term.b1,(b.term.args1.map (valD D)),n1,e1,val,hf,by simp; omega,.inl (PX.cn [] _ _ 5 hS hE)⟩
       ·skip
        refine wp_skip ?_
        refine hK27 _ _ ?_
        refine PX.D0 [(.e 2 (.imm 1 ((b.term.args0.map (valD D)).map encI))),(.e 6 (.J b.term.b0))] [] 9 [.q (PX.Con Try.prog 96 [(.ptr 3 0),(.imm 1 (b.term.args0.map encI))] [(3,.box 142 [(.J 0),.any,(.map 6),.any,.any,.any,.any,.any,.any,.any,.any]),(6,.mp (iv D))] 9 9 (.imm 1 ((b.term.args0.map (valD D)).map encI)) [(3,some (.box 142 [(.J 0),.any,(.map 6),.any,.any,.any,.any,.any,.any,.any,.any])),(6,some (.mp (iv D)))])] [] [.au,.au,.au,.au,.au,.cl [3,6] (.imm 1 ((b.term.args0.map (valD D)).map encI)) [(3,some (.box 142 [(.J 0),.any,(.map 6),.any,.any,.any,.any,.any,.any,.any,.any])),(6,some (.mp (iv D)))] 9,.au,.au] [0,2,6,130,131,132,133,134,135,136,137] [1,3,4,6,7] hS mixed hE ⟨PX.con_as [(3,2),(6,3)] [(2,3),(3,6)] (con_f96 D b.term.args0 (by omega)) (by kernel_rfl) (by kernel_rfl) (by kernel_rfl) (by kernel_rfl) (by kernel_rfl) (by kernel_rfl),trivial⟩ fun a w hS=>?_
        rw [if_neg (by simpa using h28)] at hf
        replace hS:=PX.recell (id:=3) (j:=2) .any hS rfl rfl rfl (PX.any_of rfl)
        replace hS:=PX.sl [0,2,6] hS
        exact ⟨m,by omega,b.term.b0,(b.term.args0.map (valD D)),n1,e1,val,hf,by simp; omega,.inl (PX.cn [] _ _ 5 hS hE)⟩
      ·skip
       replace hS:=PX.recell (id:=7) (j:=0) (.sc (.I 4)) hS rfl rfl rfl (fun _ _ _ _ h=>(show PX.PV.sc (.I b.term.kind)=.sc (.I 4) from by rw [ht]) ▸ h)
       rw [if_neg (by omega),if_neg (by omega),if_pos ht] at hf
       refine PX.G [(.e 104 (.J 4))] [] 8 [] [] [.au,.au] [0,7,12,104] [1,3,4,6,7] hS hE trivial fun a w hS=>?_
       refine wp_block ?_
       refine wp_seq_k fun K29 hK29=>?_
       refine PX.G [(.e 120 (.sc (.bool false)))] [] 8 [] [] [.au,.au] [0,7,12,104,120] [1,3,4,6,7] hS hE trivial fun a w hS=>?_
       refine PX.cond_s false hS (by kernel_rfl) (fun h30=>nomatch h30) (fun h30=>?_)
       refine PX.G0 [(.e 120 (.sc (.bool false)))] [] 8 [] [] [.au,.au] [0,7,12,104,120] [1,3,4,6,7] hS hE trivial fun a w hS=>?_
       refine hK29 _ _ ?_
       refine PX.cond_s false hS (by kernel_rfl) (fun h31=>nomatch h31) (fun h31=>?_)
       refine wp_seq_k fun K32 hK32=>?_
       refine PX.G [(.e 148 (.sc (.bool false)))] [] 8 [] [] [.au,.au] [0,7,12,104,148] [1,3,4,6,7] hS hE trivial fun a w hS=>?_
       refine PX.cond_s false hS (by kernel_rfl) (fun h33=>nomatch h33) (fun h33=>?_)
       refine PX.G0 [(.e 148 (.sc (.bool false)))] [] 8 [] [] [.au,.au] [0,7,12,148] [1,3,4,6,7] hS hE trivial fun a w hS=>?_
       refine hK32 _ _ ?_
       refine PX.cond_s false hS (by kernel_rfl) (fun h34=>nomatch h34) (fun h34=>?_)
       refine PX.D0 [(.e 2 (.sc (.slice none 0 0))),(.e 6 (.sc (.I (-1))))] [(1,.box 116 [(.sc (.slice none 0 0)),(.sc (.slice none 0 0)),(.sc (.slice none 0 0)),(.sc (.slice none 0 0)),(.imm 4 ([[(.J c.params),(.imm 10 (c.blocks.map encB)),(.imm 3 (c.contexts.map encR)),(.imm 3 ([]))]])),(.J steps),(.J 0),(.J 0),(.J n1),(.J e1),.any,(.sc (.slice none 0 0)),(.J 0),(.sc (.bool false)),(.sc (.I (valD D b.term.a))),(.sc (.slice none 0 0))])] 8 [.q ((.sc ((PX.findV (iv D) b.term.a).getD (.I 0)):PX.PV)=(.sc (.I (valD D b.term.a)))),.q (PX.Con Try.prog 97 [(.ptr 1 0),(.sc (.I (valD D b.term.a))),(.sc (.bool false))] [(1,.box 116 [(.sc (.slice none 0 0)),(.sc (.slice none 0 0)),(.sc (.slice none 0 0)),(.sc (.slice none 0 0)),(.imm 4 ([[(.J c.params),(.imm 10 (c.blocks.map encB)),(.imm 3 (c.contexts.map encR)),(.imm 3 ([]))]])),(.J steps),(.J 0),(.J 0),(.J n1),(.J e1),(.own 4 1 1),(.sc (.slice none 0 0)),(.J 0),(.sc (.bool false)),(.J val),(.sc (.slice none 0 0))]),(3,.box 142 [(.J 0),.any,(.map 6),.any,.any,.any,.any,.any,.any,.any,.any]),(6,.mp (iv D)),(4,.row 138 1 false ([[(.ptr 3 0)]]))] 8 8 (.tup [(.sc (.I (-1))),(.sc (.slice none 0 0))]) [(1,some (.box 116 [(.sc (.slice none 0 0)),(.sc (.slice none 0 0)),(.sc (.slice none 0 0)),(.sc (.slice none 0 0)),(.imm 4 ([[(.J c.params),(.imm 10 (c.blocks.map encB)),(.imm 3 (c.contexts.map encR)),(.imm 3 ([]))]])),(.J steps),(.J 0),(.J 0),(.J n1),(.J e1),.any,(.sc (.slice none 0 0)),(.J 0),(.sc (.bool false)),(.sc (.I (valD D b.term.a))),(.sc (.slice none 0 0))])),(3,none),(6,none),(4,none)])] [] [.au,.au,.au,.au,.au,.au,.au,.nm (.sc (.I (valD D b.term.a))),.au,.au,.au,.cl [1,3,6,4] (.tup [(.sc (.I (-1))),(.sc (.slice none 0 0))]) [(1,some (.box 116 [(.sc (.slice none 0 0)),(.sc (.slice none 0 0)),(.sc (.slice none 0 0)),(.sc (.slice none 0 0)),(.imm 4 ([[(.J c.params),(.imm 10 (c.blocks.map encB)),(.imm 3 (c.contexts.map encR)),(.imm 3 ([]))]])),(.J steps),(.J 0),(.J 0),(.J n1),(.J e1),.any,(.sc (.slice none 0 0)),(.J 0),(.sc (.bool false)),(.sc (.I (valD D b.term.a))),(.sc (.slice none 0 0))])),(3,none),(6,none),(4,none)] 8,.au,.au,.au,.au,.au] [0,2,6] [1] hS mixed hE ⟨look_iv D b.term.a,PX.con_as [(1,1),(3,2),(6,3),(4,4)] [(1,1),(2,3),(3,6),(4,4)] (con_f97 c steps n1 e1 0 val D (valD D b.term.a)) (by kernel_rfl) (by kernel_rfl) (by kernel_rfl) (by kernel_rfl) (by kernel_rfl) (by kernel_rfl),trivial⟩ fun a w hS=>?_
       replace hS:=PX.sl [0,2,6] (PX.reslot (t:=2) (.imm 1 []) hS rfl (PX.nil_imm 1))
       replace hS:=PX.sl [0,6] hS
       exact ⟨m,by omega,(-1),[],n1,e1,(valD D b.term.a),hf,by simp,.inr ⟨rfl,(PX.cn [] _ _ 5 hS hE)⟩⟩
  ·skip
   refine wp_exit ?_
   obtain ⟨rfl,rfl⟩:=fin_end hfin h4
   replace hS:=PX.recell (id:=1) (j:=8) .any hS rfl rfl rfl (PX.any_of rfl)
   replace hS:=PX.recell (id:=1) (j:=9) .any hS rfl rfl rfl (PX.any_of rfl)
   replace hS:=PX.recell (id:=1) (j:=10) .any hS rfl rfl rfl (PX.any_of rfl)
   exact PX.ret_s hS hE (by kernel_rfl) (by kernel_rfl) (by kernel_rfl) (by first | exact .inl rfl | exact .inr rfl)
 ·skip
  refine wp_seq_k fun K35 hK35=>?_
  refine PX.G [(.e 20 (.sc (.bool false)))] [] 5 [] [] [.au,.au] [0,6,20] [1] hS hE trivial fun a w hS=>?_
  refine PX.cond_s false hS (by kernel_rfl) (fun h36=>nomatch h36) (fun h36=>?_)
  refine wp_exit ?_
  obtain ⟨rfl,rfl⟩:=fin_end hfin rfl
  replace hS:=PX.recell (id:=1) (j:=8) .any hS rfl rfl rfl (PX.any_of rfl)
  replace hS:=PX.recell (id:=1) (j:=9) .any hS rfl rfl rfl (PX.any_of rfl)
  exact PX.ret_s hS hE (by kernel_rfl) (by kernel_rfl) (by kernel_rfl) (by first | exact .inl rfl | exact .inr rfl)
end Go.Proofs.Ytlkcidmmpeebeaa
