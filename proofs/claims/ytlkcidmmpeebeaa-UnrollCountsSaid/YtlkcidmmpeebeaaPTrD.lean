/- Proved: ir.Trace -/
import Derived.Test.YtlkcidmmpeebeaaPTrC
set_option linter.unusedVariables false
set_option linter.unusedSimpArgs false
namespace Go.Proofs.Ytlkcidmmpeebeaa
open Go.RowKit Go.PX
set_option maxRecDepth 100000
set_option maxHeartbeats 1000000 in
theorem con_f20 (c:CodeD) (hi:CodeI c) (hs:Simple c) (hfit:Fit c) (steps:Int) (F:Nat) (args:List Int) (err res:Int) (hfin0:finD c steps F 0 args 0 0 0=some (err,res)) (hal0:args.length≤1000000) (hst:0≤steps∧steps≤5000) (hargs:(args.length:Int)=c.params):PX.Con Try.prog 20 [(.agg [(.sc (.slice none 0 0)),(.sc (.slice none 0 0)),(.sc (.slice none 0 0)),(.sc (.slice none 0 0))]),(.agg [(.imm 4 ([[(.J c.params),(.imm 10 (c.blocks.map encB)),(.imm 3 (c.contexts.map encR)),(.imm 3 ([]))]]))]),(.J 0),(.imm 1 (args.map encI)),(.J steps),(.J 0),(.J 0)] [] 1 100000 (.tup [.sc (.slice none 0 0),.agg [.sc (.I err),.sc (.bool false),.sc (.I res),.sc (.slice none 0 0)]]) []:=by
 refine PX.con_intro [(.agg [(.sc (.slice none 0 0)),(.sc (.slice none 0 0)),(.sc (.slice none 0 0)),(.sc (.slice none 0 0))]),(.agg [(.imm 4 ([[(.J c.params),(.imm 10 (c.blocks.map encB)),(.imm 3 (c.contexts.map encR)),(.imm 3 ([]))]]))]),(.J 0),(.imm 1 (args.map encI)),(.J steps),(.J 0),(.J 0)] 86 Try.func20 rfl rfl (by kernel_rfl) (by kernel_rfl) ?_
 intro E a hE hS
 generalize E.w0=w at hS ⊢
 have mix:=mixed
 refine PX.G [(.e 7 (.ptr 1 0)),(.e 8 (.ptr 2 0)),(.e 15 (.ptr 3 0))] [(1,.box 47 [(.sc (.slice none 0 0)),(.sc (.slice none 0 0)),(.sc (.slice none 0 0)),(.sc (.slice none 0 0))]),(2,.box 51 [(.imm 4 ([[(.J c.params),(.imm 10 (c.blocks.map encB)),(.imm 3 (c.contexts.map encR)),(.imm 3 ([]))]]))]),(3,.box 37 [(.J 0),(.sc (.bool false)),(.J 0),(.sc (.slice none 0 0))])] 4 [] [] [.au,.au,.au,.au] [2,3,4,5,6,7,8,15] [1,2,3] hS hE trivial fun a w hS=>?_
 refine PX.G [(.e 16 (.J 0))] [] 4 [.q (PX.Con Try.prog 60 [(.agg [(.imm 4 ([[(.J c.params),(.imm 10 (c.blocks.map encB)),(.imm 3 (c.contexts.map encR)),(.imm 3 ([]))]]))])] [] 4 4 (.J 0) [])] [] [.au,.cl [] (.J 0) [] 4,.au] [2,3,4,5,6,7,8,15,16] [1,2,3] hS hE ⟨PX.con_any (con_f60 c hi hs hfit),trivial⟩ fun a w hS=>?_
 refine wp_seq_k fun K1 hK1=>?_
 refine PX.G [(.e 21 (.sc (.bool false)))] [] 4 [] [] [.au,.au] [2,3,4,5,6,7,8,15,16,21] [1,2,3] hS hE trivial fun a w hS=>?_
 refine PX.cond_s false hS (by kernel_rfl) (fun h2=>nomatch h2) (fun h2=>?_)
 refine wp_skip ?_
 refine hK1 _ _ ?_
 refine wp_seq_k fun K3 hK3=>?_
 refine PX.G [(.e 63 (.sc (.bool (((((((args.length:Int) != c.params)||decide (steps<0))||decide (5000<steps))||false)||false)||false))))] [] 4 [.q ((.sc (.I ((([[(.J c.params),(.imm 10 (c.blocks.map encB)),(.imm 3 (c.contexts.map encR)),(.imm 3 ([]))]]:List (List PX.PV)).length:Nat):Int)):PX.PV)=(.J 1)),.q ((.sc (.I (((args.map encI).length:Nat):Int)):PX.PV)=(.sc (.I (args.length:Int)))),.q (0=((0:Nat):Int)),.q (([[(.J c.params),(.imm 10 (c.blocks.map encB)),(.imm 3 (c.contexts.map encR)),(.imm 3 ([]))]]:List (List PX.PV))[0]?=some ([(.J c.params),(.imm 10 (c.blocks.map encB)),(.imm 3 (c.contexts.map encR)),(.imm 3 ([]))]))] [(20,((args.length:Int) != c.params)),(24,(((args.length:Int) != c.params)||decide (steps<0))),(28,((((args.length:Int) != c.params)||decide (steps<0))||decide (5000<steps))),(32,(((((args.length:Int) != c.params)||decide (steps<0))||decide (5000<steps))||false)),(36,((((((args.length:Int) != c.params)||decide (steps<0))||decide (5000<steps))||false)||false))] [.au,.au,.au,.au,.au,.au,.nm (.J 1),.au,.au,.au,.au,.nm (.sc (.I (args.length:Int))),.au,.au,.au,.ix 0 ([(.J c.params),(.imm 10 (c.blocks.map encB)),(.imm 3 (c.contexts.map encR)),(.imm 3 ([]))]),.au,.au,.au,.au,.au,.au,.au,.pk,.au,.au,.au,.pk,.au,.au,.au,.pk,.au,.au,.au,.pk,.au,.au,.au,.pk] [2,3,4,5,6,7,8,15,63] [1,2,3] hS hE ⟨rfl,PX.nm_len (by simp),rfl,rfl,trivial⟩ fun a w hS=>?_
 refine PX.cond_s (((((((args.length:Int) != c.params)||decide (steps<0))||decide (5000<steps))||false)||false)||false) hS (by kernel_rfl) (fun h4=>?_) (fun h4=>?_)
 ·skip
  exact absurd h4 (by simp [hargs]; omega)
 ·skip
  refine wp_skip ?_
  refine hK3 _ _ ?_
  refine PX.G [(.e 17 (.ptr 4 0))] [(4,.box 116 [(.sc (.slice none 0 0)),(.sc (.slice none 0 0)),(.sc (.slice none 0 0)),(.sc (.slice none 0 0)),(.imm 4 ([[(.J c.params),(.imm 10 (c.blocks.map encB)),(.imm 3 (c.contexts.map encR)),(.imm 3 ([]))]])),(.J steps),(.J 0),(.J 0),(.J 0),(.J 0),(.sc (.slice none 0 0)),(.sc (.slice none 0 0)),(.J 0),(.sc (.bool false)),(.J 0),(.sc (.slice none 0 0))])] 5 [] [] [.au,.au,.au,.au,.au,.au,.au,.au] [2,3,15,17] [3,4] hS hE trivial fun a w hS=>?_
  refine PX.G [] [(4,.box 116 [(.sc (.slice none 0 0)),(.sc (.slice none 0 0)),(.sc (.slice none 0 0)),(.sc (.slice none 0 0)),(.imm 4 ([[(.J c.params),(.imm 10 (c.blocks.map encB)),(.imm 3 (c.contexts.map encR)),(.imm 3 ([]))]])),(.J steps),(.J 0),(.J 0),.any,.any,.any,(.sc (.slice none 0 0)),(.J err),(.sc (.bool false)),(.J res),(.sc (.slice none 0 0))])] 7 [.b (lenIs 0 ([])),.b true,.b (Nat.ble (0+(args.map encI).length) 1000000000),.q (PX.Con Try.prog 61 [(.ptr 4 0),(.J 0),(.own 6 1 (0+(args.map encI).length))] [(4,.box 116 [(.sc (.slice none 0 0)),(.sc (.slice none 0 0)),(.sc (.slice none 0 0)),(.sc (.slice none 0 0)),(.imm 4 ([[(.J c.params),(.imm 10 (c.blocks.map encB)),(.imm 3 (c.contexts.map encR)),(.imm 3 ([]))]])),(.J steps),(.J 0),(.J 0),(.J 0),(.J 0),(.sc (.slice none 0 0)),(.sc (.slice none 0 0)),(.J 0),(.sc (.bool false)),(.J 0),(.sc (.slice none 0 0))]),(6,.row 3 1 true (args.map encI))] 7 7 (.tup []) [(4,some (.box 116 [(.sc (.slice none 0 0)),(.sc (.slice none 0 0)),(.sc (.slice none 0 0)),(.sc (.slice none 0 0)),(.imm 4 ([[(.J c.params),(.imm 10 (c.blocks.map encB)),(.imm 3 (c.contexts.map encR)),(.imm 3 ([]))]])),(.J steps),(.J 0),(.J 0),.any,.any,.any,(.sc (.slice none 0 0)),(.J err),(.sc (.bool false)),(.J res),(.sc (.slice none 0 0))])),(6,none)])] [] [.au,.au,.au,.au,.au,.cl [4,6] (.tup []) [(4,some (.box 116 [(.sc (.slice none 0 0)),(.sc (.slice none 0 0)),(.sc (.slice none 0 0)),(.sc (.slice none 0 0)),(.imm 4 ([[(.J c.params),(.imm 10 (c.blocks.map encB)),(.imm 3 (c.contexts.map encR)),(.imm 3 ([]))]])),(.J steps),(.J 0),(.J 0),.any,.any,.any,(.sc (.slice none 0 0)),(.J err),(.sc (.bool false)),(.J res),(.sc (.slice none 0 0))])),(6,none)] 7] [15,17] [3,4] hS hE ⟨rfl,rfl,by simp; omega,PX.con_as [(4,1),(6,2)] [(1,4),(2,6)] (con_f61 c hi hs hfit steps F args err res hfin0 hal0) (by kernel_rfl) (by kernel_rfl) (by kernel_rfl) (by kernel_rfl) (by kernel_rfl) (by kernel_rfl),trivial⟩ fun a w hS=>?_
  refine PX.D [(.e 14 (.sc (.slice none 0 0)))] [(3,.box 37 [(.J err),(.sc (.bool false)),(.J res),(.sc (.slice none 0 0))])] 7 [] [] [.au,.au,.au,.au,.au,.au,.au,.au,.au,.au] [14,15] [3] hS mixed hE trivial fun a w hS=>?_
  refine wp_ret ?_
  try simp only [Exit.then,Exit.inBlock,Nat.reduceEqDiff,↓reduceIte]
  exact PX.ret_s hS hE (by kernel_rfl) (by kernel_rfl) (by kernel_rfl) (.inl rfl)
end Go.Proofs.Ytlkcidmmpeebeaa
