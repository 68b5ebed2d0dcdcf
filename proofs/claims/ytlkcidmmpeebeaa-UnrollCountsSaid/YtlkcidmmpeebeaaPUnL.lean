/- Proved: unroll.Unroll on plain data -/
import Derived.Test.YtlkcidmmpeebeaaPUnK
import Derived.Test.YtlkcidmmpeebeaaUnA
set_option linter.unusedVariables false
set_option linter.unusedSimpArgs false
namespace Go.Proofs.Ytlkcidmmpeebeaa
open Go.RowKit Go.PX
set_option maxRecDepth 100000
set_option maxHeartbeats 1000000 in
theorem con_f23 (c:CodeD) (hi:CodeI c):PX.Con Try.prog 23 [(codeP c)] [] 1 100000 (if P.check c (totW c.blocks)=0 then codeP (unrD c) else codeP c) []:=by
 refine PX.con_intro [(codeP c)] 14 Try.func23 rfl rfl (by kernel_rfl) (by kernel_rfl) ?_
 intro E a hE hS
 generalize E.w0=w at hS ⊢
 have mix:=mixed
 refine PX.G [(.e 1 (.ptr 1 0)),(.e 2 (.ptr 2 0))] [(1,.box 26 (codeL c)),(2,.box 26 [(.J 0),(.sc (.slice none 0 0)),(.sc (.slice none 0 0)),(.sc (.slice none 0 0))])] 3 [] [] [.au,.au] [1,2] [1,2] hS hE trivial fun a w hS=>?_
 refine wp_seq_k fun K1 hK1=>?_
 refine PX.G [(.e 6 (.sc (.bool ((P.check c (totW c.blocks)) != 0))))] [] 3 [.q (PX.Con Try.prog 46 [(codeP c)] [] 3 3 (.sc (.I (P.check c (totW c.blocks)))) [])] [] [.au,.cl [] (.sc (.I (P.check c (totW c.blocks)))) [] 3,.au] [1,2,6] [1,2] hS hE ⟨con_check hi,trivial⟩ fun a w hS=>?_
 refine PX.cond_s ((P.check c (totW c.blocks)) != 0) hS (by kernel_rfl) (fun h2=>?_) (fun h2=>?_)
 ·skip
  refine PX.G [] [(2,.box 26 (codeL c))] 3 [] [] [.au,.au] [2] [2] hS hE trivial fun a w hS=>?_
  refine wp_ret ?_
  try simp only [Exit.then,Exit.inBlock,Nat.reduceEqDiff,↓reduceIte]
  rw [show (if P.check c (totW c.blocks)=0 then codeP (unrD c) else codeP c)=((codeP c):PX.PV) from by rw [if_neg (by simpa using h2)] <;> rfl]
  exact PX.ret_s hS hE (by kernel_rfl) (by kernel_rfl) (by kernel_rfl) (.inl rfl)
 ·skip
  refine wp_skip ?_
  refine hK1 _ _ ?_
  have hchp:P.check c (totW c.blocks)=0:=by simpa using h2
  have hchk:R.check c (totW c.blocks)=0:=by rw [check_eq]; exact hchp
  have hfit:=fit_of hi hchk; have hfb:=hfit.blocks
  refine PX.G [(.e 3 (.ptr 4 0))] [(3,.row 62 10 true (c.blocks.map encB)),(4,.box 26 [(.J c.params),(.own 3 10 c.blocks.length),(.imm 3 (c.contexts.map encR)),(.imm 3 (c.objects.map encR))])] 5 [.q (PX.Con Try.prog 64 [(codeP c)] [] 3 4 (.agg [(.J c.params),(.own 3 10 c.blocks.length),(.imm 3 (c.contexts.map encR)),(.imm 3 (c.objects.map encR))]) [(3,some (.row 62 10 true (c.blocks.map encB)))])] [] [.au,.cl [] (.agg [(.J c.params),(.own 3 10 c.blocks.length),(.imm 3 (c.contexts.map encR)),(.imm 3 (c.objects.map encR))]) [(3,some (.row 62 10 true (c.blocks.map encB)))] 4,.au,.au] [1,2,3] [1,2,3,4] hS hE ⟨PX.con_as [(3,1)] [(1,3)] (con_f64 c hi hfit) (by kernel_rfl) (by kernel_rfl) (by kernel_rfl) (by kernel_rfl) (by kernel_rfl) (by kernel_rfl),trivial⟩ fun a w hS=>?_
  refine PX.G [] [(3,.row 62 10 true ((turnL c (c.blocks.length-1)).map encB))] 5 [.q (PX.Con Try.prog 65 [(codeP c),(.ptr 4 0)] [(4,.box 26 [(.J c.params),(.own 3 10 c.blocks.length),(.imm 3 (c.contexts.map encR)),(.imm 3 (c.objects.map encR))]),(3,.row 62 10 true ((turnL c (0)).map encB))] 5 5 (.tup []) [(4,some (.box 26 [(.J c.params),(.own 3 10 c.blocks.length),(.imm 3 (c.contexts.map encR)),(.imm 3 (c.objects.map encR))])),(3,some (.row 62 10 true ((turnL c (c.blocks.length-1)).map encB)))])] [] [.au,.cl [4,3] (.tup []) [(4,some (.box 26 [(.J c.params),(.own 3 10 c.blocks.length),(.imm 3 (c.contexts.map encR)),(.imm 3 (c.objects.map encR))])),(3,some (.row 62 10 true ((turnL c (c.blocks.length-1)).map encB)))] 5] [2,3] [2,3,4] hS hE ⟨PX.con_as [(4,1),(3,2)] [(1,4),(2,3)] (con_f65 c hi hchk hfit hfb) (by kernel_rfl) (by kernel_rfl) (by kernel_rfl) (by kernel_rfl) (by kernel_rfl) (by kernel_rfl),trivial⟩ fun a w hS=>?_
  replace hS:=PX.recell (id:=4) (j:=1) (.own 3 10 ((turnL c (c.blocks.length-1)).length)) hS rfl rfl rfl (fun _ _ _ _ h=>(show PX.PV.own 3 10 c.blocks.length=.own 3 10 ((turnL c (c.blocks.length-1)).length) from by rw [turnL_len]) ▸ h)
  refine PX.G [] [(4,.box 26 [(.J c.params),(.own 5 10 ((copyL (turnL c (c.blocks.length-1)) ((turnL c (c.blocks.length-1)).length)).length)),(.imm 3 (c.contexts.map encR)),(.imm 3 (c.objects.map encR))]),(5,.row 62 10 true ((copyL (turnL c (c.blocks.length-1)) ((turnL c (c.blocks.length-1)).length)).map encB))] 6 [.q (PX.Con Try.prog 66 [(.ptr 4 0)] [(4,.box 26 [(.J c.params),(.own 3 10 ((turnL c (c.blocks.length-1)).length)),(.imm 3 (c.contexts.map encR)),(.imm 3 (c.objects.map encR))]),(3,.row 62 10 true ((turnL c (c.blocks.length-1)).map encB))] 5 6 (.tup []) [(4,some (.box 26 [(.J c.params),(.own 5 10 ((copyL (turnL c (c.blocks.length-1)) ((turnL c (c.blocks.length-1)).length)).length)),(.imm 3 (c.contexts.map encR)),(.imm 3 (c.objects.map encR))])),(3,none),(5,some (.row 62 10 true ((copyL (turnL c (c.blocks.length-1)) ((turnL c (c.blocks.length-1)).length)).map encB)))])] [] [.cl [4,3] (.tup []) [(4,some (.box 26 [(.J c.params),(.own 5 10 ((copyL (turnL c (c.blocks.length-1)) ((turnL c (c.blocks.length-1)).length)).length)),(.imm 3 (c.contexts.map encR)),(.imm 3 (c.objects.map encR))])),(3,none),(5,some (.row 62 10 true ((copyL (turnL c (c.blocks.length-1)) ((turnL c (c.blocks.length-1)).length)).map encB)))] 6] [2,3] [2,4,5] hS hE ⟨PX.con_as [(4,1),(3,2),(5,3)] [(1,4),(2,3),(3,5)] (con_f66 c.params (turnL c (c.blocks.length-1)) (c.contexts.map encR) (c.objects.map encR) (by rw [turnL_len]; exact hfb) (good_turn hi hchk hfit _)) (by kernel_rfl) (by kernel_rfl) (by kernel_rfl) (by kernel_rfl) (by kernel_rfl) (by kernel_rfl),trivial⟩ fun a w hS=>?_
  refine PX.G [] [(2,.box 26 [(.J c.params),(.own 5 10 ((copyL (turnL c (c.blocks.length-1)) ((turnL c (c.blocks.length-1)).length)).length)),(.imm 3 (c.contexts.map encR)),(.imm 3 (c.objects.map encR))])] 6 [] [] [.au,.au] [2] [2,5] hS hE trivial fun a w hS=>?_
  rw [turnL_len] at hS
  replace hS:=PX.fz 5 [] [(2,.box 26 [(.J c.params),(.imm 10 ((copyL (turnL c (c.blocks.length-1)) (c.blocks.length)).map encB)),(.imm 3 (c.contexts.map encR)),(.imm 3 (c.objects.map encR))])] [2] [2] [.b (PX.lenIs ((copyL (turnL c (c.blocks.length-1)) (c.blocks.length)).length) ((copyL (turnL c (c.blocks.length-1)) (c.blocks.length)).map encB))] hS ⟨(by simp [PX.lenIs]),trivial⟩
  refine wp_ret ?_
  try simp only [Exit.then,Exit.inBlock,Nat.reduceEqDiff,↓reduceIte]
  rw [show (if P.check c (totW c.blocks)=0 then codeP (unrD c) else codeP c)=((.agg [(.J c.params),(.imm 10 ((copyL (turnL c (c.blocks.length-1)) (c.blocks.length)).map encB)),(.imm 3 (c.contexts.map encR)),(.imm 3 (c.objects.map encR))]):PX.PV) from by rw [if_pos hchp] <;> rfl]
  exact PX.ret_s hS hE (by kernel_rfl) (by kernel_rfl) (by kernel_rfl) (.inl rfl)
end Go.Proofs.Ytlkcidmmpeebeaa
