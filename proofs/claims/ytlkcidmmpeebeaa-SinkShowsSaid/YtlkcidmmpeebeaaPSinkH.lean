/- Proved: sink.Sink on plain data -/
import Derived.Test.YtlkcidmmpeebeaaPcG
set_option linter.unusedVariables false
set_option linter.unusedSimpArgs false
namespace Go.Proofs.Ytlkcidmmpeebeaa
open Go.RowKit Go.PX
set_option maxRecDepth 100000
set_option maxHeartbeats 1000000 in
theorem sink_con (c:CodeD) (hi:CodeI c):PX.Con Try.prog 41 [(codeP c)] [] 1 100000 (if P.check c (totW c.blocks)=0 then codeP (sinkD c) else codeP c) []:=by
 refine PX.con_intro [(codeP c)] 62 Try.func41 rfl rfl (by kernel_rfl) (by kernel_rfl) ?_
 intro E a hE hS
 generalize E.w0=w at hS ⊢
 have mix:=mixed
 refine PX.G [(.e 1 (.ptr 1 0)),(.e 2 (.ptr 2 0))] [(1,.box 26 (codeL c)),(2,.box 26 [(.J 0),(.sc (.slice none 0 0)),(.sc (.slice none 0 0)),(.sc (.slice none 0 0))])] 3 [] [] [.au,.au] [1,2] [1,2] hS hE trivial fun a w hS=>?_
 refine wp_seq_k fun K1 hK1=>?_
 refine PX.G [(.e 10 (.sc (.bool ((P.check c (totW c.blocks)) != 0))))] [] 3 [.q (PX.Con Try.prog 46 [(codeP c)] [] 3 3 (.sc (.I (P.check c (totW c.blocks)))) [])] [] [.au,.cl [] (.sc (.I (P.check c (totW c.blocks)))) [] 3,.au] [1,2,10] [1,2] hS hE ⟨con_check hi,trivial⟩ fun a w hS=>?_
 refine PX.cond_s ((P.check c (totW c.blocks)) != 0) hS (by kernel_rfl) (fun h2=>?_) (fun h2=>?_)
 ·skip
  refine PX.G [] [(2,.box 26 (codeL c))] 3 [] [] [.au,.au] [2] [2] hS hE trivial fun a w hS=>?_
  refine wp_ret ?_
  try simp only [Exit.then,Exit.inBlock,Nat.reduceEqDiff,↓reduceIte]
  rw [show (if P.check c (totW c.blocks)=0 then codeP (sinkD c) else codeP c)=((codeP c):PX.PV) from by rw [if_neg (by simpa using h2)] <;> rfl]
  exact PX.ret_s hS hE (by kernel_rfl) (by kernel_rfl) (by kernel_rfl) (.inl rfl)
 ·skip
  refine wp_skip ?_
  refine hK1 _ _ ?_
  have hchk:P.check c (totW c.blocks)=0:=by simpa using h2
  have hR:R.check c (totW c.blocks)=0:=by rw [check_eq]; exact hchk
  have hfit:=fit_of hi hR
  have hfb:=hfit.blocks
  refine PX.D [(.e 3 (.ptr 3 0))] [(3,.box 26 [(.J c.params),(.sc (.slice none 0 0)),(.imm 3 (c.contexts.map encR)),(.imm 3 (c.objects.map encR))])] 4 [.q (PX.Con Try.prog 47 [(.imm 3 (c.contexts.map encR))] [] 3 3 (.imm 3 (c.contexts.map encR)) []),.q (PX.Con Try.prog 48 [(.imm 3 (c.objects.map encR))] [] 3 3 (.imm 3 (c.objects.map encR)) [])] [] [.au,.au,.au,.au,.cl [] (.imm 3 (c.contexts.map encR)) [] 3,.au,.au,.cl [] (.imm 3 (c.objects.map encR)) [] 3,.au,.au,.au] [1,2,3] [1,2,3] hS mixed hE ⟨con_cloneC hi.2.2.1 (by have:=hfit.ctx; omega),con_cloneO hi.2.2.2 (by have:=hfit.obj; omega),trivial⟩ fun a w hS=>?_
  refine wp_seq_k fun K3 hK3=>?_
  refine PX.G [(.e 22 (.imm 10 (c.blocks.map encB))),(.e 23 (.sc (.I (c.blocks.length:Int)))),(.e 24 (.J 0))] [] 4 [.q ((.sc (.I (((c.blocks.map encB).length:Nat):Int)):PX.PV)=(.sc (.I (c.blocks.length:Int))))] [] [.au,.au,.nm (.sc (.I (c.blocks.length:Int))),.au] [2,3,22,23,24] [2,3] hS hE ⟨PX.nm_len (by simp),trivial⟩ fun a w hS=>?_
  refine wp_block ?_
  replace hS:=PX.recell (id:=3) (j:=1) (.own 4 10 0) (PX.newrow 62 10 hS (hE.le (by decide))) rfl rfl rfl (PX.nil_own 4 10)
  refine wp_loop_ghost (fun m4 a' w'=>∃ k:Nat,m4=c.blocks.length-k∧k≤c.blocks.length∧True∧PX.Sat E 62 [(.e 2 (.ptr 2 0)),(.e 3 (.ptr 3 0)),(.e 22 (.imm 10 (c.blocks.map encB))),(.e 23 (.sc (.I (c.blocks.length:Int)))),(.e 24 (.sc (.I (k:Int))))] [(2,.box 26 [(.J 0),(.sc (.slice none 0 0)),(.sc (.slice none 0 0)),(.sc (.slice none 0 0))]),(3,.box 26 [(.J c.params),(.own 4 10 k),(.imm 3 (c.contexts.map encR)),(.imm 3 (c.objects.map encR))]),(4,.row 62 10 true (((c.blocks.take (k)).map sinkB).map encB))] 5 a' w') (c.blocks.length-0) ⟨0,rfl,Nat.zero_le _,trivial,(PX.canon [] _ _ 5 hS hE (by kernel_rfl) (by kernel_rfl) (by kernel_rfl))⟩ ?_
  clear hS; rintro m4 a w ⟨k,hm4,hlek,hIk,hS⟩
  refine PX.G [(.e 25 (.sc (.bool (decide ((k:Int)<(c.blocks.length:Int))))))] [] 5 [] [] [.au] [2,3,22,23,24,25] [2,3,4] hS hE trivial fun a w hS=>?_
  refine wp_seq_k fun K5 hK5=>?_
  refine PX.cond_s (decide ((k:Int)<(c.blocks.length:Int))) hS (by kernel_rfl) (fun h6=>?_) (fun h6=>?_)
  ·skip
   refine wp_skip ?_
   refine hK5 _ _ ?_
   refine wp_seq_k fun K7 hK7=>?_
   refine wp_block ?_
   have hlty:k<c.blocks.length:=by simpa using h6
   obtain ⟨y,hy⟩:=get_of_lt hlty
   have hym:=List.mem_of_getElem? hy; have hyI:=hi.2.1 y hym; have hyF:=hfit.term y hym; have hyO:=hfit.ops y hym
   refine PX.G [(.e 5 (.ptr 5 0))] [(5,.box 62 (encB y))] 6 [.q ((k:Int)=(k:Int)),.q ((c.blocks.map encB)[k]?=some (encB y))] [] [.ix k (encB y),.au,.au,.au] [2,3,5,22,23,24] [2,3,4,5] hS hE ⟨rfl,PX.map_get hy,trivial⟩ fun a w hS=>?_
   refine PX.G [(.e 6 (.ptr 6 0))] [(6,.box 60 [(.J y.term.kind),(.J y.term.a),(.J y.term.n),(.imm 1 (y.term.args.map encI)),(.J y.term.b0),(.imm 1 (y.term.args0.map encI)),(.J y.term.b1),(.imm 1 (y.term.args1.map encI))])] 7 [] [] [.au,.au,.au,.au] [2,3,5,6,22,23,24] [2,3,4,5,6] hS hE trivial fun a w hS=>?_
   refine PX.G [] [(6,.box 60 [(.J y.term.kind),(.J y.term.a),(.J y.term.n),(.imm 1 (y.term.args.map encI)),(.J y.term.b0),(.imm 1 (y.term.args0.map encI)),(.J y.term.b1),(.imm 1 (y.term.args1.map encI))])] 7 [.q (PX.Con Try.prog 49 [(.imm 1 (y.term.args.map encI))] [] 7 7 (.imm 1 (y.term.args.map encI)) [])] [] [.au,.au,.cl [] (.imm 1 (y.term.args.map encI)) [] 7,.au,.au] [2,3,5,6,22,23,24] [2,3,4,5,6] hS hE ⟨con_cloneI hyI.2.2.1 (by omega),trivial⟩ fun a w hS=>?_
   refine wp_seq_k fun K8 hK8=>?_
   refine PX.G [(.e 34 (.J 0))] [] 7 [] [] [.au] [2,3,5,6,22,23,24,34] [2,3,4,5,6] hS hE trivial fun a w hS=>?_
   refine wp_block ?_
   refine wp_loop_rounds 3 ?_
   rw [rounds_succ]
   refine PX.G [(.e 35 (.sc (.bool true)))] [] 7 [] [] [.au] [2,3,5,6,22,23,24,34,35] [2,3,4,5,6] hS hE trivial fun a w hS=>?_
   refine wp_seq_k fun K9 hK9=>?_
   refine PX.cond_s true hS (by kernel_rfl) (fun h10=>?_) (fun h10=>nomatch h10)
   refine wp_skip ?_
   refine hK9 _ _ ?_
   refine wp_seq_k fun K11 hK11=>?_
   refine wp_block ?_
   refine PX.G [(.e 7 (.J 0))] [] 7 [] [] [.au,.au] [2,3,5,6,7,22,23,24,34] [2,3,4,5,6] hS hE trivial fun a w hS=>?_
   refine PX.G0 [] [(6,.box 60 [(.J y.term.kind),(.J y.term.a),(.J y.term.n),(.imm 1 (y.term.args.map encI)),(.J y.term.b0),(.imm 1 (y.term.args0.map encI)),(.J y.term.b1),(.imm 1 (y.term.args1.map encI))])] 7 [.q (PX.Con Try.prog 49 [(.imm 1 (y.term.args0.map encI))] [] 7 7 (.imm 1 (y.term.args0.map encI)) [])] [] [.au,.au,.au,.au,.au,.au,.cl [] (.imm 1 (y.term.args0.map encI)) [] 7,.au,.au,.au,.au] [2,3,5,6,22,23,24,34] [2,3,4,5,6] hS hE ⟨con_cloneI hyI.2.2.2.1 (by omega),trivial⟩ fun a w hS=>?_
   refine hK11 _ _ ?_
   refine PX.G0 [(.e 34 (.J 1))] [] 7 [] [] [.au,.au] [2,3,5,6,22,23,24,34] [2,3,4,5,6] hS hE trivial fun a w hS=>?_
   show Code.rounds _ _ _ 2 _ _
   rw [rounds_succ]
   refine PX.G [(.e 35 (.sc (.bool true)))] [] 7 [] [] [.au] [2,3,5,6,22,23,24,34,35] [2,3,4,5,6] hS hE trivial fun a w hS=>?_
   refine wp_seq_k fun K12 hK12=>?_
   refine PX.cond_s true hS (by kernel_rfl) (fun h13=>?_) (fun h13=>nomatch h13)
   refine wp_skip ?_
   refine hK12 _ _ ?_
   refine wp_seq_k fun K14 hK14=>?_
   refine wp_block ?_
   refine PX.G [(.e 7 (.J 1))] [] 7 [] [] [.au,.au] [2,3,5,6,7,22,23,24,34] [2,3,4,5,6] hS hE trivial fun a w hS=>?_
   refine PX.G0 [] [(6,.box 60 [(.J y.term.kind),(.J y.term.a),(.J y.term.n),(.imm 1 (y.term.args.map encI)),(.J y.term.b0),(.imm 1 (y.term.args0.map encI)),(.J y.term.b1),(.imm 1 (y.term.args1.map encI))])] 7 [.q (PX.Con Try.prog 49 [(.imm 1 (y.term.args1.map encI))] [] 7 7 (.imm 1 (y.term.args1.map encI)) [])] [] [.au,.au,.au,.au,.au,.au,.cl [] (.imm 1 (y.term.args1.map encI)) [] 7,.au,.au,.au,.au] [2,3,5,6,22,23,24,34] [2,3,4,5,6] hS hE ⟨con_cloneI hyI.2.2.2.2.1 (by omega),trivial⟩ fun a w hS=>?_
   refine hK14 _ _ ?_
   refine PX.G0 [(.e 34 (.J 2))] [] 7 [] [] [.au,.au] [2,3,5,6,22,23,24,34] [2,3,4,5,6] hS hE trivial fun a w hS=>?_
   show Code.rounds _ _ _ 1 _ _
   rw [rounds_succ]
   refine PX.G [(.e 35 (.sc (.bool false)))] [] 7 [] [] [.au] [2,3,5,6,22,23,24,34,35] [2,3,4,5,6] hS hE trivial fun a w hS=>?_
   refine wp_seq_k fun K15 hK15=>?_
   refine PX.cond_s false hS (by kernel_rfl) (fun h16=>nomatch h16) (fun h16=>?_)
   refine wp_exit ?_
   refine hK8 _ _ ?_
   refine PX.D0 [] [(3,.box 26 [(.J c.params),(.own 8 10 ((((c.blocks.take (k)).map sinkB).map encB:List (List PX.PV)).length+1)),(.imm 3 (c.contexts.map encR)),(.imm 3 (c.objects.map encR))]),(8,.row 62 10 true (((c.blocks.take (k)).map sinkB).map encB++[[(.J y.params),(.imm 11 ((sinkL y.ops).map encO)),(.J y.term.kind),(.J y.term.a),(.J y.term.n),(.imm 1 (y.term.args.map encI)),(.J y.term.b0),(.imm 1 (y.term.args0.map encI)),(.J y.term.b1),(.imm 1 (y.term.args1.map encI))]]))] 9 [.q (PX.Con Try.prog 78 [(.imm 11 (y.ops.map encO))] [] 7 7 (.imm 11 ((sinkL y.ops).map encO)) []),.b (lenIs k (((c.blocks.take (k)).map sinkB).map encB)),.b (lenIs 1 ([[(.J y.params),(.imm 11 ((sinkL y.ops).map encO)),(.J y.term.kind),(.J y.term.a),(.J y.term.n),(.imm 1 (y.term.args.map encI)),(.J y.term.b0),(.imm 1 (y.term.args0.map encI)),(.J y.term.b1),(.imm 1 (y.term.args1.map encI))]])),.b (Nat.ble ((((c.blocks.take (k)).map sinkB).map encB:List (List PX.PV)).length+1) 1000000000)] [] [.au,.au,.au,.au,.au,.au,.cl [] (.imm 11 ((sinkL y.ops).map encO)) [] 7,.au,.au,.au,.au,.au,.au] [2,3,22,23,24] [2,3,8] hS mixed hE ⟨PX.con_any (order_con y.ops (by omega)),by simp [PX.lenIs]; omega,rfl,by simp; have:=hfit.blocks; omega,trivial⟩ fun a w hS=>?_
   refine hK7 _ _ ?_
   refine PX.G0 [(.e 24 (.sc (.I ((k+1:Nat):Int))))] [] 9 [.q ((.sc (.I (IntKind.i64.wrap ((k:Int)+1))):PX.PV)=(.sc (.I ((k+1:Nat):Int))))] [] [.nm (.sc (.I ((k+1:Nat):Int))),.au] [2,3,22,23,24] [2,3,8] hS hE ⟨PX.nm_int (by rw [IntWalk.i64_in _ (by omega)]; omega),trivial⟩ fun a w hS=>?_
   have e2:(((c.blocks.take (k)).map sinkB).map encB:List (List PX.PV)).length+1=k+1:=by simp; omega
   have e1:(((c.blocks.take (k)).map sinkB).map encB++[[(.J y.params),(.imm 11 ((sinkL y.ops).map encO)),(.J y.term.kind),(.J y.term.a),(.J y.term.n),(.imm 1 (y.term.args.map encI)),(.J y.term.b0),(.imm 1 (y.term.args0.map encI)),(.J y.term.b1),(.imm 1 (y.term.args1.map encI))]])=((c.blocks.take (k+1)).map sinkB).map encB:=by rw [List.take_add_one,hy]; simp [sinkB,encB]
   rw [e2,e1] at hS
   exact ⟨c.blocks.length-(k+1),by omega,k+1,rfl,by omega,trivial,(PX.canon [(4,8)] _ _ 5 hS hE (by kernel_rfl) (by kernel_rfl) (by kernel_rfl))⟩
  ·skip
   refine wp_exit ?_
   refine hK3 _ _ ?_
   refine PX.G [] [(2,.box 26 [(.J c.params),(.own 4 10 k),(.imm 3 (c.contexts.map encR)),(.imm 3 (c.objects.map encR))])] 5 [] [] [.au,.au] [2] [2,4] hS hE trivial fun a w hS=>?_
   have hk:c.blocks.length≤k:=by simpa using h6
   replace hS:=PX.fz 4 [] [(2,.box 26 [(.J c.params),(.imm 10 (((c.blocks.take (k)).map sinkB).map encB)),(.imm 3 (c.contexts.map encR)),(.imm 3 (c.objects.map encR))])] [2] [2] [.b (PX.lenIs k (((c.blocks.take (k)).map sinkB).map encB))] hS ⟨(by simp [PX.lenIs]; omega),trivial⟩
   refine wp_ret ?_
   try simp only [Exit.then,Exit.inBlock,Nat.reduceEqDiff,↓reduceIte]
   rw [show (if P.check c (totW c.blocks)=0 then codeP (sinkD c) else codeP c)=((.agg [(.J c.params),(.imm 10 (((c.blocks.take (k)).map sinkB).map encB)),(.imm 3 (c.contexts.map encR)),(.imm 3 (c.objects.map encR))]):PX.PV) from by rw [if_pos hchk]; unfold sinkD codeP; rw [List.take_of_length_le hk]]
   exact PX.ret_s hS hE (by kernel_rfl) (by kernel_rfl) (by kernel_rfl) (.inl rfl)
end Go.Proofs.Ytlkcidmmpeebeaa
