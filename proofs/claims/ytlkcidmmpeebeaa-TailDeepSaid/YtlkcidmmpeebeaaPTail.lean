/- Proved: tailcall.Tail on plain data -/
import Derived.Test.YtlkcidmmpeebeaaPTlA
import Derived.Test.YtlkcidmmpeebeaaPSmall
set_option linter.unusedVariables false
set_option linter.unusedSimpArgs false
namespace Go.Proofs.Ytlkcidmmpeebeaa
open Go.RowKit Go.PX
set_option maxRecDepth 100000
theorem tail_a {c:CodeD} {t:Int} (h:R.check c t=0) {b:BlockD} {k:Nat} (hb:c.blocks[k]?=some b) (ht:isTailD c b.term=true):b.term.a=0:=by
   have h3:b.term.kind=3:=by
    unfold isTailD at ht
    split at ht
    ·cases ht
    ·rename_i q; simp only [Bool.or_eq_true,bne_iff_ne,ne_eq,not_or,Classical.not_not] at q; exact q.1.1
   have hb2:=(check_parts h).2.2 b (List.mem_of_getElem? hb)
   unfold R.term at hb2
   simp only [h3] at hb2
   split at hb2
   ·cases hb2
   ·rename_i q
    by_cases ha:b.term.a=0
    ·exact ha
    ·exact absurd (by simp [ha]) q
  
set_option maxHeartbeats 1000000 in
theorem tail_con (c:CodeD) (hi:CodeI c):PX.Con Try.prog 15 [(codeP c)] [] 1 100000 (if P.check c (totW c.blocks)=0 then codeP (tailD c) else codeP c) []:=by
 refine PX.con_intro [(codeP c)] 83 Try.func15 rfl rfl (by kernel_rfl) (by kernel_rfl) ?_
 intro E a hE hS
 generalize E.w0=w at hS ⊢
 have mix:=mixed
 refine PX.G [(.e 1 (.ptr 1 0)),(.e 2 (.ptr 2 0))] [(1,.box 26 (codeL c)),(2,.box 26 [(.J 0),(.sc (.slice none 0 0)),(.sc (.slice none 0 0)),(.sc (.slice none 0 0))])] 3 [] [] [.au,.au] [1,2] [1,2] hS hE trivial fun a w hS=>?_
 refine wp_seq_k fun K1 hK1=>?_
 refine PX.G [(.e 11 (.sc (.bool ((P.check c (totW c.blocks)) != 0))))] [] 3 [.q (PX.Con Try.prog 46 [(codeP c)] [] 3 3 (.sc (.I (P.check c (totW c.blocks)))) [])] [] [.au,.cl [] (.sc (.I (P.check c (totW c.blocks)))) [] 3,.au] [1,2,11] [1,2] hS hE ⟨con_check hi,trivial⟩ fun a w hS=>?_
 refine PX.cond_s ((P.check c (totW c.blocks)) != 0) hS (by kernel_rfl) (fun h2=>?_) (fun h2=>?_)
 ·skip
  refine PX.G [] [(2,.box 26 (codeL c))] 3 [] [] [.au,.au] [2] [2] hS hE trivial fun a w hS=>?_
  refine wp_ret ?_
  rw [show (if P.check c (totW c.blocks)=0 then codeP (tailD c) else codeP c)=((codeP c):PX.PV) from by rw [if_neg (by simpa using h2)] <;> rfl]
  exact PX.rt hS hE (.inl rfl)
 ·skip
  refine wp_skip ?_
  refine hK1 _ _ ?_
  have hchk:P.check c (totW c.blocks)=0:=by simpa using h2
  have hR:R.check c (totW c.blocks)=0:=by rw [check_eq]; exact hchk
  have hfit:=fit_of hi hR
  have hfb:=hfit.blocks
  refine PX.D [(.e 3 (.ptr 3 0))] [(3,.box 26 [(.J c.params),(.sc (.slice none 0 0)),(.imm 3 (c.contexts.map encR)),(.imm 3 (c.objects.map encR))])] 4 [.q (PX.Con Try.prog 47 [(.imm 3 (c.contexts.map encR))] [] 3 3 (.imm 3 (c.contexts.map encR)) []),.q (PX.Con Try.prog 48 [(.imm 3 (c.objects.map encR))] [] 3 3 (.imm 3 (c.objects.map encR)) [])] [] [.au,.au,.au,.au,.cl [] (.imm 3 (c.contexts.map encR)) [] 3,.au,.au,.cl [] (.imm 3 (c.objects.map encR)) [] 3,.au,.au,.au] [1,2,3] [1,2,3] hS mixed hE ⟨con_cloneC hi.2.2.1 (by have:=hfit.ctx; omega),con_cloneO hi.2.2.2 (by have:=hfit.obj; omega),trivial⟩ fun a w hS=>?_
  refine wp_seq_k fun K3 hK3=>?_
  refine PX.G [(.e 23 (.imm 10 (c.blocks.map encB))),(.e 24 (.sc (.I (c.blocks.length:Int)))),(.e 25 (.J 0))] [] 4 [.q ((.sc (.I (((c.blocks.map encB).length:Nat):Int)):PX.PV)=(.sc (.I (c.blocks.length:Int))))] [] [.au,.au,.nm (.sc (.I (c.blocks.length:Int))),.au] [1,2,3,23,24,25] [1,2,3] hS hE ⟨PX.nm_len (by simp),trivial⟩ fun a w hS=>?_
  refine wp_block ?_
  replace hS:=PX.recell (id:=3) (j:=1) (.own 4 10 0) (PX.newrow 62 10 hS (hE.le (by decide))) rfl rfl rfl (PX.nil_own 4 10)
  refine wp_loop_ghost (fun m4 a' w'=>∃ k:Nat,m4=c.blocks.length-k∧k≤c.blocks.length∧True∧PX.Sat E 83 [(.e 1 (.ptr 1 0)),(.e 2 (.ptr 2 0)),(.e 3 (.ptr 3 0)),(.e 23 (.imm 10 (c.blocks.map encB))),(.e 24 (.sc (.I (c.blocks.length:Int)))),(.e 25 (.sc (.I (k:Int))))] [(1,.box 26 (codeL c)),(2,.box 26 [(.J 0),(.sc (.slice none 0 0)),(.sc (.slice none 0 0)),(.sc (.slice none 0 0))]),(3,.box 26 [(.J c.params),(.own 4 10 k),(.imm 3 (c.contexts.map encR)),(.imm 3 (c.objects.map encR))]),(4,.row 62 10 true (((c.blocks.take (k)).map (tailB c)).map encB))] 5 a' w') (c.blocks.length-0) ⟨0,rfl,Nat.zero_le _,trivial,(PX.cn [] _ _ 5 hS hE)⟩ ?_
  clear hS; rintro m4 a w ⟨k,hm4,hlek,hIk,hS⟩
  refine PX.G [(.e 26 (.sc (.bool (decide ((k:Int)<(c.blocks.length:Int))))))] [] 5 [] [] [.au] [1,2,3,23,24,25,26] [1,2,3,4] hS hE trivial fun a w hS=>?_
  refine wp_seq_k fun K5 hK5=>?_
  refine PX.cond_s (decide ((k:Int)<(c.blocks.length:Int))) hS (by kernel_rfl) (fun h6=>?_) (fun h6=>?_)
  ·skip
   refine wp_skip ?_
   refine hK5 _ _ ?_
   refine wp_seq_k fun K7 hK7=>?_
   refine wp_block ?_
   have hlty:k<c.blocks.length:=by simpa using h6
   obtain ⟨y,hy⟩:=get_of_lt hlty
   have hym:=List.mem_of_getElem? hy; have hyI:=hi.2.1 y hym; have hyF:=hfit.term y hym
   refine PX.G [(.e 5 (.ptr 5 0))] [(5,.box 62 (encB y))] 6 [.q ((k:Int)=(k:Int)),.q ((c.blocks.map encB)[k]?=some (encB y))] [] [.ix k (encB y),.au,.au,.au] [1,2,3,5,23,24,25] [1,2,3,4,5] hS hE ⟨rfl,PX.map_get hy,trivial⟩ fun a w hS=>?_
   refine PX.D [(.e 6 (.ptr 6 0))] [(6,.box 60 [(.J y.term.kind),(.J y.term.a),(.J y.term.n),(.imm 1 (y.term.args.map encI)),(.J 0),(.sc (.slice none 0 0)),(.J 0),(.sc (.slice none 0 0))])] 7 [.q (PX.Con Try.prog 49 [(.imm 1 (y.term.args.map encI))] [] 6 6 (.imm 1 (y.term.args.map encI)) [])] [] [.au,.au,.au,.au,.au,.au,.au,.au,.au,.au,.au,.au,.cl [] (.imm 1 (y.term.args.map encI)) [] 6,.au,.au,.au] [1,2,3,5,6,23,24,25] [1,2,3,4,5,6] hS mixed hE ⟨con_cloneI hyI.2.2.1 (by omega),trivial⟩ fun a w hS=>?_
   refine wp_seq_k fun K8 hK8=>?_
   refine PX.G [(.e 46 (.sc (.bool (isTailD c y.term))))] [] 7 [.q (PX.Con Try.prog 50 [(codeP c),(.agg [(.J y.term.kind),(.J y.term.a),(.J y.term.n),(.imm 1 (y.term.args.map encI)),(.J y.term.b0),(.imm 1 (y.term.args0.map encI)),(.J y.term.b1),(.imm 1 (y.term.args1.map encI))])] [] 7 7 (.sc (.bool (isTailD c y.term))) [])] [] [.au,.au,.au,.cl [] (.sc (.bool (isTailD c y.term))) [] 7] [1,2,3,5,6,23,24,25,46] [1,2,3,4,5,6] hS hE ⟨con_isTail hi (fun hx=>check_in hR hy (by simp only [Bool.or_eq_false_iff,bne_eq_false_iff_eq] at hx; exact hx.1.1)),trivial⟩ fun a w hS=>?_
   refine PX.cond_s (isTailD c y.term) hS (by kernel_rfl) (fun h9=>?_) (fun h9=>?_)
   ·skip
    refine PX.G [] [(6,.box 60 [(.J 6),(.J y.term.a),(.J y.term.n),(.imm 1 (y.term.args.map encI)),(.J 0),(.sc (.slice none 0 0)),(.J 0),(.sc (.slice none 0 0))])] 7 [] [] [.au,.au] [1,2,3,5,6,23,24,25] [1,2,3,4,5,6] hS hE trivial fun a w hS=>?_
    refine PX.G0 [] [(6,.box 60 [(.J 6),(.J y.term.a),(.J y.term.n),(.imm 1 (y.term.args.map encI)),(.sc (.I (-1))),(.sc (.slice none 0 0)),(.sc (.I (-1))),(.sc (.slice none 0 0))])] 7 [] [] [.au,.au,.au,.au,.au] [1,2,3,5,6,23,24,25] [1,2,3,4,5,6] hS hE trivial fun a w hS=>?_
    replace hS:=PX.recell (id:=6) (j:=5) (.imm 1 []) hS rfl rfl rfl (PX.nil_imm 1)
    replace hS:=PX.recell (id:=6) (j:=7) (.imm 1 []) hS rfl rfl rfl (PX.nil_imm 1)
    refine hK8 _ _ ?_
    refine PX.D0 [] [(3,.box 26 [(.J c.params),(.own 8 10 ((((c.blocks.take (k)).map (tailB c)).map encB:List (List PX.PV)).length+1)),(.imm 3 (c.contexts.map encR)),(.imm 3 (c.objects.map encR))]),(8,.row 62 10 true (((c.blocks.take (k)).map (tailB c)).map encB++[[(.J y.params),(.imm 11 (y.ops.map encO)),(.J 6),(.J y.term.a),(.J y.term.n),(.imm 1 (y.term.args.map encI)),(.sc (.I (-1))),(.imm 1 ([])),(.sc (.I (-1))),(.imm 1 ([]))]]))] 9 [.q (PX.Con Try.prog 51 [(.imm 11 (y.ops.map encO))] [] 7 7 (.imm 11 (y.ops.map encO)) []),.b (lenIs k (((c.blocks.take (k)).map (tailB c)).map encB)),.b (lenIs 1 ([[(.J y.params),(.imm 11 (y.ops.map encO)),(.J 6),(.J y.term.a),(.J y.term.n),(.imm 1 (y.term.args.map encI)),(.sc (.I (-1))),(.imm 1 ([])),(.sc (.I (-1))),(.imm 1 ([]))]])),.b (Nat.ble ((((c.blocks.take (k)).map (tailB c)).map encB:List (List PX.PV)).length+1) 1000000000)] [] [.au,.au,.au,.au,.au,.au,.cl [] (.imm 11 (y.ops.map encO)) [] 7,.au,.au,.au,.au,.au,.au] [1,2,3,23,24,25] [1,2,3,8] hS mixed hE ⟨con_cloneP hyI.2.1 (by have:=hfit.ops y hym; omega),by simp [PX.lenIs]; omega,rfl,by simp; have:=hfit.blocks; omega,trivial⟩ fun a w hS=>?_
    refine hK7 _ _ ?_
    refine PX.G0 [(.e 25 (.sc (.I ((k+1:Nat):Int))))] [] 9 [.q ((.sc (.I (IntKind.i64.wrap ((k:Int)+1))):PX.PV)=(.sc (.I ((k+1:Nat):Int))))] [] [.nm (.sc (.I ((k+1:Nat):Int))),.au] [1,2,3,23,24,25] [1,2,3,8] hS hE ⟨PX.nm_int (by rw [IntWalk.i64_in _ (by omega)]; omega),trivial⟩ fun a w hS=>?_
    have e2:(((c.blocks.take (k)).map (tailB c)).map encB:List (List PX.PV)).length+1=k+1:=by simp; omega
    have ha0:=tail_a hR hy h9
    have e1:(((c.blocks.take (k)).map (tailB c)).map encB++[[(.J y.params),(.imm 11 (y.ops.map encO)),(.J 6),(.J y.term.a),(.J y.term.n),(.imm 1 (y.term.args.map encI)),(.sc (.I (-1))),(.imm 1 ([])),(.sc (.I (-1))),(.imm 1 ([]))]])=((c.blocks.take (k+1)).map (tailB c)).map encB:=by rw [List.take_add_one,hy]; simp [tailB,h9,tailY,tailT,encB,ha0]
    rw [e2,e1] at hS
    exact ⟨c.blocks.length-(k+1),by omega,k+1,rfl,by omega,trivial,(PX.cn [(4,8)] _ _ 5 hS hE)⟩
   ·skip
    refine PX.G [(.e 54 (.agg [(.J y.term.b0),(.imm 1 (y.term.args0.map encI)),(.J y.term.b1),(.imm 1 (y.term.args1.map encI))])),(.e 55 (.J 0))] [] 7 [] [] [.au,.au,.au,.au] [1,2,3,5,6,23,24,25,54,55] [1,2,3,4,5,6] hS hE trivial fun a w hS=>?_
    refine wp_block ?_
    refine wp_loop_rounds 3 ?_
    rw [rounds_succ]
    refine PX.G [(.e 56 (.sc (.bool true)))] [] 7 [] [] [.au] [1,2,3,5,6,23,24,25,54,55,56] [1,2,3,4,5,6] hS hE trivial fun a w hS=>?_
    refine wp_seq_k fun K10 hK10=>?_
    refine PX.cond_s true hS (by kernel_rfl) (fun h11=>?_) (fun h11=>nomatch h11)
    refine wp_skip ?_
    refine hK10 _ _ ?_
    refine wp_seq_k fun K12 hK12=>?_
    refine wp_block ?_
    refine PX.G [(.e 7 (.J 0)),(.e 8 (.ptr 7 0))] [(7,.box 57 [(.J y.term.b0),(.imm 1 (y.term.args0.map encI))])] 8 [.q (0=((0:Nat):Int))] [] [.au,.ix 0 [],.au,.au,.au] [1,2,3,5,6,7,8,23,24,25,54,55] [1,2,3,4,5,6,7] hS hE ⟨rfl,trivial⟩ fun a w hS=>?_
    refine PX.D0 [] [(6,.box 60 [(.J y.term.kind),(.J y.term.a),(.J y.term.n),(.imm 1 (y.term.args.map encI)),(.J y.term.b0),(.imm 1 (y.term.args0.map encI)),(.J 0),(.sc (.slice none 0 0))])] 8 [.q (PX.Con Try.prog 49 [(.imm 1 (y.term.args0.map encI))] [] 8 8 (.imm 1 (y.term.args0.map encI)) [])] [] [.au,.au,.au,.au,.au,.cl [] (.imm 1 (y.term.args0.map encI)) [] 8,.au,.au,.au,.au] [1,2,3,5,6,23,24,25,54,55] [1,2,3,4,5,6] hS mixed hE ⟨con_cloneI hyI.2.2.2.1 (by omega),trivial⟩ fun a w hS=>?_
    refine hK12 _ _ ?_
    refine PX.G0 [(.e 55 (.J 1))] [] 8 [] [] [.au,.au] [1,2,3,5,6,23,24,25,54,55] [1,2,3,4,5,6] hS hE trivial fun a w hS=>?_
    show Code.rounds _ _ _ 2 _ _
    rw [rounds_succ]
    refine PX.G [(.e 56 (.sc (.bool true)))] [] 8 [] [] [.au] [1,2,3,5,6,23,24,25,54,55,56] [1,2,3,4,5,6] hS hE trivial fun a w hS=>?_
    refine wp_seq_k fun K13 hK13=>?_
    refine PX.cond_s true hS (by kernel_rfl) (fun h14=>?_) (fun h14=>nomatch h14)
    refine wp_skip ?_
    refine hK13 _ _ ?_
    refine wp_seq_k fun K15 hK15=>?_
    refine wp_block ?_
    refine PX.G [(.e 7 (.J 1)),(.e 8 (.ptr 8 0))] [(8,.box 57 [(.J y.term.b1),(.imm 1 (y.term.args1.map encI))])] 9 [.q (1=((1:Nat):Int))] [] [.au,.ix 1 [],.au,.au,.au] [1,2,3,5,6,7,8,23,24,25,54,55] [1,2,3,4,5,6,8] hS hE ⟨rfl,trivial⟩ fun a w hS=>?_
    refine PX.D0 [] [(6,.box 60 [(.J y.term.kind),(.J y.term.a),(.J y.term.n),(.imm 1 (y.term.args.map encI)),(.J y.term.b0),(.imm 1 (y.term.args0.map encI)),(.J y.term.b1),(.imm 1 (y.term.args1.map encI))])] 9 [.q (PX.Con Try.prog 49 [(.imm 1 (y.term.args1.map encI))] [] 9 9 (.imm 1 (y.term.args1.map encI)) [])] [] [.au,.au,.au,.au,.au,.cl [] (.imm 1 (y.term.args1.map encI)) [] 9,.au,.au,.au,.au] [1,2,3,5,6,23,24,25,54,55] [1,2,3,4,5,6] hS mixed hE ⟨con_cloneI hyI.2.2.2.2.1 (by omega),trivial⟩ fun a w hS=>?_
    refine hK15 _ _ ?_
    refine PX.G0 [(.e 55 (.J 2))] [] 9 [] [] [.au,.au] [1,2,3,5,6,23,24,25,54,55] [1,2,3,4,5,6] hS hE trivial fun a w hS=>?_
    show Code.rounds _ _ _ 1 _ _
    rw [rounds_succ]
    refine PX.G [(.e 56 (.sc (.bool false)))] [] 9 [] [] [.au] [1,2,3,5,6,23,24,25,54,55,56] [1,2,3,4,5,6] hS hE trivial fun a w hS=>?_
    refine wp_seq_k fun K16 hK16=>?_
    refine PX.cond_s false hS (by kernel_rfl) (fun h17=>nomatch h17) (fun h17=>?_)
    refine wp_exit ?_
    refine hK8 _ _ ?_
    refine PX.D0 [] [(3,.box 26 [(.J c.params),(.own 10 10 ((((c.blocks.take (k)).map (tailB c)).map encB:List (List PX.PV)).length+1)),(.imm 3 (c.contexts.map encR)),(.imm 3 (c.objects.map encR))]),(10,.row 62 10 true (((c.blocks.take (k)).map (tailB c)).map encB++[(encB y)]))] 11 [.q (PX.Con Try.prog 51 [(.imm 11 (y.ops.map encO))] [] 9 9 (.imm 11 (y.ops.map encO)) []),.b (lenIs k (((c.blocks.take (k)).map (tailB c)).map encB)),.b (lenIs 1 ([(encB y)])),.b (Nat.ble ((((c.blocks.take (k)).map (tailB c)).map encB:List (List PX.PV)).length+1) 1000000000)] [] [.au,.au,.au,.au,.au,.au,.cl [] (.imm 11 (y.ops.map encO)) [] 9,.au,.au,.au,.au,.au,.au] [1,2,3,23,24,25] [1,2,3,10] hS mixed hE ⟨con_cloneP hyI.2.1 (by have:=hfit.ops y hym; omega),by simp [PX.lenIs]; omega,rfl,by simp; have:=hfit.blocks; omega,trivial⟩ fun a w hS=>?_
    refine hK7 _ _ ?_
    refine PX.G0 [(.e 25 (.sc (.I ((k+1:Nat):Int))))] [] 11 [.q ((.sc (.I (IntKind.i64.wrap ((k:Int)+1))):PX.PV)=(.sc (.I ((k+1:Nat):Int))))] [] [.nm (.sc (.I ((k+1:Nat):Int))),.au] [1,2,3,23,24,25] [1,2,3,10] hS hE ⟨PX.nm_int (by rw [IntWalk.i64_in _ (by omega)]; omega),trivial⟩ fun a w hS=>?_
    have e2:(((c.blocks.take (k)).map (tailB c)).map encB:List (List PX.PV)).length+1=k+1:=by simp; omega
    have e1:(((c.blocks.take (k)).map (tailB c)).map encB++[(encB y)])=((c.blocks.take (k+1)).map (tailB c)).map encB:=by rw [List.take_add_one,hy]; simp [tailB,h9,tailY,tailT,encB]
    rw [e2,e1] at hS
    exact ⟨c.blocks.length-(k+1),by omega,k+1,rfl,by omega,trivial,(PX.cn [(4,10)] _ _ 5 hS hE)⟩
  ·skip
   refine wp_exit ?_
   refine hK3 _ _ ?_
   refine PX.G [] [(2,.box 26 [(.J c.params),(.own 4 10 k),(.imm 3 (c.contexts.map encR)),(.imm 3 (c.objects.map encR))])] 5 [] [] [.au,.au] [2] [2,4] hS hE trivial fun a w hS=>?_
   have hk:c.blocks.length≤k:=by simpa using h6
   replace hS:=PX.fz 4 [] [(2,.box 26 [(.J c.params),(.imm 10 (((c.blocks.take (k)).map (tailB c)).map encB)),(.imm 3 (c.contexts.map encR)),(.imm 3 (c.objects.map encR))])] [2] [2] [.b (PX.lenIs k (((c.blocks.take (k)).map (tailB c)).map encB))] hS ⟨(by simp [PX.lenIs]; omega),trivial⟩
   refine wp_ret ?_
   rw [show (if P.check c (totW c.blocks)=0 then codeP (tailD c) else codeP c)=((.agg [(.J c.params),(.imm 10 (((c.blocks.take (k)).map (tailB c)).map encB)),(.imm 3 (c.contexts.map encR)),(.imm 3 (c.objects.map encR))]):PX.PV) from by rw [if_pos hchk,List.take_of_length_le hk] <;> rfl]
   exact PX.rt hS hE (.inl rfl)
end Go.Proofs.Ytlkcidmmpeebeaa
