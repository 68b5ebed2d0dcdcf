/- Proved: AllocRaw on plain data -/
import Derived.Test.YtlkcidmmpeebeaaPAlO
import Derived.Test.YtlkcidmmpeebeaaPSmall
set_option linter.unusedVariables false
set_option linter.unusedSimpArgs false
namespace Go.Proofs.Ytlkcidmmpeebeaa
open Go.RowKit Go.PX
set_option maxRecDepth 100000
theorem layD_bd {keep:Bool} {c:CodeD} (hi:CodeI c):(layD keep c).objects.length≤1000000∧(layD keep c).places.length≤1000000∧∀ y∈(layD keep c).places,y.length≤1000000:=by
 unfold layD
 split
 ·rename_i h
  have hf:=fit_of hi h
  have h1:=hf.obj
  have h2:=hf.blocks
  refine ⟨by simp only; rw [objA_len c _ _ (Nat.le_refl _)]; omega,by simp only [plA,List.length_map,List.length_take]; omega,fun y hy=>?_⟩
  simp only [plA,List.take_length] at hy
  obtain ⟨b,hb,rfl⟩:=List.mem_map.1 hy
  obtain ⟨k,hk⟩:=List.getElem?_of_mem hb
  have hc:=cnt_val (blk_ok h hk)
  unfold blkPl
  simp only
  rw [(opsK_len _ _ _ _ _).2.2]
  unfold cnD; omega
 ·simp
theorem m144_all {c:CodeD} (hi:CodeI c) (h:R.check c (totW c.blocks)=0):∀ b∈c.blocks,M144 (cnD b) b:=fun b hb=>by
 obtain ⟨k,hk⟩:=List.getElem?_of_mem hb
 refine m144 (aok_of (fit_of hi h) h hk).1 fun o ho=>?_
 have hoi:=(hi.2.1 b hb).2.1 o ho
 exact ⟨hoi.2.2.2.2.2.1,hoi.2.2.2.2.2.2.1,hoi.2.2.2.2.2.2.2.1⟩

set_option maxHeartbeats 1000000 in
theorem allocRaw_con (keep:Bool) (c:CodeD) (hi:CodeI c) (hl:c.blocks.length≤140737488351232) (hargs:∀ b∈c.blocks,b.term.args0.length*8≤839909376∧b.term.args1.length*8≤839909376):PX.Con Try.prog 7 [(codeP c),(.sc (.bool keep))] [] 1 100000 (.sc (.bool true)) []:=by
 refine PX.con_intro [(codeP c),(.sc (.bool keep))] 35 Try.func7 rfl rfl (by kernel_rfl) (by kernel_rfl) ?_
 intro E a hE hS
 generalize E.w0=w at hS ⊢
 have mix:=mixed
 refine PX.G [(.e 2 (.ptr 1 0))] [(1,.box 26 (codeL c))] 2 [] [] [.au,.au] [1,2] [1] hS hE trivial fun a w hS=>?_
 refine wp_seq_k fun K1 hK1=>?_
 refine PX.G [(.e 9 (.sc (.bool (!(smallD c)))))] [] 2 [.q (PX.Con Try.prog 13 [(codeP c)] [] 2 2 (.sc (.bool (smallD c))) [])] [] [.au,.cl [] (.sc (.bool (smallD c))) [] 2,.au] [1,2,9] [1] hS hE ⟨PX.con_any (small_con c hi hl),trivial⟩ fun a w hS=>?_
 refine PX.cond_s (!(smallD c)) hS (by kernel_rfl) (fun h2=>?_) (fun h2=>?_)
 ·skip
  refine PX.G [(.e 4 (.sc (.bool true)))] [] 2 [.q (PX.Con Try.prog 27 [] [] 2 2 (.sc (.bool true)) [])] [] [.cl [] (.sc (.bool true)) [] 2,.au] [4] [] hS hE ⟨con_known15_any,trivial⟩ fun a w hS=>?_
  refine wp_ret ?_
  exact PX.rt hS hE (.inl rfl)
 ·skip
  refine wp_skip ?_
  refine hK1 _ _ ?_
  refine wp_seq_k fun K3 hK3=>?_
  refine PX.G [(.e 12 (.imm 10 (c.blocks.map encB))),(.e 13 (.sc (.I (c.blocks.length:Int)))),(.e 14 (.J 0))] [] 2 [.q ((.sc (.I (((c.blocks.map encB).length:Nat):Int)):PX.PV)=(.sc (.I (c.blocks.length:Int))))] [] [.au,.au,.nm (.sc (.I (c.blocks.length:Int))),.au] [1,2,12,13,14] [1] hS hE ⟨PX.nm_len (by simp),trivial⟩ fun a w hS=>?_
  refine wp_block ?_
  refine wp_loop_ghost (fun m4 a' w'=>∃ k:Nat,m4=c.blocks.length-k∧k≤c.blocks.length∧True∧PX.Sat E 35 [(.e 1 (.sc (.bool keep))),(.e 2 (.ptr 1 0)),(.e 12 (.imm 10 (c.blocks.map encB))),(.e 13 (.sc (.I (c.blocks.length:Int)))),(.e 14 (.sc (.I (k:Int))))] [(1,.box 26 (codeL c))] 2 a' w') (c.blocks.length-0) ⟨0,rfl,Nat.zero_le _,trivial,(PX.cn [] _ _ 2 hS hE)⟩ ?_
  clear hS; rintro m4 a w ⟨k,hm4,hlek,hIk,hS⟩
  refine PX.G [(.e 15 (.sc (.bool (decide ((k:Int)<(c.blocks.length:Int))))))] [] 2 [] [] [.au] [1,2,12,13,14,15] [1] hS hE trivial fun a w hS=>?_
  refine wp_seq_k fun K5 hK5=>?_
  refine PX.cond_s (decide ((k:Int)<(c.blocks.length:Int))) hS (by kernel_rfl) (fun h6=>?_) (fun h6=>?_)
  ·skip
   refine wp_skip ?_
   refine hK5 _ _ ?_
   refine wp_seq_k fun K7 hK7=>?_
   refine wp_block ?_
   have hlty:k<c.blocks.length:=by simpa using h6
   obtain ⟨y,hy⟩:=get_of_lt hlty
   have hya:=hargs y (List.mem_of_getElem? hy); have hsl:=savedD_len y.term
   refine PX.G [(.e 6 (.ptr 2 0))] [(2,.box 62 (encB y))] 3 [.q ((k:Int)=(k:Int)),.q ((c.blocks.map encB)[k]?=some (encB y))] [] [.ix k (encB y),.au,.au,.au] [1,2,6,12,13,14] [1,2] hS hE ⟨rfl,PX.map_get hy,trivial⟩ fun a w hS=>?_
   refine PX.D [(.e 23 (.sc (.bool false)))] [] 3 [.q (PX.Con Try.prog 29 [(.agg (encB y))] [] 3 3 (.imm 1 ((savedD y.term).map encI)) []),.q (PX.Con Try.prog 30 [(.agg (encB y))] [] 3 3 (.imm 1 ((savedD y.term).map encI)) []),.q (PX.Con Try.prog 28 [(.imm 1 ((savedD y.term).map encI)),(.imm 1 ((savedD y.term).map encI))] [] 3 3 (.sc (.bool true)) [])] [] [.au,.cl [] (.imm 1 ((savedD y.term).map encI)) [] 3,.au,.cl [] (.imm 1 ((savedD y.term).map encI)) [] 3,.cl [] (.sc (.bool true)) [] 3,.au] [1,2,12,13,14,23] [1] hS mixed hE ⟨PX.con_any (con_f29 y (by omega)),PX.con_any (con_f30 y (by omega)),PX.con_any (con_f28s (savedD y.term) (by omega)),trivial⟩ fun a w hS=>?_
   refine PX.cond_s false hS (by kernel_rfl) (fun h8=>nomatch h8) (fun h8=>?_)
   refine wp_skip ?_
   refine hK7 _ _ ?_
   refine PX.G0 [(.e 14 (.sc (.I ((k+1:Nat):Int))))] [] 3 [.q ((.sc (.I (IntKind.i64.wrap ((k:Int)+1))):PX.PV)=(.sc (.I ((k+1:Nat):Int))))] [] [.nm (.sc (.I ((k+1:Nat):Int))),.au] [1,2,12,13,14] [1] hS hE ⟨PX.nm_int (by rw [IntWalk.i64_in _ (by omega)]; omega),trivial⟩ fun a w hS=>?_
   exact ⟨c.blocks.length-(k+1),by omega,k+1,rfl,by omega,trivial,(PX.cn [] _ _ 2 hS hE)⟩
  ·skip
   refine wp_exit ?_
   refine hK3 _ _ ?_
   refine PX.D [(.e 4 (.sc (.bool true)))] [] 2 [.q (PX.Con Try.prog 32 [(codeP c),(.sc (.bool keep))] [] 2 2 (.agg [(.imm 1 ((layD keep c).places.map encPl)),(.sc (.I ((layD keep c).slots))),(.sc (.I ((layD keep c).saves))),(.imm 1 ((layD keep c).objects.map encI)),(.sc (.I ((layD keep c).size)))]) []),.q (PX.Con Try.prog 33 [(codeP c),(.sc (.bool keep))] [] 2 2 (.agg [(.imm 1 ((layD keep c).places.map encPl)),(.sc (.I ((layD keep c).slots))),(.sc (.I ((layD keep c).saves))),(.imm 1 ((layD keep c).objects.map encI)),(.sc (.I ((layD keep c).size)))]) []),.q (PX.Con Try.prog 31 [(.agg [(.imm 1 ((layD keep c).places.map encPl)),(.sc (.I ((layD keep c).slots))),(.sc (.I ((layD keep c).saves))),(.imm 1 ((layD keep c).objects.map encI)),(.sc (.I ((layD keep c).size)))]),(.agg [(.imm 1 ((layD keep c).places.map encPl)),(.sc (.I ((layD keep c).slots))),(.sc (.I ((layD keep c).saves))),(.imm 1 ((layD keep c).objects.map encI)),(.sc (.I ((layD keep c).size)))])] [] 2 2 (.sc (.bool true)) []),.q (PX.Con Try.prog 27 [] [] 2 2 (.sc (.bool true)) [])] [] [.au,.au,.cl [] (.agg [(.imm 1 ((layD keep c).places.map encPl)),(.sc (.I ((layD keep c).slots))),(.sc (.I ((layD keep c).saves))),(.imm 1 ((layD keep c).objects.map encI)),(.sc (.I ((layD keep c).size)))]) [] 2,.au,.au,.cl [] (.agg [(.imm 1 ((layD keep c).places.map encPl)),(.sc (.I ((layD keep c).slots))),(.sc (.I ((layD keep c).saves))),(.imm 1 ((layD keep c).objects.map encI)),(.sc (.I ((layD keep c).size)))]) [] 2,.cl [] (.sc (.bool true)) [] 2,.au,.cl [] (.sc (.bool true)) [] 2,.au,.au] [4] [] hS mixed hE ⟨PX.con_any (con_f32 keep c hi (fun _ h=>m144_all hi h)),PX.con_any (con_f33 keep c hi),PX.con_any (con_f31 (layD keep c) (layD_bd hi).1 (layD_bd hi).2.1 (layD_bd hi).2.2),con_known15_any,trivial⟩ fun a w hS=>?_
   refine wp_ret ?_
   exact PX.rt hS hE (.inl rfl)
end Go.Proofs.Ytlkcidmmpeebeaa
