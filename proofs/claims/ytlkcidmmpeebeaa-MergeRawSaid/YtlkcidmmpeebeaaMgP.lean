/- Proved: debuggerref09.Remove -/
import Derived.Test.YtlkcidmmpeebeaaMgD
set_option linter.unusedVariables false
set_option linter.unusedSimpArgs false
namespace Go.Proofs.Ytlkcidmmpeebeaa
open Go.RowKit Go.PX
set_option maxRecDepth 100000
set_option maxHeartbeats 400000 in
theorem con_f119 (c:CodeD) (t:Int) (ht:0≤t) (hl:c.blocks.length≤1000000):PX.Con Try.prog 119 [(codeP c),(.J t)] [] 1 100000 (.agg [(.sc (.I ((remD c t).params))),(.imm 10 (((remD c t).blocks).map encB)),(.imm 3 (((remD c t).contexts).map encR)),(.imm 3 (((remD c t).objects).map encR))]) []:=by
 refine PX.con_intro [(codeP c),(.J t)] 53 Try.func119 rfl rfl (by kernel_rfl) (by kernel_rfl) ?_
 intro E a hE hS
 generalize E.w0=w at hS ⊢
 have mix:=mixed
 refine PX.G [(.e 2 (.ptr 1 0)),(.e 4 (.ptr 2 0))] [(1,.box 26 (codeL c)),(2,.box 26 [(.J 0),(.sc (.slice none 0 0)),(.sc (.slice none 0 0)),(.sc (.slice none 0 0))])] 3 [] [] [.au,.au] [1,2,4] [1,2] hS hE trivial fun a w hS=>?_
 refine PX.G [(.e 5 (.ptr 3 0))] [(3,.box 26 (codeL c))] 4 [] [] [.au,.au,.au] [1,2,4,5] [1,2,3] hS hE trivial fun a w hS=>?_
 refine PX.G [] [(3,.box 26 [(.J c.params),(.sc (.slice none 0 0)),(.imm 3 (c.contexts.map encR)),(.imm 3 (c.objects.map encR))])] 4 [] [] [.au,.au] [1,2,4,5] [1,2,3] hS hE trivial fun a w hS=>?_
 refine wp_seq_k fun K1 hK1=>?_
 refine PX.G [(.e 12 (.imm 10 (c.blocks.map encB))),(.e 13 (.sc (.I (c.blocks.length:Int)))),(.e 14 (.J 0))] [] 4 [.q ((.sc (.I (((c.blocks.map encB).length:Nat):Int)):PX.PV)=(.sc (.I (c.blocks.length:Int))))] [] [.au,.au,.nm (.sc (.I (c.blocks.length:Int))),.au] [1,4,5,12,13,14] [2,3] hS hE ⟨PX.nm_len (by simp),trivial⟩ fun a w hS=>?_
 refine wp_block ?_
 replace hS:=PX.recell (id:=3) (j:=1) (.own 4 10 0) (PX.newrow 62 10 hS (hE.le (by decide))) rfl rfl rfl (PX.nil_own 4 10)
 refine wp_loop_ghost (fun m2 a' w'=>∃ k:Nat,m2=c.blocks.length-k∧k≤c.blocks.length∧True∧PX.Sat E 53 [(.e 1 (.J t)),(.e 4 (.ptr 2 0)),(.e 5 (.ptr 3 0)),(.e 12 (.imm 10 (c.blocks.map encB))),(.e 13 (.sc (.I (c.blocks.length:Int)))),(.e 14 (.sc (.I (k:Int))))] [(2,.box 26 [(.J 0),(.sc (.slice none 0 0)),(.sc (.slice none 0 0)),(.sc (.slice none 0 0))]),(3,.box 26 [(.J c.params),(.own 4 10 ((remK c t (k)).length)),(.imm 3 (c.contexts.map encR)),(.imm 3 (c.objects.map encR))]),(4,.row 62 10 true ((remK c t (k)).map encB))] 5 a' w') (c.blocks.length-0) ⟨0,rfl,Nat.zero_le _,trivial,(PX.cn [] _ _ 5 hS hE)⟩ ?_
 clear hS; rintro m2 a w ⟨k,hm2,hlek,hIk,hS⟩
 refine PX.G [(.e 15 (.sc (.bool (decide ((k:Int)<(c.blocks.length:Int))))))] [] 5 [] [] [.au] [1,4,5,12,13,14,15] [2,3,4] hS hE trivial fun a w hS=>?_
 refine wp_seq_k fun K3 hK3=>?_
 refine PX.cond_s (decide ((k:Int)<(c.blocks.length:Int))) hS (by kernel_rfl) (fun h4=>?_) (fun h4=>?_)
 ·skip
  refine wp_skip ?_
  refine hK3 _ _ ?_
  refine wp_seq_k fun K5 hK5=>?_
  refine wp_block ?_
  have hlty:k<c.blocks.length:=by simpa using h4
  obtain ⟨y,hy⟩:=get_of_lt hlty
  refine PX.G [(.e 6 (.sc (.I (k:Int)))),(.e 7 (.ptr 5 0))] [(5,.box 62 (encB y))] 6 [.q ((k:Int)=(k:Int)),.q ((c.blocks.map encB)[k]?=some (encB y))] [] [.au,.ix k (encB y),.au,.au,.au,.au] [1,4,5,6,7,12,13,14] [2,3,4,5] hS hE ⟨rfl,PX.map_get hy,trivial⟩ fun a w hS=>?_
  refine wp_seq_k fun K6 hK6=>?_
  refine PX.G [(.e 21 (.sc (.bool ((k:Int)==t))))] [] 6 [] [] [.au,.au,.au] [1,4,5,7,12,13,14,21] [2,3,4,5] hS hE trivial fun a w hS=>?_
  refine PX.cond_s ((k:Int)==t) hS (by kernel_rfl) (fun h7=>?_) (fun h7=>?_)
  ·skip
   refine wp_exit ?_
   refine hK5 _ _ ?_
   refine PX.G0 [(.e 14 (.sc (.I ((k+1:Nat):Int))))] [] 6 [.q ((.sc (.I (IntKind.i64.wrap ((k:Int)+1))):PX.PV)=(.sc (.I ((k+1:Nat):Int))))] [] [.nm (.sc (.I ((k+1:Nat):Int))),.au] [1,4,5,12,13,14] [2,3,4] hS hE ⟨PX.nm_int (by rw [IntWalk.i64_in _ (by omega)]; omega),trivial⟩ fun a w hS=>?_
   rw [show (remK c t (k))=remK c t (k+1) from (remK_at ht h7).symm] at hS
   exact ⟨c.blocks.length-(k+1),by omega,k+1,rfl,by omega,trivial,(PX.cn [] _ _ 5 hS hE)⟩
  ·skip
   refine wp_skip ?_
   refine hK6 _ _ ?_
   refine wp_seq_k fun K8 hK8=>?_
   refine PX.G [(.e 8 (.J 0))] [] 6 [] [] [.au] [1,4,5,7,8,12,13,14] [2,3,4,5] hS hE trivial fun a w hS=>?_
   refine wp_block ?_
   refine wp_loop_rounds 3 ?_
   rw [rounds_succ]
   refine wp_seq_k fun K9 hK9=>?_
   refine PX.G [(.e 23 (.sc (.bool true)))] [] 6 [] [] [.au,.au] [1,4,5,7,8,12,13,14,23] [2,3,4,5] hS hE trivial fun a w hS=>?_
   refine PX.cond_s true hS (by kernel_rfl) (fun h10=>?_) (fun h10=>nomatch h10)
   refine wp_skip ?_
   refine hK9 _ _ ?_
   refine PX.seq_cut (E:=E) (N:=53) (T:=[(.e 1 (.J t)),(.e 4 (.ptr 2 0)),(.e 5 (.ptr 3 0)),(.e 7 (.ptr 5 0)),(.e 8 (.J 0)),(.e 12 (.imm 10 (c.blocks.map encB))),(.e 13 (.sc (.I (c.blocks.length:Int)))),(.e 14 (.sc (.I (k:Int))))]) (H:=[(2,.box 26 [(.J 0),(.sc (.slice none 0 0)),(.sc (.slice none 0 0)),(.sc (.slice none 0 0))]),(3,.box 26 [(.J c.params),(.own 4 10 ((remK c t (k)).length)),(.imm 3 (c.contexts.map encR)),(.imm 3 (c.objects.map encR))]),(4,.row 62 10 true ((remK c t (k)).map encB)),(5,.box 62 [(.J y.params),(.imm 11 (y.ops.map encO)),(.J y.term.kind),(.J y.term.a),(.J y.term.n),(.imm 1 (y.term.args.map encI)),(.sc (.I (decE t y.term.b0))),(.imm 1 (y.term.args0.map encI)),(.J y.term.b1),(.imm 1 (y.term.args1.map encI))])]) (nx:=6) ?_ ?_
   ·skip
    refine wp_block ?_
    refine PX.G [(.e 33 (.sc (.bool (decide (t<y.term.b0)))))] [] 6 [] [] [.au,.au,.au,.au,.au,.au,.au,.au] [1,4,5,7,8,12,13,14,33] [2,3,4,5] hS hE trivial fun a w hS=>?_
    refine PX.cond_s (decide (t<y.term.b0)) hS (by kernel_rfl) (fun h11=>?_) (fun h11=>?_)
    ·skip
     refine PX.G0 [] [(5,.box 62 [(.J y.params),(.imm 11 (y.ops.map encO)),(.J y.term.kind),(.J y.term.a),(.J y.term.n),(.imm 1 (y.term.args.map encI)),(.sc (.I (IntKind.i64.wrap (y.term.b0-1)))),(.imm 1 (y.term.args0.map encI)),(.J y.term.b1),(.imm 1 (y.term.args1.map encI))])] 6 [] [] [.au,.au,.au,.au,.au,.au,.au,.au,.au,.au,.au,.au] [1,4,5,7,8,12,13,14] [2,3,4,5] hS hE trivial fun a w hS=>?_
     replace hS:=PX.recell (id:=5) (j:=6) (.sc (.I (decE t y.term.b0))) hS rfl rfl rfl (fun _ _ _ _ h=>(show PX.PV.sc (.I (IntKind.i64.wrap (y.term.b0-1)))=.sc (.I (decE t y.term.b0)) from by unfold decE; rw [h11]; rfl) ▸ h)
     exact (PX.cn [] _ _ 6 hS hE)
    ·skip
     refine wp_skip ?_
     replace hS:=PX.recell (id:=5) (j:=6) (.sc (.I (decE t y.term.b0))) hS rfl rfl rfl (fun _ _ _ _ h=>(show PX.PV.sc (.I y.term.b0)=.sc (.I (decE t y.term.b0)) from by unfold decE; rw [h11]; rfl) ▸ h)
     replace hS:=PX.sl [1,4,5,7,8,12,13,14] hS
     exact (PX.cn [] _ _ 6 hS hE)
   clear hS; intro a w hS
   refine PX.G0 [(.e 8 (.J 1))] [] 6 [] [] [.au,.au,.au] [1,4,5,7,8,12,13,14] [2,3,4,5] hS hE trivial fun a w hS=>?_
   show Code.rounds _ _ _ 2 _ _
   rw [rounds_succ]
   refine wp_seq_k fun K12 hK12=>?_
   refine PX.G [(.e 23 (.sc (.bool true)))] [] 6 [] [] [.au,.au] [1,4,5,7,8,12,13,14,23] [2,3,4,5] hS hE trivial fun a w hS=>?_
   refine PX.cond_s true hS (by kernel_rfl) (fun h13=>?_) (fun h13=>nomatch h13)
   refine wp_skip ?_
   refine hK12 _ _ ?_
   refine PX.seq_cut (E:=E) (N:=53) (T:=[(.e 1 (.J t)),(.e 4 (.ptr 2 0)),(.e 5 (.ptr 3 0)),(.e 7 (.ptr 5 0)),(.e 8 (.J 1)),(.e 12 (.imm 10 (c.blocks.map encB))),(.e 13 (.sc (.I (c.blocks.length:Int)))),(.e 14 (.sc (.I (k:Int))))]) (H:=[(2,.box 26 [(.J 0),(.sc (.slice none 0 0)),(.sc (.slice none 0 0)),(.sc (.slice none 0 0))]),(3,.box 26 [(.J c.params),(.own 4 10 ((remK c t (k)).length)),(.imm 3 (c.contexts.map encR)),(.imm 3 (c.objects.map encR))]),(4,.row 62 10 true ((remK c t (k)).map encB)),(5,.box 62 [(.J y.params),(.imm 11 (y.ops.map encO)),(.J y.term.kind),(.J y.term.a),(.J y.term.n),(.imm 1 (y.term.args.map encI)),(.sc (.I (decE t y.term.b0))),(.imm 1 (y.term.args0.map encI)),(.sc (.I (decE t y.term.b1))),(.imm 1 (y.term.args1.map encI))])]) (nx:=6) ?_ ?_
   ·skip
    refine wp_block ?_
    refine PX.G [(.e 33 (.sc (.bool (decide (t<y.term.b1)))))] [] 6 [] [] [.au,.au,.au,.au,.au,.au,.au,.au] [1,4,5,7,8,12,13,14,33] [2,3,4,5] hS hE trivial fun a w hS=>?_
    refine PX.cond_s (decide (t<y.term.b1)) hS (by kernel_rfl) (fun h14=>?_) (fun h14=>?_)
    ·skip
     refine PX.G0 [] [(5,.box 62 [(.J y.params),(.imm 11 (y.ops.map encO)),(.J y.term.kind),(.J y.term.a),(.J y.term.n),(.imm 1 (y.term.args.map encI)),(.sc (.I (decE t y.term.b0))),(.imm 1 (y.term.args0.map encI)),(.sc (.I (IntKind.i64.wrap (y.term.b1-1)))),(.imm 1 (y.term.args1.map encI))])] 6 [] [] [.au,.au,.au,.au,.au,.au,.au,.au,.au,.au,.au,.au] [1,4,5,7,8,12,13,14] [2,3,4,5] hS hE trivial fun a w hS=>?_
     replace hS:=PX.recell (id:=5) (j:=8) (.sc (.I (decE t y.term.b1))) hS rfl rfl rfl (fun _ _ _ _ h=>(show PX.PV.sc (.I (IntKind.i64.wrap (y.term.b1-1)))=.sc (.I (decE t y.term.b1)) from by unfold decE; rw [h14]; rfl) ▸ h)
     exact (PX.cn [] _ _ 6 hS hE)
    ·skip
     refine wp_skip ?_
     replace hS:=PX.recell (id:=5) (j:=8) (.sc (.I (decE t y.term.b1))) hS rfl rfl rfl (fun _ _ _ _ h=>(show PX.PV.sc (.I y.term.b1)=.sc (.I (decE t y.term.b1)) from by unfold decE; rw [h14]; rfl) ▸ h)
     replace hS:=PX.sl [1,4,5,7,8,12,13,14] hS
     exact (PX.cn [] _ _ 6 hS hE)
   clear hS; intro a w hS
   refine PX.G0 [(.e 8 (.J 2))] [] 6 [] [] [.au,.au,.au] [1,4,5,7,8,12,13,14] [2,3,4,5] hS hE trivial fun a w hS=>?_
   show Code.rounds _ _ _ 1 _ _
   rw [rounds_succ]
   refine wp_seq_k fun K15 hK15=>?_
   refine PX.G [(.e 23 (.sc (.bool false)))] [] 6 [] [] [.au,.au] [1,4,5,7,8,12,13,14,23] [2,3,4,5] hS hE trivial fun a w hS=>?_
   refine PX.cond_s false hS (by kernel_rfl) (fun h16=>nomatch h16) (fun h16=>?_)
   refine wp_exit ?_
   refine hK8 _ _ ?_
   refine PX.G0 [] [(3,.box 26 [(.J c.params),(.own 7 10 (((remK c t (k)).map encB:List (List PX.PV)).length+1)),(.imm 3 (c.contexts.map encR)),(.imm 3 (c.objects.map encR))]),(7,.row 62 10 true ((remK c t (k)).map encB++[[(.J y.params),(.imm 11 (y.ops.map encO)),(.J y.term.kind),(.J y.term.a),(.J y.term.n),(.imm 1 (y.term.args.map encI)),(.sc (.I (decE t y.term.b0))),(.imm 1 (y.term.args0.map encI)),(.sc (.I (decE t y.term.b1))),(.imm 1 (y.term.args1.map encI))]]))] 8 [.b (lenIs ((remK c t (k)).length) ((remK c t (k)).map encB)),.b (lenIs 1 ([[(.J y.params),(.imm 11 (y.ops.map encO)),(.J y.term.kind),(.J y.term.a),(.J y.term.n),(.imm 1 (y.term.args.map encI)),(.sc (.I (decE t y.term.b0))),(.imm 1 (y.term.args0.map encI)),(.sc (.I (decE t y.term.b1))),(.imm 1 (y.term.args1.map encI))]])),.b (Nat.ble (((remK c t (k)).map encB:List (List PX.PV)).length+1) 1000000000)] [] [.au,.au,.au,.au,.au,.au,.au] [1,4,5,12,13,14] [2,3,7] hS hE ⟨by simp [PX.lenIs],rfl,by have:=remK_len c t k; simp; omega,trivial⟩ fun a w hS=>?_
   refine hK5 _ _ ?_
   refine PX.G0 [(.e 14 (.sc (.I ((k+1:Nat):Int))))] [] 8 [.q ((.sc (.I (IntKind.i64.wrap ((k:Int)+1))):PX.PV)=(.sc (.I ((k+1:Nat):Int))))] [] [.nm (.sc (.I ((k+1:Nat):Int))),.au] [1,4,5,12,13,14] [2,3,7] hS hE ⟨PX.nm_int (by rw [IntWalk.i64_in _ (by omega)]; omega),trivial⟩ fun a w hS=>?_
   have e1:((remK c t (k)).map encB++[[(.J y.params),(.imm 11 (y.ops.map encO)),(.J y.term.kind),(.J y.term.a),(.J y.term.n),(.imm 1 (y.term.args.map encI)),(.sc (.I (decE t y.term.b0))),(.imm 1 (y.term.args0.map encI)),(.sc (.I (decE t y.term.b1))),(.imm 1 (y.term.args1.map encI))]])=(remK c t (k+1)).map encB:=by rw [remK_other ht hy h7,List.map_append]; rfl
   have e2:((remK c t (k)).map encB:List (List PX.PV)).length+1=(remK c t (k+1)).length:=by rw [remK_other ht hy h7]; simp
   rw [e2,e1] at hS
   exact ⟨c.blocks.length-(k+1),by omega,k+1,rfl,by omega,trivial,(PX.cn [(4,7)] _ _ 5 hS hE)⟩
 ·skip
  refine wp_exit ?_
  refine hK1 _ _ ?_
  have hk:c.blocks.length≤k:=le_of_dec h4
  rw [show k=c.blocks.length from by omega] at hS
  replace hS:=PX.fz 4 [] [(3,.box 26 [(.J c.params),(.imm 10 ((remK c t (c.blocks.length)).map encB)),(.imm 3 (c.contexts.map encR)),(.imm 3 (c.objects.map encR))])] [1,4,5,12,13,14,15] [2,3] [.b (PX.lenIs ((remK c t (c.blocks.length)).length) ((remK c t (c.blocks.length)).map encB))] hS ⟨(by simp [PX.lenIs]),trivial⟩
  refine PX.G [] [(2,.box 26 [(.J c.params),(.imm 10 ((remK c t (c.blocks.length)).map encB)),(.imm 3 (c.contexts.map encR)),(.imm 3 (c.objects.map encR))])] 5 [] [] [.au,.au] [4] [2] hS hE trivial fun a w hS=>?_
  refine wp_ret ?_
  exact PX.rt hS hE (.inl rfl)
end Go.Proofs.Ytlkcidmmpeebeaa

/- Proved: debuggerref09: one -/
namespace Go.Proofs.Ytlkcidmmpeebeaa
open Go.RowKit Go.PX
set_option maxRecDepth 100000
set_option maxHeartbeats 1000000 in
theorem con_f77 (c:CodeD) (hJ:JOk c):PX.Con Try.prog 77 [(codeP c)] [] 1 100000 (.tup [(.agg [(.sc (.I ((oneC c).params))),(.imm 10 (((oneC c).blocks).map encB)),(.imm 3 (((oneC c).contexts).map encR)),(.imm 3 (((oneC c).objects).map encR))]),.sc (.bool (oneD c).isSome)]) []:=by
 refine PX.con_intro [(codeP c)] 66 Try.func77 rfl rfl (by kernel_rfl) (by kernel_rfl) ?_
 intro E a hE hS
 generalize E.w0=w at hS ⊢
 have mix:=mixed; have hjl:=hJ.len
 refine PX.G [(.e 1 (.ptr 1 0)),(.e 2 (.ptr 2 0))] [(1,.box 26 (codeL c)),(2,.box 26 [(.J 0),(.sc (.slice none 0 0)),(.sc (.slice none 0 0)),(.sc (.slice none 0 0))])] 3 [] [] [.au,.au,.au] [1,2] [1,2] hS hE trivial fun a w hS=>?_
 refine wp_seq_k fun K1 hK1=>?_
 refine PX.G [(.e 11 (.imm 10 (c.blocks.map encB))),(.e 12 (.sc (.I (c.blocks.length:Int)))),(.e 13 (.J 0))] [] 3 [.q ((.sc (.I (((c.blocks.map encB).length:Nat):Int)):PX.PV)=(.sc (.I (c.blocks.length:Int))))] [] [.au,.au,.nm (.sc (.I (c.blocks.length:Int))),.au] [1,2,11,12,13] [1,2] hS hE ⟨PX.nm_len (by simp),trivial⟩ fun a w hS=>?_
 refine wp_block ?_
 refine wp_loop_ghost (fun m2 a' w'=>∃ k:Nat,m2=c.blocks.length-k∧k≤c.blocks.length∧Upto c.blocks (fun i b=>stayD c i b) (k)∧PX.Sat E 66 [(.e 1 (.ptr 1 0)),(.e 2 (.ptr 2 0)),(.e 11 (.imm 10 (c.blocks.map encB))),(.e 12 (.sc (.I (c.blocks.length:Int)))),(.e 13 (.sc (.I (k:Int))))] [(1,.box 26 (codeL c)),(2,.box 26 [(.J 0),(.sc (.slice none 0 0)),(.sc (.slice none 0 0)),(.sc (.slice none 0 0))])] 3 a' w') (c.blocks.length-0) ⟨0,rfl,Nat.zero_le _,Upto.zero,(PX.cn [] _ _ 3 hS hE)⟩ ?_
 clear hS; rintro m2 a w ⟨k,hm2,hlek,hIk,hS⟩
 refine PX.G [(.e 14 (.sc (.bool (decide ((k:Int)<(c.blocks.length:Int))))))] [] 3 [] [] [.au] [1,2,11,12,13,14] [1,2] hS hE trivial fun a w hS=>?_
 refine wp_seq_k fun K3 hK3=>?_
 refine PX.cond_s (decide ((k:Int)<(c.blocks.length:Int))) hS (by kernel_rfl) (fun h4=>?_) (fun h4=>?_)
 ·skip
  refine wp_skip ?_
  refine hK3 _ _ ?_
  refine wp_seq_k fun K5 hK5=>?_
  refine wp_block ?_
  have hlty:k<c.blocks.length:=by simpa using h4
  obtain ⟨y,hy⟩:=get_of_lt hlty
  obtain ⟨x,j,hx,hj⟩:=hJ.jump k y hy
  obtain ⟨hyp,hyo,hyt,hytop⟩:=hJ.blk k y hy
  obtain ⟨hxp,hxo,hxt,hxtop⟩:=hJ.blk j x hx
  refine PX.G [(.e 4 (.sc (.I (k:Int)))),(.e 5 (.ptr 3 0))] [(3,.box 62 (encB y))] 4 [.q ((k:Int)=(k:Int)),.q ((c.blocks.map encB)[k]?=some (encB y))] [] [.au,.ix k (encB y),.au,.au,.au,.au] [1,2,4,5,11,12,13] [1,2,3] hS hE ⟨rfl,PX.map_get hy,trivial⟩ fun a w hS=>?_
  refine PX.G [(.e 6 (.J y.term.b0))] [] 4 [] [] [.au,.au,.au,.au,.au,.au] [1,2,4,5,6,11,12,13] [1,2,3] hS hE trivial fun a w hS=>?_
  refine wp_seq_k fun K6 hK6=>?_
  refine PX.G [(.e 37 (.sc (.bool (((y.term.kind != 1)||(y.term.b0==(k:Int)))||((edgesK c y.term.b0 c.blocks.length) != 1)))))] [] 4 [.q (SX.pv [(4,(y.term.kind != 1)),(9,((y.term.kind != 1)||(y.term.b0==(k:Int))))] [(9,false)]=true→PX.AllOb [.q (PX.Con Try.prog 102 [(codeP c),(.J y.term.b0)] [] 4 4 (.sc (.I (edgesK c y.term.b0 c.blocks.length))) [])])] [(4,(y.term.kind != 1)),(9,((y.term.kind != 1)||(y.term.b0==(k:Int))))] [.au,.au,.au,.au,.au,.au,.au,.au,.pk,.au,.au,.au,.cl [] (.sc (.I (edgesK c y.term.b0 c.blocks.length))) [] 4,.au,.pk] [1,2,4,5,6,11,12,13,37] [1,2,3] hS hE ⟨fun hg=>⟨PX.con_any (con_f102 c y.term.b0 (by have:=hJ.len; omega)),trivial⟩,trivial⟩ fun a w hS=>?_
  refine PX.cond_s (((y.term.kind != 1)||(y.term.b0==(k:Int)))||((edgesK c y.term.b0 c.blocks.length) != 1)) hS (by kernel_rfl) (fun h7=>?_) (fun h7=>?_)
  ·skip
   refine wp_exit ?_
   refine hK5 _ _ ?_
   refine PX.G0 [(.e 13 (.sc (.I ((k+1:Nat):Int))))] [] 4 [.q ((.sc (.I (IntKind.i64.wrap ((k:Int)+1))):PX.PV)=(.sc (.I ((k+1:Nat):Int))))] [] [.nm (.sc (.I ((k+1:Nat):Int))),.au] [1,2,11,12,13] [1,2] hS hE ⟨PX.nm_int (by rw [IntWalk.i64_in _ (by omega)]; omega),trivial⟩ fun a w hS=>?_
   exact ⟨c.blocks.length-(k+1),by omega,k+1,rfl,by omega,hIk.step hy (by unfold stayD; rw [show stayT c k y=true from h7]; rfl),(PX.cn [] _ _ 3 hS hE)⟩
  ·skip
   refine wp_skip ?_
   refine hK6 _ _ ?_
   have hst:stayT c k y=false:=h7
   obtain ⟨hsd,hxt2,hjj⟩:=stay_of hx hj hst
   refine PX.D [(.e 7 (.ptr 4 0)),(.e 8 (.sc (.bool (joinOk y x))))] [(4,.box 62 [(.sc (.I ((joinD y x).params))),(.imm 11 (((joinD y x).ops).map encO)),(.sc (.I ((joinD y x).term.kind))),(.sc (.I ((joinD y x).term.a))),(.sc (.I ((joinD y x).term.n))),(.imm 1 (((joinD y x).term.args).map encI)),(.sc (.I ((joinD y x).term.b0))),(.imm 1 (((joinD y x).term.args0).map encI)),(.sc (.I ((joinD y x).term.b1))),(.imm 1 (((joinD y x).term.args1).map encI))])] 5 [.q (y.term.b0=(j:Int)),.q ((c.blocks.map encB)[j]?=some (encB x)),.q (PX.Con Try.prog 103 [(.agg (encB y)),(.agg (encB x))] [] 4 4 (.tup [(.agg [(.sc (.I ((joinD y x).params))),(.imm 11 (((joinD y x).ops).map encO)),(.sc (.I ((joinD y x).term.kind))),(.sc (.I ((joinD y x).term.a))),(.sc (.I ((joinD y x).term.n))),(.imm 1 (((joinD y x).term.args).map encI)),(.sc (.I ((joinD y x).term.b0))),(.imm 1 (((joinD y x).term.args0).map encI)),(.sc (.I ((joinD y x).term.b1))),(.imm 1 (((joinD y x).term.args1).map encI))]),(.sc (.bool (joinOk y x)))]) [])] [] [.au,.au,.au,.au,.ix j (encB x),.au,.cl [] (.tup [(.agg [(.sc (.I ((joinD y x).params))),(.imm 11 (((joinD y x).ops).map encO)),(.sc (.I ((joinD y x).term.kind))),(.sc (.I ((joinD y x).term.a))),(.sc (.I ((joinD y x).term.n))),(.imm 1 (((joinD y x).term.args).map encI)),(.sc (.I ((joinD y x).term.b0))),(.imm 1 (((joinD y x).term.args0).map encI)),(.sc (.I ((joinD y x).term.b1))),(.imm 1 (((joinD y x).term.args1).map encI))]),(.sc (.bool (joinOk y x)))]) [] 4,.au,.au,.au,.au,.au,.au] [1,2,4,6,7,8,11,12,13] [1,2,4] hS mixed hE ⟨hjj.symm,PX.map_get hx,PX.con_any (con_f103 y x hyp hyo hxo (by omega) ⟨hytop.1,by omega⟩ (by omega) (by omega) (by omega)),trivial⟩ fun a w hS=>?_
   refine wp_seq_k fun K8 hK8=>?_
   refine PX.G [(.e 49 (.sc (.bool (!(joinOk y x)))))] [] 5 [] [] [.au,.au] [1,2,4,6,7,11,12,13,49] [1,2,4] hS hE trivial fun a w hS=>?_
   refine PX.cond_s (!(joinOk y x)) hS (by kernel_rfl) (fun h9=>?_) (fun h9=>?_)
   ·skip
    refine wp_exit ?_
    refine hK5 _ _ ?_
    refine PX.G0 [(.e 13 (.sc (.I ((k+1:Nat):Int))))] [] 5 [.q ((.sc (.I (IntKind.i64.wrap ((k:Int)+1))):PX.PV)=(.sc (.I ((k+1:Nat):Int))))] [] [.nm (.sc (.I ((k+1:Nat):Int))),.au] [1,2,11,12,13] [1,2] hS hE ⟨PX.nm_int (by rw [IntWalk.i64_in _ (by omega)]; omega),trivial⟩ fun a w hS=>?_
    exact ⟨c.blocks.length-(k+1),by omega,k+1,rfl,by omega,hIk.step hy (by rw [hsd]; exact h9),(PX.cn [] _ _ 3 hS hE)⟩
   ·skip
    refine wp_skip ?_
    refine hK8 _ _ ?_
    refine PX.G [(.e 9 (.ptr 5 0))] [(5,.box 26 (codeL c))] 6 [] [] [.au,.au,.au] [1,2,4,6,7,9,11,12,13] [1,2,4,5] hS hE trivial fun a w hS=>?_
    refine PX.G [] [(5,.box 26 [(.J c.params),(.own 7 10 (0+(c.blocks.map encB).length)),(.imm 3 (c.contexts.map encR)),(.imm 3 (c.objects.map encR))]),(7,.row 62 10 true (c.blocks.map encB))] 8 [.b (lenIs 0 ([])),.b true,.b (Nat.ble (0+(c.blocks.map encB).length) 1000000000)] [] [.au,.au,.au,.au,.au,.au] [1,2,4,6,7,9,11,12,13] [1,2,4,5,7] hS hE ⟨rfl,rfl,by have:=hJ.len; simp; omega,trivial⟩ fun a w hS=>?_
    replace hS:=PX.recell (id:=5) (j:=1) (.own 7 10 c.blocks.length) hS rfl rfl rfl (fun _ _ _ _ h=>(show PX.PV.own 7 10 (0+(c.blocks.map encB).length)=.own 7 10 c.blocks.length from by congr 1; simp) ▸ h)
    rw [show c.blocks.map encB=c.blocks.map encB from rfl] at hS
    refine PX.G [] [(7,.row 62 10 true ((c.blocks.map encB).set k [(.sc (.I ((joinD y x).params))),(.imm 11 (((joinD y x).ops).map encO)),(.sc (.I ((joinD y x).term.kind))),(.sc (.I ((joinD y x).term.a))),(.sc (.I ((joinD y x).term.n))),(.imm 1 (((joinD y x).term.args).map encI)),(.sc (.I ((joinD y x).term.b0))),(.imm 1 (((joinD y x).term.args0).map encI)),(.sc (.I ((joinD y x).term.b1))),(.imm 1 (((joinD y x).term.args1).map encI))]))] 8 [.q ((k:Int)=(k:Int)),.q (k<c.blocks.length),.q ((c.blocks.map encB)[k]?=some (encB y))] [] [.au,.au,.au,.au,.ix k [],.lr (encB y)] [1,2,6,9,11,12,13] [1,2,5,7] hS hE ⟨rfl,hlty,PX.map_get hy,trivial⟩ fun a w hS=>?_
    have e1:((c.blocks.map encB).set k [(.sc (.I ((joinD y x).params))),(.imm 11 (((joinD y x).ops).map encO)),(.sc (.I ((joinD y x).term.kind))),(.sc (.I ((joinD y x).term.a))),(.sc (.I ((joinD y x).term.n))),(.imm 1 (((joinD y x).term.args).map encI)),(.sc (.I ((joinD y x).term.b0))),(.imm 1 (((joinD y x).term.args0).map encI)),(.sc (.I ((joinD y x).term.b1))),(.imm 1 (((joinD y x).term.args1).map encI))])=(c.blocks.set k (joinD y x)).map encB:=by rw [List.map_set]; rfl
    have e2:c.blocks.length=(c.blocks.set k (joinD y x)).length:=by simp
    rw [e2,e1] at hS
    replace hS:=PX.fz 7 [] [(5,.box 26 [(.J c.params),(.imm 10 ((c.blocks.set k (joinD y x)).map encB)),(.imm 3 (c.contexts.map encR)),(.imm 3 (c.objects.map encR))])] [1,2,6,9,11,12,13] [1,2,5] [.b (PX.lenIs ((c.blocks.set k (joinD y x)).length) ((c.blocks.set k (joinD y x)).map encB))] hS ⟨(by simp [PX.lenIs]),trivial⟩
    have hone:oneD c=some (oneK c k y x):=one_at hIk hy hxt2 (by rw [hsd]; exact h9)
    refine PX.G [(.e 3 (.sc (.bool true)))] [(2,.box 26 [(.sc (.I ((oneK c k y x).params))),(.imm 10 (((oneK c k y x).blocks).map encB)),(.imm 3 (((oneK c k y x).contexts).map encR)),(.imm 3 (((oneK c k y x).objects).map encR))])] 8 [.q (PX.Con Try.prog 119 [(.agg [(.J c.params),(.imm 10 ((c.blocks.set k (joinD y x)).map encB)),(.imm 3 (c.contexts.map encR)),(.imm 3 (c.objects.map encR))]),(.J y.term.b0)] [] 8 8 (.agg [(.sc (.I ((oneK c k y x).params))),(.imm 10 (((oneK c k y x).blocks).map encB)),(.imm 3 (((oneK c k y x).contexts).map encR)),(.imm 3 (((oneK c k y x).objects).map encR))]) [])] [] [.au,.au,.cl [] (.agg [(.sc (.I ((oneK c k y x).params))),(.imm 10 (((oneK c k y x).blocks).map encB)),(.imm 3 (((oneK c k y x).contexts).map encR)),(.imm 3 (((oneK c k y x).objects).map encR))]) [] 8,.au,.au] [1,2,3,11,12,13] [1,2] hS hE ⟨PX.con_any (con_f119 { c with blocks:=c.blocks.set k (joinD y x) } y.term.b0 (by omega) (by have:=hJ.len; simp only [List.length_set]; omega)),trivial⟩ fun a w hS=>?_
    refine wp_ret ?_
    rw [show (.tup [(.agg [(.sc (.I ((oneC c).params))),(.imm 10 (((oneC c).blocks).map encB)),(.imm 3 (((oneC c).contexts).map encR)),(.imm 3 (((oneC c).objects).map encR))]),.sc (.bool (oneD c).isSome)])=((.tup [(.agg [(.sc (.I ((oneK c k y x).params))),(.imm 10 (((oneK c k y x).blocks).map encB)),(.imm 3 (((oneK c k y x).contexts).map encR)),(.imm 3 (((oneK c k y x).objects).map encR))]),(.sc (.bool true))]):PX.PV) from by unfold oneC; rw [hone] <;> rfl]
    exact PX.rt hS hE (.inl rfl)
 ·skip
  refine wp_exit ?_
  refine hK1 _ _ ?_
  refine PX.G [(.e 3 (.sc (.bool false)))] [(2,.box 26 (codeL c))] 3 [] [] [.au,.au,.au] [2,3] [2] hS hE trivial fun a w hS=>?_
  refine wp_ret ?_
  rw [show (.tup [(.agg [(.sc (.I ((oneC c).params))),(.imm 10 (((oneC c).blocks).map encB)),(.imm 3 (((oneC c).contexts).map encR)),(.imm 3 (((oneC c).objects).map encR))]),.sc (.bool (oneD c).isSome)])=((.tup [(codeP c),(.sc (.bool false))]):PX.PV) from by unfold oneC; rw [one_no hIk (le_of_dec h4)] <;> rfl]
  exact PX.rt hS hE (.inl rfl)
end Go.Proofs.Ytlkcidmmpeebeaa

/- Proved: debuggerref09.Merge on plain data -/
namespace Go.Proofs.Ytlkcidmmpeebeaa
open Go.RowKit Go.PX
set_option maxRecDepth 100000
theorem merge_stop {n:Nat} {d:CodeD} (h:(oneD d).isSome=false):mergeN n d=d:=by
 cases n with
 | zero=>rfl
 | succ n =>
  rw [mergeN]
  rw [Option.isSome_eq_false_iff,Option.isNone_iff_eq_none] at h
  simp only [h]

set_option maxHeartbeats 1000000 in
theorem con_f37 (c:CodeD) (hi:CodeI c) (Inv:CodeD→Prop) (hI0:R.check c (totW c.blocks)=0→Inv c) (hJ:∀ d,Inv d→JOk d) (hN:∀ d e,Inv d→oneD d=some e→Inv e):PX.Con Try.prog 37 [(codeP c)] [] 1 100000 (if R.check c (totW c.blocks)=0 then codeP (mergeN c.blocks.length c) else codeP c) []:=by
 refine PX.con_intro [(codeP c)] 18 Try.func37 rfl rfl (by kernel_rfl) (by kernel_rfl) ?_
 intro E a hE hS
 generalize E.w0=w at hS ⊢
 have mix:=mixed
 refine PX.G [(.e 1 (.ptr 1 0)),(.e 2 (.ptr 2 0))] [(1,.box 26 (codeL c)),(2,.box 26 [(.J 0),(.sc (.slice none 0 0)),(.sc (.slice none 0 0)),(.sc (.slice none 0 0))])] 3 [] [] [.au,.au] [1,2] [1,2] hS hE trivial fun a w hS=>?_
 refine wp_seq_k fun K1 hK1=>?_
 refine PX.G [(.e 7 (.sc (.bool ((R.check c (totW c.blocks)) != 0))))] [] 3 [.q (PX.Con Try.prog 18 [(codeP c)] [] 3 3 (.sc (.I (R.check c (totW c.blocks)))) [])] [] [.au,.cl [] (.sc (.I (R.check c (totW c.blocks)))) [] 3,.au] [1,2,7] [1,2] hS hE ⟨con_rcheck hi,trivial⟩ fun a w hS=>?_
 refine PX.cond_s ((R.check c (totW c.blocks)) != 0) hS (by kernel_rfl) (fun h2=>?_) (fun h2=>?_)
 ·skip
  refine PX.G [] [(2,.box 26 (codeL c))] 3 [] [] [.au,.au] [2] [2] hS hE trivial fun a w hS=>?_
  refine wp_ret ?_
  rw [show (if R.check c (totW c.blocks)=0 then codeP (mergeN c.blocks.length c) else codeP c)=((codeP c):PX.PV) from by rw [if_neg (by simpa using h2)] <;> rfl]
  exact PX.rt hS hE (.inl rfl)
 ·skip
  refine wp_skip ?_
  refine hK1 _ _ ?_
  refine wp_block ?_
  have hchk:R.check c (totW c.blocks)=0:=by simpa using h2
  replace hS:=PX.sl [1,2] hS
  refine wp_loop_ghost (fun m3 a' w'=>∃ k:Nat,∃ d:CodeD,m3=c.blocks.length-k∧k≤c.blocks.length∧(Inv d∧d.blocks.length+(k)=c.blocks.length∧mergeN (c.blocks.length-(k)) d=mergeN c.blocks.length c)∧PX.Sat E 18 [(.e 1 (.ptr 1 0)),(.e 2 (.ptr 2 0))] [(1,.box 26 (codeL d)),(2,.box 26 [(.J 0),(.sc (.slice none 0 0)),(.sc (.slice none 0 0)),(.sc (.slice none 0 0))])] 3 a' w') (c.blocks.length-0) ⟨0,c,rfl,Nat.zero_le _,⟨hI0 hchk,rfl,rfl⟩,(PX.cn [] _ _ 3 hS hE)⟩ ?_
  clear hS; rintro m3 a w ⟨k,d,hm3,hlek,hIk,hS⟩
  obtain ⟨hd,hdl,hdr⟩:=hIk
  have hJd:=hJ d hd
  refine wp_block ?_
  refine PX.G [(.e 3 (.ptr 3 0)),(.e 4 (.sc (.bool ((oneD d).isSome))))] [(3,.box 26 [(.sc (.I ((oneC d).params))),(.imm 10 (((oneC d).blocks).map encB)),(.imm 3 (((oneC d).contexts).map encR)),(.imm 3 (((oneC d).objects).map encR))])] 4 [.q (PX.Con Try.prog 77 [(codeP d)] [] 3 3 (.tup [(.agg [(.sc (.I ((oneC d).params))),(.imm 10 (((oneC d).blocks).map encB)),(.imm 3 (((oneC d).contexts).map encR)),(.imm 3 (((oneC d).objects).map encR))]),(.sc (.bool ((oneD d).isSome)))]) [])] [] [.au,.cl [] (.tup [(.agg [(.sc (.I ((oneC d).params))),(.imm 10 (((oneC d).blocks).map encB)),(.imm 3 (((oneC d).contexts).map encR)),(.imm 3 (((oneC d).objects).map encR))]),(.sc (.bool ((oneD d).isSome)))]) [] 3,.au,.au,.au,.au,.au,.au] [1,2,3,4] [1,2,3] hS hE ⟨PX.con_any (con_f77 d hJd),trivial⟩ fun a w hS=>?_
  refine wp_seq_k fun K4 hK4=>?_
  refine PX.G [(.e 15 (.sc (.bool (!((oneD d).isSome)))))] [] 4 [] [] [.au,.au] [1,2,3,15] [1,2,3] hS hE trivial fun a w hS=>?_
  refine PX.cond_s (!((oneD d).isSome)) hS (by kernel_rfl) (fun h5=>?_) (fun h5=>?_)
  ·skip
   refine PX.G [] [(2,.box 26 (codeL d))] 4 [] [] [.au,.au] [1,2] [1,2] hS hE trivial fun a w hS=>?_
   refine wp_ret ?_
   rw [show (if R.check c (totW c.blocks)=0 then codeP (mergeN c.blocks.length c) else codeP c)=((codeP d):PX.PV) from by rw [if_pos hchk,← hdr,merge_stop (by simpa using h5)] <;> rfl]
   exact PX.rt hS hE (.inl rfl)
  ·skip
   refine wp_skip ?_
   refine hK4 _ _ ?_
   refine PX.G0 [] [(1,.box 26 [(.sc (.I ((oneC d).params))),(.imm 10 (((oneC d).blocks).map encB)),(.imm 3 (((oneC d).contexts).map encR)),(.imm 3 (((oneC d).objects).map encR))])] 4 [] [] [.au,.au] [1,2] [1,2] hS hE trivial fun a w hS=>?_
   obtain ⟨e,he⟩:=Option.isSome_iff_exists.1 (show (oneD d).isSome=true by simpa using h5)
   have hec:oneC d=e:=by unfold oneC; rw [he]; rfl
   have hel:=one_len hJd he
   have hmr:mergeN (c.blocks.length-(k+1)) e=mergeN c.blocks.length c:=by rw [← hdr,show c.blocks.length-k=(c.blocks.length-(k+1))+1 from by omega,mergeN]; simp only [he]
   exact ⟨c.blocks.length-(k+1),by omega,k+1,(oneC d),rfl,by omega,⟨hec ▸ hN d e hd he,by rw [hec]; omega,by rw [hec]; exact hmr⟩,(PX.cn [] _ _ 3 hS hE)⟩
end Go.Proofs.Ytlkcidmmpeebeaa

/- Proved: merge: defines,greatest,fits -/
namespace Go.Proofs.Ytlkcidmmpeebeaa
open Go.RowKit Go.PX
set_option maxRecDepth 100000
def grK (b:BlockD) (k:Nat):Int:=(dsts (b.ops.take k)).foldl mx (b.params-1)
theorem grK_yes {b:BlockD} {k:Nat} {y:OpD} (hy:b.ops[k]?=some y) (h:R.defines y.kind=true):grK b (k+1)=mx (grK b k) y.dst:=by
 unfold grK; rw [dsts_take hy,if_pos h,List.foldl_append]; rfl
theorem grK_no {b:BlockD} {k:Nat} {y:OpD} (hy:b.ops[k]?=some y) (h:R.defines y.kind=false):grK b (k+1)=grK b k:=by
 unfold grK; rw [dsts_take hy,if_neg (by rw [h]; simp),List.append_nil]
theorem mx_low:∀ (l:List Int) (n:Int),(∀ v∈l,v≤n)→l.foldl mx n=n
 | [],n,_=>rfl
 | x::l,n,h=>by
  have hx:=h x (by simp)
  have e:mx n x=n:=by unfold mx; rw [if_neg (by omega)]
  rw [List.foldl_cons,e]; exact mx_low l n fun v hv=>h v (by simp [hv])
theorem grK_top {b:BlockD} {k:Nat} (hk:b.ops.length≤k):grK b k=topD b:=by
 unfold grK topD
 rw [values_eq2,List.foldl_append,mx_low (R.upto b.params),List.take_of_length_le hk]
 intro v hv
 unfold R.upto at hv
 obtain ⟨i,hi,rfl⟩:=List.mem_map.1 hv
 have:=List.mem_range.1 hi; omega
def dnK (b:BlockD) (k:Nat):Int:=(((dsts (b.ops.take k)).length:Nat):Int)
theorem dnK_yes {b:BlockD} {k:Nat} {y:OpD} (hy:b.ops[k]?=some y) (h:R.defines y.kind=true):dnK b (k+1)=dnK b k+1:=by
 unfold dnK; rw [dsts_take hy,if_pos h]; simp
theorem dnK_no {b:BlockD} {k:Nat} {y:OpD} (hy:b.ops[k]?=some y) (h:R.defines y.kind=false):dnK b (k+1)=dnK b k:=by
 unfold dnK; rw [dsts_take hy,if_neg (by rw [h]; simp),List.append_nil]
theorem dnK_bd (b:BlockD) (k:Nat):0≤dnK b k∧dnK b k≤(b.ops.length:Int):=by
 have h1:=dsts_len (b.ops.take k)
 rw [List.length_take] at h1
 unfold dnK; omega
theorem fits_ok {b t:BlockD} {k:Nat} (hk:t.ops.length≤k) (hb:topD b≤9999):((dnK t k==0)||decide (topD b+dnK t k≤9999))=joinOk b t:=by
 have e:numK b t t.ops.length=topD b+1+dnK t k:=by unfold numK dnK; rw [List.take_of_length_le hk,List.take_of_length_le (Nat.le_refl _)]
 unfold joinOk
 rw [e,Bool.eq_iff_iff]
 simp only [Bool.or_eq_true,beq_iff_eq,decide_eq_true_eq]; omega
set_option maxHeartbeats 400000 in
theorem con_f114 (o:OpD):PX.Con Try.prog 114 [(.agg (encO o))] [] 1 100000 (.sc (.bool (R.defines o.kind))) []:=by
 refine PX.con_intro [(.agg (encO o))] 11 Try.func114 rfl rfl (by kernel_rfl) (by kernel_rfl) ?_
 intro E a hE hS
 generalize E.w0=w at hS ⊢
 have mix:=mixed
 refine PX.G [(.e 1 (.ptr 1 0))] [(1,.box 74 (encO o))] 2 [] [] [.au,.au] [1] [1] hS hE trivial fun a w hS=>?_
 refine PX.G [(.e 2 (.sc (.bool (decide (1≤o.kind)&&decide (o.kind≤15)))))] [] 2 [] [(3,decide (1≤o.kind))] [.au,.au,.au,.au,.au,.au,.au,.pk,.au] [2] [] hS hE trivial fun a w hS=>?_
 refine wp_ret ?_
 rw [show (.sc (.bool (R.defines o.kind)))=((.sc (.bool (decide (1≤o.kind)&&decide (o.kind≤15)))):PX.PV) from by simp [R.defines]]
 exact PX.rt hS hE (.inl rfl)

set_option maxHeartbeats 400000 in
theorem con_f113 (b:BlockD) (hb:0≤b.params∧b.params≤999) (hl:b.ops.length≤1000000):PX.Con Try.prog 113 [(.agg (encB b))] [] 1 100000 (.sc (.I (topD b))) []:=by
 refine PX.con_intro [(.agg (encB b))] 24 Try.func113 rfl rfl (by kernel_rfl) (by kernel_rfl) ?_
 intro E a hE hS
 generalize E.w0=w at hS ⊢
 have mix:=mixed
 refine PX.G [(.e 1 (.ptr 1 0))] [(1,.box 62 (encB b))] 2 [] [] [.au,.au] [1] [1] hS hE trivial fun a w hS=>?_
 refine PX.G [(.e 3 (.sc (.I (grK b (0)))))] [] 2 [.q ((.sc (.I (IntKind.i64.wrap (b.params-1))):PX.PV)=(.sc (.I (grK b (0)))))] [] [.au,.au,.nm (.sc (.I (grK b (0)))),.au] [1,3] [1] hS hE ⟨PX.nm_int (show IntKind.i64.wrap (b.params-1)=b.params-1 from IntWalk.i64_in _ (by omega)),trivial⟩ fun a w hS=>?_
 refine wp_seq_k fun K1 hK1=>?_
 refine PX.G [(.e 10 (.imm 11 (b.ops.map encO))),(.e 11 (.sc (.I (b.ops.length:Int)))),(.e 12 (.J 0))] [] 2 [.q ((.sc (.I (((b.ops.map encO).length:Nat):Int)):PX.PV)=(.sc (.I (b.ops.length:Int))))] [] [.au,.au,.nm (.sc (.I (b.ops.length:Int))),.au] [3,10,11,12] [] hS hE ⟨PX.nm_len (by simp),trivial⟩ fun a w hS=>?_
 refine wp_block ?_
 refine wp_loop_ghost (fun m2 a' w'=>∃ k:Nat,m2=b.ops.length-k∧k≤b.ops.length∧True∧PX.Sat E 24 [(.e 3 (.sc (.I (grK b (k))))),(.e 10 (.imm 11 (b.ops.map encO))),(.e 11 (.sc (.I (b.ops.length:Int)))),(.e 12 (.sc (.I (k:Int))))] [] 1 a' w') (b.ops.length-0) ⟨0,rfl,Nat.zero_le _,trivial,(PX.cn [] _ _ 1 hS hE)⟩ ?_
 clear hS; rintro m2 a w ⟨k,hm2,hlek,hIk,hS⟩
 refine PX.G [(.e 13 (.sc (.bool (decide ((k:Int)<(b.ops.length:Int))))))] [] 1 [] [] [.au] [3,10,11,12,13] [] hS hE trivial fun a w hS=>?_
 refine wp_seq_k fun K3 hK3=>?_
 refine PX.cond_s (decide ((k:Int)<(b.ops.length:Int))) hS (by kernel_rfl) (fun h4=>?_) (fun h4=>?_)
 ·skip
  refine wp_skip ?_
  refine hK3 _ _ ?_
  refine wp_seq_k fun K5 hK5=>?_
  refine wp_block ?_
  have hlty:k<b.ops.length:=by simpa using h4
  obtain ⟨y,hy⟩:=get_of_lt hlty
  refine PX.G [(.e 5 (.ptr 1 0))] [(1,.box 74 (encO y))] 2 [.q ((k:Int)=(k:Int)),.q ((b.ops.map encO)[k]?=some (encO y))] [] [.ix k (encO y),.au,.au,.au] [3,5,10,11,12] [1] hS hE ⟨rfl,PX.map_get hy,trivial⟩ fun a w hS=>?_
  refine PX.G [(.e 17 (.sc (.bool (R.defines y.kind))))] [] 2 [.q (PX.Con Try.prog 114 [(.agg (encO y))] [] 2 2 (.sc (.bool (R.defines y.kind))) [])] [] [.au,.cl [] (.sc (.bool (R.defines y.kind))) [] 2] [3,5,10,11,12,17] [1] hS hE ⟨PX.con_any (con_f114 y),trivial⟩ fun a w hS=>?_
  refine PX.cond_s (R.defines y.kind) hS (by kernel_rfl) (fun h6=>?_) (fun h6=>?_)
  ·skip
   refine PX.G0 [(.e 3 (.sc (.I (if y.dst > (grK b (k)) then y.dst else (grK b (k))))))] [] 2 [] [] [.au,.au,.au,.au,.au] [3,10,11,12] [] hS hE trivial fun a w hS=>?_
   refine hK5 _ _ ?_
   refine PX.G0 [(.e 12 (.sc (.I ((k+1:Nat):Int))))] [] 2 [.q ((.sc (.I (IntKind.i64.wrap ((k:Int)+1))):PX.PV)=(.sc (.I ((k+1:Nat):Int))))] [] [.nm (.sc (.I ((k+1:Nat):Int))),.au] [3,10,11,12] [] hS hE ⟨PX.nm_int (by rw [IntWalk.i64_in _ (by omega)]; omega),trivial⟩ fun a w hS=>?_
   rw [show (if y.dst > (grK b (k)) then y.dst else (grK b (k)))=grK b (k+1) from (grK_yes hy h6).symm] at hS
   exact ⟨b.ops.length-(k+1),by omega,k+1,rfl,by omega,trivial,(PX.cn [] _ _ 1 hS hE)⟩
  ·skip
   refine wp_skip ?_
   refine hK5 _ _ ?_
   refine PX.G0 [(.e 12 (.sc (.I ((k+1:Nat):Int))))] [] 2 [.q ((.sc (.I (IntKind.i64.wrap ((k:Int)+1))):PX.PV)=(.sc (.I ((k+1:Nat):Int))))] [] [.nm (.sc (.I ((k+1:Nat):Int))),.au] [3,10,11,12] [] hS hE ⟨PX.nm_int (by rw [IntWalk.i64_in _ (by omega)]; omega),trivial⟩ fun a w hS=>?_
   rw [show grK b (k)=grK b (k+1) from (grK_no hy h6).symm] at hS
   exact ⟨b.ops.length-(k+1),by omega,k+1,rfl,by omega,trivial,(PX.cn [] _ _ 1 hS hE)⟩
 ·skip
  refine wp_exit ?_
  refine hK1 _ _ ?_
  refine PX.G [(.e 2 (.sc (.I (grK b (k)))))] [] 1 [] [] [.au,.au] [2] [] hS hE trivial fun a w hS=>?_
  refine wp_ret ?_
  rw [show (.sc (.I (topD b)))=((.sc (.I (grK b (k)))):PX.PV) from by rw [grK_top (le_of_dec h4)]]
  exact PX.rt hS hE (.inl rfl)

set_option maxHeartbeats 400000 in
theorem con_f112 (b t:BlockD) (hb:0≤b.params∧b.params≤999) (hbl:b.ops.length≤6000) (htl:t.ops.length≤6000) (htop:-1≤topD b∧topD b≤9999):PX.Con Try.prog 112 [(.agg (encB b)),(.agg (encB t))] [] 1 100000 (.sc (.bool (joinOk b t))) []:=by
 refine PX.con_intro [(.agg (encB b)),(.agg (encB t))] 29 Try.func112 rfl rfl (by kernel_rfl) (by kernel_rfl) ?_
 intro E a hE hS
 generalize E.w0=w at hS ⊢
 have mix:=mixed
 refine PX.G [(.e 2 (.ptr 1 0)),(.e 3 (.ptr 2 0))] [(1,.box 62 (encB b)),(2,.box 62 (encB t))] 3 [] [] [.au,.au,.au] [2,3] [1,2] hS hE trivial fun a w hS=>?_
 refine PX.G [(.e 5 (.J 0))] [] 3 [] [] [.au] [2,3,5] [1,2] hS hE trivial fun a w hS=>?_
 refine wp_seq_k fun K1 hK1=>?_
 refine PX.G [(.e 9 (.imm 11 (t.ops.map encO))),(.e 10 (.sc (.I (t.ops.length:Int)))),(.e 11 (.J 0))] [] 3 [.q ((.sc (.I (((t.ops.map encO).length:Nat):Int)):PX.PV)=(.sc (.I (t.ops.length:Int))))] [] [.au,.au,.nm (.sc (.I (t.ops.length:Int))),.au] [2,5,9,10,11] [1] hS hE ⟨PX.nm_len (by simp),trivial⟩ fun a w hS=>?_
 refine wp_block ?_
 replace hS:=PX.sl [2,5,9,10,11] (PX.reslot (t:=5) (.sc (.I (dnK t (0)))) hS rfl (fun _ _ _ _ h=>(show PX.PV.sc (.I 0)=.sc (.I (dnK t (0))) from rfl) ▸ h))
 refine wp_loop_ghost (fun m2 a' w'=>∃ k:Nat,m2=t.ops.length-k∧k≤t.ops.length∧True∧PX.Sat E 29 [(.e 2 (.ptr 1 0)),(.e 5 (.sc (.I (dnK t (k))))),(.e 9 (.imm 11 (t.ops.map encO))),(.e 10 (.sc (.I (t.ops.length:Int)))),(.e 11 (.sc (.I (k:Int))))] [(1,.box 62 (encB b))] 2 a' w') (t.ops.length-0) ⟨0,rfl,Nat.zero_le _,trivial,(PX.cn [] _ _ 2 hS hE)⟩ ?_
 clear hS; rintro m2 a w ⟨k,hm2,hlek,hIk,hS⟩
 refine PX.G [(.e 12 (.sc (.bool (decide ((k:Int)<(t.ops.length:Int))))))] [] 2 [] [] [.au] [2,5,9,10,11,12] [1] hS hE trivial fun a w hS=>?_
 refine wp_seq_k fun K3 hK3=>?_
 refine PX.cond_s (decide ((k:Int)<(t.ops.length:Int))) hS (by kernel_rfl) (fun h4=>?_) (fun h4=>?_)
 ·skip
  refine wp_skip ?_
  refine hK3 _ _ ?_
  refine wp_seq_k fun K5 hK5=>?_
  refine wp_block ?_
  have hlty:k<t.ops.length:=by simpa using h4
  obtain ⟨y,hy⟩:=get_of_lt hlty
  refine PX.G [(.e 7 (.ptr 2 0))] [(2,.box 74 (encO y))] 3 [.q ((k:Int)=(k:Int)),.q ((t.ops.map encO)[k]?=some (encO y))] [] [.ix k (encO y),.au,.au,.au] [2,5,7,9,10,11] [1,2] hS hE ⟨rfl,PX.map_get hy,trivial⟩ fun a w hS=>?_
  refine PX.G [(.e 16 (.sc (.bool (R.defines y.kind))))] [] 3 [.q (PX.Con Try.prog 114 [(.agg (encO y))] [] 3 3 (.sc (.bool (R.defines y.kind))) [])] [] [.au,.cl [] (.sc (.bool (R.defines y.kind))) [] 3] [2,5,9,10,11,16] [1] hS hE ⟨PX.con_any (con_f114 y),trivial⟩ fun a w hS=>?_
  refine PX.cond_s (R.defines y.kind) hS (by kernel_rfl) (fun h6=>?_) (fun h6=>?_)
  ·skip
   refine PX.G0 [(.e 5 (.sc (.I (dnK t (k)+1))))] [] 3 [.q ((.sc (.I (IntKind.i64.wrap ((dnK t (k))+1))):PX.PV)=(.sc (.I (dnK t (k)+1))))] [] [.au,.nm (.sc (.I (dnK t (k)+1))),.au] [2,5,9,10,11] [1] hS hE ⟨PX.nm_int (by have:=dnK_bd t k; rw [IntWalk.i64_in _ (by omega)]),trivial⟩ fun a w hS=>?_
   refine hK5 _ _ ?_
   refine PX.G0 [(.e 11 (.sc (.I ((k+1:Nat):Int))))] [] 3 [.q ((.sc (.I (IntKind.i64.wrap ((k:Int)+1))):PX.PV)=(.sc (.I ((k+1:Nat):Int))))] [] [.nm (.sc (.I ((k+1:Nat):Int))),.au] [2,5,9,10,11] [1] hS hE ⟨PX.nm_int (by rw [IntWalk.i64_in _ (by omega)]; omega),trivial⟩ fun a w hS=>?_
   rw [show (dnK t (k)+1)=dnK t (k+1) from (dnK_yes hy h6).symm] at hS
   exact ⟨t.ops.length-(k+1),by omega,k+1,rfl,by omega,trivial,(PX.cn [] _ _ 2 hS hE)⟩
  ·skip
   refine wp_skip ?_
   refine hK5 _ _ ?_
   refine PX.G0 [(.e 11 (.sc (.I ((k+1:Nat):Int))))] [] 3 [.q ((.sc (.I (IntKind.i64.wrap ((k:Int)+1))):PX.PV)=(.sc (.I ((k+1:Nat):Int))))] [] [.nm (.sc (.I ((k+1:Nat):Int))),.au] [2,5,9,10,11] [1] hS hE ⟨PX.nm_int (by rw [IntWalk.i64_in _ (by omega)]; omega),trivial⟩ fun a w hS=>?_
   rw [show dnK t (k)=dnK t (k+1) from (dnK_no hy h6).symm] at hS
   exact ⟨t.ops.length-(k+1),by omega,k+1,rfl,by omega,trivial,(PX.cn [] _ _ 2 hS hE)⟩
 ·skip
  refine wp_exit ?_
  refine hK1 _ _ ?_
  refine PX.G [(.e 4 (.sc (.bool (((dnK t (k))==0)||decide ((topD b+dnK t k)≤9999)))))] [] 2 [.q (SX.pv [(2,((dnK t (k))==0))] [(2,false)]=true→PX.AllOb [.q (PX.Con Try.prog 113 [(.agg (encB b))] [] 2 2 (.sc (.I (topD b))) [])]),.q (SX.pv [(2,((dnK t (k))==0))] [(2,false)]=true→PX.AllOb [.q ((.sc (.I (IntKind.i64.wrap ((topD b)+(dnK t (k))))):PX.PV)=(.sc (.I (topD b+dnK t k))))])] [(2,((dnK t (k))==0))] [.au,.au,.au,.au,.cl [] (.sc (.I (topD b))) [] 2,.au,.nm (.sc (.I (topD b+dnK t k))),.au,.pk,.au] [4] [] hS hE ⟨fun hg=>⟨PX.con_any (con_f113 b hb (by omega)),trivial⟩,fun hg=>⟨PX.nm_int (by have:=dnK_bd t k; rw [IntWalk.i64_in _ (by omega)]),trivial⟩,trivial⟩ fun a w hS=>?_
  refine wp_ret ?_
  rw [show (.sc (.bool (joinOk b t)))=((.sc (.bool (((dnK t (k))==0)||decide ((topD b+dnK t k)≤9999)))):PX.PV) from by rw [← fits_ok (le_of_dec h4) htop.2]]
  exact PX.rt hS hE (.inl rfl)
end Go.Proofs.Ytlkcidmmpeebeaa
