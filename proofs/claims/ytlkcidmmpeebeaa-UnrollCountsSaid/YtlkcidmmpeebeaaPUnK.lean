/- Proved: turn and copyLoops of unroll on plain data -/
import Derived.Test.YtlkcidmmpeebeaaUnA
import Derived.Test.YtlkcidmmpeebeaaPUnD
set_option linter.unusedVariables false
set_option linter.unusedSimpArgs false
namespace Go.Proofs.Ytlkcidmmpeebeaa
open Go.RowKit Go.PX
set_option maxRecDepth 100000
set_option maxHeartbeats 1000000 in
theorem con_f65 (c:CodeD) (hi:CodeI c) (hchk:R.check c (totW c.blocks)=0) (hfit:Fit c) (hfb:c.blocks.length≤400):PX.Con Try.prog 65 [(codeP c),(.ptr 1 0)] [(1,.box 26 [(.J c.params),(.own 2 10 c.blocks.length),(.imm 3 (c.contexts.map encR)),(.imm 3 (c.objects.map encR))]),(2,.row 62 10 true ((turnL c (0)).map encB))] 3 100000 (.tup []) [(1,some (.box 26 [(.J c.params),(.own 2 10 c.blocks.length),(.imm 3 (c.contexts.map encR)),(.imm 3 (c.objects.map encR))])),(2,some (.row 62 10 true ((turnL c (c.blocks.length-1)).map encB)))]:=by
 refine PX.con_intro [(codeP c),(.ptr 1 0)] 94 Try.func65 rfl rfl (by kernel_rfl) (by kernel_rfl) ?_
 intro E a hE hS
 generalize E.w0=w at hS ⊢
 have mix:=mixed
 refine PX.G [(.e 2 (.ptr 3 0))] [(3,.box 26 (codeL c))] 4 [] [] [.au] [1,2] [1,2,3] hS hE trivial fun a w hS=>?_
 refine PX.G [(.e 4 (.imm 1 ((cntK c c.blocks.length).map encI)))] [] 4 [.q (PX.Con Try.prog 99 [(codeP c)] [] 4 4 (.imm 1 ((cntK c c.blocks.length).map encI)) [])] [] [.au,.cl [] (.imm 1 ((cntK c c.blocks.length).map encI)) [] 4,.au] [1,2,4] [1,2,3] hS hE ⟨PX.con_any (con_f99 c (fun k b hb=>blk_ok hchk hb) hfb),trivial⟩ fun a w hS=>?_
 refine PX.G [(.e 5 (.sc (.I (totW c.blocks))))] [] 4 [.q (PX.Con Try.prog 100 [(codeP c)] [] 4 4 (.sc (.I (totW c.blocks))) [])] [] [.au,.cl [] (.sc (.I (totW c.blocks))) [] 4,.au] [1,2,4,5] [1,2,3] hS hE ⟨PX.con_any (con_f100 c.params c.blocks _ _ (by omega)),trivial⟩ fun a w hS=>?_
 refine PX.G [(.e 6 (.J 1))] [] 4 [] [] [.au] [1,2,4,5,6] [1,2,3] hS hE trivial fun a w hS=>?_
 refine wp_block ?_
 skip
 replace hS:=PX.sl [1,2,4,5,6] (PX.reslot (t:=5) (.sc (.I (totW (turnL c (0))))) hS rfl (fun _ _ _ _ h=>(show PX.PV.sc (.I (totW c.blocks))=.sc (.I (totW (turnL c (0)))) from rfl) ▸ h))
 refine wp_loop_ghost (fun m1 a' w'=>∃ m:Nat,m1=(c.blocks.length-1)-m∧m≤(c.blocks.length-1)∧True∧PX.Sat E 94 [(.e 1 (.ptr 1 0)),(.e 2 (.ptr 3 0)),(.e 4 (.imm 1 ((cntK c c.blocks.length).map encI))),(.e 5 (.sc (.I (totW (turnL c (m)))))),(.e 6 (.sc (.I ((m+1:Nat):Int))))] [(1,.box 26 [(.J c.params),(.own 2 10 c.blocks.length),(.imm 3 (c.contexts.map encR)),(.imm 3 (c.objects.map encR))]),(2,.row 62 10 true ((turnL c (m)).map encB)),(3,.box 26 (codeL c))] 4 a' w') ((c.blocks.length-1)-0) ⟨0,rfl,Nat.zero_le _,trivial,(PX.canon [] _ _ 4 hS hE (by kernel_rfl) (by kernel_rfl) (by kernel_rfl))⟩ ?_
 clear hS; rintro m1 a w ⟨m,hm1,hlem,hIm,hS⟩
 refine wp_seq_k fun K2 hK2=>?_
 refine PX.G [(.e 20 (.sc (.bool (decide (((m+1:Nat):Int)<(c.blocks.length:Int))))))] [] 4 [.q ((.sc (.I (((c.blocks.map encB).length:Nat):Int)):PX.PV)=(.sc (.I (c.blocks.length:Int))))] [] [.au,.au,.au,.nm (.sc (.I (c.blocks.length:Int))),.au] [1,2,4,5,6,20] [1,2,3] hS hE ⟨PX.nm_len (by simp),trivial⟩ fun a w hS=>?_
 refine PX.cond_s (decide (((m+1:Nat):Int)<(c.blocks.length:Int))) hS (by kernel_rfl) (fun h3=>?_) (fun h3=>?_)
 ·skip
  refine wp_skip ?_
  refine hK2 _ _ ?_
  refine wp_seq_k fun K4 hK4=>?_
  refine wp_block ?_
  have hlt:m+1<c.blocks.length:=lt_of_dec h3
  obtain ⟨y,hy⟩:=get_of_lt hlt
  have hy2:(turnL c (m))[m+1]?=some y:=by rw [turnL_get (by omega)]; exact hy
  obtain ⟨x,j,hx,hj⟩:=jump_blk hchk hy
  have hjl:=(List.getElem?_eq_some_iff.1 hx).1
  have hz:=cnt_get c hjl _ (Nat.le_refl _)
  have fy:=hfit.ops y (List.mem_of_getElem? hy); have fx:=hfit.ops x (List.mem_of_getElem? hx); have ty:=hfit.term y (List.mem_of_getElem? hy); have tx:=hfit.term x (List.mem_of_getElem? hx)
  refine PX.G [(.e 7 (.ptr 4 0))] [(4,.box 60 [(.J y.term.kind),(.J y.term.a),(.J y.term.n),(.imm 1 (y.term.args.map encI)),(.J y.term.b0),(.imm 1 (y.term.args0.map encI)),(.J y.term.b1),(.imm 1 (y.term.args1.map encI))])] 5 [.q (((m+1:Nat):Int)=((m+1:Nat):Int)),.q ((c.blocks.map encB)[m+1]?=some (encB y))] [] [.au,.au,.au,.ix (m+1) (encB y),.au,.au,.au,.au] [1,2,4,5,6,7] [1,2,3,4] hS hE ⟨rfl,PX.map_get hy,trivial⟩ fun a w hS=>?_
  refine PX.G [(.e 8 (.J y.term.b0))] [] 5 [] [] [.au,.au,.au,.au,.au] [1,2,4,5,6,7,8] [1,2,3,4] hS hE trivial fun a w hS=>?_
  refine wp_seq_k fun K5 hK5=>?_
  refine PX.G [(.e 47 (.sc (.bool (((y.term.kind != 1)||(y.term.b0==((m+1:Nat):Int)))||decide ((edgesK c (j:Int) c.blocks.length)<2)))))] [] 5 [.q (SX.pv [(3,(y.term.kind != 1)),(8,((y.term.kind != 1)||(y.term.b0==((m+1:Nat):Int))))] [(8,false)]=true→PX.AllOb [.q (y.term.b0=(j:Int)),.q (((cntK c c.blocks.length).map encI)[j]?=some (encI (edgesK c (j:Int) c.blocks.length)))])] [(3,(y.term.kind != 1)),(8,((y.term.kind != 1)||(y.term.b0==((m+1:Nat):Int))))] [.au,.au,.au,.au,.au,.au,.au,.pk,.au,.au,.au,.ix j (encI (edgesK c (j:Int) c.blocks.length)),.au,.au,.pk] [1,2,4,5,6,8,47] [1,2,3] hS hE ⟨fun hg=>⟨by simp [SX.pv,SX.kv] at hg; first | exact (hj hg.1).symm | exact (hj hg.1.1).symm,PX.map_get hz,trivial⟩,trivial⟩ fun a w hS=>?_
  refine PX.cond_s (((y.term.kind != 1)||(y.term.b0==((m+1:Nat):Int)))||decide ((edgesK c (j:Int) c.blocks.length)<2)) hS (by kernel_rfl) (fun h6=>?_) (fun h6=>?_)
  ·skip
   refine wp_exit ?_
   refine hK4 _ _ ?_
   refine PX.G0 [(.e 6 (.sc (.I ((m+1+1:Nat):Int))))] [] 5 [.q ((.sc (.I (IntKind.i64.wrap (((m+1:Nat):Int)+1))):PX.PV)=(.sc (.I ((m+1+1:Nat):Int))))] [] [.au,.nm (.sc (.I ((m+1+1:Nat):Int))),.au] [1,2,4,5,6] [1,2,3] hS hE ⟨PX.nm_int (by rw [IntWalk.i64_in _ (by omega)]; omega),trivial⟩ fun a w hS=>?_
   rw [show (turnL c (m))=turnL c (m+1) from (turn_p1 hy hx hj h6).symm] at hS
   exact ⟨(c.blocks.length-1)-(m+1),by omega,m+1,rfl,by omega,trivial,(PX.canon [] _ _ 4 hS hE (by kernel_rfl) (by kernel_rfl) (by kernel_rfl))⟩
  ·skip
   refine wp_skip ?_
   refine hK5 _ _ ?_
   have h47:=h6
   obtain ⟨hk1,_⟩:=skip_false hj h47
   have hjj:y.term.b0=(j:Int):=(hj hk1).symm
   refine PX.G [(.e 9 (.ptr 5 0))] [(5,.box 62 (encB x))] 6 [.q (y.term.b0=(j:Int)),.q ((c.blocks.map encB)[j]?=some (encB x))] [] [.au,.au,.au,.ix j (encB x),.au,.au,.au] [1,2,4,5,6,9] [1,2,3,5] hS hE ⟨hjj,PX.map_get hx,trivial⟩ fun a w hS=>?_
   refine wp_seq_k fun K7 hK7=>?_
   refine PX.G [(.e 70 (.sc (.bool ((decide (24<(x.ops.length:Int))||(x.term.kind != 2))||decide (6000<(IntKind.i64.wrap ((totW (turnL c (m)))+(x.ops.length:Int))))))))] [] 6 [.q ((.sc (.I (((x.ops.map encO).length:Nat):Int)):PX.PV)=(.sc (.I (x.ops.length:Int)))),.q (SX.pv [(4,decide (24<(x.ops.length:Int))),(10,(decide (24<(x.ops.length:Int))||(x.term.kind != 2)))] [(10,false)]=true→PX.AllOb [.q ((.sc (.I (((x.ops.map encO).length:Nat):Int)):PX.PV)=(.sc (.I (x.ops.length:Int))))])] [(4,decide (24<(x.ops.length:Int))),(10,(decide (24<(x.ops.length:Int))||(x.term.kind != 2)))] [.au,.au,.nm (.sc (.I (x.ops.length:Int))),.au,.au,.au,.au,.au,.au,.pk,.au,.au,.au,.au,.nm (.sc (.I (x.ops.length:Int))),.au,.au,.pk] [1,2,4,5,6,9,70] [1,2,3,5] hS hE ⟨PX.nm_len (by simp),fun hg=>⟨PX.nm_len (by simp),trivial⟩,trivial⟩ fun a w hS=>?_
   refine PX.cond_s ((decide (24<(x.ops.length:Int))||(x.term.kind != 2))||decide (6000<(IntKind.i64.wrap ((totW (turnL c (m)))+(x.ops.length:Int))))) hS (by kernel_rfl) (fun h8=>?_) (fun h8=>?_)
   ·skip
    refine wp_exit ?_
    refine hK4 _ _ ?_
    refine PX.G0 [(.e 6 (.sc (.I ((m+1+1:Nat):Int))))] [] 6 [.q ((.sc (.I (IntKind.i64.wrap (((m+1:Nat):Int)+1))):PX.PV)=(.sc (.I ((m+1+1:Nat):Int))))] [] [.au,.nm (.sc (.I ((m+1+1:Nat):Int))),.au] [1,2,4,5,6] [1,2,3] hS hE ⟨PX.nm_int (by rw [IntWalk.i64_in _ (by omega)]; omega),trivial⟩ fun a w hS=>?_
    rw [show (turnL c (m))=turnL c (m+1) from (turn_p2 hy hx hj h6 h8).symm] at hS
    exact ⟨(c.blocks.length-1)-(m+1),by omega,m+1,rfl,by omega,trivial,(PX.canon [] _ _ 4 hS hE (by kernel_rfl) (by kernel_rfl) (by kernel_rfl))⟩
   ·skip
    refine wp_skip ?_
    refine hK7 _ _ ?_
    obtain ⟨hsk,hfi,hx2⟩:=turn_ok hj h47 h8
    obtain ⟨jq1,jq2⟩:=join_eq (blk_ok hchk hy) (blk_ok hchk hx) hx2 (jump_params hchk hy hx hk1 (hj hk1)) fx
    refine PX.D [(.e 10 (.ptr 6 0)),(.e 11 (.sc (.bool (okQ y x))))] [(6,.box 62 [(.sc (.I ((jQ y x).params))),(.imm 11 (((jQ y x).ops).map encO)),(.sc (.I ((jQ y x).term.kind))),(.sc (.I ((jQ y x).term.a))),(.sc (.I ((jQ y x).term.n))),(.imm 1 (((jQ y x).term.args).map encI)),(.sc (.I ((jQ y x).term.b0))),(.imm 1 (((jQ y x).term.args0).map encI)),(.sc (.I ((jQ y x).term.b1))),(.imm 1 (((jQ y x).term.args1).map encI))])] 7 [.q (((m+1:Nat):Int)=((m+1:Nat):Int)),.q ((c.blocks.map encB)[m+1]?=some (encB y)),.q (PX.Con Try.prog 101 [(.agg (encB y)),(.agg (encB x))] [] 6 6 (.tup [(.agg [(.sc (.I ((jQ y x).params))),(.imm 11 (((jQ y x).ops).map encO)),(.sc (.I ((jQ y x).term.kind))),(.sc (.I ((jQ y x).term.a))),(.sc (.I ((jQ y x).term.n))),(.imm 1 (((jQ y x).term.args).map encI)),(.sc (.I ((jQ y x).term.b0))),(.imm 1 (((jQ y x).term.args0).map encI)),(.sc (.I ((jQ y x).term.b1))),(.imm 1 (((jQ y x).term.args1).map encI))]),(.sc (.bool (okQ y x)))]) [])] [] [.au,.au,.au,.ix (m+1) (encB y),.au,.au,.cl [] (.tup [(.agg [(.sc (.I ((jQ y x).params))),(.imm 11 (((jQ y x).ops).map encO)),(.sc (.I ((jQ y x).term.kind))),(.sc (.I ((jQ y x).term.a))),(.sc (.I ((jQ y x).term.n))),(.imm 1 (((jQ y x).term.args).map encI)),(.sc (.I ((jQ y x).term.b0))),(.imm 1 (((jQ y x).term.args0).map encI)),(.sc (.I ((jQ y x).term.b1))),(.imm 1 (((jQ y x).term.args1).map encI))]),(.sc (.bool (okQ y x)))]) [] 6,.au,.au,.au,.au,.au,.au] [1,2,4,5,6,9,10,11] [1,2,3,5,6] hS mixed hE ⟨rfl,PX.map_get hy,PX.con_any (join_con y x (hi.2.1 y (List.mem_of_getElem? hy)) (hi.2.1 x (List.mem_of_getElem? hx)) fy fx (by omega) (by omega)),trivial⟩ fun a w hS=>?_
    refine PX.G [(.e 81 (.sc (.bool (okQ y x))))] [] 7 [] [] [.au] [1,2,4,5,6,9,10,81] [1,2,3,5,6] hS hE trivial fun a w hS=>?_
    refine PX.cond_s (okQ y x) hS (by kernel_rfl) (fun h9=>?_) (fun h9=>?_)
    ·skip
     refine PX.D [] [(2,.row 62 10 true (((turnL c (m)).map encB).set (m+1) [(.sc (.I ((jQ y x).params))),(.imm 11 (((jQ y x).ops).map encO)),(.sc (.I ((jQ y x).term.kind))),(.sc (.I ((jQ y x).term.a))),(.sc (.I ((jQ y x).term.n))),(.imm 1 (((jQ y x).term.args).map encI)),(.sc (.I ((jQ y x).term.b0))),(.imm 1 (((jQ y x).term.args0).map encI)),(.sc (.I ((jQ y x).term.b1))),(.imm 1 (((jQ y x).term.args1).map encI))]))] 7 [.q (((m+1:Nat):Int)=((m+1:Nat):Int)),.q (m+1<c.blocks.length),.q (((turnL c (m)).map encB)[m+1]?=some (encB y))] [] [.au,.au,.au,.au,.au,.au,.ix (m+1) [],.lr (encB y)] [1,2,4,5,6,9] [1,2,3,5] hS mixed hE ⟨rfl,hlt,PX.map_get hy2,trivial⟩ fun a w hS=>?_
     refine PX.G0 [(.e 5 (.sc (.I (IntKind.i64.wrap ((totW (turnL c (m)))+(x.ops.length:Int))))))] [] 7 [.q ((.sc (.I (((x.ops.map encO).length:Nat):Int)):PX.PV)=(.sc (.I (x.ops.length:Int))))] [] [.au,.au,.au,.nm (.sc (.I (x.ops.length:Int))),.au,.au] [1,2,4,5,6] [1,2,3] hS hE ⟨PX.nm_len (by simp),trivial⟩ fun a w hS=>?_
     refine hK4 _ _ ?_
     refine PX.G0 [(.e 6 (.sc (.I ((m+1+1:Nat):Int))))] [] 7 [.q ((.sc (.I (IntKind.i64.wrap (((m+1:Nat):Int)+1))):PX.PV)=(.sc (.I ((m+1+1:Nat):Int))))] [] [.au,.nm (.sc (.I ((m+1+1:Nat):Int))),.au] [1,2,4,5,6] [1,2,3] hS hE ⟨PX.nm_int (by rw [IntWalk.i64_in _ (by omega)]; omega),trivial⟩ fun a w hS=>?_
     have ejq:jQ y x=joinD y x:=by unfold jQ; rw [if_pos h9]; exact jq1
     have etl:=turnL_yes hy hx hj hsk (by rw [← jq2,h9,hfi]; rfl)
     rw [show (((turnL c (m)).map encB).set (m+1) [(.sc (.I ((jQ y x).params))),(.imm 11 (((jQ y x).ops).map encO)),(.sc (.I ((jQ y x).term.kind))),(.sc (.I ((jQ y x).term.a))),(.sc (.I ((jQ y x).term.n))),(.imm 1 (((jQ y x).term.args).map encI)),(.sc (.I ((jQ y x).term.b0))),(.imm 1 (((jQ y x).term.args0).map encI)),(.sc (.I ((jQ y x).term.b1))),(.imm 1 (((jQ y x).term.args1).map encI))])=(turnL c (m+1)).map encB from by rw [etl,List.map_set,← ejq] <;> rfl] at hS
     rw [show (IntKind.i64.wrap ((totW (turnL c (m)))+(x.ops.length:Int)))=totW (turnL c (m+1)) from by rw [etl]; exact totW_turn hy2] at hS
     exact ⟨(c.blocks.length-1)-(m+1),by omega,m+1,rfl,by omega,trivial,(PX.canon [] _ _ 4 hS hE (by kernel_rfl) (by kernel_rfl) (by kernel_rfl))⟩
    ·skip
     refine wp_skip ?_
     refine hK4 _ _ ?_
     refine PX.G0 [(.e 6 (.sc (.I ((m+1+1:Nat):Int))))] [] 7 [.q ((.sc (.I (IntKind.i64.wrap (((m+1:Nat):Int)+1))):PX.PV)=(.sc (.I ((m+1+1:Nat):Int))))] [] [.au,.nm (.sc (.I ((m+1+1:Nat):Int))),.au] [1,2,4,5,6] [1,2,3] hS hE ⟨PX.nm_int (by rw [IntWalk.i64_in _ (by omega)]; omega),trivial⟩ fun a w hS=>?_
     rw [show (turnL c (m))=turnL c (m+1) from (turnL_no hy hx hj hsk (by rw [← jq2,h9]; rfl)).symm] at hS
     exact ⟨(c.blocks.length-1)-(m+1),by omega,m+1,rfl,by omega,trivial,(PX.canon [] _ _ 4 hS hE (by kernel_rfl) (by kernel_rfl) (by kernel_rfl))⟩
 ·skip
  refine wp_exit ?_
  have hk:c.blocks.length≤m+1:=le_of_dec h3
  rw [show m=c.blocks.length-1 from by omega] at hS
  exact PX.ret_s hS hE (by kernel_rfl) (by kernel_rfl) (by kernel_rfl) (.inr rfl)

set_option maxHeartbeats 1000000 in
theorem con_f66 (p:Int) (T:List BlockD) (r2 r3:List (List PX.PV)) (hl:T.length≤400) (hT:∀ y∈T,BlkI y∧y.ops.length≤1000000∧y.term.args.length≤1000000∧y.term.args0.length≤1000000∧y.term.args1.length≤1000000):PX.Con Try.prog 66 [(.ptr 1 0)] [(1,.box 26 [(.J p),(.own 2 10 T.length),(.imm 3 r2),(.imm 3 r3)]),(2,.row 62 10 true (T.map encB))] 3 100000 (.tup []) [(1,some (.box 26 [(.J p),(.own 3 10 ((copyL T (T.length)).length)),(.imm 3 r2),(.imm 3 r3)])),(2,none),(3,some (.row 62 10 true ((copyL T (T.length)).map encB)))]:=by
 refine PX.con_intro [(.ptr 1 0)] 108 Try.func66 rfl rfl (by kernel_rfl) (by kernel_rfl) ?_
 intro E a hE hS
 generalize E.w0=w at hS ⊢
 have mix:=mixed
 refine PX.G [(.e 2 (.sc (.I (totW T))))] [] 3 [.q (PX.Con Try.prog 100 [(.agg [(.J p),(.imm 10 (T.map encB)),(.imm 3 r2),(.imm 3 r3)])] [] 3 3 (.sc (.I (totW T))) []),.b (PX.lenIs T.length (T.map encB)),.b (PX.lenIs T.length (T.map encB))] [] [.au,.au,.au,.cr [2] (.I (totW T)),.au] [0,2] [1,2] hS hE ⟨PX.con_any (con_f100 p T r2 r3 (by omega)),by simp [PX.lenIs],by simp [PX.lenIs],trivial⟩ fun a w hS=>?_
 refine PX.G [(.e 16 (.sc (.I (T.length:Int)))),(.e 17 (.J 0))] [] 3 [] [] [.au,.au,.au,.au,.au,.au] [0,2,16,17] [1,2] hS hE trivial fun a w hS=>?_
 refine wp_block ?_
 replace hS:=(PX.canon [(3,2)] [(.e 0 (.ptr 1 0)),(.e 2 (.sc (.I (totW T)))),(.e 16 (.sc (.I (T.length:Int)))),(.e 17 (.J 0))] [(1,.box 26 [(.J p),(.own 3 10 ((copyL T (0)).length)),(.imm 3 r2),(.imm 3 r3)]),(3,.row 62 10 true ((copyL T (0)).map encB))] 4 hS hE (by kernel_rfl) (by kernel_rfl) (by kernel_rfl))
 replace hS:=PX.sl [0,2,16,17] (PX.reslot (t:=2) (.sc (.I (totW (copyL T (0))))) hS rfl (fun _ _ _ _ h=>(show PX.PV.sc (.I (totW T))=.sc (.I (totW (copyL T (0)))) from rfl) ▸ h))
 refine wp_loop_ghost (fun m1 a' w'=>∃ k:Nat,m1=T.length-k∧k≤T.length∧True∧PX.Sat E 108 [(.e 0 (.ptr 1 0)),(.e 2 (.sc (.I (totW (copyL T (k)))))),(.e 16 (.sc (.I (T.length:Int)))),(.e 17 (.sc (.I (k:Int))))] [(1,.box 26 [(.J p),(.own 3 10 ((copyL T (k)).length)),(.imm 3 r2),(.imm 3 r3)]),(3,.row 62 10 true ((copyL T (k)).map encB))] 4 a' w') (T.length-0) ⟨0,rfl,Nat.zero_le _,trivial,(PX.canon [] _ _ 4 hS hE (by kernel_rfl) (by kernel_rfl) (by kernel_rfl))⟩ ?_
 clear hS; rintro m1 a w ⟨k,hm1,hlek,hIk,hS⟩
 refine PX.G [(.e 18 (.sc (.bool (decide ((k:Int)<(T.length:Int))))))] [] 4 [] [] [.au] [0,2,16,17,18] [1,3] hS hE trivial fun a w hS=>?_
 refine wp_seq_k fun K2 hK2=>?_
 refine PX.cond_s (decide ((k:Int)<(T.length:Int))) hS (by kernel_rfl) (fun h3=>?_) (fun h3=>?_)
 ·skip
  refine wp_skip ?_
  refine hK2 _ _ ?_
  refine wp_seq_k fun K4 hK4=>?_
  refine wp_block ?_
  have hlt:k<T.length:=lt_of_dec h3
  have hcl:=copyL_len T k
  obtain ⟨y,hy⟩:=get_of_lt hlt
  have hy2:(copyL T (k))[k]?=some y:=by rw [copyL_get hlt (Nat.le_refl _)]; exact hy
  obtain ⟨by1,by2,by3,by4,by5⟩:=hT y (List.mem_of_getElem? hy)
  refine PX.G [(.e 3 (.sc (.I (k:Int))))] [] 4 [] [] [.au,.au] [0,2,3,16,17] [1,3] hS hE trivial fun a w hS=>?_
  refine PX.G [(.e 4 (.ptr 4 0))] [(4,.box 62 (encB y))] 5 [.q ((k:Int)=(k:Int)),.q (k<(copyL T (k)).length),.q (((copyL T (k)).map encB)[k]?=some (encB y))] [] [.au,.au,.au,.au,.au,.ix k [],.lr (encB y),.au,.au] [0,2,3,4,16,17] [1,3,4] hS hE ⟨rfl,by omega,PX.map_get hy2,trivial⟩ fun a w hS=>?_
  refine PX.G [(.e 5 (.ptr 5 0))] [(5,.box 60 [(.J y.term.kind),(.J y.term.a),(.J y.term.n),(.imm 1 (y.term.args.map encI)),(.J y.term.b0),(.imm 1 (y.term.args0.map encI)),(.J y.term.b1),(.imm 1 (y.term.args1.map encI))])] 6 [] [] [.au,.au,.au,.au] [0,2,3,4,5,16,17] [1,3,4,5] hS hE trivial fun a w hS=>?_
  refine wp_seq_k fun K5 hK5=>?_
  refine PX.G [(.e 47 (.sc (.bool ((y.term.kind != 2)||((y.term.b0 != (k:Int))&&(y.term.b1 != (k:Int)))))))] [] 6 [] [(3,(y.term.kind != 2)),(10,(y.term.b0 != (k:Int)))] [.au,.au,.au,.au,.au,.au,.au,.au,.au,.au,.au,.au,.au,.au,.au,.au,.au,.pk,.pk] [0,2,3,4,5,16,17,47] [1,3,4,5] hS hE trivial fun a w hS=>?_
  refine PX.cond_s ((y.term.kind != 2)||((y.term.b0 != (k:Int))&&(y.term.b1 != (k:Int)))) hS (by kernel_rfl) (fun h6=>?_) (fun h6=>?_)
  ·skip
   refine wp_exit ?_
   refine hK4 _ _ ?_
   refine PX.G0 [(.e 17 (.sc (.I ((k+1:Nat):Int))))] [] 6 [.q ((.sc (.I (IntKind.i64.wrap ((k:Int)+1))):PX.PV)=(.sc (.I ((k+1:Nat):Int))))] [] [.nm (.sc (.I ((k+1:Nat):Int))),.au] [0,2,16,17] [1,3] hS hE ⟨PX.nm_int (by rw [IntWalk.i64_in _ (by omega)]; omega),trivial⟩ fun a w hS=>?_
   rw [show (copyL T (k))=copyL T (k+1) from (copyL_skip hy h6).symm] at hS
   exact ⟨T.length-(k+1),by omega,k+1,rfl,by omega,trivial,(PX.canon [] _ _ 4 hS hE (by kernel_rfl) (by kernel_rfl) (by kernel_rfl))⟩
  ·skip
   refine wp_skip ?_
   refine hK5 _ _ ?_
   refine wp_seq_k fun K7 hK7=>?_
   refine PX.G [(.e 62 (.sc (.bool (decide (400<(((copyL T (k)).length+1:Nat):Int))||decide (6000<(IntKind.i64.wrap ((totW (copyL T (k)))+(y.ops.length:Int))))))))] [] 6 [.q ((.sc (.I (IntKind.i64.wrap ((((copyL T (k)).length:Nat):Int)+1))):PX.PV)=(.sc (.I (((copyL T (k)).length+1:Nat):Int)))),.q (SX.pv [(7,decide (400<(((copyL T (k)).length+1:Nat):Int)))] [(7,false)]=true→PX.AllOb [.q ((.sc (.I (((y.ops.map encO).length:Nat):Int)):PX.PV)=(.sc (.I (y.ops.length:Int))))])] [(7,decide (400<(((copyL T (k)).length+1:Nat):Int)))] [.au,.au,.au,.au,.au,.nm (.sc (.I (((copyL T (k)).length+1:Nat):Int))),.au,.au,.au,.au,.au,.nm (.sc (.I (y.ops.length:Int))),.au,.au,.pk] [0,2,3,4,5,16,17,62] [1,3,4,5] hS hE ⟨PX.nm_int (by rw [IntWalk.i64_in _ (by omega)]; omega),fun hg=>⟨PX.nm_len (by simp),trivial⟩,trivial⟩ fun a w hS=>?_
   refine PX.cond_s (decide (400<(((copyL T (k)).length+1:Nat):Int))||decide (6000<(IntKind.i64.wrap ((totW (copyL T (k)))+(y.ops.length:Int))))) hS (by kernel_rfl) (fun h8=>?_) (fun h8=>?_)
   ·skip
    refine wp_exit ?_
    refine hK4 _ _ ?_
    refine PX.G0 [(.e 17 (.sc (.I ((k+1:Nat):Int))))] [] 6 [.q ((.sc (.I (IntKind.i64.wrap ((k:Int)+1))):PX.PV)=(.sc (.I ((k+1:Nat):Int))))] [] [.nm (.sc (.I ((k+1:Nat):Int))),.au] [0,2,16,17] [1,3] hS hE ⟨PX.nm_int (by rw [IntWalk.i64_in _ (by omega)]; omega),trivial⟩ fun a w hS=>?_
    rw [show (copyL T (k))=copyL T (k+1) from (copyL_full hy (full_p h8)).symm] at hS
    exact ⟨T.length-(k+1),by omega,k+1,rfl,by omega,trivial,(PX.canon [] _ _ 4 hS hE (by kernel_rfl) (by kernel_rfl) (by kernel_rfl))⟩
   ·skip
    refine wp_skip ?_
    refine hK7 _ _ ?_
    refine PX.G [(.e 6 (.sc (.I (((copyL T (k)).length:Nat):Int))))] [] 6 [] [] [.au,.au,.au,.au,.au,.au] [0,2,3,4,5,6,16,17] [1,3,4,5] hS hE trivial fun a w hS=>?_
    refine PX.D [] [(1,.box 26 [(.J p),(.own 7 10 (((copyL T (k)).map encB:List (List PX.PV)).length+1)),(.imm 3 r2),(.imm 3 r3)]),(7,.row 62 10 true ((copyL T (k)).map encB++[(encB y)]))] 8 [.q (PX.Con Try.prog 98 [(.agg (encB y))] [] 6 6 (.agg (encB y)) []),.b (lenIs ((copyL T (k)).length) ((copyL T (k)).map encB)),.b (lenIs 1 ([(encB y)])),.b (Nat.ble (((copyL T (k)).map encB:List (List PX.PV)).length+1) 1000000000)] [] [.au,.au,.au,.au,.au,.au,.cl [] (.agg (encB y)) [] 6,.au,.au,.au,.au,.au] [0,2,3,4,5,6,16,17] [1,4,5,7] hS mixed hE ⟨con_f98i y by1 (by omega) (by omega) (by omega) (by omega),by simp [PX.lenIs],rfl,by simp; omega,trivial⟩ fun a w hS=>?_
    refine PX.G [(.e 2 (.sc (.I (IntKind.i64.wrap ((totW (copyL T (k)))+(y.ops.length:Int))))))] [] 8 [.q ((.sc (.I (((y.ops.map encO).length:Nat):Int)):PX.PV)=(.sc (.I (y.ops.length:Int))))] [] [.au,.au,.au,.nm (.sc (.I (y.ops.length:Int))),.au,.au] [0,2,3,5,6,16,17] [1,5,7] hS hE ⟨PX.nm_len (by simp),trivial⟩ fun a w hS=>?_
    refine PX.G [(.e 84 (.J 0))] [] 8 [] [] [.au] [0,2,3,5,6,16,17,84] [1,5,7] hS hE trivial fun a w hS=>?_
    refine wp_block ?_
    refine wp_loop_rounds 3 ?_
    rw [rounds_succ]
    refine PX.G [(.e 85 (.sc (.bool true)))] [] 8 [] [] [.au] [0,2,3,5,6,16,17,84,85] [1,5,7] hS hE trivial fun a w hS=>?_
    refine wp_seq_k fun K9 hK9=>?_
    refine PX.cond_s true hS (by kernel_rfl) (fun h10=>?_) (fun h10=>nomatch h10)
    refine wp_skip ?_
    refine hK9 _ _ ?_
    refine wp_seq_k fun K11 hK11=>?_
    refine wp_block ?_
    refine PX.G [(.e 7 (.J 0))] [] 8 [] [] [.au,.au] [0,2,3,5,6,7,16,17,84] [1,5,7] hS hE trivial fun a w hS=>?_
    refine PX.G [(.e 93 (.sc (.bool (y.term.b0==(k:Int)))))] [] 8 [] [] [.au,.au,.au,.au,.au,.au,.au] [0,2,3,5,6,7,16,17,84,93] [1,5,7] hS hE trivial fun a w hS=>?_
    refine PX.cond_s (y.term.b0==(k:Int)) hS (by kernel_rfl) (fun h12=>?_) (fun h12=>?_)
    ·skip
     refine PX.G0 [] [(7,.row 62 10 true ((((copyL T (k)).map encB++[(encB y)]):List (List PX.PV)).set k [(.J y.params),(.imm 11 (y.ops.map encO)),(.J y.term.kind),(.J y.term.a),(.J y.term.n),(.imm 1 (y.term.args.map encI)),(.sc (.I (((copyL T (k)).length:Nat):Int))),(.imm 1 (y.term.args0.map encI)),(.J y.term.b1),(.imm 1 (y.term.args1.map encI))]))] 8 [.q ((k:Int)=(k:Int)),.q (k<((copyL T (k)).map encB:List (List PX.PV)).length+1),.q ((((copyL T (k)).map encB++[(encB y)]):List (List PX.PV))[k]?=some (encB y))] [] [.au,.au,.au,.au,.au,.au,.au,.ix k [],.au,.au,.au,.au,.lr (encB y)] [0,2,3,5,6,16,17,84] [1,5,7] hS hE ⟨rfl,by simp; omega,rows_get hy2,trivial⟩ fun a w hS=>?_
     refine hK11 _ _ ?_
     refine PX.G0 [(.e 84 (.J 1))] [] 8 [] [] [.au,.au] [0,2,3,5,6,16,17,84] [1,5,7] hS hE trivial fun a w hS=>?_
     show Code.rounds _ _ _ 2 _ _
     rw [rounds_succ]
     refine PX.G [(.e 85 (.sc (.bool true)))] [] 8 [] [] [.au] [0,2,3,5,6,16,17,84,85] [1,5,7] hS hE trivial fun a w hS=>?_
     refine wp_seq_k fun K13 hK13=>?_
     refine PX.cond_s true hS (by kernel_rfl) (fun h14=>?_) (fun h14=>nomatch h14)
     refine wp_skip ?_
     refine hK13 _ _ ?_
     refine wp_seq_k fun K15 hK15=>?_
     refine wp_block ?_
     refine PX.G [(.e 7 (.J 1))] [] 8 [] [] [.au,.au] [0,2,3,5,6,7,16,17,84] [1,5,7] hS hE trivial fun a w hS=>?_
     refine PX.G [(.e 93 (.sc (.bool (y.term.b1==(k:Int)))))] [] 8 [] [] [.au,.au,.au,.au,.au,.au,.au] [0,2,3,5,6,7,16,17,84,93] [1,5,7] hS hE trivial fun a w hS=>?_
     refine PX.cond_s (y.term.b1==(k:Int)) hS (by kernel_rfl) (fun h16=>?_) (fun h16=>?_)
     ·skip
      refine PX.G0 [] [(7,.row 62 10 true ((((((copyL T (k)).map encB++[(encB y)]):List (List PX.PV)).set k [(.J y.params),(.imm 11 (y.ops.map encO)),(.J y.term.kind),(.J y.term.a),(.J y.term.n),(.imm 1 (y.term.args.map encI)),(.sc (.I (((copyL T (k)).length:Nat):Int))),(.imm 1 (y.term.args0.map encI)),(.J y.term.b1),(.imm 1 (y.term.args1.map encI))]):List (List PX.PV)).set k [(.J y.params),(.imm 11 (y.ops.map encO)),(.J y.term.kind),(.J y.term.a),(.J y.term.n),(.imm 1 (y.term.args.map encI)),(.sc (.I (((copyL T (k)).length:Nat):Int))),(.imm 1 (y.term.args0.map encI)),(.sc (.I (((copyL T (k)).length:Nat):Int))),(.imm 1 (y.term.args1.map encI))]))] 8 [.q ((k:Int)=(k:Int)),.q (k<((copyL T (k)).map encB:List (List PX.PV)).length+1),.q ((((((copyL T (k)).map encB++[(encB y)]):List (List PX.PV)).set k [(.J y.params),(.imm 11 (y.ops.map encO)),(.J y.term.kind),(.J y.term.a),(.J y.term.n),(.imm 1 (y.term.args.map encI)),(.sc (.I (((copyL T (k)).length:Nat):Int))),(.imm 1 (y.term.args0.map encI)),(.J y.term.b1),(.imm 1 (y.term.args1.map encI))]):List (List PX.PV))[k]?=some ([(.J y.params),(.imm 11 (y.ops.map encO)),(.J y.term.kind),(.J y.term.a),(.J y.term.n),(.imm 1 (y.term.args.map encI)),(.sc (.I (((copyL T (k)).length:Nat):Int))),(.imm 1 (y.term.args0.map encI)),(.J y.term.b1),(.imm 1 (y.term.args1.map encI))]:List PX.PV))] [] [.au,.au,.au,.au,.au,.au,.au,.ix k [],.au,.au,.au,.au,.lr ([(.J y.params),(.imm 11 (y.ops.map encO)),(.J y.term.kind),(.J y.term.a),(.J y.term.n),(.imm 1 (y.term.args.map encI)),(.sc (.I (((copyL T (k)).length:Nat):Int))),(.imm 1 (y.term.args0.map encI)),(.J y.term.b1),(.imm 1 (y.term.args1.map encI))]:List PX.PV)] [0,2,3,5,6,16,17,84] [1,5,7] hS hE ⟨rfl,by simp; omega,by rw [List.getElem?_set_self (by simp; omega)],trivial⟩ fun a w hS=>?_
      refine hK15 _ _ ?_
      refine PX.G0 [(.e 84 (.J 2))] [] 8 [] [] [.au,.au] [0,2,3,5,6,16,17,84] [1,5,7] hS hE trivial fun a w hS=>?_
      show Code.rounds _ _ _ 1 _ _
      rw [rounds_succ]
      refine PX.G [(.e 85 (.sc (.bool false)))] [] 8 [] [] [.au] [0,2,3,5,6,16,17,84,85] [1,5,7] hS hE trivial fun a w hS=>?_
      refine wp_seq_k fun K17 hK17=>?_
      refine PX.cond_s false hS (by kernel_rfl) (fun h18=>nomatch h18) (fun h18=>?_)
      refine wp_exit ?_
      refine hK4 _ _ ?_
      refine PX.G0 [(.e 17 (.sc (.I ((k+1:Nat):Int))))] [] 8 [.q ((.sc (.I (IntKind.i64.wrap ((k:Int)+1))):PX.PV)=(.sc (.I ((k+1:Nat):Int))))] [] [.nm (.sc (.I ((k+1:Nat):Int))),.au] [0,2,16,17] [1,7] hS hE ⟨PX.nm_int (by rw [IntWalk.i64_in _ (by omega)]; omega),trivial⟩ fun a w hS=>?_
      have ecl:=copyL_yes hy h6 (full_p h8)
      rw [show ((((((copyL T (k)).map encB++[(encB y)]):List (List PX.PV)).set k [(.J y.params),(.imm 11 (y.ops.map encO)),(.J y.term.kind),(.J y.term.a),(.J y.term.n),(.imm 1 (y.term.args.map encI)),(.sc (.I (((copyL T (k)).length:Nat):Int))),(.imm 1 (y.term.args0.map encI)),(.J y.term.b1),(.imm 1 (y.term.args1.map encI))]):List (List PX.PV)).set k [(.J y.params),(.imm 11 (y.ops.map encO)),(.J y.term.kind),(.J y.term.a),(.J y.term.n),(.imm 1 (y.term.args.map encI)),(.sc (.I (((copyL T (k)).length:Nat):Int))),(.imm 1 (y.term.args0.map encI)),(.sc (.I (((copyL T (k)).length:Nat):Int))),(.imm 1 (y.term.args1.map encI))])=(copyL T (k+1)).map encB from by rw [ecl]; exact (by rw [List.set_set]; exact copy_rows (v0:=true) (v1:=true) hy2 h12 h16)] at hS
      replace hS:=PX.recell (id:=1) (j:=1) (.own 7 10 ((copyL T (k+1)).length)) hS rfl rfl rfl (fun _ _ _ _ h=>(show PX.PV.own 7 10 (((copyL T (k)).map encB:List (List PX.PV)).length+1)=.own 7 10 ((copyL T (k+1)).length) from by rw [show ((copyL T (k)).map encB:List (List PX.PV)).length+1=(copyL T (k+1)).length from by rw [ecl]; simp]) ▸ h)
      rw [show (IntKind.i64.wrap ((totW (copyL T (k)))+(y.ops.length:Int)))=totW (copyL T (k+1)) from by rw [ecl]; exact totW_copy hy2] at hS
      exact ⟨T.length-(k+1),by omega,k+1,rfl,by omega,trivial,(PX.canon [(3,7)] _ _ 4 hS hE (by kernel_rfl) (by kernel_rfl) (by kernel_rfl))⟩
     ·skip
      refine wp_skip ?_
      refine hK15 _ _ ?_
      refine PX.G0 [(.e 84 (.J 2))] [] 8 [] [] [.au,.au] [0,2,3,5,6,16,17,84] [1,5,7] hS hE trivial fun a w hS=>?_
      show Code.rounds _ _ _ 1 _ _
      rw [rounds_succ]
      refine PX.G [(.e 85 (.sc (.bool false)))] [] 8 [] [] [.au] [0,2,3,5,6,16,17,84,85] [1,5,7] hS hE trivial fun a w hS=>?_
      refine wp_seq_k fun K19 hK19=>?_
      refine PX.cond_s false hS (by kernel_rfl) (fun h20=>nomatch h20) (fun h20=>?_)
      refine wp_exit ?_
      refine hK4 _ _ ?_
      refine PX.G0 [(.e 17 (.sc (.I ((k+1:Nat):Int))))] [] 8 [.q ((.sc (.I (IntKind.i64.wrap ((k:Int)+1))):PX.PV)=(.sc (.I ((k+1:Nat):Int))))] [] [.nm (.sc (.I ((k+1:Nat):Int))),.au] [0,2,16,17] [1,7] hS hE ⟨PX.nm_int (by rw [IntWalk.i64_in _ (by omega)]; omega),trivial⟩ fun a w hS=>?_
      have ecl:=copyL_yes hy h6 (full_p h8)
      rw [show ((((copyL T (k)).map encB++[(encB y)]):List (List PX.PV)).set k [(.J y.params),(.imm 11 (y.ops.map encO)),(.J y.term.kind),(.J y.term.a),(.J y.term.n),(.imm 1 (y.term.args.map encI)),(.sc (.I (((copyL T (k)).length:Nat):Int))),(.imm 1 (y.term.args0.map encI)),(.J y.term.b1),(.imm 1 (y.term.args1.map encI))])=(copyL T (k+1)).map encB from by rw [ecl]; exact copy_rows (v0:=true) (v1:=false) hy2 h12 h16] at hS
      replace hS:=PX.recell (id:=1) (j:=1) (.own 7 10 ((copyL T (k+1)).length)) hS rfl rfl rfl (fun _ _ _ _ h=>(show PX.PV.own 7 10 (((copyL T (k)).map encB:List (List PX.PV)).length+1)=.own 7 10 ((copyL T (k+1)).length) from by rw [show ((copyL T (k)).map encB:List (List PX.PV)).length+1=(copyL T (k+1)).length from by rw [ecl]; simp]) ▸ h)
      rw [show (IntKind.i64.wrap ((totW (copyL T (k)))+(y.ops.length:Int)))=totW (copyL T (k+1)) from by rw [ecl]; exact totW_copy hy2] at hS
      exact ⟨T.length-(k+1),by omega,k+1,rfl,by omega,trivial,(PX.canon [(3,7)] _ _ 4 hS hE (by kernel_rfl) (by kernel_rfl) (by kernel_rfl))⟩
    ·skip
     refine wp_skip ?_
     refine hK11 _ _ ?_
     refine PX.G0 [(.e 84 (.J 1))] [] 8 [] [] [.au,.au] [0,2,3,5,6,16,17,84] [1,5,7] hS hE trivial fun a w hS=>?_
     show Code.rounds _ _ _ 2 _ _
     rw [rounds_succ]
     refine PX.G [(.e 85 (.sc (.bool true)))] [] 8 [] [] [.au] [0,2,3,5,6,16,17,84,85] [1,5,7] hS hE trivial fun a w hS=>?_
     refine wp_seq_k fun K21 hK21=>?_
     refine PX.cond_s true hS (by kernel_rfl) (fun h22=>?_) (fun h22=>nomatch h22)
     refine wp_skip ?_
     refine hK21 _ _ ?_
     refine wp_seq_k fun K23 hK23=>?_
     refine wp_block ?_
     refine PX.G [(.e 7 (.J 1))] [] 8 [] [] [.au,.au] [0,2,3,5,6,7,16,17,84] [1,5,7] hS hE trivial fun a w hS=>?_
     refine PX.G [(.e 93 (.sc (.bool (y.term.b1==(k:Int)))))] [] 8 [] [] [.au,.au,.au,.au,.au,.au,.au] [0,2,3,5,6,7,16,17,84,93] [1,5,7] hS hE trivial fun a w hS=>?_
     refine PX.cond_s (y.term.b1==(k:Int)) hS (by kernel_rfl) (fun h24=>?_) (fun h24=>?_)
     ·skip
      refine PX.G0 [] [(7,.row 62 10 true ((((copyL T (k)).map encB++[(encB y)]):List (List PX.PV)).set k [(.J y.params),(.imm 11 (y.ops.map encO)),(.J y.term.kind),(.J y.term.a),(.J y.term.n),(.imm 1 (y.term.args.map encI)),(.J y.term.b0),(.imm 1 (y.term.args0.map encI)),(.sc (.I (((copyL T (k)).length:Nat):Int))),(.imm 1 (y.term.args1.map encI))]))] 8 [.q ((k:Int)=(k:Int)),.q (k<((copyL T (k)).map encB:List (List PX.PV)).length+1),.q ((((copyL T (k)).map encB++[(encB y)]):List (List PX.PV))[k]?=some (encB y))] [] [.au,.au,.au,.au,.au,.au,.au,.ix k [],.au,.au,.au,.au,.lr (encB y)] [0,2,3,5,6,16,17,84] [1,5,7] hS hE ⟨rfl,by simp; omega,rows_get hy2,trivial⟩ fun a w hS=>?_
      refine hK23 _ _ ?_
      refine PX.G0 [(.e 84 (.J 2))] [] 8 [] [] [.au,.au] [0,2,3,5,6,16,17,84] [1,5,7] hS hE trivial fun a w hS=>?_
      show Code.rounds _ _ _ 1 _ _
      rw [rounds_succ]
      refine PX.G [(.e 85 (.sc (.bool false)))] [] 8 [] [] [.au] [0,2,3,5,6,16,17,84,85] [1,5,7] hS hE trivial fun a w hS=>?_
      refine wp_seq_k fun K25 hK25=>?_
      refine PX.cond_s false hS (by kernel_rfl) (fun h26=>nomatch h26) (fun h26=>?_)
      refine wp_exit ?_
      refine hK4 _ _ ?_
      refine PX.G0 [(.e 17 (.sc (.I ((k+1:Nat):Int))))] [] 8 [.q ((.sc (.I (IntKind.i64.wrap ((k:Int)+1))):PX.PV)=(.sc (.I ((k+1:Nat):Int))))] [] [.nm (.sc (.I ((k+1:Nat):Int))),.au] [0,2,16,17] [1,7] hS hE ⟨PX.nm_int (by rw [IntWalk.i64_in _ (by omega)]; omega),trivial⟩ fun a w hS=>?_
      have ecl:=copyL_yes hy h6 (full_p h8)
      rw [show ((((copyL T (k)).map encB++[(encB y)]):List (List PX.PV)).set k [(.J y.params),(.imm 11 (y.ops.map encO)),(.J y.term.kind),(.J y.term.a),(.J y.term.n),(.imm 1 (y.term.args.map encI)),(.J y.term.b0),(.imm 1 (y.term.args0.map encI)),(.sc (.I (((copyL T (k)).length:Nat):Int))),(.imm 1 (y.term.args1.map encI))])=(copyL T (k+1)).map encB from by rw [ecl]; exact copy_rows (v0:=false) (v1:=true) hy2 h12 h24] at hS
      replace hS:=PX.recell (id:=1) (j:=1) (.own 7 10 ((copyL T (k+1)).length)) hS rfl rfl rfl (fun _ _ _ _ h=>(show PX.PV.own 7 10 (((copyL T (k)).map encB:List (List PX.PV)).length+1)=.own 7 10 ((copyL T (k+1)).length) from by rw [show ((copyL T (k)).map encB:List (List PX.PV)).length+1=(copyL T (k+1)).length from by rw [ecl]; simp]) ▸ h)
      rw [show (IntKind.i64.wrap ((totW (copyL T (k)))+(y.ops.length:Int)))=totW (copyL T (k+1)) from by rw [ecl]; exact totW_copy hy2] at hS
      exact ⟨T.length-(k+1),by omega,k+1,rfl,by omega,trivial,(PX.canon [(3,7)] _ _ 4 hS hE (by kernel_rfl) (by kernel_rfl) (by kernel_rfl))⟩
     ·skip
      refine wp_skip ?_
      refine hK23 _ _ ?_
      refine PX.G0 [(.e 84 (.J 2))] [] 8 [] [] [.au,.au] [0,2,3,5,6,16,17,84] [1,5,7] hS hE trivial fun a w hS=>?_
      show Code.rounds _ _ _ 1 _ _
      rw [rounds_succ]
      refine PX.G [(.e 85 (.sc (.bool false)))] [] 8 [] [] [.au] [0,2,3,5,6,16,17,84,85] [1,5,7] hS hE trivial fun a w hS=>?_
      refine wp_seq_k fun K27 hK27=>?_
      refine PX.cond_s false hS (by kernel_rfl) (fun h28=>nomatch h28) (fun h28=>?_)
      refine wp_exit ?_
      refine hK4 _ _ ?_
      refine PX.G0 [(.e 17 (.sc (.I ((k+1:Nat):Int))))] [] 8 [.q ((.sc (.I (IntKind.i64.wrap ((k:Int)+1))):PX.PV)=(.sc (.I ((k+1:Nat):Int))))] [] [.nm (.sc (.I ((k+1:Nat):Int))),.au] [0,2,16,17] [1,7] hS hE ⟨PX.nm_int (by rw [IntWalk.i64_in _ (by omega)]; omega),trivial⟩ fun a w hS=>?_
      have ecl:=copyL_yes hy h6 (full_p h8)
      rw [show ((copyL T (k)).map encB++[(encB y)])=(copyL T (k+1)).map encB from by rw [ecl]; exact (rows_self hy2).trans (copy_rows (v0:=false) (v1:=false) hy2 h12 h24)] at hS
      replace hS:=PX.recell (id:=1) (j:=1) (.own 7 10 ((copyL T (k+1)).length)) hS rfl rfl rfl (fun _ _ _ _ h=>(show PX.PV.own 7 10 (((copyL T (k)).map encB:List (List PX.PV)).length+1)=.own 7 10 ((copyL T (k+1)).length) from by rw [show ((copyL T (k)).map encB:List (List PX.PV)).length+1=(copyL T (k+1)).length from by rw [ecl]; simp]) ▸ h)
      rw [show (IntKind.i64.wrap ((totW (copyL T (k)))+(y.ops.length:Int)))=totW (copyL T (k+1)) from by rw [ecl]; exact totW_copy hy2] at hS
      exact ⟨T.length-(k+1),by omega,k+1,rfl,by omega,trivial,(PX.canon [(3,7)] _ _ 4 hS hE (by kernel_rfl) (by kernel_rfl) (by kernel_rfl))⟩
 ·skip
  refine wp_exit ?_
  have hk:T.length≤k:=le_of_dec h3
  rw [show k=T.length from by omega] at hS
  exact PX.ret_s hS hE (by kernel_rfl) (by kernel_rfl) (by kernel_rfl) (.inr rfl)
end Go.Proofs.Ytlkcidmmpeebeaa
