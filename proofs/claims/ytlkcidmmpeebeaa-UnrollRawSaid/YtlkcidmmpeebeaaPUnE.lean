/- Proved: turned of debuggerref12 -/
import Derived.Test.YtlkcidmmpeebeaaPUnD
import Derived.Test.YtlkcidmmpeebeaaUnD
set_option linter.unusedVariables false
set_option linter.unusedSimpArgs false
namespace Go.Proofs.Ytlkcidmmpeebeaa
open Go.RowKit Go.PX
set_option maxRecDepth 100000
set_option maxHeartbeats 1000000 in
theorem con_f67 (c:CodeD) (hi:CodeI c) (hchk:R.check c (totW c.blocks)=0) (hfit:Fit c) (hfb:c.blocks.length≤400):PX.Con Try.prog 67 [(codeP c)] [] 1 100000 (.agg [(.J c.params),(.own 1 10 c.blocks.length),(.imm 3 (c.contexts.map encR)),(.imm 3 (c.objects.map encR))]) [(1,some (.row 62 10 true ((turnL c (c.blocks.length-1)).map encB)))]:=by
 refine PX.con_intro [(codeP c)] 97 Try.func67 rfl rfl (by kernel_rfl) (by kernel_rfl) ?_
 intro E a hE hS
 generalize E.w0=w at hS ⊢
 have mix:=mixed
 refine PX.G [(.e 1 (.ptr 1 0)),(.e 2 (.ptr 2 0))] [(1,.box 26 (codeL c)),(2,.box 26 [(.J 0),(.sc (.slice none 0 0)),(.sc (.slice none 0 0)),(.sc (.slice none 0 0))])] 3 [] [] [.au,.au] [1,2] [1,2] hS hE trivial fun a w hS=>?_
 refine PX.G [(.e 3 (.ptr 3 0))] [(3,.box 26 (codeL c))] 4 [] [] [.au,.au,.au] [1,2,3] [1,2,3] hS hE trivial fun a w hS=>?_
 refine PX.G [] [(3,.box 26 [(.J c.params),(.own 5 10 (0+(c.blocks.map encB).length)),(.imm 3 (c.contexts.map encR)),(.imm 3 (c.objects.map encR))]),(5,.row 62 10 true (c.blocks.map encB))] 6 [.b (lenIs 0 ([])),.b true,.b (Nat.ble (0+(c.blocks.map encB).length) 1000000000)] [] [.au,.au,.au,.au,.au,.au] [1,2,3] [1,2,3,5] hS hE ⟨rfl,rfl,by simp; omega,trivial⟩ fun a w hS=>?_
 refine wp_seq_k fun K1 hK1=>?_
 refine PX.G [(.e 4 (.J 1))] [] 6 [] [] [.au] [1,2,3,4] [1,2,3,5] hS hE trivial fun a w hS=>?_
 refine wp_block ?_
 replace hS:=PX.recell (id:=3) (j:=1) (.own 5 10 c.blocks.length) hS rfl rfl rfl (fun _ _ _ _ h=>(show PX.PV.own 5 10 (0+(c.blocks.map encB).length)=.own 5 10 c.blocks.length from by congr 1; simp) ▸ h)
 rw [show c.blocks.map encB=(turnL c (0)).map encB from rfl] at hS
 refine wp_loop_ghost (fun m2 a' w'=>∃ m:Nat,m2=(c.blocks.length-1)-m∧m≤(c.blocks.length-1)∧True∧PX.Sat E 97 [(.e 1 (.ptr 1 0)),(.e 2 (.ptr 2 0)),(.e 3 (.ptr 3 0)),(.e 4 (.sc (.I ((m+1:Nat):Int))))] [(1,.box 26 (codeL c)),(2,.box 26 [(.J 0),(.sc (.slice none 0 0)),(.sc (.slice none 0 0)),(.sc (.slice none 0 0))]),(3,.box 26 [(.J c.params),(.own 5 10 c.blocks.length),(.imm 3 (c.contexts.map encR)),(.imm 3 (c.objects.map encR))]),(5,.row 62 10 true ((turnL c (m)).map encB))] 6 a' w') ((c.blocks.length-1)-0) ⟨0,rfl,Nat.zero_le _,trivial,(PX.canon [] _ _ 6 hS hE (by kernel_rfl) (by kernel_rfl) (by kernel_rfl))⟩ ?_
 clear hS; rintro m2 a w ⟨m,hm2,hlem,hIm,hS⟩
 refine wp_seq_k fun K3 hK3=>?_
 refine PX.G [(.e 19 (.sc (.bool (decide (((m+1:Nat):Int)<(c.blocks.length:Int))))))] [] 6 [.q ((.sc (.I (((c.blocks.map encB).length:Nat):Int)):PX.PV)=(.sc (.I (c.blocks.length:Int))))] [] [.au,.au,.au,.nm (.sc (.I (c.blocks.length:Int))),.au] [1,2,3,4,19] [1,2,3,5] hS hE ⟨PX.nm_len (by simp),trivial⟩ fun a w hS=>?_
 refine PX.cond_s (decide (((m+1:Nat):Int)<(c.blocks.length:Int))) hS (by kernel_rfl) (fun h4=>?_) (fun h4=>?_)
 ·skip
  refine wp_skip ?_
  refine hK3 _ _ ?_
  refine wp_seq_k fun K5 hK5=>?_
  refine wp_block ?_
  have hlt:m+1<c.blocks.length:=lt_of_dec h4
  obtain ⟨y,hy⟩:=get_of_lt hlt
  have hy2:(turnL c (m))[m+1]?=some y:=by rw [turnL_get (by omega)]; exact hy
  obtain ⟨x,j,hx,hj⟩:=jump_blk hchk hy
  have fy:=hfit.ops y (List.mem_of_getElem? hy); have fx:=hfit.ops x (List.mem_of_getElem? hx); have ty:=hfit.term y (List.mem_of_getElem? hy); have tx:=hfit.term x (List.mem_of_getElem? hx)
  have oy:=blk_ok hchk hy; have pt:=top_bd oy
  refine PX.G [(.e 5 (.ptr 6 0))] [(6,.box 62 (encB y))] 7 [.q (((m+1:Nat):Int)=((m+1:Nat):Int)),.q (m+1<c.blocks.length),.q (((turnL c (m)).map encB)[m+1]?=some (encB y))] [] [.au,.au,.au,.ix (m+1) [],.lr (encB y),.au,.au] [1,2,3,4,5] [1,2,3,5,6] hS hE ⟨rfl,hlt,PX.map_get hy2,trivial⟩ fun a w hS=>?_
  refine PX.G [(.e 6 (.J y.term.b0))] [] 7 [] [] [.au,.au,.au,.au,.au,.au] [1,2,3,4,5,6] [1,2,3,5,6] hS hE trivial fun a w hS=>?_
  refine wp_seq_k fun K6 hK6=>?_
  refine PX.G [(.e 66 (.sc (.bool (((((y.term.kind != 1)||(y.term.b0==((m+1:Nat):Int)))||decide ((edgesK c y.term.b0 c.blocks.length)<2))||decide (24<(x.ops.length:Int)))||(x.term.kind != 2)))))] [] 7 [.q (SX.pv [(4,(y.term.kind != 1)),(9,((y.term.kind != 1)||(y.term.b0==((m+1:Nat):Int)))),(15,(((y.term.kind != 1)||(y.term.b0==((m+1:Nat):Int)))||decide ((edgesK c y.term.b0 c.blocks.length)<2))),(25,((((y.term.kind != 1)||(y.term.b0==((m+1:Nat):Int)))||decide ((edgesK c y.term.b0 c.blocks.length)<2))||decide (24<(x.ops.length:Int))))] [(9,false)]=true→PX.AllOb [.q (PX.Con Try.prog 102 [(codeP c),(.J y.term.b0)] [] 7 7 (.sc (.I (edgesK c y.term.b0 c.blocks.length))) [])]),.q (SX.pv [(4,(y.term.kind != 1)),(9,((y.term.kind != 1)||(y.term.b0==((m+1:Nat):Int)))),(15,(((y.term.kind != 1)||(y.term.b0==((m+1:Nat):Int)))||decide ((edgesK c y.term.b0 c.blocks.length)<2))),(25,((((y.term.kind != 1)||(y.term.b0==((m+1:Nat):Int)))||decide ((edgesK c y.term.b0 c.blocks.length)<2))||decide (24<(x.ops.length:Int))))] [(15,false)]=true→PX.AllOb [.q (y.term.b0=(j:Int)),.q ((c.blocks.map encB)[j]?=some (encB x))]),.q (SX.pv [(4,(y.term.kind != 1)),(9,((y.term.kind != 1)||(y.term.b0==((m+1:Nat):Int)))),(15,(((y.term.kind != 1)||(y.term.b0==((m+1:Nat):Int)))||decide ((edgesK c y.term.b0 c.blocks.length)<2))),(25,((((y.term.kind != 1)||(y.term.b0==((m+1:Nat):Int)))||decide ((edgesK c y.term.b0 c.blocks.length)<2))||decide (24<(x.ops.length:Int))))] [(15,false)]=true→PX.AllOb [.q ((.sc (.I (((x.ops.map encO).length:Nat):Int)):PX.PV)=(.sc (.I (x.ops.length:Int))))]),.q (SX.pv [(4,(y.term.kind != 1)),(9,((y.term.kind != 1)||(y.term.b0==((m+1:Nat):Int)))),(15,(((y.term.kind != 1)||(y.term.b0==((m+1:Nat):Int)))||decide ((edgesK c y.term.b0 c.blocks.length)<2))),(25,((((y.term.kind != 1)||(y.term.b0==((m+1:Nat):Int)))||decide ((edgesK c y.term.b0 c.blocks.length)<2))||decide (24<(x.ops.length:Int))))] [(25,false)]=true→PX.AllOb [.q (y.term.b0=(j:Int)),.q ((c.blocks.map encB)[j]?=some (encB x))])] [(4,(y.term.kind != 1)),(9,((y.term.kind != 1)||(y.term.b0==((m+1:Nat):Int)))),(15,(((y.term.kind != 1)||(y.term.b0==((m+1:Nat):Int)))||decide ((edgesK c y.term.b0 c.blocks.length)<2))),(25,((((y.term.kind != 1)||(y.term.b0==((m+1:Nat):Int)))||decide ((edgesK c y.term.b0 c.blocks.length)<2))||decide (24<(x.ops.length:Int))))] [.au,.au,.au,.au,.au,.au,.au,.au,.pk,.au,.au,.au,.cl [] (.sc (.I (edgesK c y.term.b0 c.blocks.length))) [] 7,.au,.pk,.au,.au,.au,.au,.ix j (encB x),.au,.au,.nm (.sc (.I (x.ops.length:Int))),.au,.pk,.au,.au,.au,.au,.ix j (encB x),.au,.au,.au,.au,.pk] [1,2,3,4,5,6,66] [1,2,3,5,6] hS hE ⟨fun hg=>⟨PX.con_any (con_f102 c y.term.b0 (by omega)),trivial⟩,fun hg=>⟨by simp [SX.pv,SX.kv] at hg; first | exact (hj hg.1.1).symm | exact (hj hg.1.1.1).symm,PX.map_get hx,trivial⟩,fun hg=>⟨PX.nm_len (by simp),trivial⟩,fun hg=>⟨by simp [SX.pv,SX.kv] at hg; first | exact (hj hg.1.1).symm | exact (hj hg.1.1.1).symm,PX.map_get hx,trivial⟩,trivial⟩ fun a w hS=>?_
  refine PX.cond_s (((((y.term.kind != 1)||(y.term.b0==((m+1:Nat):Int)))||decide ((edgesK c y.term.b0 c.blocks.length)<2))||decide (24<(x.ops.length:Int)))||(x.term.kind != 2)) hS (by kernel_rfl) (fun h7=>?_) (fun h7=>?_)
  ·skip
   refine wp_exit ?_
   refine hK5 _ _ ?_
   refine PX.G0 [(.e 4 (.sc (.I ((m+1+1:Nat):Int))))] [] 7 [.q ((.sc (.I (IntKind.i64.wrap (((m+1:Nat):Int)+1))):PX.PV)=(.sc (.I ((m+1+1:Nat):Int))))] [] [.au,.nm (.sc (.I ((m+1+1:Nat):Int))),.au] [1,2,3,4] [1,2,3,5] hS hE ⟨PX.nm_int (by rw [IntWalk.i64_in _ (by omega)]; omega),trivial⟩ fun a w hS=>?_
   rw [show (turnL c (m))=turnL c (m+1) from (turnL_skip hy hx hj h7).symm] at hS
   exact ⟨(c.blocks.length-1)-(m+1),by omega,m+1,rfl,by omega,trivial,(PX.canon [] _ _ 6 hS hE (by kernel_rfl) (by kernel_rfl) (by kernel_rfl))⟩
  ·skip
   refine wp_skip ?_
   refine hK6 _ _ ?_
   have hsk:skipT c y x (m+1)=false:=h7
   have hjj:y.term.b0=(j:Int):=(hj (skipT_kind hsk)).symm
   refine PX.D [(.e 7 (.ptr 7 0)),(.e 8 (.sc (.bool (joinOk y x))))] [(7,.box 62 [(.sc (.I ((joinD y x).params))),(.imm 11 (((joinD y x).ops).map encO)),(.sc (.I ((joinD y x).term.kind))),(.sc (.I ((joinD y x).term.a))),(.sc (.I ((joinD y x).term.n))),(.imm 1 (((joinD y x).term.args).map encI)),(.sc (.I ((joinD y x).term.b0))),(.imm 1 (((joinD y x).term.args0).map encI)),(.sc (.I ((joinD y x).term.b1))),(.imm 1 (((joinD y x).term.args1).map encI))])] 8 [.q (y.term.b0=(j:Int)),.q ((c.blocks.map encB)[j]?=some (encB x)),.q (PX.Con Try.prog 103 [(.agg (encB y)),(.agg (encB x))] [] 7 7 (.tup [(.agg [(.sc (.I ((joinD y x).params))),(.imm 11 (((joinD y x).ops).map encO)),(.sc (.I ((joinD y x).term.kind))),(.sc (.I ((joinD y x).term.a))),(.sc (.I ((joinD y x).term.n))),(.imm 1 (((joinD y x).term.args).map encI)),(.sc (.I ((joinD y x).term.b0))),(.imm 1 (((joinD y x).term.args0).map encI)),(.sc (.I ((joinD y x).term.b1))),(.imm 1 (((joinD y x).term.args1).map encI))]),(.sc (.bool (joinOk y x)))]) [])] [] [.au,.au,.au,.au,.ix j (encB x),.au,.cl [] (.tup [(.agg [(.sc (.I ((joinD y x).params))),(.imm 11 (((joinD y x).ops).map encO)),(.sc (.I ((joinD y x).term.kind))),(.sc (.I ((joinD y x).term.a))),(.sc (.I ((joinD y x).term.n))),(.imm 1 (((joinD y x).term.args).map encI)),(.sc (.I ((joinD y x).term.b0))),(.imm 1 (((joinD y x).term.args0).map encI)),(.sc (.I ((joinD y x).term.b1))),(.imm 1 (((joinD y x).term.args1).map encI))]),(.sc (.bool (joinOk y x)))]) [] 7,.au,.au,.au,.au,.au,.au] [1,2,3,4,6,7,8] [1,2,3,5,7] hS mixed hE ⟨hjj,PX.map_get hx,PX.con_any (con_f103 y x ⟨by have:=oy.params; omega,by have:=oy.params; omega⟩ (by omega) (by omega) (by omega) ⟨pt.1,by omega⟩ (by omega) (by omega) (by omega)),trivial⟩ fun a w hS=>?_
   refine PX.D [(.e 90 (.sc (.bool ((joinOk y x)&&decide ((IntKind.i64.wrap ((totW (turnL c (m)))+(x.ops.length:Int)))≤6000)))))] [] 8 [.q (SX.pv [(1,(joinOk y x))] [(1,true)]=true→PX.AllOb [.q (PX.Con Try.prog 45 [(.agg [(.J c.params),(.imm 10 ((turnL c (m)).map encB)),(.imm 3 (c.contexts.map encR)),(.imm 3 (c.objects.map encR))])] [] 8 8 (.sc (.I (totW (turnL c (m))))) []),.b (PX.lenIs c.blocks.length ((turnL c (m)).map encB))]),.q (SX.pv [(1,(joinOk y x))] [(1,true)]=true→PX.AllOb [.q (y.term.b0=(j:Int)),.q ((c.blocks.map encB)[j]?=some (encB x))]),.q (SX.pv [(1,(joinOk y x))] [(1,true)]=true→PX.AllOb [.q ((.sc (.I (((x.ops.map encO).length:Nat):Int)):PX.PV)=(.sc (.I (x.ops.length:Int))))])] [(1,(joinOk y x))] [.au,.au,.au,.cr [5] (.I (totW (turnL c (m)))),.au,.au,.au,.ix j (encB x),.au,.au,.nm (.sc (.I (x.ops.length:Int))),.au,.au,.pk] [1,2,3,4,7,90] [1,2,3,5,7] hS mixed hE ⟨fun hg=>⟨PX.con_any (con_f45 c.params (turnL c m) _ _ (by rw [turnL_len]; omega)),by simp [PX.lenIs,turnL_len],trivial⟩,fun hg=>⟨hjj,PX.map_get hx,trivial⟩,fun hg=>⟨PX.nm_len (by simp),trivial⟩,trivial⟩ fun a w hS=>?_
   refine PX.cond_s ((joinOk y x)&&decide ((IntKind.i64.wrap ((totW (turnL c (m)))+(x.ops.length:Int)))≤6000)) hS (by kernel_rfl) (fun h8=>?_) (fun h8=>?_)
   ·skip
    refine PX.G0 [] [(5,.row 62 10 true (((turnL c (m)).map encB).set (m+1) [(.sc (.I ((joinD y x).params))),(.imm 11 (((joinD y x).ops).map encO)),(.sc (.I ((joinD y x).term.kind))),(.sc (.I ((joinD y x).term.a))),(.sc (.I ((joinD y x).term.n))),(.imm 1 (((joinD y x).term.args).map encI)),(.sc (.I ((joinD y x).term.b0))),(.imm 1 (((joinD y x).term.args0).map encI)),(.sc (.I ((joinD y x).term.b1))),(.imm 1 (((joinD y x).term.args1).map encI))]))] 8 [.q (((m+1:Nat):Int)=((m+1:Nat):Int)),.q (m+1<c.blocks.length),.q (((turnL c (m)).map encB)[m+1]?=some (encB y))] [] [.au,.au,.au,.au,.ix (m+1) [],.lr (encB y)] [1,2,3,4] [1,2,3,5] hS hE ⟨rfl,hlt,PX.map_get hy2,trivial⟩ fun a w hS=>?_
    refine hK5 _ _ ?_
    refine PX.G0 [(.e 4 (.sc (.I ((m+1+1:Nat):Int))))] [] 8 [.q ((.sc (.I (IntKind.i64.wrap (((m+1:Nat):Int)+1))):PX.PV)=(.sc (.I ((m+1+1:Nat):Int))))] [] [.au,.nm (.sc (.I ((m+1+1:Nat):Int))),.au] [1,2,3,4] [1,2,3,5] hS hE ⟨PX.nm_int (by rw [IntWalk.i64_in _ (by omega)]; omega),trivial⟩ fun a w hS=>?_
    rw [show (((turnL c (m)).map encB).set (m+1) [(.sc (.I ((joinD y x).params))),(.imm 11 (((joinD y x).ops).map encO)),(.sc (.I ((joinD y x).term.kind))),(.sc (.I ((joinD y x).term.a))),(.sc (.I ((joinD y x).term.n))),(.imm 1 (((joinD y x).term.args).map encI)),(.sc (.I ((joinD y x).term.b0))),(.imm 1 (((joinD y x).term.args0).map encI)),(.sc (.I ((joinD y x).term.b1))),(.imm 1 (((joinD y x).term.args1).map encI))])=(turnL c (m+1)).map encB from by rw [turnL_yes hy hx hj hsk h8,List.map_set] <;> rfl] at hS
    exact ⟨(c.blocks.length-1)-(m+1),by omega,m+1,rfl,by omega,trivial,(PX.canon [] _ _ 6 hS hE (by kernel_rfl) (by kernel_rfl) (by kernel_rfl))⟩
   ·skip
    refine wp_skip ?_
    refine hK5 _ _ ?_
    refine PX.G0 [(.e 4 (.sc (.I ((m+1+1:Nat):Int))))] [] 8 [.q ((.sc (.I (IntKind.i64.wrap (((m+1:Nat):Int)+1))):PX.PV)=(.sc (.I ((m+1+1:Nat):Int))))] [] [.au,.nm (.sc (.I ((m+1+1:Nat):Int))),.au] [1,2,3,4] [1,2,3,5] hS hE ⟨PX.nm_int (by rw [IntWalk.i64_in _ (by omega)]; omega),trivial⟩ fun a w hS=>?_
    rw [show (turnL c (m))=turnL c (m+1) from (turnL_no hy hx hj hsk h8).symm] at hS
    exact ⟨(c.blocks.length-1)-(m+1),by omega,m+1,rfl,by omega,trivial,(PX.canon [] _ _ 6 hS hE (by kernel_rfl) (by kernel_rfl) (by kernel_rfl))⟩
 ·skip
  refine wp_exit ?_
  refine hK1 _ _ ?_
  refine PX.G [] [(2,.box 26 [(.J c.params),(.own 5 10 c.blocks.length),(.imm 3 (c.contexts.map encR)),(.imm 3 (c.objects.map encR))])] 6 [] [] [.au,.au] [2] [2,5] hS hE trivial fun a w hS=>?_
  have hk:c.blocks.length≤m+1:=le_of_dec h4
  rw [show m=c.blocks.length-1 from by omega] at hS
  replace hS:=(PX.canon [(1,5)] [(.e 2 (.ptr 2 0))] [(1,.row 62 10 true ((turnL c (c.blocks.length-1)).map encB)),(2,.box 26 [(.J c.params),(.own 1 10 c.blocks.length),(.imm 3 (c.contexts.map encR)),(.imm 3 (c.objects.map encR))])] 3 hS hE (by kernel_rfl) (by kernel_rfl) (by kernel_rfl))
  refine wp_ret ?_
  try simp only [Exit.then,Exit.inBlock,Nat.reduceEqDiff,↓reduceIte]
  exact PX.ret_s hS hE (by kernel_rfl) (by kernel_rfl) (by kernel_rfl) (.inl rfl)
end Go.Proofs.Ytlkcidmmpeebeaa
