/- Proved: debuggerref12.Unroll on plain data -/
import Derived.Test.YtlkcidmmpeebeaaPUnE
set_option linter.unusedVariables false
set_option linter.unusedSimpArgs false
namespace Go.Proofs.Ytlkcidmmpeebeaa
open Go.RowKit Go.PX
set_option maxRecDepth 100000
set_option maxHeartbeats 1000000 in
theorem con_f24 (c:CodeD) (hi:CodeI c):PX.Con Try.prog 24 [(codeP c)] [] 1 100000 (if R.check c (totW c.blocks)=0 then codeP (unrD c) else codeP c) []:=by
 refine PX.con_intro [(codeP c)] 96 Try.func24 rfl rfl (by kernel_rfl) (by kernel_rfl) ?_
 intro E a hE hS
 generalize E.w0=w at hS ⊢
 have mix:=mixed
 refine PX.G [(.e 1 (.ptr 1 0)),(.e 2 (.ptr 2 0))] [(1,.box 26 (codeL c)),(2,.box 26 [(.J 0),(.sc (.slice none 0 0)),(.sc (.slice none 0 0)),(.sc (.slice none 0 0))])] 3 [] [] [.au,.au] [1,2] [1,2] hS hE trivial fun a w hS=>?_
 refine wp_seq_k fun K1 hK1=>?_
 refine PX.G [(.e 11 (.sc (.bool ((R.check c (totW c.blocks)) != 0))))] [] 3 [.q (PX.Con Try.prog 18 [(codeP c)] [] 3 3 (.sc (.I (R.check c (totW c.blocks)))) [])] [] [.au,.cl [] (.sc (.I (R.check c (totW c.blocks)))) [] 3,.au] [1,2,11] [1,2] hS hE ⟨con_rcheck hi,trivial⟩ fun a w hS=>?_
 refine PX.cond_s ((R.check c (totW c.blocks)) != 0) hS (by kernel_rfl) (fun h2=>?_) (fun h2=>?_)
 ·skip
  refine PX.G [] [(2,.box 26 (codeL c))] 3 [] [] [.au,.au] [2] [2] hS hE trivial fun a w hS=>?_
  refine wp_ret ?_
  try simp only [Exit.then,Exit.inBlock,Nat.reduceEqDiff,↓reduceIte]
  rw [show (if R.check c (totW c.blocks)=0 then codeP (unrD c) else codeP c)=((codeP c):PX.PV) from by rw [if_neg (by simpa using h2)] <;> rfl]
  exact PX.ret_s hS hE (by kernel_rfl) (by kernel_rfl) (by kernel_rfl) (.inl rfl)
 ·skip
  refine wp_skip ?_
  refine hK1 _ _ ?_
  have hchk:R.check c (totW c.blocks)=0:=by simpa using h2
  have hfit:=fit_of hi hchk; have hfb:=hfit.blocks
  refine PX.G [(.e 3 (.ptr 4 0))] [(3,.row 62 10 true ((turnL c (c.blocks.length-1)).map encB)),(4,.box 26 [(.J c.params),(.own 3 10 c.blocks.length),(.imm 3 (c.contexts.map encR)),(.imm 3 (c.objects.map encR))])] 5 [.q (PX.Con Try.prog 67 [(codeP c)] [] 3 4 (.agg [(.J c.params),(.own 3 10 c.blocks.length),(.imm 3 (c.contexts.map encR)),(.imm 3 (c.objects.map encR))]) [(3,some (.row 62 10 true ((turnL c (c.blocks.length-1)).map encB)))])] [] [.au,.cl [] (.agg [(.J c.params),(.own 3 10 c.blocks.length),(.imm 3 (c.contexts.map encR)),(.imm 3 (c.objects.map encR))]) [(3,some (.row 62 10 true ((turnL c (c.blocks.length-1)).map encB)))] 4,.au,.au] [2,3] [2,3,4] hS hE ⟨PX.con_as [(3,1)] [(1,3)] (con_f67 c hi hchk hfit hfb) (by kernel_rfl) (by kernel_rfl) (by kernel_rfl) (by kernel_rfl) (by kernel_rfl) (by kernel_rfl),trivial⟩ fun a w hS=>?_
  refine PX.G [(.e 4 (.sc (.I (c.blocks.length:Int))))] [] 5 [] [] [.au,.au,.au,.au] [2,3,4] [2,3,4] hS hE trivial fun a w hS=>?_
  refine wp_seq_k fun K3 hK3=>?_
  refine PX.G [(.e 5 (.J 0))] [] 5 [] [] [.au] [2,3,4,5] [2,3,4] hS hE trivial fun a w hS=>?_
  refine wp_block ?_
  obtain ⟨T,hT⟩:∃ T,T=turnL c (c.blocks.length-1):=⟨_,rfl⟩
  have hTl:T.length=c.blocks.length:=by rw [hT,turnL_len]
  rw [show (turnL c (c.blocks.length-1)).map encB=(copyL T (0)).map encB from by rw [hT] <;> rfl] at hS
  replace hS:=PX.recell (id:=4) (j:=1) (.own 3 10 ((copyL T (0)).length)) hS rfl rfl rfl (fun _ _ _ _ h=>(show PX.PV.own 3 10 c.blocks.length=.own 3 10 ((copyL T (0)).length) from by rw [← hTl]; rfl) ▸ h)
  refine wp_loop_ghost (fun m4 a' w'=>∃ k:Nat,m4=c.blocks.length-k∧k≤c.blocks.length∧True∧PX.Sat E 96 [(.e 2 (.ptr 2 0)),(.e 3 (.ptr 4 0)),(.e 4 (.sc (.I (c.blocks.length:Int)))),(.e 5 (.sc (.I (k:Int))))] [(2,.box 26 [(.J 0),(.sc (.slice none 0 0)),(.sc (.slice none 0 0)),(.sc (.slice none 0 0))]),(3,.row 62 10 true ((copyL T (k)).map encB)),(4,.box 26 [(.J c.params),(.own 3 10 ((copyL T (k)).length)),(.imm 3 (c.contexts.map encR)),(.imm 3 (c.objects.map encR))])] 5 a' w') (c.blocks.length-0) ⟨0,rfl,Nat.zero_le _,trivial,(PX.canon [] _ _ 5 hS hE (by kernel_rfl) (by kernel_rfl) (by kernel_rfl))⟩ ?_
  clear hS; rintro m4 a w ⟨k,hm4,hlek,hIk,hS⟩
  refine wp_seq_k fun K5 hK5=>?_
  refine PX.G [(.e 20 (.sc (.bool (decide ((k:Int)<(c.blocks.length:Int))))))] [] 5 [] [] [.au,.au,.au] [2,3,4,5,20] [2,3,4] hS hE trivial fun a w hS=>?_
  refine PX.cond_s (decide ((k:Int)<(c.blocks.length:Int))) hS (by kernel_rfl) (fun h6=>?_) (fun h6=>?_)
  ·skip
   refine wp_skip ?_
   refine hK5 _ _ ?_
   refine wp_seq_k fun K7 hK7=>?_
   refine wp_block ?_
   have hlt:k<c.blocks.length:=lt_of_dec h6
   have hcl:=copyL_len T k
   obtain ⟨y,hy⟩:=get_of_lt (show k<T.length by omega)
   have hy2:(copyL T (k))[k]?=some y:=by rw [copyL_get (by omega) (Nat.le_refl _)]; exact hy
   refine PX.G [(.e 6 (.ptr 5 0))] [(5,.box 62 (encB y))] 6 [.q ((k:Int)=(k:Int)),.q (k<(copyL T (k)).length),.q (((copyL T (k)).map encB)[k]?=some (encB y))] [] [.au,.au,.au,.ix k [],.lr (encB y),.au,.au] [2,3,4,5,6] [2,3,4,5] hS hE ⟨rfl,by omega,PX.map_get hy2,trivial⟩ fun a w hS=>?_
   refine wp_seq_k fun K8 hK8=>?_
   refine PX.G [(.e 49 (.sc (.bool ((y.term.kind != 2)||((y.term.b0 != (k:Int))&&(y.term.b1 != (k:Int)))))))] [] 6 [] [(4,(y.term.kind != 2)),(12,(y.term.b0 != (k:Int)))] [.au,.au,.au,.au,.au,.au,.au,.au,.au,.au,.au,.au,.au,.au,.au,.au,.au,.au,.au,.au,.pk,.pk] [2,3,4,5,6,49] [2,3,4,5] hS hE trivial fun a w hS=>?_
   refine PX.cond_s ((y.term.kind != 2)||((y.term.b0 != (k:Int))&&(y.term.b1 != (k:Int)))) hS (by kernel_rfl) (fun h9=>?_) (fun h9=>?_)
   ·skip
    refine wp_exit ?_
    refine hK7 _ _ ?_
    refine PX.G0 [(.e 5 (.sc (.I ((k+1:Nat):Int))))] [] 6 [.q ((.sc (.I (IntKind.i64.wrap ((k:Int)+1))):PX.PV)=(.sc (.I ((k+1:Nat):Int))))] [] [.au,.nm (.sc (.I ((k+1:Nat):Int))),.au] [2,3,4,5] [2,3,4] hS hE ⟨PX.nm_int (by rw [IntWalk.i64_in _ (by omega)]; omega),trivial⟩ fun a w hS=>?_
    rw [show (copyL T (k))=copyL T (k+1) from (copyL_skip hy h9).symm] at hS
    exact ⟨c.blocks.length-(k+1),by omega,k+1,rfl,by omega,trivial,(PX.canon [] _ _ 5 hS hE (by kernel_rfl) (by kernel_rfl) (by kernel_rfl))⟩
   ·skip
    refine wp_skip ?_
    refine hK8 _ _ ?_
    refine wp_seq_k fun K10 hK10=>?_
    refine PX.D [(.e 62 (.sc (.bool (decide (400≤(((copyL T (k)).length:Nat):Int))||decide (6000<(IntKind.i64.wrap ((totW (copyL T (k)))+(y.ops.length:Int))))))))] [] 6 [.q (SX.pv [(4,decide (400≤(((copyL T (k)).length:Nat):Int)))] [(4,false)]=true→PX.AllOb [.q (PX.Con Try.prog 45 [(.agg [(.J c.params),(.imm 10 ((copyL T (k)).map encB)),(.imm 3 (c.contexts.map encR)),(.imm 3 (c.objects.map encR))])] [] 6 6 (.sc (.I (totW (copyL T (k))))) []),.b (PX.lenIs ((copyL T (k)).length) ((copyL T (k)).map encB))]),.q (SX.pv [(4,decide (400≤(((copyL T (k)).length:Nat):Int)))] [(4,false)]=true→PX.AllOb [.q ((.sc (.I (((y.ops.map encO).length:Nat):Int)):PX.PV)=(.sc (.I (y.ops.length:Int))))])] [(4,decide (400≤(((copyL T (k)).length:Nat):Int)))] [.au,.au,.au,.au,.au,.au,.cr [3] (.I (totW (copyL T (k)))),.au,.au,.nm (.sc (.I (y.ops.length:Int))),.au,.au,.pk] [2,3,4,5,6,62] [2,3,4,5] hS mixed hE ⟨fun hg=>⟨PX.con_any (con_f45 c.params (copyL T k) _ _ (by omega)),by simp [PX.lenIs],trivial⟩,fun hg=>⟨PX.nm_len (by simp),trivial⟩,trivial⟩ fun a w hS=>?_
    refine PX.cond_s (decide (400≤(((copyL T (k)).length:Nat):Int))||decide (6000<(IntKind.i64.wrap ((totW (copyL T (k)))+(y.ops.length:Int))))) hS (by kernel_rfl) (fun h11=>?_) (fun h11=>?_)
    ·skip
     refine wp_exit ?_
     refine hK7 _ _ ?_
     refine PX.G0 [(.e 5 (.sc (.I ((k+1:Nat):Int))))] [] 6 [.q ((.sc (.I (IntKind.i64.wrap ((k:Int)+1))):PX.PV)=(.sc (.I ((k+1:Nat):Int))))] [] [.au,.nm (.sc (.I ((k+1:Nat):Int))),.au] [2,3,4,5] [2,3,4] hS hE ⟨PX.nm_int (by rw [IntWalk.i64_in _ (by omega)]; omega),trivial⟩ fun a w hS=>?_
     rw [show (copyL T (k))=copyL T (k+1) from (copyL_full hy h11).symm] at hS
     exact ⟨c.blocks.length-(k+1),by omega,k+1,rfl,by omega,trivial,(PX.canon [] _ _ 5 hS hE (by kernel_rfl) (by kernel_rfl) (by kernel_rfl))⟩
    ·skip
     refine wp_skip ?_
     refine hK10 _ _ ?_
     refine PX.G [(.e 7 (.ptr 6 0))] [(6,.box 62 (encB y))] 7 [] [] [.au,.au,.au] [2,3,4,5,6,7] [2,3,4,5,6] hS hE trivial fun a w hS=>?_
     refine PX.seq_cut (E:=E) (N:=96) (T:=[(.e 2 (.ptr 2 0)),(.e 3 (.ptr 4 0)),(.e 4 (.sc (.I (c.blocks.length:Int)))),(.e 5 (.sc (.I (k:Int)))),(.e 6 (.ptr 5 0)),(.e 7 (.ptr 6 0))]) (H:=[(2,.box 26 [(.J 0),(.sc (.slice none 0 0)),(.sc (.slice none 0 0)),(.sc (.slice none 0 0))]),(3,.row 62 10 true ((copyL T (k)).map encB)),(4,.box 26 [(.J c.params),(.own 3 10 ((copyL T (k)).length)),(.imm 3 (c.contexts.map encR)),(.imm 3 (c.objects.map encR))]),(5,.box 62 [(.J y.params),(.imm 11 (y.ops.map encO)),(.J y.term.kind),(.J y.term.a),(.J y.term.n),(.imm 1 (y.term.args.map encI)),(.sc (.I (toC y.term.b0 k ((copyL T (k)).length)))),(.imm 1 (y.term.args0.map encI)),(.sc (.I (toC y.term.b1 k ((copyL T (k)).length)))),(.imm 1 (y.term.args1.map encI))]),(6,.box 62 (encB y))]) (nx:=7) ?_ ?_
     ·skip
      refine PX.G [(.e 8 (.J 0))] [] 7 [] [] [.au] [2,3,4,5,6,7,8] [2,3,4,5,6] hS hE trivial fun a w hS=>?_
      refine wp_block ?_
      refine wp_loop_rounds 3 ?_
      rw [rounds_succ]
      refine wp_seq_k fun K12 hK12=>?_
      refine PX.G [(.e 65 (.sc (.bool true)))] [] 7 [] [] [.au,.au] [2,3,4,5,6,7,8,65] [2,3,4,5,6] hS hE trivial fun a w hS=>?_
      refine PX.cond_s true hS (by kernel_rfl) (fun h13=>?_) (fun h13=>nomatch h13)
      refine wp_skip ?_
      refine hK12 _ _ ?_
      refine wp_seq_k fun K14 hK14=>?_
      refine wp_block ?_
      refine PX.G [(.e 75 (.sc (.bool (y.term.b0==(k:Int)))))] [] 7 [] [] [.au,.au,.au,.au,.au,.au,.au,.au] [2,3,4,5,6,7,8,75] [2,3,4,5,6] hS hE trivial fun a w hS=>?_
      refine PX.cond_s (y.term.b0==(k:Int)) hS (by kernel_rfl) (fun h15=>?_) (fun h15=>?_)
      ·skip
       refine PX.G0 [] [(5,.box 62 [(.J y.params),(.imm 11 (y.ops.map encO)),(.J y.term.kind),(.J y.term.a),(.J y.term.n),(.imm 1 (y.term.args.map encI)),(.sc (.I (((copyL T (k)).length:Nat):Int))),(.imm 1 (y.term.args0.map encI)),(.J y.term.b1),(.imm 1 (y.term.args1.map encI))])] 7 [] [] [.au,.au,.au,.au,.au,.au,.au,.au,.au] [2,3,4,5,6,7,8] [2,3,4,5,6] hS hE trivial fun a w hS=>?_
       refine hK14 _ _ ?_
       refine PX.G0 [(.e 8 (.J 1))] [] 7 [] [] [.au,.au,.au] [2,3,4,5,6,7,8] [2,3,4,5,6] hS hE trivial fun a w hS=>?_
       show Code.rounds _ _ _ 2 _ _
       rw [rounds_succ]
       refine wp_seq_k fun K16 hK16=>?_
       refine PX.G [(.e 65 (.sc (.bool true)))] [] 7 [] [] [.au,.au] [2,3,4,5,6,7,8,65] [2,3,4,5,6] hS hE trivial fun a w hS=>?_
       refine PX.cond_s true hS (by kernel_rfl) (fun h17=>?_) (fun h17=>nomatch h17)
       refine wp_skip ?_
       refine hK16 _ _ ?_
       refine wp_seq_k fun K18 hK18=>?_
       refine wp_block ?_
       refine PX.G [(.e 75 (.sc (.bool (y.term.b1==(k:Int)))))] [] 7 [] [] [.au,.au,.au,.au,.au,.au,.au,.au] [2,3,4,5,6,7,8,75] [2,3,4,5,6] hS hE trivial fun a w hS=>?_
       refine PX.cond_s (y.term.b1==(k:Int)) hS (by kernel_rfl) (fun h19=>?_) (fun h19=>?_)
       ·skip
        refine PX.G0 [] [(5,.box 62 [(.J y.params),(.imm 11 (y.ops.map encO)),(.J y.term.kind),(.J y.term.a),(.J y.term.n),(.imm 1 (y.term.args.map encI)),(.sc (.I (((copyL T (k)).length:Nat):Int))),(.imm 1 (y.term.args0.map encI)),(.sc (.I (((copyL T (k)).length:Nat):Int))),(.imm 1 (y.term.args1.map encI))])] 7 [] [] [.au,.au,.au,.au,.au,.au,.au,.au,.au] [2,3,4,5,6,7,8] [2,3,4,5,6] hS hE trivial fun a w hS=>?_
        refine hK18 _ _ ?_
        refine PX.G0 [(.e 8 (.J 2))] [] 7 [] [] [.au,.au,.au] [2,3,4,5,6,7,8] [2,3,4,5,6] hS hE trivial fun a w hS=>?_
        show Code.rounds _ _ _ 1 _ _
        rw [rounds_succ]
        refine wp_seq_k fun K20 hK20=>?_
        refine PX.G [(.e 65 (.sc (.bool false)))] [] 7 [] [] [.au,.au] [2,3,4,5,6,7,8,65] [2,3,4,5,6] hS hE trivial fun a w hS=>?_
        refine PX.cond_s false hS (by kernel_rfl) (fun h21=>nomatch h21) (fun h21=>?_)
        refine wp_exit ?_
        replace hS:=PX.recell (id:=5) (j:=6) (.sc (.I (toC y.term.b0 k ((copyL T (k)).length)))) hS rfl rfl rfl (fun _ _ _ _ h=>(show PX.PV.sc (.I (((copyL T (k)).length:Nat):Int))=.sc (.I (toC y.term.b0 k ((copyL T (k)).length))) from by unfold toC; rw [h15]; rfl) ▸ h)
        replace hS:=PX.recell (id:=5) (j:=8) (.sc (.I (toC y.term.b1 k ((copyL T (k)).length)))) hS rfl rfl rfl (fun _ _ _ _ h=>(show PX.PV.sc (.I (((copyL T (k)).length:Nat):Int))=.sc (.I (toC y.term.b1 k ((copyL T (k)).length))) from by unfold toC; rw [h19]; rfl) ▸ h)
        replace hS:=PX.sl [2,3,4,5,6,7] hS
        exact (PX.canon [] _ _ 7 hS hE (by kernel_rfl) (by kernel_rfl) (by kernel_rfl))
       ·skip
        refine wp_skip ?_
        refine hK18 _ _ ?_
        refine PX.G0 [(.e 8 (.J 2))] [] 7 [] [] [.au,.au,.au] [2,3,4,5,6,7,8] [2,3,4,5,6] hS hE trivial fun a w hS=>?_
        show Code.rounds _ _ _ 1 _ _
        rw [rounds_succ]
        refine wp_seq_k fun K22 hK22=>?_
        refine PX.G [(.e 65 (.sc (.bool false)))] [] 7 [] [] [.au,.au] [2,3,4,5,6,7,8,65] [2,3,4,5,6] hS hE trivial fun a w hS=>?_
        refine PX.cond_s false hS (by kernel_rfl) (fun h23=>nomatch h23) (fun h23=>?_)
        refine wp_exit ?_
        replace hS:=PX.recell (id:=5) (j:=6) (.sc (.I (toC y.term.b0 k ((copyL T (k)).length)))) hS rfl rfl rfl (fun _ _ _ _ h=>(show PX.PV.sc (.I (((copyL T (k)).length:Nat):Int))=.sc (.I (toC y.term.b0 k ((copyL T (k)).length))) from by unfold toC; rw [h15]; rfl) ▸ h)
        replace hS:=PX.recell (id:=5) (j:=8) (.sc (.I (toC y.term.b1 k ((copyL T (k)).length)))) hS rfl rfl rfl (fun _ _ _ _ h=>(show PX.PV.sc (.I y.term.b1)=.sc (.I (toC y.term.b1 k ((copyL T (k)).length))) from by unfold toC; rw [h19]; rfl) ▸ h)
        replace hS:=PX.sl [2,3,4,5,6,7] hS
        exact (PX.canon [] _ _ 7 hS hE (by kernel_rfl) (by kernel_rfl) (by kernel_rfl))
      ·skip
       refine wp_skip ?_
       refine hK14 _ _ ?_
       refine PX.G0 [(.e 8 (.J 1))] [] 7 [] [] [.au,.au,.au] [2,3,4,5,6,7,8] [2,3,4,5,6] hS hE trivial fun a w hS=>?_
       show Code.rounds _ _ _ 2 _ _
       rw [rounds_succ]
       refine wp_seq_k fun K24 hK24=>?_
       refine PX.G [(.e 65 (.sc (.bool true)))] [] 7 [] [] [.au,.au] [2,3,4,5,6,7,8,65] [2,3,4,5,6] hS hE trivial fun a w hS=>?_
       refine PX.cond_s true hS (by kernel_rfl) (fun h25=>?_) (fun h25=>nomatch h25)
       refine wp_skip ?_
       refine hK24 _ _ ?_
       refine wp_seq_k fun K26 hK26=>?_
       refine wp_block ?_
       refine PX.G [(.e 75 (.sc (.bool (y.term.b1==(k:Int)))))] [] 7 [] [] [.au,.au,.au,.au,.au,.au,.au,.au] [2,3,4,5,6,7,8,75] [2,3,4,5,6] hS hE trivial fun a w hS=>?_
       refine PX.cond_s (y.term.b1==(k:Int)) hS (by kernel_rfl) (fun h27=>?_) (fun h27=>?_)
       ·skip
        refine PX.G0 [] [(5,.box 62 [(.J y.params),(.imm 11 (y.ops.map encO)),(.J y.term.kind),(.J y.term.a),(.J y.term.n),(.imm 1 (y.term.args.map encI)),(.J y.term.b0),(.imm 1 (y.term.args0.map encI)),(.sc (.I (((copyL T (k)).length:Nat):Int))),(.imm 1 (y.term.args1.map encI))])] 7 [] [] [.au,.au,.au,.au,.au,.au,.au,.au,.au] [2,3,4,5,6,7,8] [2,3,4,5,6] hS hE trivial fun a w hS=>?_
        refine hK26 _ _ ?_
        refine PX.G0 [(.e 8 (.J 2))] [] 7 [] [] [.au,.au,.au] [2,3,4,5,6,7,8] [2,3,4,5,6] hS hE trivial fun a w hS=>?_
        show Code.rounds _ _ _ 1 _ _
        rw [rounds_succ]
        refine wp_seq_k fun K28 hK28=>?_
        refine PX.G [(.e 65 (.sc (.bool false)))] [] 7 [] [] [.au,.au] [2,3,4,5,6,7,8,65] [2,3,4,5,6] hS hE trivial fun a w hS=>?_
        refine PX.cond_s false hS (by kernel_rfl) (fun h29=>nomatch h29) (fun h29=>?_)
        refine wp_exit ?_
        replace hS:=PX.recell (id:=5) (j:=6) (.sc (.I (toC y.term.b0 k ((copyL T (k)).length)))) hS rfl rfl rfl (fun _ _ _ _ h=>(show PX.PV.sc (.I y.term.b0)=.sc (.I (toC y.term.b0 k ((copyL T (k)).length))) from by unfold toC; rw [h15]; rfl) ▸ h)
        replace hS:=PX.recell (id:=5) (j:=8) (.sc (.I (toC y.term.b1 k ((copyL T (k)).length)))) hS rfl rfl rfl (fun _ _ _ _ h=>(show PX.PV.sc (.I (((copyL T (k)).length:Nat):Int))=.sc (.I (toC y.term.b1 k ((copyL T (k)).length))) from by unfold toC; rw [h27]; rfl) ▸ h)
        replace hS:=PX.sl [2,3,4,5,6,7] hS
        exact (PX.canon [] _ _ 7 hS hE (by kernel_rfl) (by kernel_rfl) (by kernel_rfl))
       ·skip
        refine wp_skip ?_
        refine hK26 _ _ ?_
        refine PX.G0 [(.e 8 (.J 2))] [] 7 [] [] [.au,.au,.au] [2,3,4,5,6,7,8] [2,3,4,5,6] hS hE trivial fun a w hS=>?_
        show Code.rounds _ _ _ 1 _ _
        rw [rounds_succ]
        refine wp_seq_k fun K30 hK30=>?_
        refine PX.G [(.e 65 (.sc (.bool false)))] [] 7 [] [] [.au,.au] [2,3,4,5,6,7,8,65] [2,3,4,5,6] hS hE trivial fun a w hS=>?_
        refine PX.cond_s false hS (by kernel_rfl) (fun h31=>nomatch h31) (fun h31=>?_)
        refine wp_exit ?_
        replace hS:=PX.recell (id:=5) (j:=6) (.sc (.I (toC y.term.b0 k ((copyL T (k)).length)))) hS rfl rfl rfl (fun _ _ _ _ h=>(show PX.PV.sc (.I y.term.b0)=.sc (.I (toC y.term.b0 k ((copyL T (k)).length))) from by unfold toC; rw [h15]; rfl) ▸ h)
        replace hS:=PX.recell (id:=5) (j:=8) (.sc (.I (toC y.term.b1 k ((copyL T (k)).length)))) hS rfl rfl rfl (fun _ _ _ _ h=>(show PX.PV.sc (.I y.term.b1)=.sc (.I (toC y.term.b1 k ((copyL T (k)).length))) from by unfold toC; rw [h27]; rfl) ▸ h)
        replace hS:=PX.sl [2,3,4,5,6,7] hS
        exact (PX.canon [] _ _ 7 hS hE (by kernel_rfl) (by kernel_rfl) (by kernel_rfl))
     clear hS; intro a w hS
     refine PX.G [] [(3,.row 62 10 true (((copyL T (k)).map encB).set k [(.J y.params),(.imm 11 (y.ops.map encO)),(.J y.term.kind),(.J y.term.a),(.J y.term.n),(.imm 1 (y.term.args.map encI)),(.sc (.I (toC y.term.b0 k ((copyL T (k)).length)))),(.imm 1 (y.term.args0.map encI)),(.sc (.I (toC y.term.b1 k ((copyL T (k)).length)))),(.imm 1 (y.term.args1.map encI))]))] 7 [.q ((k:Int)=(k:Int)),.q (k<(copyL T (k)).length),.q (((copyL T (k)).map encB)[k]?=some (encB y))] [] [.au,.au,.au,.au,.ix k [],.lr (encB y)] [2,3,4,5,7] [2,3,4,6] hS hE ⟨rfl,by omega,PX.map_get hy2,trivial⟩ fun a w hS=>?_
     refine PX.G0 [] [(4,.box 26 [(.J c.params),(.own 8 10 (((((copyL T (k)).map encB).set k [(.J y.params),(.imm 11 (y.ops.map encO)),(.J y.term.kind),(.J y.term.a),(.J y.term.n),(.imm 1 (y.term.args.map encI)),(.sc (.I (toC y.term.b0 k ((copyL T (k)).length)))),(.imm 1 (y.term.args0.map encI)),(.sc (.I (toC y.term.b1 k ((copyL T (k)).length)))),(.imm 1 (y.term.args1.map encI))]):List (List PX.PV)).length+1)),(.imm 3 (c.contexts.map encR)),(.imm 3 (c.objects.map encR))]),(8,.row 62 10 true ((((copyL T (k)).map encB).set k [(.J y.params),(.imm 11 (y.ops.map encO)),(.J y.term.kind),(.J y.term.a),(.J y.term.n),(.imm 1 (y.term.args.map encI)),(.sc (.I (toC y.term.b0 k ((copyL T (k)).length)))),(.imm 1 (y.term.args0.map encI)),(.sc (.I (toC y.term.b1 k ((copyL T (k)).length)))),(.imm 1 (y.term.args1.map encI))])++[(encB y)]))] 9 [.b (lenIs ((copyL T (k)).length) (((copyL T (k)).map encB).set k [(.J y.params),(.imm 11 (y.ops.map encO)),(.J y.term.kind),(.J y.term.a),(.J y.term.n),(.imm 1 (y.term.args.map encI)),(.sc (.I (toC y.term.b0 k ((copyL T (k)).length)))),(.imm 1 (y.term.args0.map encI)),(.sc (.I (toC y.term.b1 k ((copyL T (k)).length)))),(.imm 1 (y.term.args1.map encI))])),.b (lenIs 1 ([(encB y)])),.b (Nat.ble (((((copyL T (k)).map encB).set k [(.J y.params),(.imm 11 (y.ops.map encO)),(.J y.term.kind),(.J y.term.a),(.J y.term.n),(.imm 1 (y.term.args.map encI)),(.sc (.I (toC y.term.b0 k ((copyL T (k)).length)))),(.imm 1 (y.term.args0.map encI)),(.sc (.I (toC y.term.b1 k ((copyL T (k)).length)))),(.imm 1 (y.term.args1.map encI))]):List (List PX.PV)).length+1) 1000000000)] [] [.au,.au,.au,.au,.au,.au,.au] [2,3,4,5] [2,4,8] hS hE ⟨by simp [PX.lenIs],rfl,by simp; omega,trivial⟩ fun a w hS=>?_
     refine hK7 _ _ ?_
     refine PX.G0 [(.e 5 (.sc (.I ((k+1:Nat):Int))))] [] 9 [.q ((.sc (.I (IntKind.i64.wrap ((k:Int)+1))):PX.PV)=(.sc (.I ((k+1:Nat):Int))))] [] [.au,.nm (.sc (.I ((k+1:Nat):Int))),.au] [2,3,4,5] [2,4,8] hS hE ⟨PX.nm_int (by rw [IntWalk.i64_in _ (by omega)]; omega),trivial⟩ fun a w hS=>?_
     rw [show ((((copyL T (k)).map encB).set k [(.J y.params),(.imm 11 (y.ops.map encO)),(.J y.term.kind),(.J y.term.a),(.J y.term.n),(.imm 1 (y.term.args.map encI)),(.sc (.I (toC y.term.b0 k ((copyL T (k)).length)))),(.imm 1 (y.term.args0.map encI)),(.sc (.I (toC y.term.b1 k ((copyL T (k)).length)))),(.imm 1 (y.term.args1.map encI))])++[(encB y)])=(copyL T (k+1)).map encB from by rw [copyL_yes hy h9 h11,List.map_append,List.map_set] <;> rfl] at hS
     replace hS:=PX.recell (id:=4) (j:=1) (.own 8 10 ((copyL T (k+1)).length)) hS rfl rfl rfl (fun _ _ _ _ h=>(show PX.PV.own 8 10 (((((copyL T (k)).map encB).set k [(.J y.params),(.imm 11 (y.ops.map encO)),(.J y.term.kind),(.J y.term.a),(.J y.term.n),(.imm 1 (y.term.args.map encI)),(.sc (.I (toC y.term.b0 k ((copyL T (k)).length)))),(.imm 1 (y.term.args0.map encI)),(.sc (.I (toC y.term.b1 k ((copyL T (k)).length)))),(.imm 1 (y.term.args1.map encI))]):List (List PX.PV)).length+1)=.own 8 10 ((copyL T (k+1)).length) from by rw [show ((((copyL T (k)).map encB).set k [(.J y.params),(.imm 11 (y.ops.map encO)),(.J y.term.kind),(.J y.term.a),(.J y.term.n),(.imm 1 (y.term.args.map encI)),(.sc (.I (toC y.term.b0 k ((copyL T (k)).length)))),(.imm 1 (y.term.args0.map encI)),(.sc (.I (toC y.term.b1 k ((copyL T (k)).length)))),(.imm 1 (y.term.args1.map encI))]):List (List PX.PV)).length+1=(copyL T (k+1)).length from by rw [copyL_yes hy h9 h11]; simp]) ▸ h)
     exact ⟨c.blocks.length-(k+1),by omega,k+1,rfl,by omega,trivial,(PX.canon [(3,8)] _ _ 5 hS hE (by kernel_rfl) (by kernel_rfl) (by kernel_rfl))⟩
  ·skip
   refine wp_exit ?_
   refine hK3 _ _ ?_
   refine PX.G [] [(2,.box 26 [(.J c.params),(.own 3 10 ((copyL T (k)).length)),(.imm 3 (c.contexts.map encR)),(.imm 3 (c.objects.map encR))])] 5 [] [] [.au,.au] [2] [2,3] hS hE trivial fun a w hS=>?_
   have hk:c.blocks.length≤k:=le_of_dec h6
   rw [show k=c.blocks.length from by omega,hT] at hS
   replace hS:=PX.fz 3 [] [(2,.box 26 [(.J c.params),(.imm 10 ((copyL (turnL c (c.blocks.length-1)) (c.blocks.length)).map encB)),(.imm 3 (c.contexts.map encR)),(.imm 3 (c.objects.map encR))])] [2] [2] [.b (PX.lenIs ((copyL (turnL c (c.blocks.length-1)) (c.blocks.length)).length) ((copyL (turnL c (c.blocks.length-1)) (c.blocks.length)).map encB))] hS ⟨(by simp [PX.lenIs]),trivial⟩
   refine wp_ret ?_
   try simp only [Exit.then,Exit.inBlock,Nat.reduceEqDiff,↓reduceIte]
   rw [show (if R.check c (totW c.blocks)=0 then codeP (unrD c) else codeP c)=((.agg [(.J c.params),(.imm 10 ((copyL (turnL c (c.blocks.length-1)) (c.blocks.length)).map encB)),(.imm 3 (c.contexts.map encR)),(.imm 3 (c.objects.map encR))]):PX.PV) from by rw [if_pos hchk] <;> rfl]
   exact PX.ret_s hS hE (by kernel_rfl) (by kernel_rfl) (by kernel_rfl) (.inl rfl)
end Go.Proofs.Ytlkcidmmpeebeaa
