/- Proved: UnrollCounts on plain data -/
import Derived.Test.YtlkcidmmpeebeaaPTrD
import Derived.Test.YtlkcidmmpeebeaaPUnM
set_option linter.unusedVariables false
set_option linter.unusedSimpArgs false
namespace Go.Proofs.Ytlkcidmmpeebeaa
open Go.RowKit Go.PX
set_option maxRecDepth 100000
def modD (n k:Int):Int:=if Int.tmod n k<0 then IntKind.i64.wrap (Int.tmod n k+k) else Int.tmod n k
theorem modD_range {n k:Int} (hk:0<k) (hk2:k≤1000000):0≤modD n k∧modD n k<k:=by
 have h1:Int.tmod n k<k:=Int.tmod_lt_of_pos n hk
 have h2:-k<Int.tmod n k:=by
  have:=Int.tmod_lt_of_pos (-n) hk
  rw [Int.neg_tmod] at this; omega
 unfold modD
 split
 ·rw [IntWalk.i64_in _ (by omega)]; omega
 ·omega
def kU2:CodeD:=urD kU
theorem codeI_kU:CodeI kU:=by rw [← ur_K]; exact codeI_ur codeI_K
theorem codeI_kU2:CodeI kU2:=codeI_ur codeI_kU
theorem con_urU {lo top:Nat}:PX.Con Try.prog 23 [codeP kU] [] lo top (codeP kU2) []:=con_ur codeI_kU
instance (o:OpD):Decidable (OpS o):=by unfold OpS; infer_instance
def simpleB (c:CodeD):Bool:=decide (R.check c (totW c.blocks)=0)&&c.contexts.all (fun x=>x.2.2==0)&&c.objects.isEmpty&&c.blocks.all (fun b=>b.ops.all (fun o=>decide (OpS o)))&&c.blocks.all (fun b=>decide (b.term.kind=1∨b.term.kind=2∨b.term.kind=4))
theorem simple_of {c:CodeD} (h:simpleB c=true):Simple c:=by
 unfold simpleB at h
 simp only [Bool.and_eq_true,decide_eq_true_eq,List.all_eq_true,List.isEmpty_iff,beq_iff_eq] at h
 exact ⟨h.1.1.1.1,h.1.1.1.2,h.1.1.2,h.1.2,h.2⟩
theorem simple_kU:Simple kU:=simple_of (by kernel_rfl)
theorem simple_kU2:Simple kU2:=simple_of (by kernel_rfl)
def runB (c:CodeD) (d:Int) (r:Int→Int × Int):Bool:=(List.range 100).all fun k=>finD c ((k:Int)+d) 300 0 [(k:Int)] 0 0 0==some (r (k:Int))
theorem run_of {c:CodeD} {d:Int} {r:Int→Int × Int} (h:runB c d r=true) {x:Int} (h0:0≤x) (h1:x<100):finD c (x+d) 300 0 [x] 0 0 0=some (r x):=by
 obtain ⟨k,rfl⟩:=Int.eq_ofNat_of_zero_le h0
 have:=List.all_eq_true.1 h k (List.mem_range.2 (by omega))
 exact eq_of_beq this
theorem run_a:runB kU 1 (fun k=>(0,k))=true:=by kernel_rfl
theorem run_b:runB kU2 1 (fun k=>(0,k))=true:=by kernel_rfl
theorem run_c:runB kU 0 (fun k=>(13,0))=true:=by kernel_rfl

set_option maxHeartbeats 400000 in
theorem con_f19_100 (n:Int):PX.Con Try.prog 19 [(.J n),(.J 100)] [] 1 100000 (.sc (.I (modD n 100))) []:=by
 refine PX.con_intro [(.J n),(.J 100)] 14 Try.func19 rfl rfl (by kernel_rfl) (by kernel_rfl) ?_
 intro E a hE hS
 generalize E.w0=w at hS ⊢
 have mix:=mixed
 refine PX.G [] [] 1 [] [] [.au] [0,1] [] hS hE trivial fun a w hS=>?_
 refine PX.G [(.e 0 (.sc (.I (Int.tmod n 100))))] [] 1 [] [] [.au,.au,.au,.au] [0,1] [] hS hE trivial fun a w hS=>?_
 refine wp_seq_k fun K1 hK1=>?_
 refine PX.G [(.e 9 (.sc (.bool (decide ((Int.tmod n 100)<0)))))] [] 1 [] [] [.au,.au] [0,1,9] [] hS hE trivial fun a w hS=>?_
 refine PX.cond_s (decide ((Int.tmod n 100)<0)) hS (by kernel_rfl) (fun h2=>?_) (fun h2=>?_)
 ·skip
  refine PX.G0 [(.e 0 (.sc (.I (IntKind.i64.wrap ((Int.tmod n 100)+100)))))] [] 1 [] [] [.au,.au,.au,.au] [0] [] hS hE trivial fun a w hS=>?_
  refine hK1 _ _ ?_
  refine PX.G [(.e 4 (.sc (.I (IntKind.i64.wrap ((Int.tmod n 100)+100)))))] [] 1 [] [] [.au,.au] [4] [] hS hE trivial fun a w hS=>?_
  refine wp_ret ?_
  try simp only [Exit.then,Exit.inBlock,Nat.reduceEqDiff,↓reduceIte]
  rw [show (.sc (.I (modD n 100)))=((.sc (.I (IntKind.i64.wrap ((Int.tmod n 100)+100)))):PX.PV) from by unfold modD; rw [if_pos (of_decide_eq_true h2)]]
  exact PX.ret_s hS hE (by kernel_rfl) (by kernel_rfl) (by kernel_rfl) (.inl rfl)
 ·skip
  refine wp_skip ?_
  refine hK1 _ _ ?_
  refine PX.G [(.e 4 (.sc (.I (Int.tmod n 100))))] [] 1 [] [] [.au,.au] [4] [] hS hE trivial fun a w hS=>?_
  refine wp_ret ?_
  try simp only [Exit.then,Exit.inBlock,Nat.reduceEqDiff,↓reduceIte]
  rw [show (.sc (.I (modD n 100)))=((.sc (.I (Int.tmod n 100))):PX.PV) from by unfold modD; rw [if_neg (of_decide_eq_false h2)]]
  exact PX.ret_s hS hE (by kernel_rfl) (by kernel_rfl) (by kernel_rfl) (.inl rfl)

set_option maxHeartbeats 400000 in
theorem con_f28  : PX.Con Try.prog 28 [(.sc (.slice none 0 0)),(.sc (.slice none 0 0))] [] 1 100000 (.sc (.bool true)) []:=by
 refine PX.con_intro [(.sc (.slice none 0 0)),(.sc (.slice none 0 0))] 26 Try.func28 rfl rfl (by kernel_rfl) (by kernel_rfl) ?_
 intro E a hE hS
 generalize E.w0=w at hS ⊢
 have mix:=mixed
 refine PX.G [] [] 1 [] [] [.au] [0,1] [] hS hE trivial fun a w hS=>?_
 refine wp_seq_k fun K1 hK1=>?_
 refine PX.G [(.e 10 (.sc (.bool false)))] [] 1 [] [] [.au,.au,.au,.au,.au] [0,1,10] [] hS hE trivial fun a w hS=>?_
 refine PX.cond_s false hS (by kernel_rfl) (fun h2=>nomatch h2) (fun h2=>?_)
 refine wp_skip ?_
 refine hK1 _ _ ?_
 refine wp_seq_k fun K3 hK3=>?_
 refine PX.G [(.e 5 (.J 0))] [] 1 [] [] [.au] [0,1,5] [] hS hE trivial fun a w hS=>?_
 refine wp_block ?_
 refine wp_loop_rounds 1 ?_
 rw [rounds_succ]
 refine wp_seq_k fun K4 hK4=>?_
 refine PX.G [(.e 14 (.sc (.bool false)))] [] 1 [] [] [.au,.au,.au,.au] [0,1,5,14] [] hS hE trivial fun a w hS=>?_
 refine PX.cond_s false hS (by kernel_rfl) (fun h5=>nomatch h5) (fun h5=>?_)
 refine wp_exit ?_
 refine hK3 _ _ ?_
 refine PX.G [(.e 4 (.sc (.bool true)))] [] 1 [] [] [.au] [4] [] hS hE trivial fun a w hS=>?_
 refine wp_ret ?_
 try simp only [Exit.then,Exit.inBlock,Nat.reduceEqDiff,↓reduceIte]
 exact PX.ret_s hS hE (by kernel_rfl) (by kernel_rfl) (by kernel_rfl) (.inl rfl)

set_option maxHeartbeats 400000 in
theorem con_f26 (e v:Int):PX.Con Try.prog 26 [(.agg [(.J e),(.sc (.bool false)),(.J v),(.sc (.slice none 0 0))]),(.agg [(.J e),(.sc (.bool false)),(.J v),(.sc (.slice none 0 0))])] [] 1 100000 (.sc (.bool true)) []:=by
 refine PX.con_intro [(.agg [(.J e),(.sc (.bool false)),(.J v),(.sc (.slice none 0 0))]),(.agg [(.J e),(.sc (.bool false)),(.J v),(.sc (.slice none 0 0))])] 31 Try.func26 rfl rfl (by kernel_rfl) (by kernel_rfl) ?_
 intro E a hE hS
 generalize E.w0=w at hS ⊢
 have mix:=mixed
 refine PX.G [(.e 2 (.ptr 1 0)),(.e 3 (.ptr 2 0))] [(1,.box 37 [(.J e),(.sc (.bool false)),(.J v),(.sc (.slice none 0 0))]),(2,.box 37 [(.J e),(.sc (.bool false)),(.J v),(.sc (.slice none 0 0))])] 3 [] [] [.au,.au,.au] [2,3] [1,2] hS hE trivial fun a w hS=>?_
 refine PX.G [(.e 4 (.sc (.bool ((((e==e)&&(false==false))&&(v==v))&&true))))] [] 3 [.q (SX.pv [(5,(e==e)),(12,((e==e)&&(false==false))),(19,(((e==e)&&(false==false))&&(v==v)))] [(19,true)]=true→PX.AllOb [.q (PX.Con Try.prog 28 [(.sc (.slice none 0 0)),(.sc (.slice none 0 0))] [] 3 3 (.sc (.bool true)) [])])] [(5,(e==e)),(12,((e==e)&&(false==false))),(19,(((e==e)&&(false==false))&&(v==v)))] [.au,.au,.au,.au,.au,.au,.au,.au,.au,.au,.au,.pk,.au,.au,.au,.au,.au,.au,.pk,.au,.au,.au,.au,.au,.cl [] (.sc (.bool true)) [] 3,.pk,.au] [4] [] hS hE ⟨fun hg=>⟨PX.con_any con_f28,trivial⟩,trivial⟩ fun a w hS=>?_
 refine wp_ret ?_
 try simp only [Exit.then,Exit.inBlock,Nat.reduceEqDiff,↓reduceIte]
 rw [show (.sc (.bool true))=((.sc (.bool ((((e==e)&&(false==false))&&(v==v))&&true))):PX.PV) from by simp]
 exact PX.ret_s hS hE (by kernel_rfl) (by kernel_rfl) (by kernel_rfl) (.inl rfl)

set_option maxHeartbeats 1000000 in
theorem unrollCounts_con (n:Int):PX.Con Try.prog 6 [(.J n)] [] 1 100000 (.sc (.bool true)) []:=by
 refine PX.con_intro [(.J n)] 73 Try.func6 rfl rfl (by kernel_rfl) (by kernel_rfl) ?_
 intro E a hE hS
 generalize E.w0=w at hS ⊢
 have mix:=mixed
 refine PX.G [] [] 1 [] [] [.au] [0] [] hS hE trivial fun a w hS=>?_
 refine PX.G [(.e 3 (.sc (.I (modD n 100))))] [] 1 [.q (PX.Con Try.prog 19 [(.J n),(.J 100)] [] 1 1 (.sc (.I (modD n 100))) [])] [] [.au,.cl [] (.sc (.I (modD n 100))) [] 1,.au] [3] [] hS hE ⟨PX.con_any (con_f19_100 n),trivial⟩ fun a w hS=>?_
 have hk0:=modD_range (n:=n) (k:=100) (by omega) (by omega)
 generalize modD n 100=k at hS hk0
 have hk:=hk0
 refine PX.G [(.e 5 (.ptr 3 0))] [(3,.box 37 [(.J 0),(.sc (.bool false)),(.J k),(.sc (.slice none 0 0))])] 4 [.q (PX.Con Try.prog 25 [] [] 1 1 (codeP kCode) []),.q (PX.Con Try.prog 23 [(codeP kCode)] [] 1 1 (codeP kU) []),.q ((.sc (.I (IntKind.i64.wrap (k+1))):PX.PV)=(.sc (.I (k+1)))),.q (PX.Con Try.prog 20 [(.agg [(.sc (.slice none 0 0)),(.sc (.slice none 0 0)),(.sc (.slice none 0 0)),(.sc (.slice none 0 0))]),(.agg [(.imm 4 ([(codeL kU)]))]),(.J 0),(.imm 1 ([[(.J k)]])),(.sc (.I (k+1))),(.J 0),(.J 0)] [] 3 3 (.tup [(.sc (.slice none 0 0)),(.agg [(.J 0),(.sc (.bool false)),(.J k),(.sc (.slice none 0 0))])]) []),.b (PX.lenIs 1 ([(codeL kU)])),.b (PX.lenIs 1 ([[(.J k)]]))] [] [.au,.cl [] (codeP kCode) [] 1,.cl [] (codeP kU) [] 1,.au,.au,.au,.au,.au,.nm (.sc (.I (k+1))),.cv [1,2] (.tup [(.sc (.slice none 0 0)),(.agg [(.J 0),(.sc (.bool false)),(.J k),(.sc (.slice none 0 0))])]) 3,.au,.au,.au,.au,.au,.au] [3,5] [3] hS hE ⟨PX.con_any con_f25,con_urK,PX.nm_int (by rw [IntWalk.i64_in _ (by omega)]),PX.con_any (con_f20 kU codeI_kU simple_kU (fit_of codeI_kU simple_kU.chk) (k+1) 300 [k] 0 k (by have:=run_of run_a hk.1 hk.2; simpa using this) (by simp) (by omega) rfl),rfl,rfl,trivial⟩ fun a w hS=>?_
 refine PX.G [(.e 7 (.ptr 6 0))] [(6,.box 37 [(.J 0),(.sc (.bool false)),(.J k),(.sc (.slice none 0 0))])] 7 [.q (PX.Con Try.prog 25 [] [] 4 4 (codeP kCode) []),.q (PX.Con Try.prog 23 [(codeP kCode)] [] 4 4 (codeP kU) []),.q (PX.Con Try.prog 23 [(codeP kU)] [] 4 4 (codeP kU2) []),.q ((.sc (.I (IntKind.i64.wrap (k+1))):PX.PV)=(.sc (.I (k+1)))),.q (PX.Con Try.prog 20 [(.agg [(.sc (.slice none 0 0)),(.sc (.slice none 0 0)),(.sc (.slice none 0 0)),(.sc (.slice none 0 0))]),(.agg [(.imm 4 ([(codeL kU2)]))]),(.J 0),(.imm 1 ([[(.J k)]])),(.sc (.I (k+1))),(.J 0),(.J 0)] [] 6 6 (.tup [(.sc (.slice none 0 0)),(.agg [(.J 0),(.sc (.bool false)),(.J k),(.sc (.slice none 0 0))])]) []),.b (PX.lenIs 1 ([(codeL kU2)])),.b (PX.lenIs 1 ([[(.J k)]]))] [] [.au,.cl [] (codeP kCode) [] 4,.cl [] (codeP kU) [] 4,.cl [] (codeP kU2) [] 4,.au,.au,.au,.au,.au,.nm (.sc (.I (k+1))),.cv [4,5] (.tup [(.sc (.slice none 0 0)),(.agg [(.J 0),(.sc (.bool false)),(.J k),(.sc (.slice none 0 0))])]) 6,.au,.au,.au,.au,.au,.au] [3,5,7] [3,6] hS hE ⟨PX.con_any con_f25,con_urK,con_urU,PX.nm_int (by rw [IntWalk.i64_in _ (by omega)]),PX.con_any (con_f20 kU2 codeI_kU2 simple_kU2 (fit_of codeI_kU2 simple_kU2.chk) (k+1) 300 [k] 0 k (by have:=run_of run_b hk.1 hk.2; simpa using this) (by simp) (by omega) rfl),rfl,rfl,trivial⟩ fun a w hS=>?_
 refine PX.G [(.e 9 (.ptr 9 0))] [(9,.box 37 [(.J 13),(.sc (.bool false)),(.J 0),(.sc (.slice none 0 0))])] 10 [.q (PX.Con Try.prog 25 [] [] 7 7 (codeP kCode) []),.q (PX.Con Try.prog 23 [(codeP kCode)] [] 7 7 (codeP kU) []),.q (PX.Con Try.prog 20 [(.agg [(.sc (.slice none 0 0)),(.sc (.slice none 0 0)),(.sc (.slice none 0 0)),(.sc (.slice none 0 0))]),(.agg [(.imm 4 ([(codeL kU)]))]),(.J 0),(.imm 1 ([[(.J k)]])),(.J k),(.J 0),(.J 0)] [] 9 9 (.tup [(.sc (.slice none 0 0)),(.agg [(.J 13),(.sc (.bool false)),(.J 0),(.sc (.slice none 0 0))])]) []),.b (PX.lenIs 1 ([(codeL kU)])),.b (PX.lenIs 1 ([[(.J k)]]))] [] [.au,.cl [] (codeP kCode) [] 7,.cl [] (codeP kU) [] 7,.au,.au,.au,.au,.au,.cv [7,8] (.tup [(.sc (.slice none 0 0)),(.agg [(.J 13),(.sc (.bool false)),(.J 0),(.sc (.slice none 0 0))])]) 9,.au,.au,.au,.au,.au,.au] [3,5,7,9] [3,6,9] hS hE ⟨PX.con_any con_f25,con_urK,PX.con_any (con_f20 kU codeI_kU simple_kU (fit_of codeI_kU simple_kU.chk) k 300 [k] 13 0 (by have:=run_of run_c hk.1 hk.2; simpa using this) (by simp) (by omega) rfl),rfl,rfl,trivial⟩ fun a w hS=>?_
 refine PX.G [(.e 2 (.sc (.bool ((((k==k)&&true)&&true)&&true))))] [] 10 [.q (SX.pv [(9,(k==k)),(14,((k==k)&&true)),(19,(((k==k)&&true)&&true))] [(9,true)]=true→PX.AllOb [.q (PX.Con Try.prog 26 [(.agg [(.J 0),(.sc (.bool false)),(.J k),(.sc (.slice none 0 0))]),(.agg [(.J 0),(.sc (.bool false)),(.J k),(.sc (.slice none 0 0))])] [] 10 10 (.sc (.bool true)) [])]),.q (SX.pv [(9,(k==k)),(14,((k==k)&&true)),(19,(((k==k)&&true)&&true))] [(19,true)]=true→PX.AllOb [.q (PX.Con Try.prog 22 [] [] 10 10 (.sc (.bool true)) [])])] [(9,(k==k)),(14,((k==k)&&true)),(19,(((k==k)&&true)&&true))] [.au,.au,.au,.au,.au,.au,.au,.au,.au,.au,.au,.au,.cl [] (.sc (.bool true)) [] 10,.pk,.au,.au,.au,.au,.pk,.au,.cl [] (.sc (.bool true)) [] 10,.pk,.au] [2] [] hS hE ⟨fun hg=>⟨PX.con_any (con_f26 0 k),trivial⟩,fun hg=>⟨con_known12,trivial⟩,trivial⟩ fun a w hS=>?_
 refine wp_ret ?_
 try simp only [Exit.then,Exit.inBlock,Nat.reduceEqDiff,↓reduceIte]
 rw [show (.sc (.bool true))=((.sc (.bool ((((k==k)&&true)&&true)&&true))):PX.PV) from by simp]
 exact PX.ret_s hS hE (by kernel_rfl) (by kernel_rfl) (by kernel_rfl) (.inl rfl)
end Go.Proofs.Ytlkcidmmpeebeaa
