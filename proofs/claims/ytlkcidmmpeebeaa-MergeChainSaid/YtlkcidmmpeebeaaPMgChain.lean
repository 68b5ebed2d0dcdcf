/- Proved: MergeChain on plain data -/
import Derived.Test.YtlkcidmmpeebeaaMgX
import Derived.Test.YtlkcidmmpeebeaaPTrD
set_option linter.unusedVariables false
set_option linter.unusedSimpArgs false
namespace Go.Proofs.Ytlkcidmmpeebeaa
open Go.RowKit Go.PX
set_option maxRecDepth 100000
def chB (i:Nat):BlockD:={ params:=1,ops:=[⟨1,1,0,0,(i:Int),0,0,0,0,0,0⟩,⟨3,2,0,1,0,0,0,0,0,0,0⟩],term:={ kind:=1,a:=0,n:=0,args:=[],b0:=((i+1:Nat):Int),args0:=[2],b1:=-1,args1:=[] } }
def chL (k:Nat):List BlockD:=(List.range k).map chB
def chC (k:Nat):CodeD:={ params:=1,blocks:=chL k++[retD 1 0 []],contexts:=[(-1,-1,0)],objects:=[] }
theorem chL_succ (k:Nat):chL (k+1)=chL k++[chB k]:=by unfold chL; rw [List.range_succ,List.map_append]; rfl
theorem chL_len (k:Nat):(chL k).length=k:=by simp [chL]
def wantD:Nat→Int
 | 0=>3
 | i+1=>IntKind.i64.wrap (wantD i+(i:Int))
instance (o:OpD):Decidable (OpS o):=by unfold OpS; infer_instance
def simpleB (c:CodeD):Bool:=decide (R.check c (totW c.blocks)=0)&&c.contexts.all (fun x=>x.2.2==0)&&c.objects.isEmpty&&c.blocks.all (fun b=>b.ops.all (fun o=>decide (OpS o)))&&c.blocks.all (fun b=>decide (b.term.kind=1∨b.term.kind=2∨b.term.kind=4))
theorem simple_of {c:CodeD} (h:simpleB c=true):Simple c:=by
 unfold simpleB at h
 simp only [Bool.and_eq_true,decide_eq_true_eq,List.all_eq_true,List.isEmpty_iff,beq_iff_eq] at h
 exact ⟨h.1.1.1.1,h.1.1.1.2,h.1.1.2,h.1.2,h.2⟩
def chOk (m:Nat):Bool:=match (mgD (chC (m+1))).blocks with
 | [b]=>decide (b.ops.length=2*(m+1))&&(finD (mgD (chC (m+1))) 5 100 0 [3] 0 0 0==some (0,wantD (m+1)))&&simpleB (mgD (chC (m+1)))&&decide ((mgD (chC (m+1))).params=1)
 | _=>false
theorem ch_all:(List.range 30).all chOk=true:=by kernel_rfl
theorem codeI_ch {k:Nat} (hk:k≤30):CodeI (chC k):=by
 have hI:∀ n:Int,(decide (-100≤n)&&decide (n≤100))=true→I64 n:=fun n h=>by
  simp only [Bool.and_eq_true,decide_eq_true_eq] at h
  exact ⟨by omega,by omega⟩
 refine ⟨hI _ rfl,fun b hb=>?_,fun o ho=>by simp [chC] at ho; subst ho; exact ⟨hI _ rfl,hI _ rfl,hI _ rfl⟩,fun o ho=>by simp [chC] at ho⟩
 rcases List.mem_append.1 hb with h | h
 ·unfold chL at h
  obtain ⟨i,hi,rfl⟩:=List.mem_map.1 h
  have hi:=List.mem_range.1 hi
  have e1:I64 (((i+1:Nat):Int)):=⟨by omega,by omega⟩
  have e2:I64 ((i:Int)):=⟨by omega,by omega⟩
  refine ⟨⟨hI _ rfl,hI _ rfl,hI _ rfl,hI _ rfl,e1,hI _ rfl⟩,fun o ho=>?_,fun x hx=>by simp [chB] at hx,fun x hx=>by simp [chB] at hx; subst hx; exact hI _ rfl,fun x hx=>by simp [chB] at hx,by simp [chB]⟩
  simp only [chB,List.mem_cons,List.not_mem_nil,or_false] at ho
  rcases ho with rfl | rfl
  ·exact ⟨hI _ rfl,hI _ rfl,hI _ rfl,hI _ rfl,e2,hI _ rfl,hI _ rfl,hI _ rfl,hI _ rfl,hI _ rfl,hI _ rfl⟩
  ·exact ⟨hI _ rfl,hI _ rfl,hI _ rfl,hI _ rfl,hI _ rfl,hI _ rfl,hI _ rfl,hI _ rfl,hI _ rfl,hI _ rfl,hI _ rfl⟩
 ·simp only [List.mem_cons,List.not_mem_nil,or_false] at h
  subst h; exact blkI_of _ (by decide)
theorem chain_facts {m:Nat} (hm:m<30):∃ (M:CodeD) (b:BlockD),M=mgD (chC (m+1))∧M.blocks=[b]∧b.ops.length=2*(m+1)∧finD M 5 100 0 [3] 0 0 0=some (0,wantD (m+1))∧Simple M∧M.params=1∧CodeI M:=by
 have h:=List.all_eq_true.1 ch_all m (List.mem_range.2 hm)
 unfold chOk at h
 split at h
 ·rename_i b hb
  simp only [Bool.and_eq_true,decide_eq_true_eq] at h
  exact ⟨_,b,rfl,hb,h.1.1.1,eq_of_beq h.1.1.2,simple_of h.1.2,h.2,codeI_mg (codeI_ch (by omega))⟩
 ·cases h
theorem ch_code (k:Nat):codeP (chC k)=.agg [.sc (.I 1),.imm 10 ((chL k).map encB++[encB (retD 1 0 [])]),.imm 3 [[.sc (.I (-1)),.sc (.I (-1)),.sc (.I 0)]],.imm 3 []]:=by
 unfold codeP chC; simp [encR]
theorem con_chain {lo top m:Nat} {M:CodeD} (hM:M=mgD (chC (m+1))) (hm:m<30) (ho:M.objects=[]):PX.Con Try.prog 36 [.agg [.sc (.I 1),.imm 10 ((chL (m+1)).map encB++[encB (retD 1 0 [])]),.imm 3 [[.sc (.I (-1)),.sc (.I (-1)),.sc (.I 0)]],.imm 3 []]] [] lo top (.agg [.sc (.I M.params),.imm 10 (M.blocks.map encB),.imm 3 (M.contexts.map encR),.imm 3 []]) []:=by
 have h:=con_mg (lo:=lo) (top:=top) (codeI_ch (k:=m+1) (by omega))
 rw [ch_code,← hM] at h
 have e:codeP M=.agg [.sc (.I M.params),.imm 10 (M.blocks.map encB),.imm 3 (M.contexts.map encR),.imm 3 []]:=by unfold codeP; rw [ho]; rfl
 rw [e] at h; exact h
def modD (n k:Int):Int:=if Int.tmod n k<0 then IntKind.i64.wrap (Int.tmod n k+k) else Int.tmod n k
theorem modD_range {n k:Int} (hk:0<k) (hk2:k≤1000000):0≤modD n k∧modD n k<k:=by
 have h1:Int.tmod n k<k:=Int.tmod_lt_of_pos n hk
 have h2:-k<Int.tmod n k:=by
  have:=Int.tmod_lt_of_pos (-n) hk
  rw [Int.neg_tmod] at this; omega
 unfold modD
 split
 ·rw [IntWalk.i64_in _ (by omega)]; omega
 ·omega

set_option maxHeartbeats 400000 in
theorem con_f19_30 (n:Int):PX.Con Try.prog 19 [(.J n),(.J 30)] [] 1 100000 (.sc (.I (modD n 30))) []:=by
 refine PX.con_intro [(.J n),(.J 30)] 14 Try.func19 rfl rfl (by kernel_rfl) (by kernel_rfl) ?_
 intro E a hE hS
 generalize E.w0=w at hS ⊢
 have mix:=mixed
 refine PX.G [] [] 1 [] [] [.au] [0,1] [] hS hE trivial fun a w hS=>?_
 refine PX.G [(.e 0 (.sc (.I (Int.tmod n 30))))] [] 1 [] [] [.au,.au,.au,.au] [0,1] [] hS hE trivial fun a w hS=>?_
 refine wp_seq_k fun K1 hK1=>?_
 refine PX.G [(.e 9 (.sc (.bool (decide ((Int.tmod n 30)<0)))))] [] 1 [] [] [.au,.au] [0,1,9] [] hS hE trivial fun a w hS=>?_
 refine PX.cond_s (decide ((Int.tmod n 30)<0)) hS (by kernel_rfl) (fun h2=>?_) (fun h2=>?_)
 ·skip
  refine PX.G0 [(.e 0 (.sc (.I (IntKind.i64.wrap ((Int.tmod n 30)+30)))))] [] 1 [] [] [.au,.au,.au,.au] [0] [] hS hE trivial fun a w hS=>?_
  refine hK1 _ _ ?_
  refine PX.G [(.e 4 (.sc (.I (IntKind.i64.wrap ((Int.tmod n 30)+30)))))] [] 1 [] [] [.au,.au] [4] [] hS hE trivial fun a w hS=>?_
  refine wp_ret ?_
  rw [show (.sc (.I (modD n 30)))=((.sc (.I (IntKind.i64.wrap ((Int.tmod n 30)+30)))):PX.PV) from by unfold modD; rw [if_pos (of_decide_eq_true h2)]]
  exact PX.rt hS hE (.inl rfl)
 ·skip
  refine wp_skip ?_
  refine hK1 _ _ ?_
  refine PX.G [(.e 4 (.sc (.I (Int.tmod n 30))))] [] 1 [] [] [.au,.au] [4] [] hS hE trivial fun a w hS=>?_
  refine wp_ret ?_
  rw [show (.sc (.I (modD n 30)))=((.sc (.I (Int.tmod n 30))):PX.PV) from by unfold modD; rw [if_neg (of_decide_eq_false h2)]]
  exact PX.rt hS hE (.inl rfl)

set_option maxHeartbeats 400000 in
theorem con_ret9n (p v:Int):PX.Con Try.prog 39 [(.J p),(.J v),(.sc (.slice none 0 0))] [] 1 100000 (.agg (encB (retD p v []))) []:=by
 refine PX.con_intro [(.J p),(.J v),(.sc (.slice none 0 0))] 17 Try.func39 rfl rfl (by kernel_rfl) (by kernel_rfl) ?_
 intro E a hE hS
 generalize E.w0=w at hS ⊢
 have mix:=mixed
 refine PX.G [(.e 6 (.ptr 1 0))] [(1,.box 62 [(.J 0),(.sc (.slice none 0 0)),(.J 0),(.J 0),(.J 0),(.sc (.slice none 0 0)),(.J 0),(.sc (.slice none 0 0)),(.J 0),(.sc (.slice none 0 0))])] 2 [] [] [.au] [0,1,2,6] [1] hS hE trivial fun a w hS=>?_
 refine PX.G [] [(1,.box 62 [(.J p),(.own 3 11 0),(.J 4),(.J v),(.J 0),(.sc (.slice none 0 0)),(.sc (.I (-1))),(.sc (.slice none 0 0)),(.sc (.I (-1))),(.sc (.slice none 0 0))]),(3,.row 74 11 true ([]))] 4 [.b (lenIs 0 ([])),.b true,.b (Nat.ble (0) 1000000000)] [] [.au,.au,.au,.au,.au,.au,.au,.au,.au,.au,.au] [6] [1,3] hS hE ⟨rfl,rfl,rfl,trivial⟩ fun a w hS=>?_
 replace hS:=PX.recell (id:=1) (j:=5) (.imm 1 []) hS rfl rfl rfl (PX.nil_imm 1)
 replace hS:=PX.recell (id:=1) (j:=7) (.imm 1 []) hS rfl rfl rfl (PX.nil_imm 1)
 replace hS:=PX.recell (id:=1) (j:=9) (.imm 1 []) hS rfl rfl rfl (PX.nil_imm 1)
 replace hS:=PX.fz 3 [] [(1,.box 62 [(.J p),(.imm 11 ([])),(.J 4),(.J v),(.J 0),(.imm 1 ([])),(.sc (.I (-1))),(.imm 1 ([])),(.sc (.I (-1))),(.imm 1 ([]))])] [6] [1] [.b (PX.lenIs 0 ([]))] hS ⟨(by simp [PX.lenIs]),trivial⟩
 refine wp_ret ?_
 exact PX.rt hS hE (.inl rfl)

set_option maxHeartbeats 2000000 in
theorem mergeChain_con (n:Int) (l:List Int):PX.Con Try.prog 10 [(.J n),(.imm 1 (l.map encI))] [] 1 100000 (.sc (.bool true)) []:=by
 refine PX.con_intro [(.J n),(.imm 1 (l.map encI))] 85 Try.func10 rfl rfl (by kernel_rfl) (by kernel_rfl) ?_
 intro E a hE hS
 generalize E.w0=w at hS ⊢
 have mix:=mixed
 refine PX.G [] [] 1 [] [] [.au] [0] [] hS hE trivial fun a w hS=>?_
 refine PX.G [(.e 5 (.sc (.I (1+modD n 30))))] [] 1 [.q (PX.Con Try.prog 19 [(.J n),(.J 30)] [] 1 1 (.sc (.I (modD n 30))) []),.q ((.sc (.I (IntKind.i64.wrap (1+(modD n 30)))):PX.PV)=(.sc (.I (1+modD n 30))))] [] [.au,.cl [] (.sc (.I (modD n 30))) [] 1,.nm (.sc (.I (1+modD n 30))),.au] [5] [] hS hE ⟨PX.con_any (con_f19_30 n),PX.nm_int (by have:=modD_range (n:=n) (k:=30) (by omega) (by omega); rw [IntWalk.i64_in _ (by omega)]),trivial⟩ fun a w hS=>?_
 obtain ⟨hk0,hk1⟩:=modD_range (n:=n) (k:=30) (by omega) (by omega); obtain ⟨m,hmn⟩:=Int.eq_ofNat_of_zero_le hk0; have hm30:m<30:=by omega
 rw [show 1+modD n 30=((m+1:Nat):Int) from by omega] at hS
 obtain ⟨M,b,hM,hMb,hMo,hMf,hMs,hMp,hMi⟩:=chain_facts hm30
 have hfit:=fit_of hMi hMs.chk; have hMl:M.blocks.length=1:=by rw [hMb]; rfl
 refine PX.G [(.e 6 (.sc (.slice none 0 0)))] [] 1 [] [] [.au] [5,6] [] hS hE trivial fun a w hS=>?_
 refine PX.G [(.e 7 (.J 3))] [] 1 [] [] [.au] [5,6,7] [] hS hE trivial fun a w hS=>?_
 refine wp_seq_k fun K1 hK1=>?_
 refine PX.G [(.e 8 (.J 0))] [] 1 [] [] [.au] [5,6,7,8] [] hS hE trivial fun a w hS=>?_
 refine wp_block ?_
 replace hS:=PX.sl [5,6,7,8] (PX.reslot (t:=6) (.own 1 10 0) (PX.newrow 62 10 hS (hE.le (by decide))) rfl (PX.nil_own 1 10))
 replace hS:=PX.rerow (id:=1) ((chL (0)).map encB) hS rfl rfl
 replace hS:=PX.sl [5,6,7,8] (PX.reslot (t:=7) (.sc (.I (wantD (0)))) hS rfl (fun _ _ _ _ h=>(show PX.PV.sc (.I 3)=.sc (.I (wantD 0)) from rfl) ▸ h))
 refine wp_loop_ghost (fun m2 a' w'=>∃ i:Nat,m2=(m+1)-i∧i≤(m+1)∧True∧PX.Sat E 85 [(.e 5 (.sc (.I (((m+1):Nat):Int)))),(.e 6 (.own 3 10 i)),(.e 7 (.sc (.I (wantD (i))))),(.e 8 (.sc (.I (i:Int))))] [(3,.row 62 10 true ((chL (i)).map encB))] 4 a' w') ((m+1)-0) ⟨0,rfl,Nat.zero_le _,trivial,(PX.cn [(3,1)] _ _ 4 hS hE)⟩ ?_
 clear hS; rintro m2 a w ⟨i,hm2,hlei,hIi,hS⟩
 refine wp_seq_k fun K3 hK3=>?_
 refine PX.G [(.e 18 (.sc (.bool (decide ((i:Int)<(((m+1):Nat):Int))))))] [] 4 [] [] [.au,.au,.au] [5,6,7,8,18] [3] hS hE trivial fun a w hS=>?_
 refine PX.cond_s (decide ((i:Int)<(((m+1):Nat):Int))) hS (by kernel_rfl) (fun h4=>?_) (fun h4=>?_)
 ·skip
  refine wp_skip ?_
  refine hK3 _ _ ?_
  refine wp_seq_k fun K5 hK5=>?_
  refine wp_block ?_
  have hilt:i<m+1:=lt_of_dec h4
  refine PX.G [(.e 9 (.ptr 5 0))] [(4,.row 74 11 true ([[(.J 1),(.J 1),(.J 0),(.J 0),(.sc (.I (i:Int))),(.J 0),(.J 0),(.J 0),(.J 0),(.J 0),(.J 0)],[(.J 3),(.J 2),(.J 0),(.J 1),(.J 0),(.J 0),(.J 0),(.J 0),(.J 0),(.J 0),(.J 0)]])),(5,.box 62 [(.J 1),(.own 4 11 2),(.J 0),(.J 0),(.J 0),(.sc (.slice none 0 0)),(.J 0),(.sc (.slice none 0 0)),(.J 0),(.sc (.slice none 0 0))])] 6 [] [] [.au,.au,.au,.au,.au,.au,.au] [5,6,7,8,9] [3,4,5] hS hE trivial fun a w hS=>?_
  refine PX.G [] [(5,.box 62 [(.J 1),(.own 4 11 2),(.J 1),(.J 0),(.J 0),(.sc (.slice none 0 0)),(.sc (.I ((i+1:Nat):Int))),(.own 6 1 1),(.sc (.I (-1))),(.sc (.slice none 0 0))]),(6,.row 3 1 true ([[(.J 2)]]))] 7 [.q ((.sc (.I (IntKind.i64.wrap ((i:Int)+1))):PX.PV)=(.sc (.I ((i+1:Nat):Int))))] [] [.au,.nm (.sc (.I ((i+1:Nat):Int))),.au,.au,.au,.au,.au,.au,.au] [5,6,7,8,9] [3,4,5,6] hS hE ⟨PX.nm_int (by rw [IntWalk.i64_in _ (by omega)]; omega),trivial⟩ fun a w hS=>?_
  replace hS:=PX.recell (id:=5) (j:=5) (.imm 1 []) hS rfl rfl rfl (PX.nil_imm 1)
  replace hS:=PX.recell (id:=5) (j:=9) (.imm 1 []) hS rfl rfl rfl (PX.nil_imm 1)
  replace hS:=PX.fz 4 [] [(5,.box 62 [(.J 1),(.imm 11 ([[(.J 1),(.J 1),(.J 0),(.J 0),(.sc (.I (i:Int))),(.J 0),(.J 0),(.J 0),(.J 0),(.J 0),(.J 0)],[(.J 3),(.J 2),(.J 0),(.J 1),(.J 0),(.J 0),(.J 0),(.J 0),(.J 0),(.J 0),(.J 0)]])),(.J 1),(.J 0),(.J 0),(.imm 1 ([])),(.sc (.I ((i+1:Nat):Int))),(.own 6 1 1),(.sc (.I (-1))),(.imm 1 ([]))])] [5,6,7,8,9] [5,3,6] [.b (PX.lenIs 2 ([[(.J 1),(.J 1),(.J 0),(.J 0),(.sc (.I (i:Int))),(.J 0),(.J 0),(.J 0),(.J 0),(.J 0),(.J 0)],[(.J 3),(.J 2),(.J 0),(.J 1),(.J 0),(.J 0),(.J 0),(.J 0),(.J 0),(.J 0),(.J 0)]]))] hS ⟨(by simp [PX.lenIs]),trivial⟩
  replace hS:=PX.fz 6 [] [(5,.box 62 [(.J 1),(.imm 11 ([[(.J 1),(.J 1),(.J 0),(.J 0),(.sc (.I (i:Int))),(.J 0),(.J 0),(.J 0),(.J 0),(.J 0),(.J 0)],[(.J 3),(.J 2),(.J 0),(.J 1),(.J 0),(.J 0),(.J 0),(.J 0),(.J 0),(.J 0),(.J 0)]])),(.J 1),(.J 0),(.J 0),(.imm 1 ([])),(.sc (.I ((i+1:Nat):Int))),(.imm 1 ([[(.J 2)]])),(.sc (.I (-1))),(.imm 1 ([]))])] [5,6,7,8,9] [5,3] [.b (PX.lenIs 1 ([[(.J 2)]]))] hS ⟨(by simp [PX.lenIs]),trivial⟩
  refine PX.G [(.e 6 (.own 8 10 (((chL (i)).map encB:List (List PX.PV)).length+1)))] [(8,.row 62 10 true ((chL (i)).map encB++[[(.J 1),(.imm 11 ([[(.J 1),(.J 1),(.J 0),(.J 0),(.sc (.I (i:Int))),(.J 0),(.J 0),(.J 0),(.J 0),(.J 0),(.J 0)],[(.J 3),(.J 2),(.J 0),(.J 1),(.J 0),(.J 0),(.J 0),(.J 0),(.J 0),(.J 0),(.J 0)]])),(.J 1),(.J 0),(.J 0),(.imm 1 ([])),(.sc (.I ((i+1:Nat):Int))),(.imm 1 ([[(.J 2)]])),(.sc (.I (-1))),(.imm 1 ([]))]]))] 9 [.b (lenIs i ((chL (i)).map encB)),.b (lenIs 1 ([[(.J 1),(.imm 11 ([[(.J 1),(.J 1),(.J 0),(.J 0),(.sc (.I (i:Int))),(.J 0),(.J 0),(.J 0),(.J 0),(.J 0),(.J 0)],[(.J 3),(.J 2),(.J 0),(.J 1),(.J 0),(.J 0),(.J 0),(.J 0),(.J 0),(.J 0),(.J 0)]])),(.J 1),(.J 0),(.J 0),(.imm 1 ([])),(.sc (.I ((i+1:Nat):Int))),(.imm 1 ([[(.J 2)]])),(.sc (.I (-1))),(.imm 1 ([]))]])),.b (Nat.ble (((chL (i)).map encB:List (List PX.PV)).length+1) 1000000000)] [] [.au,.au,.au,.au,.au] [5,6,7,8] [8] hS hE ⟨by simp [PX.lenIs,chL_len],rfl,by simp [chL_len]; omega,trivial⟩ fun a w hS=>?_
  refine PX.G0 [(.e 7 (.sc (.I (wantD (i+1)))))] [] 9 [.q ((.sc (.I (IntKind.i64.wrap ((wantD (i))+(i:Int)))):PX.PV)=(.sc (.I (wantD (i+1)))))] [] [.au,.au,.nm (.sc (.I (wantD (i+1)))),.au] [5,6,7,8] [8] hS hE ⟨PX.nm_int (rfl),trivial⟩ fun a w hS=>?_
  refine hK5 _ _ ?_
  refine PX.G0 [(.e 8 (.sc (.I ((i+1:Nat):Int))))] [] 9 [.q ((.sc (.I (IntKind.i64.wrap ((i:Int)+1))):PX.PV)=(.sc (.I ((i+1:Nat):Int))))] [] [.au,.nm (.sc (.I ((i+1:Nat):Int))),.au] [5,6,7,8] [8] hS hE ⟨PX.nm_int (by rw [IntWalk.i64_in _ (by omega)]; omega),trivial⟩ fun a w hS=>?_
  have e2:((chL (i)).map encB:List (List PX.PV)).length+1=i+1:=by simp [chL_len]
  have e1:((chL (i)).map encB++[[(.J 1),(.imm 11 ([[(.J 1),(.J 1),(.J 0),(.J 0),(.sc (.I (i:Int))),(.J 0),(.J 0),(.J 0),(.J 0),(.J 0),(.J 0)],[(.J 3),(.J 2),(.J 0),(.J 1),(.J 0),(.J 0),(.J 0),(.J 0),(.J 0),(.J 0),(.J 0)]])),(.J 1),(.J 0),(.J 0),(.imm 1 ([])),(.sc (.I ((i+1:Nat):Int))),(.imm 1 ([[(.J 2)]])),(.sc (.I (-1))),(.imm 1 ([]))]])=(chL (i+1)).map encB:=by rw [chL_succ]; simp [encB,chB,encO,encI]
  rw [e2,e1] at hS
  exact ⟨(m+1)-(i+1),by omega,i+1,rfl,by omega,trivial,(PX.cn [(3,8)] _ _ 4 hS hE)⟩
 ·skip
  refine wp_exit ?_
  refine hK1 _ _ ?_
  obtain rfl:i=m+1:=by have:=le_of_dec h4; omega
  refine PX.G [(.e 10 (.ptr 6 0))] [(6,.box 26 [(.J M.params),(.imm 10 (M.blocks.map encB)),(.imm 3 (M.contexts.map encR)),(.imm 3 ([]))])] 7 [.q (PX.Con Try.prog 39 [(.J 1),(.J 0),(.sc (.slice none 0 0))] [] 4 4 (.agg [(.sc (.I ((retD 1 0 []).params))),(.imm 11 (((retD 1 0 []).ops).map encO)),(.sc (.I ((retD 1 0 []).term.kind))),(.sc (.I ((retD 1 0 []).term.a))),(.sc (.I ((retD 1 0 []).term.n))),(.imm 1 (((retD 1 0 []).term.args).map encI)),(.sc (.I ((retD 1 0 []).term.b0))),(.imm 1 (((retD 1 0 []).term.args0).map encI)),(.sc (.I ((retD 1 0 []).term.b1))),(.imm 1 (((retD 1 0 []).term.args1).map encI))]) []),.b (lenIs (m+1) ((chL (m+1)).map encB)),.b (lenIs 1 ([[(.sc (.I ((retD 1 0 []).params))),(.imm 11 (((retD 1 0 []).ops).map encO)),(.sc (.I ((retD 1 0 []).term.kind))),(.sc (.I ((retD 1 0 []).term.a))),(.sc (.I ((retD 1 0 []).term.n))),(.imm 1 (((retD 1 0 []).term.args).map encI)),(.sc (.I ((retD 1 0 []).term.b0))),(.imm 1 (((retD 1 0 []).term.args0).map encI)),(.sc (.I ((retD 1 0 []).term.b1))),(.imm 1 (((retD 1 0 []).term.args1).map encI))]])),.b (Nat.ble (((chL (m+1)).map encB:List (List PX.PV)).length+1) 1000000000),.q (PX.Con Try.prog 38 [(.J 1),(.imm 10 ((chL (m+1)).map encB++[[(.sc (.I ((retD 1 0 []).params))),(.imm 11 (((retD 1 0 []).ops).map encO)),(.sc (.I ((retD 1 0 []).term.kind))),(.sc (.I ((retD 1 0 []).term.a))),(.sc (.I ((retD 1 0 []).term.n))),(.imm 1 (((retD 1 0 []).term.args).map encI)),(.sc (.I ((retD 1 0 []).term.b0))),(.imm 1 (((retD 1 0 []).term.args0).map encI)),(.sc (.I ((retD 1 0 []).term.b1))),(.imm 1 (((retD 1 0 []).term.args1).map encI))]]))] [] 6 6 (.agg [(.J 1),(.imm 10 ((chL (m+1)).map encB++[[(.sc (.I ((retD 1 0 []).params))),(.imm 11 (((retD 1 0 []).ops).map encO)),(.sc (.I ((retD 1 0 []).term.kind))),(.sc (.I ((retD 1 0 []).term.a))),(.sc (.I ((retD 1 0 []).term.n))),(.imm 1 (((retD 1 0 []).term.args).map encI)),(.sc (.I ((retD 1 0 []).term.b0))),(.imm 1 (((retD 1 0 []).term.args0).map encI)),(.sc (.I ((retD 1 0 []).term.b1))),(.imm 1 (((retD 1 0 []).term.args1).map encI))]])),(.imm 3 [[.sc (.I (-1)),.sc (.I (-1)),.sc (.I 0)]]),(.imm 3 [])]) []),.b (PX.lenIs (((chL (m+1)).map encB:List (List PX.PV)).length+1) ((chL (m+1)).map encB++[[(.sc (.I ((retD 1 0 []).params))),(.imm 11 (((retD 1 0 []).ops).map encO)),(.sc (.I ((retD 1 0 []).term.kind))),(.sc (.I ((retD 1 0 []).term.a))),(.sc (.I ((retD 1 0 []).term.n))),(.imm 1 (((retD 1 0 []).term.args).map encI)),(.sc (.I ((retD 1 0 []).term.b0))),(.imm 1 (((retD 1 0 []).term.args0).map encI)),(.sc (.I ((retD 1 0 []).term.b1))),(.imm 1 (((retD 1 0 []).term.args1).map encI))]])),.q (PX.Con Try.prog 36 [(.agg [(.J 1),(.imm 10 ((chL (m+1)).map encB++[[(.sc (.I ((retD 1 0 []).params))),(.imm 11 (((retD 1 0 []).ops).map encO)),(.sc (.I ((retD 1 0 []).term.kind))),(.sc (.I ((retD 1 0 []).term.a))),(.sc (.I ((retD 1 0 []).term.n))),(.imm 1 (((retD 1 0 []).term.args).map encI)),(.sc (.I ((retD 1 0 []).term.b0))),(.imm 1 (((retD 1 0 []).term.args0).map encI)),(.sc (.I ((retD 1 0 []).term.b1))),(.imm 1 (((retD 1 0 []).term.args1).map encI))]])),(.imm 3 [[.sc (.I (-1)),.sc (.I (-1)),.sc (.I 0)]]),(.imm 3 [])])] [] 6 6 (.agg [(.J M.params),(.imm 10 (M.blocks.map encB)),(.imm 3 (M.contexts.map encR)),(.imm 3 ([]))]) [])] [] [.au,.cl [] (.agg [(.sc (.I ((retD 1 0 []).params))),(.imm 11 (((retD 1 0 []).ops).map encO)),(.sc (.I ((retD 1 0 []).term.kind))),(.sc (.I ((retD 1 0 []).term.a))),(.sc (.I ((retD 1 0 []).term.n))),(.imm 1 (((retD 1 0 []).term.args).map encI)),(.sc (.I ((retD 1 0 []).term.b0))),(.imm 1 (((retD 1 0 []).term.args0).map encI)),(.sc (.I ((retD 1 0 []).term.b1))),(.imm 1 (((retD 1 0 []).term.args1).map encI))]) [] 4,.au,.au,.cv [5] (.agg [(.J 1),(.imm 10 ((chL (m+1)).map encB++[[(.sc (.I ((retD 1 0 []).params))),(.imm 11 (((retD 1 0 []).ops).map encO)),(.sc (.I ((retD 1 0 []).term.kind))),(.sc (.I ((retD 1 0 []).term.a))),(.sc (.I ((retD 1 0 []).term.n))),(.imm 1 (((retD 1 0 []).term.args).map encI)),(.sc (.I ((retD 1 0 []).term.b0))),(.imm 1 (((retD 1 0 []).term.args0).map encI)),(.sc (.I ((retD 1 0 []).term.b1))),(.imm 1 (((retD 1 0 []).term.args1).map encI))]])),(.imm 3 [[.sc (.I (-1)),.sc (.I (-1)),.sc (.I 0)]]),(.imm 3 [])]) 6,.cl [] (.agg [(.J M.params),(.imm 10 (M.blocks.map encB)),(.imm 3 (M.contexts.map encR)),(.imm 3 ([]))]) [] 6,.au,.au] [5,7,10] [6] hS hE ⟨PX.con_any (con_ret9n 1 0),by simp [PX.lenIs,chL_len],rfl,by simp [chL_len]; omega,PX.con_any (con_mk9 1 ((chL (m+1)).map encB++[[(.sc (.I ((retD 1 0 []).params))),(.imm 11 (((retD 1 0 []).ops).map encO)),(.sc (.I ((retD 1 0 []).term.kind))),(.sc (.I ((retD 1 0 []).term.a))),(.sc (.I ((retD 1 0 []).term.n))),(.imm 1 (((retD 1 0 []).term.args).map encI)),(.sc (.I ((retD 1 0 []).term.b0))),(.imm 1 (((retD 1 0 []).term.args0).map encI)),(.sc (.I ((retD 1 0 []).term.b1))),(.imm 1 (((retD 1 0 []).term.args1).map encI))]]) (by simp [chL_len]; omega)),by simp [PX.lenIs,chL_len],con_chain hM hm30 hMs.obj,trivial⟩ fun a w hS=>?_
  refine PX.G [(.e 12 (.ptr 9 0))] [(9,.box 37 [(.J 0),(.sc (.bool false)),(.sc (.I (wantD (m+1)))),(.sc (.slice none 0 0))])] 10 [.q (PX.Con Try.prog 20 [(.agg [(.sc (.slice none 0 0)),(.sc (.slice none 0 0)),(.sc (.slice none 0 0)),(.sc (.slice none 0 0))]),(.agg [(.imm 4 ([[(.J M.params),(.imm 10 (M.blocks.map encB)),(.imm 3 (M.contexts.map encR)),(.imm 3 ([]))]]))]),(.J 0),(.imm 1 ([[(.J 3)]])),(.J 5),(.J 0),(.J 0)] [] 9 9 (.tup [(.sc (.slice none 0 0)),(.agg [(.J 0),(.sc (.bool false)),(.sc (.I (wantD (m+1)))),(.sc (.slice none 0 0))])]) []),.b (PX.lenIs 1 ([[(.J M.params),(.imm 10 (M.blocks.map encB)),(.imm 3 (M.contexts.map encR)),(.imm 3 ([]))]])),.b (PX.lenIs 1 ([[(.J 3)]]))] [] [.au,.au,.au,.au,.au,.cv [7,8] (.tup [(.sc (.slice none 0 0)),(.agg [(.J 0),(.sc (.bool false)),(.sc (.I (wantD (m+1)))),(.sc (.slice none 0 0))])]) 9,.au,.au,.au,.au,.au,.au] [5,7,10,12] [6,9] hS hE ⟨PX.con_any (con_f20 M hMi hMs hfit 5 100 [3] 0 (wantD (m+1)) hMf (by simp) (by omega) (by rw [hMp]; rfl)),rfl,rfl,trivial⟩ fun a w hS=>?_
  have hq1:((M.blocks.length:Int)==1)=true:=by rw [hMl]; rfl
  have hq2:((b.ops.length:Int)==(2*((m+1:Nat):Int)))=true:=by rw [hMo,beq_iff_eq]; omega
  refine PX.G [(.e 4 (.sc (.bool true)))] [] 10 [.q ((.sc (.I (((M.blocks.map encB).length:Nat):Int)):PX.PV)=(.sc (.I (M.blocks.length:Int)))),.q (((.sc (.bool ((M.blocks.length:Int)==1))):PX.PV)=(.sc (.bool true))),.q (0=((0:Nat):Int)),.q ((M.blocks.map encB)[0]?=some (encB b)),.q ((.sc (.I (((b.ops.map encO).length:Nat):Int)):PX.PV)=(.sc (.I (b.ops.length:Int)))),.q ((.sc (.I (IntKind.i64.wrap (2*(((m+1):Nat):Int)))):PX.PV)=(.sc (.I (2*((m+1:Nat):Int))))),.q (((.sc (.bool ((b.ops.length:Int)==(2*((m+1:Nat):Int))))):PX.PV)=(.sc (.bool true))),.q ((.sc (.bool ((wantD (m+1))==(wantD (m+1)))):PX.PV)=(.sc (.bool true))),.q ((.sc (.bool (0==0)):PX.PV)=(.sc (.bool true))),.q (PX.Con Try.prog 35 [] [] 10 10 (.sc (.bool true)) [])] [] [.au,.au,.nm (.sc (.I (M.blocks.length:Int))),.nm (.sc (.bool true)),.au,.au,.au,.ix 0 (encB b),.au,.au,.nm (.sc (.I (b.ops.length:Int))),.au,.nm (.sc (.I (2*((m+1:Nat):Int)))),.nm (.sc (.bool true)),.au,.au,.au,.au,.au,.nm (.sc (.bool true)),.au,.au,.au,.au,.nm (.sc (.bool true)),.au,.au,.cl [] (.sc (.bool true)) [] 10,.au,.au] [4] [] hS hE ⟨PX.nm_len (by simp),by rw [hq1],by omega,PX.map_get (by rw [hMb]; rfl),PX.nm_len (by simp),PX.nm_int (by rw [IntWalk.i64_in _ (by omega)]),by rw [hq2],by simp,by simp,con_known9,trivial⟩ fun a w hS=>?_
  refine wp_ret ?_
  exact PX.rt hS hE (.inl rfl)
end Go.Proofs.Ytlkcidmmpeebeaa
