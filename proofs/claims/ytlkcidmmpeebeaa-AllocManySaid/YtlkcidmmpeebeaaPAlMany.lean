/- Proved: AllocMany on plain data -/
import Derived.Test.YtlkcidmmpeebeaaPAlH
set_option linter.unusedVariables false
set_option linter.unusedSimpArgs false
namespace Go.Proofs.Ytlkcidmmpeebeaa
open Go.RowKit Go.PX
set_option maxRecDepth 100000
def modE (n k:Int):Int:=if Int.tmod n k<0 then IntKind.i64.wrap (Int.tmod n k+k) else Int.tmod n k
theorem modE_range {n k:Int} (hk:0<k) (hk2:k≤1000000):0≤modE n k∧modE n k<k:=by
 have h1:Int.tmod n k<k:=Int.tmod_lt_of_pos n hk
 have h2:-k<Int.tmod n k:=by
  have:=Int.tmod_lt_of_pos (-n) hk
  rw [Int.neg_tmod] at this; omega
 unfold modE
 split
 ·rw [IntWalk.i64_in _ (by omega)]; omega
 ·omega
theorem opsA_len (p i:Nat):(opsA p i).length=i:=by simp [opsA]
theorem opsB_len (p k j:Nat):(opsB p k j).length=k+j:=by simp [opsB,opsA]
theorem opsA_succ (p i:Nat):opsA p (i+1)=opsA p i++[constOp p i]:=by simp [opsA,List.range_succ]
theorem opsB_succ (p k j:Nat):opsB p k (j+1)=opsB p k j++[printOp j]:=by simp [opsB,List.range_succ]
theorem plM_get {p k i:Nat} {y:PlaceD} (h:(plM p k)[i]?=some y):y=plI i:=by
 obtain ⟨hi,rfl⟩:=List.getElem?_eq_some_iff.1 h
 simp [plM]

set_option maxHeartbeats 400000 in
theorem con_f19_30 (n:Int):PX.Con Try.prog 19 [(.J n),(.J 30)] [] 1 100000 (.sc (.I (modE n 30))) []:=by
 refine PX.con_intro [(.J n),(.J 30)] 14 Try.func19 rfl rfl (by kernel_rfl) (by kernel_rfl) ?_
 intro E a hE hS
 generalize E.w0=w at hS ⊢
 have mix:=mixed
 refine PX.G [] [] 1 [] [] [.au] [0,1] [] hS hE trivial fun a w hS=>?_
 refine PX.G [(.e 0 (.sc (.I (Int.tmod n 30))))] [] 1 [] [] [.au,.au,.au,.au] [0,1] [] hS hE trivial fun a w hS=>?_
 refine wp_seq_k fun K1 hK1=>?_
 refine PX.G [(.e 9 (.sc (.bool (decide ((Int.tmod n 30)<0)))))] [] 1 [] [] [.au,.au] [0,1,9] [] hS hE trivial fun a w hS=>?_
 refine PX.cond_s (decide ((Int.tmod n 30)<0)) hS (by kernel_rfl) (fun h2=>?_) (fun h2=>?_)
 ·skip
  refine PX.G0 [(.e 0 (.sc (.I (IntKind.i64.wrap ((Int.tmod n 30)+30)))))] [] 1 [] [] [.au,.au,.au,.au] [0] [] hS hE trivial fun a w hS=>?_
  refine hK1 _ _ ?_
  refine PX.G [(.e 4 (.sc (.I (IntKind.i64.wrap ((Int.tmod n 30)+30)))))] [] 1 [] [] [.au,.au] [4] [] hS hE trivial fun a w hS=>?_
  refine wp_ret ?_
  try simp only [Exit.then,Exit.inBlock,Nat.reduceEqDiff,↓reduceIte]
  rw [show (.sc (.I (modE n 30)))=((.sc (.I (IntKind.i64.wrap ((Int.tmod n 30)+30)))):PX.PV) from by unfold modE; rw [if_pos (of_decide_eq_true h2)]]
  exact PX.ret_s hS hE (by kernel_rfl) (by kernel_rfl) (by kernel_rfl) (.inl rfl)
 ·skip
  refine wp_skip ?_
  refine hK1 _ _ ?_
  refine PX.G [(.e 4 (.sc (.I (Int.tmod n 30))))] [] 1 [] [] [.au,.au] [4] [] hS hE trivial fun a w hS=>?_
  refine wp_ret ?_
  try simp only [Exit.then,Exit.inBlock,Nat.reduceEqDiff,↓reduceIte]
  rw [show (.sc (.I (modE n 30)))=((.sc (.I (Int.tmod n 30))):PX.PV) from by unfold modE; rw [if_neg (of_decide_eq_false h2)]]
  exact PX.ret_s hS hE (by kernel_rfl) (by kernel_rfl) (by kernel_rfl) (.inl rfl)

set_option maxHeartbeats 400000 in
theorem con_f19_5 (n:Int):PX.Con Try.prog 19 [(.J n),(.J 5)] [] 1 100000 (.sc (.I (modE n 5))) []:=by
 refine PX.con_intro [(.J n),(.J 5)] 14 Try.func19 rfl rfl (by kernel_rfl) (by kernel_rfl) ?_
 intro E a hE hS
 generalize E.w0=w at hS ⊢
 have mix:=mixed
 refine PX.G [] [] 1 [] [] [.au] [0,1] [] hS hE trivial fun a w hS=>?_
 refine PX.G [(.e 0 (.sc (.I (Int.tmod n 5))))] [] 1 [] [] [.au,.au,.au,.au] [0,1] [] hS hE trivial fun a w hS=>?_
 refine wp_seq_k fun K1 hK1=>?_
 refine PX.G [(.e 9 (.sc (.bool (decide ((Int.tmod n 5)<0)))))] [] 1 [] [] [.au,.au] [0,1,9] [] hS hE trivial fun a w hS=>?_
 refine PX.cond_s (decide ((Int.tmod n 5)<0)) hS (by kernel_rfl) (fun h2=>?_) (fun h2=>?_)
 ·skip
  refine PX.G0 [(.e 0 (.sc (.I (IntKind.i64.wrap ((Int.tmod n 5)+5)))))] [] 1 [] [] [.au,.au,.au,.au] [0] [] hS hE trivial fun a w hS=>?_
  refine hK1 _ _ ?_
  refine PX.G [(.e 4 (.sc (.I (IntKind.i64.wrap ((Int.tmod n 5)+5)))))] [] 1 [] [] [.au,.au] [4] [] hS hE trivial fun a w hS=>?_
  refine wp_ret ?_
  try simp only [Exit.then,Exit.inBlock,Nat.reduceEqDiff,↓reduceIte]
  rw [show (.sc (.I (modE n 5)))=((.sc (.I (IntKind.i64.wrap ((Int.tmod n 5)+5)))):PX.PV) from by unfold modE; rw [if_pos (of_decide_eq_true h2)]]
  exact PX.ret_s hS hE (by kernel_rfl) (by kernel_rfl) (by kernel_rfl) (.inl rfl)
 ·skip
  refine wp_skip ?_
  refine hK1 _ _ ?_
  refine PX.G [(.e 4 (.sc (.I (Int.tmod n 5))))] [] 1 [] [] [.au,.au] [4] [] hS hE trivial fun a w hS=>?_
  refine wp_ret ?_
  try simp only [Exit.then,Exit.inBlock,Nat.reduceEqDiff,↓reduceIte]
  rw [show (.sc (.I (modE n 5)))=((.sc (.I (Int.tmod n 5))):PX.PV) from by unfold modE; rw [if_neg (of_decide_eq_false h2)]]
  exact PX.ret_s hS hE (by kernel_rfl) (by kernel_rfl) (by kernel_rfl) (.inl rfl)

set_option maxHeartbeats 1000000 in
theorem allocMany_con (n m:Int):PX.Con Try.prog 8 [(.J n),(.J m)] [] 1 100000 (.sc (.bool true)) []:=by
 refine PX.con_intro [(.J n),(.J m)] 102 Try.func8 rfl rfl (by kernel_rfl) (by kernel_rfl) ?_
 intro E a hE hS
 generalize E.w0=w at hS ⊢
 have mix:=mixed
 refine PX.G [] [] 1 [] [] [.au] [0,1] [] hS hE trivial fun a w hS=>?_
 refine PX.G [(.e 5 (.sc (.I (modE n 30)))),(.e 6 (.sc (.I (modE m 5))))] [] 1 [.q (PX.Con Try.prog 19 [(.J n),(.J 30)] [] 1 1 (.sc (.I (modE n 30))) []),.q (PX.Con Try.prog 19 [(.J m),(.J 5)] [] 1 1 (.sc (.I (modE m 5))) [])] [] [.au,.cl [] (.sc (.I (modE n 30))) [] 1,.au,.cl [] (.sc (.I (modE m 5))) [] 1,.au,.au] [5,6] [] hS hE ⟨PX.con_any (con_f19_30 n),PX.con_any (con_f19_5 m),trivial⟩ fun a w hS=>?_
 obtain ⟨k,hk,hk2⟩:∃ k:Nat,modE n 30=(k:Int)∧k<30:=by have:=modE_range (n:=n) (k:=30) (by omega) (by omega); exact ⟨(modE n 30).toNat,by omega,by omega⟩
 obtain ⟨p,hp,hp2⟩:∃ p:Nat,modE m 5=(p:Int)∧p<5:=by have:=modE_range (n:=m) (k:=5) (by omega) (by omega); exact ⟨(modE m 5).toNat,by omega,by omega⟩
 rw [hk,hp] at hS
 refine PX.G [(.e 7 (.sc (.slice none 0 0)))] [] 1 [] [] [.au] [5,6,7] [] hS hE trivial fun a w hS=>?_
 replace hS:=PX.sl [5,6,7] (PX.reslot (t:=7) (.own 1 11 0) (PX.newrow 74 11 hS (hE.le (by decide))) rfl (PX.nil_own 1 11))
 refine wp_seq_k fun K1 hK1=>?_
 refine PX.G [(.e 8 (.J 0))] [] 2 [] [] [.au] [5,6,7,8] [1] hS hE trivial fun a w hS=>?_
 refine wp_block ?_
 refine wp_loop_ghost (fun m2 a' w'=>∃ i:Nat,m2=k-i∧i≤k∧True∧PX.Sat E 102 [(.e 5 (.sc (.I (k:Int)))),(.e 6 (.sc (.I (p:Int)))),(.e 7 (.own 1 11 ((opsA p (i)).length))),(.e 8 (.sc (.I (i:Int))))] [(1,.row 74 11 true ((opsA p (i)).map encO))] 2 a' w') (k-0) ⟨0,rfl,Nat.zero_le _,trivial,(PX.canon [] _ _ 2 hS hE (by kernel_rfl) (by kernel_rfl) (by kernel_rfl))⟩ ?_
 clear hS; rintro m2 a w ⟨i,hm2,hlei,hIi,hS⟩
 refine wp_seq_k fun K3 hK3=>?_
 refine PX.G [(.e 21 (.sc (.bool (decide ((i:Int)<(k:Int))))))] [] 2 [] [] [.au,.au,.au] [5,6,7,8,21] [1] hS hE trivial fun a w hS=>?_
 refine PX.cond_s (decide ((i:Int)<(k:Int))) hS (by kernel_rfl) (fun h4=>?_) (fun h4=>?_)
 ·skip
  refine wp_skip ?_
  refine hK3 _ _ ?_
  refine wp_seq_k fun K5 hK5=>?_
  refine wp_block ?_
  have hi2:i<k:=by have:=of_decide_eq_true h4; omega
  refine PX.G0 [(.e 7 (.own 3 11 (((opsA p (i)).map encO:List (List PX.PV)).length+1)))] [(3,.row 74 11 true ((opsA p (i)).map encO++[[(.J 1),(.sc (.I ((p+i:Nat):Int))),(.J 0),(.J 0),(.sc (.I (i:Int))),(.J 0),(.J 0),(.J 0),(.J 0),(.J 0),(.J 0)]]))] 4 [.q ((.sc (.I (IntKind.i64.wrap ((p:Int)+(i:Int)))):PX.PV)=(.sc (.I ((p+i:Nat):Int)))),.b (lenIs ((opsA p (i)).length) ((opsA p (i)).map encO)),.b (lenIs 1 ([[(.J 1),(.sc (.I ((p+i:Nat):Int))),(.J 0),(.J 0),(.sc (.I (i:Int))),(.J 0),(.J 0),(.J 0),(.J 0),(.J 0),(.J 0)]])),.b (Nat.ble (((opsA p (i)).map encO:List (List PX.PV)).length+1) 1000000000)] [] [.au,.au,.au,.nm (.sc (.I ((p+i:Nat):Int))),.au,.au,.au,.au,.au] [5,6,7,8] [3] hS hE ⟨PX.nm_int (by rw [IntWalk.i64_in _ (by omega)]; omega),by simp [PX.lenIs],rfl,by rw [Nat.ble_eq]; simp [opsA_len]; omega,trivial⟩ fun a w hS=>?_
  refine hK5 _ _ ?_
  refine PX.G0 [(.e 8 (.sc (.I ((i+1:Nat):Int))))] [] 4 [.q ((.sc (.I (IntKind.i64.wrap ((i:Int)+1))):PX.PV)=(.sc (.I ((i+1:Nat):Int))))] [] [.au,.nm (.sc (.I ((i+1:Nat):Int))),.au] [5,6,7,8] [3] hS hE ⟨PX.nm_int (by rw [IntWalk.i64_in _ (by omega)]; omega),trivial⟩ fun a w hS=>?_
  replace hS:=PX.sl [5,6,7,8] (PX.reslot (t:=7) (.own 3 11 ((opsA p (i+1)).length)) hS rfl (fun _ _ _ _ h=>(show (.own 3 11 (((opsA p (i)).map encO:List (List PX.PV)).length+1):PX.PV)=.own 3 11 (opsA p (i+1)).length from by rw [opsA_succ]; simp) ▸ h))
  replace hS:=PX.rerow (id:=3) ((opsA p (i+1)).map encO) hS rfl (by rw [opsA_succ]; simp [encO,constOp])
  exact ⟨k-(i+1),by omega,i+1,rfl,by omega,trivial,(PX.canon [(1,3)] _ _ 2 hS hE (by kernel_rfl) (by kernel_rfl) (by kernel_rfl))⟩
 ·skip
  refine wp_exit ?_
  refine hK1 _ _ ?_
  refine wp_seq_k fun K6 hK6=>?_
  refine PX.G [(.e 9 (.J 0))] [] 2 [] [] [.au] [5,6,7,9] [1] hS hE trivial fun a w hS=>?_
  refine wp_block ?_
  have hi0:i=k:=by have:=le_of_dec h4; omega
  rw [hi0] at hS
  replace hS:=PX.sl [5,6,7,9] (PX.reslot (t:=7) (.own 1 11 ((opsB p k (0)).length)) hS rfl (fun _ _ _ _ h=>(show (.own 1 11 (opsA p k).length:PX.PV)=.own 1 11 (opsB p k (0)).length from by simp [opsB]) ▸ h))
  replace hS:=PX.rerow (id:=1) ((opsB p k (0)).map encO) hS rfl (by simp [opsB])
  refine wp_loop_ghost (fun m7 a' w'=>∃ j:Nat,m7=(p+k)-j∧j≤(p+k)∧True∧PX.Sat E 102 [(.e 5 (.sc (.I (k:Int)))),(.e 6 (.sc (.I (p:Int)))),(.e 7 (.own 1 11 ((opsB p k (j)).length))),(.e 9 (.sc (.I (j:Int))))] [(1,.row 74 11 true ((opsB p k (j)).map encO))] 2 a' w') ((p+k)-0) ⟨0,rfl,Nat.zero_le _,trivial,(PX.canon [] _ _ 2 hS hE (by kernel_rfl) (by kernel_rfl) (by kernel_rfl))⟩ ?_
  clear hS; rintro m7 a w ⟨j,hm7,hlej,hIj,hS⟩
  refine wp_seq_k fun K8 hK8=>?_
  refine PX.G [(.e 36 (.sc (.bool (decide ((j:Int)<((p+k:Nat):Int))))))] [] 2 [.q ((.sc (.I (IntKind.i64.wrap ((p:Int)+(k:Int)))):PX.PV)=(.sc (.I ((p+k:Nat):Int))))] [] [.au,.au,.au,.nm (.sc (.I ((p+k:Nat):Int))),.au] [5,6,7,9,36] [1] hS hE ⟨PX.nm_int (by rw [IntWalk.i64_in _ (by omega)]; omega),trivial⟩ fun a w hS=>?_
  refine PX.cond_s (decide ((j:Int)<((p+k:Nat):Int))) hS (by kernel_rfl) (fun h9=>?_) (fun h9=>?_)
  ·skip
   refine wp_skip ?_
   refine hK8 _ _ ?_
   refine wp_seq_k fun K10 hK10=>?_
   refine wp_block ?_
   have hj2:j<p+k:=by have:=of_decide_eq_true h9; omega
   refine PX.G0 [(.e 7 (.own 3 11 (((opsB p k (j)).map encO:List (List PX.PV)).length+1)))] [(3,.row 74 11 true ((opsB p k (j)).map encO++[[(.J 18),(.J 0),(.sc (.I (j:Int))),(.J 0),(.J 0),(.J 0),(.J 0),(.J 0),(.J 0),(.J 0),(.J 0)]]))] 4 [.b (lenIs ((opsB p k (j)).length) ((opsB p k (j)).map encO)),.b (lenIs 1 ([[(.J 18),(.J 0),(.sc (.I (j:Int))),(.J 0),(.J 0),(.J 0),(.J 0),(.J 0),(.J 0),(.J 0),(.J 0)]])),.b (Nat.ble (((opsB p k (j)).map encO:List (List PX.PV)).length+1) 1000000000)] [] [.au,.au,.au,.au,.au,.au] [5,6,7,9] [3] hS hE ⟨by simp [PX.lenIs],rfl,by rw [Nat.ble_eq]; simp [opsB_len]; omega,trivial⟩ fun a w hS=>?_
   refine hK10 _ _ ?_
   refine PX.G0 [(.e 9 (.sc (.I ((j+1:Nat):Int))))] [] 4 [.q ((.sc (.I (IntKind.i64.wrap ((j:Int)+1))):PX.PV)=(.sc (.I ((j+1:Nat):Int))))] [] [.au,.nm (.sc (.I ((j+1:Nat):Int))),.au] [5,6,7,9] [3] hS hE ⟨PX.nm_int (by rw [IntWalk.i64_in _ (by omega)]; omega),trivial⟩ fun a w hS=>?_
   replace hS:=PX.sl [5,6,7,9] (PX.reslot (t:=7) (.own 3 11 ((opsB p k (j+1)).length)) hS rfl (fun _ _ _ _ h=>(show (.own 3 11 (((opsB p k (j)).map encO:List (List PX.PV)).length+1):PX.PV)=.own 3 11 (opsB p k (j+1)).length from by rw [opsB_succ]; simp) ▸ h))
   replace hS:=PX.rerow (id:=3) ((opsB p k (j+1)).map encO) hS rfl (by rw [opsB_succ]; simp [encO,printOp])
   exact ⟨(p+k)-(j+1),by omega,j+1,rfl,by omega,trivial,(PX.canon [(1,3)] _ _ 2 hS hE (by kernel_rfl) (by kernel_rfl) (by kernel_rfl))⟩
  ·skip
   refine wp_exit ?_
   refine hK6 _ _ ?_
   have hj0:j=p+k:=by have:=le_of_dec h9; omega
   rw [hj0] at hS
   refine PX.G [(.e 10 (.ptr 2 0))] [(2,.box 26 [(.sc (.I (p:Int))),(.imm 10 ((mC p k).blocks.map encB)),(.imm 3 ((mC p k).contexts.map encR)),(.imm 3 ((mC p k).objects.map encR))])] 3 [.q (PX.Con Try.prog 34 [(.sc (.I (p:Int))),(.J 0),(.imm 11 ((opsB p k (p+k)).map encO))] [] 2 2 (.agg [(.sc (.I (p:Int))),(.imm 10 ((mC p k).blocks.map encB)),(.imm 3 ((mC p k).contexts.map encR)),(.imm 3 ((mC p k).objects.map encR))]) []),.b (PX.lenIs ((opsB p k (p+k)).length) ((opsB p k (p+k)).map encO))] [] [.au,.au,.cv [1] (.agg [(.sc (.I (p:Int))),(.imm 10 ((mC p k).blocks.map encB)),(.imm 3 ((mC p k).contexts.map encR)),(.imm 3 ((mC p k).objects.map encR))]) 2,.au,.au] [5,6,10] [2] hS hE ⟨PX.con_any (con_f34 (p:Int) 0 (opsB p k (p+k)) (by rw [opsB_len]; omega)),by simp [PX.lenIs],trivial⟩ fun a w hS=>?_
   refine wp_seq_k fun K11 hK11=>?_
   refine PX.G [(.e 50 (.sc (.bool (((p+k:Nat):Int)==0))))] [] 3 [.q ((.sc (.I (IntKind.i64.wrap ((p:Int)+(k:Int)))):PX.PV)=(.sc (.I ((p+k:Nat):Int))))] [] [.au,.au,.nm (.sc (.I ((p+k:Nat):Int))),.au] [5,6,10,50] [2] hS hE ⟨PX.nm_int (by rw [IntWalk.i64_in _ (by omega)]; omega),trivial⟩ fun a w hS=>?_
   refine PX.cond_s (((p+k:Nat):Int)==0) hS (by kernel_rfl) (fun h12=>?_) (fun h12=>?_)
   ·skip
    refine PX.G [(.e 4 (.sc (.bool true)))] [] 3 [.q (PX.Con Try.prog 27 [] [] 3 3 (.sc (.bool true)) [])] [] [.cl [] (.sc (.bool true)) [] 3,.au] [4] [] hS hE ⟨con_known15_any,trivial⟩ fun a w hS=>?_
    refine wp_ret ?_
    try simp only [Exit.then,Exit.inBlock,Nat.reduceEqDiff,↓reduceIte]
    exact PX.ret_s hS hE (by kernel_rfl) (by kernel_rfl) (by kernel_rfl) (.inl rfl)
   ·skip
    refine wp_skip ?_
    refine hK11 _ _ ?_
    have hpk:p+k≠0:=by have hq:=h12; simp at hq; omega
    refine PX.G [(.e 11 (.ptr 3 0))] [(3,.box 68 [(.imm 1 ((layM p k).places.map encPl)),(.sc (.I (slM p k))),(.J 0),(.imm 1 ((layM p k).objects.map encI)),(.sc (.I (slM p k)))])] 4 [.q (PX.Con Try.prog 32 [(.agg [(.sc (.I (p:Int))),(.imm 10 ((mC p k).blocks.map encB)),(.imm 3 ((mC p k).contexts.map encR)),(.imm 3 ((mC p k).objects.map encR))]),(.sc (.bool false))] [] 3 3 (.agg [(.imm 1 ((layM p k).places.map encPl)),(.sc (.I (slM p k))),(.J 0),(.imm 1 ((layM p k).objects.map encI)),(.sc (.I (slM p k)))]) [])] [] [.au,.cl [] (.agg [(.imm 1 ((layM p k).places.map encPl)),(.sc (.I (slM p k))),(.J 0),(.imm 1 ((layM p k).objects.map encI)),(.sc (.I (slM p k)))]) [] 3,.au,.au] [5,6,11] [3] hS hE ⟨con_f32m hp2 hk2 hpk,trivial⟩ fun a w hS=>?_
    refine wp_seq_k fun K13 hK13=>?_
    refine PX.G [(.e 78 (.sc (.bool ((((p+k:Nat):Int) != ((p+k:Nat):Int))||((slM p k) != (if (((p+k:Nat):Int)-12) > 0 then (((p+k:Nat):Int)-12) else 0))))))] [] 4 [.q ((.sc (.I ((((layM p k).places.map encPl).length:Nat):Int)):PX.PV)=(.J 1)),.q (0=((0:Nat):Int)),.q (((layM p k).places.map encPl)[0]?=some (encPl (plM p k))),.q ((.sc (.I ((((plM p k).map encR).length:Nat):Int)):PX.PV)=(.sc (.I ((p+k:Nat):Int)))),.q ((.sc (.I (IntKind.i64.wrap ((p:Int)+(k:Int)))):PX.PV)=(.sc (.I ((p+k:Nat):Int)))),.q (SX.pv [(15,(((p+k:Nat):Int) != ((p+k:Nat):Int)))] [(15,false)]=true→PX.AllOb [.q ((.sc (.I (IntKind.i64.wrap ((p:Int)+(k:Int)))):PX.PV)=(.sc (.I ((p+k:Nat):Int))))]),.q (SX.pv [(15,(((p+k:Nat):Int) != ((p+k:Nat):Int)))] [(15,false)]=true→PX.AllOb [.q ((.sc (.I (IntKind.i64.wrap (((p+k:Nat):Int)-12))):PX.PV)=(.sc (.I (((p+k:Nat):Int)-12))))])] [(15,(((p+k:Nat):Int) != ((p+k:Nat):Int)))] [.au,.au,.nm (.J 1),.au,.au,.au,.au,.ix 0 (encPl (plM p k)),.au,.nm (.sc (.I ((p+k:Nat):Int))),.au,.au,.nm (.sc (.I ((p+k:Nat):Int))),.au,.au,.au,.au,.au,.au,.au,.nm (.sc (.I ((p+k:Nat):Int))),.nm (.sc (.I (((p+k:Nat):Int)-12))),.au,.au,.pk] [11,78] [3] hS hE ⟨rfl,rfl,rfl,PX.nm_len (by simp),PX.nm_int (by rw [IntWalk.i64_in _ (by omega)]; omega),fun hg=>⟨PX.nm_int (by rw [IntWalk.i64_in _ (by omega)]; omega),trivial⟩,fun hg=>⟨PX.nm_int (by rw [IntWalk.i64_in _ (by omega)]),trivial⟩,trivial⟩ fun a w hS=>?_
    refine PX.cond_s ((((p+k:Nat):Int) != ((p+k:Nat):Int))||((slM p k) != (if (((p+k:Nat):Int)-12) > 0 then (((p+k:Nat):Int)-12) else 0))) hS (by kernel_rfl) (fun h14=>?_) (fun h14=>?_)
    ·skip
     exact absurd h14 (by simp [slM])
    ·skip
     refine wp_skip ?_
     refine hK13 _ _ ?_
     refine wp_seq_k fun K15 hK15=>?_
     refine PX.G [(.e 82 (.imm 3 ((plM p k).map encR))),(.e 83 (.sc (.I ((p+k:Nat):Int)))),(.e 84 (.J 0))] [] 4 [.q (0=((0:Nat):Int)),.q (((layM p k).places.map encPl)[0]?=some (encPl (plM p k))),.q ((.sc (.I ((((plM p k).map encR).length:Nat):Int)):PX.PV)=(.sc (.I ((p+k:Nat):Int))))] [] [.au,.au,.ix 0 (encPl (plM p k)),.au,.nm (.sc (.I ((p+k:Nat):Int))),.au] [82,83,84] [] hS hE ⟨rfl,rfl,PX.nm_len (by simp),trivial⟩ fun a w hS=>?_
     refine wp_block ?_
     refine wp_loop_ghost (fun m16 a' w'=>∃ i:Nat,m16=(p+k)-i∧i≤(p+k)∧True∧PX.Sat E 102 [(.e 82 (.imm 3 ((plM p k).map encR))),(.e 83 (.sc (.I ((p+k:Nat):Int)))),(.e 84 (.sc (.I (i:Int))))] [] 1 a' w') ((p+k)-0) ⟨0,rfl,Nat.zero_le _,trivial,(PX.canon [] _ _ 1 hS hE (by kernel_rfl) (by kernel_rfl) (by kernel_rfl))⟩ ?_
     clear hS; rintro m16 a w ⟨i,hm16,hlei,hIi,hS⟩
     refine PX.G [(.e 85 (.sc (.bool (decide ((i:Int)<((p+k:Nat):Int))))))] [] 1 [] [] [.au] [82,83,84,85] [] hS hE trivial fun a w hS=>?_
     refine wp_seq_k fun K17 hK17=>?_
     refine PX.cond_s (decide ((i:Int)<((p+k:Nat):Int))) hS (by kernel_rfl) (fun h18=>?_) (fun h18=>?_)
     ·skip
      refine wp_skip ?_
      refine hK17 _ _ ?_
      refine wp_seq_k fun K19 hK19=>?_
      refine wp_block ?_
      have hip:i<p+k:=by have:=of_decide_eq_true h18; omega
      obtain ⟨y,hy⟩:=get_of_lt (show i<(plM p k).length by rw [plM_len]; exact hip)
      have hyi:=plM_get hy
      refine PX.G [(.e 12 (.sc (.I (i:Int)))),(.e 13 (.ptr 1 0))] [(1,.box 78 [(.J y.1),(.J y.2.1),(.J y.2.2)])] 2 [.q ((i:Int)=(i:Int)),.q (((plM p k).map encR)[i]?=some (encR y))] [] [.au,.ix i (encR y),.au,.au,.au,.au] [12,13,82,83,84] [1] hS hE ⟨rfl,PX.map_get hy,trivial⟩ fun a w hS=>?_
      refine PX.G [(.e 14 (.ptr 2 0))] [(2,.box 78 [(.J 2),(.sc (.I ((i+1:Nat):Int))),(.J 0)])] 3 [.q ((.sc (.I (IntKind.i64.wrap (1+(i:Int)))):PX.PV)=(.sc (.I ((i+1:Nat):Int))))] [] [.au,.nm (.sc (.I ((i+1:Nat):Int))),.au,.au,.au] [12,13,14,82,83,84] [1,2] hS hE ⟨PX.nm_int (by rw [IntWalk.i64_in _ (by omega)]; omega),trivial⟩ fun a w hS=>?_
      refine wp_seq_k fun K20 hK20=>?_
      refine PX.G [(.e 93 (.sc (.bool (decide (12≤(i:Int))))))] [] 3 [] [] [.au,.au] [12,13,14,82,83,84,93] [1,2] hS hE trivial fun a w hS=>?_
      refine PX.cond_s (decide (12≤(i:Int))) hS (by kernel_rfl) (fun h21=>?_) (fun h21=>?_)
      ·skip
       refine PX.G0 [] [(2,.box 78 [(.J 3),(.sc (.I ((i:Int)-12))),(.J 0)])] 3 [.q ((.sc (.I (IntKind.i64.wrap ((i:Int)-12))):PX.PV)=(.sc (.I ((i:Int)-12))))] [] [.au,.nm (.sc (.I ((i:Int)-12))),.au,.au] [13,14,82,83,84] [1,2] hS hE ⟨PX.nm_int (by rw [IntWalk.i64_in _ (by omega)]),trivial⟩ fun a w hS=>?_
       refine hK20 _ _ ?_
       refine PX.G [(.e 99 (.sc (.bool false)))] [] 3 [.q (PX.BinIs Try.prog .neq 78 (.tmp 97) (.tmp 98) (.agg [.I y.1,.I y.2.1,.I y.2.2].toArray) (.agg [.I 3,.I ((i:Int)-12),.I 0].toArray) (.bool false))] [] [.au,.au,.bs (.bool false)] [82,83,84,99] [] hS hE ⟨self_ne78 _ _ (by rw [hyi]; unfold plI; rw [if_neg (show ¬ i<12 by have:=of_decide_eq_true h21; omega)]) (by rw [hyi]; unfold plI; rw [if_neg (show ¬ i<12 by have:=of_decide_eq_true h21; omega)]) (by rw [hyi]; unfold plI; rw [if_neg (show ¬ i<12 by have:=of_decide_eq_true h21; omega)]),trivial⟩ fun a w hS=>?_
       refine PX.cond_s false hS (by kernel_rfl) (fun h22=>nomatch h22) (fun h22=>?_)
       refine wp_skip ?_
       refine hK19 _ _ ?_
       refine PX.G0 [(.e 84 (.sc (.I ((i+1:Nat):Int))))] [] 3 [.q ((.sc (.I (IntKind.i64.wrap ((i:Int)+1))):PX.PV)=(.sc (.I ((i+1:Nat):Int))))] [] [.nm (.sc (.I ((i+1:Nat):Int))),.au] [82,83,84] [] hS hE ⟨PX.nm_int (by rw [IntWalk.i64_in _ (by omega)]; omega),trivial⟩ fun a w hS=>?_
       exact ⟨(p+k)-(i+1),by omega,i+1,rfl,by omega,trivial,(PX.canon [] _ _ 1 hS hE (by kernel_rfl) (by kernel_rfl) (by kernel_rfl))⟩
      ·skip
       refine wp_skip ?_
       refine hK20 _ _ ?_
       refine PX.G [(.e 99 (.sc (.bool false)))] [] 3 [.q (PX.BinIs Try.prog .neq 78 (.tmp 97) (.tmp 98) (.agg [.I y.1,.I y.2.1,.I y.2.2].toArray) (.agg [.I 2,.I ((i+1:Nat):Int),.I 0].toArray) (.bool false))] [] [.au,.au,.bs (.bool false)] [82,83,84,99] [] hS hE ⟨self_ne78 _ _ (by rw [hyi]; unfold plI; rw [if_pos (show i<12 by have:=of_decide_eq_false h21; omega)]) (by rw [hyi]; unfold plI; rw [if_pos (show i<12 by have:=of_decide_eq_false h21; omega)]) (by rw [hyi]; unfold plI; rw [if_pos (show i<12 by have:=of_decide_eq_false h21; omega)]),trivial⟩ fun a w hS=>?_
       refine PX.cond_s false hS (by kernel_rfl) (fun h23=>nomatch h23) (fun h23=>?_)
       refine wp_skip ?_
       refine hK19 _ _ ?_
       refine PX.G0 [(.e 84 (.sc (.I ((i+1:Nat):Int))))] [] 3 [.q ((.sc (.I (IntKind.i64.wrap ((i:Int)+1))):PX.PV)=(.sc (.I ((i+1:Nat):Int))))] [] [.nm (.sc (.I ((i+1:Nat):Int))),.au] [82,83,84] [] hS hE ⟨PX.nm_int (by rw [IntWalk.i64_in _ (by omega)]; omega),trivial⟩ fun a w hS=>?_
       exact ⟨(p+k)-(i+1),by omega,i+1,rfl,by omega,trivial,(PX.canon [] _ _ 1 hS hE (by kernel_rfl) (by kernel_rfl) (by kernel_rfl))⟩
     ·skip
      refine wp_exit ?_
      refine hK15 _ _ ?_
      refine PX.G [(.e 4 (.sc (.bool true)))] [] 1 [.q (PX.Con Try.prog 27 [] [] 1 1 (.sc (.bool true)) [])] [] [.cl [] (.sc (.bool true)) [] 1,.au] [4] [] hS hE ⟨con_known15_any,trivial⟩ fun a w hS=>?_
      refine wp_ret ?_
      try simp only [Exit.then,Exit.inBlock,Nat.reduceEqDiff,↓reduceIte]
      exact PX.ret_s hS hE (by kernel_rfl) (by kernel_rfl) (by kernel_rfl) (.inl rfl)
end Go.Proofs.Ytlkcidmmpeebeaa
