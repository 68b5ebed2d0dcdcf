/- Proved: small tests of ref06.CheckCode on plain data -/
import Derived.Test.YtlkcidmmpeebeaaCkA
set_option linter.unusedVariables false
set_option linter.unusedSimpArgs false
namespace Go.Proofs.Ytlkcidmmpeebeaa
open Go.RowKit Go.PX
set_option maxRecDepth 100000
set_option maxHeartbeats 400000 in
theorem con_o45 (c:CodeD) (hlb:c.blocks.length≤140737488351232):PX.Con Try.prog 45 [(codeP c)] [] 1 100000 (.sc (.I (totW c.blocks))) []:=by
 refine PX.con_intro [(codeP c)] 20 Try.func45 rfl rfl (by kernel_rfl) (by kernel_rfl) ?_
 intro E a hE hS
 generalize E.w0=w at hS ⊢
 have mix:=mixed
 refine PX.G [(.e 1 (.ptr 1 0))] [(1,.box 26 (codeL c))] 2 [] [] [.au,.au] [1] [1] hS hE trivial fun a w hS=>?_
 refine PX.G [(.e 3 (.J 0))] [] 2 [] [] [.au] [1,3] [1] hS hE trivial fun a w hS=>?_
 refine wp_seq_k fun K1 hK1=>?_
 refine PX.G [(.e 7 (.imm 10 (c.blocks.map encB))),(.e 8 (.sc (.I (c.blocks.length:Int)))),(.e 9 (.J 0))] [] 2 [.q ((.sc (.I (((c.blocks.map encB).length:Nat):Int)):PX.PV)=(.sc (.I (c.blocks.length:Int))))] [] [.au,.au,.nm (.sc (.I (c.blocks.length:Int))),.au] [3,7,8,9] [] hS hE ⟨PX.nm_len (by simp),trivial⟩ fun a w hS=>?_
 refine wp_block ?_
 refine wp_loop_ghost (fun m2 a' w'=>∃ k:Nat,m2=c.blocks.length-k∧k≤c.blocks.length∧True∧PX.Sat E 20 [(.e 3 (.sc (.I (totW (c.blocks.take (k)))))),(.e 7 (.imm 10 (c.blocks.map encB))),(.e 8 (.sc (.I (c.blocks.length:Int)))),(.e 9 (.sc (.I (k:Int))))] [] 1 a' w') (c.blocks.length-0) ⟨0,rfl,Nat.zero_le _,trivial,(PX.cn [] _ _ 1 hS hE)⟩ ?_
 clear hS; rintro m2 a w ⟨k,hm2,hlek,hIk,hS⟩
 refine PX.G [(.e 10 (.sc (.bool (decide ((k:Int)<(c.blocks.length:Int))))))] [] 1 [] [] [.au] [3,7,8,9,10] [] hS hE trivial fun a w hS=>?_
 refine wp_seq_k fun K3 hK3=>?_
 refine PX.cond_s (decide ((k:Int)<(c.blocks.length:Int))) hS (by kernel_rfl) (fun h4=>?_) (fun h4=>?_)
 ·skip
  refine wp_skip ?_
  refine hK3 _ _ ?_
  refine wp_seq_k fun K5 hK5=>?_
  refine wp_block ?_
  have hlty:k<c.blocks.length:=by simpa using h4
  obtain ⟨y,hy⟩:=get_of_lt hlty
  refine PX.G [(.e 5 (.ptr 1 0))] [(1,.box 62 (encB y))] 2 [.q ((k:Int)=(k:Int)),.q ((c.blocks.map encB)[k]?=some (encB y))] [] [.ix k (encB y),.au,.au,.au] [3,5,7,8,9] [1] hS hE ⟨rfl,PX.map_get hy,trivial⟩ fun a w hS=>?_
  refine PX.G0 [(.e 3 (.sc (.I (totW (c.blocks.take (k+1))))))] [] 2 [.q ((.sc (.I (((y.ops.map encO).length:Nat):Int)):PX.PV)=(.sc (.I (y.ops.length:Int)))),.q ((.sc (.I (IntKind.i64.wrap ((totW (c.blocks.take (k)))+(y.ops.length:Int)))):PX.PV)=(.sc (.I (totW (c.blocks.take (k+1))))))] [] [.au,.au,.au,.nm (.sc (.I (y.ops.length:Int))),.nm (.sc (.I (totW (c.blocks.take (k+1))))),.au] [3,7,8,9] [] hS hE ⟨PX.nm_len (by simp),PX.nm_int (by rw [totW_step hy]),trivial⟩ fun a w hS=>?_
  refine hK5 _ _ ?_
  refine PX.G0 [(.e 9 (.sc (.I ((k+1:Nat):Int))))] [] 2 [.q ((.sc (.I (IntKind.i64.wrap ((k:Int)+1))):PX.PV)=(.sc (.I ((k+1:Nat):Int))))] [] [.nm (.sc (.I ((k+1:Nat):Int))),.au] [3,7,8,9] [] hS hE ⟨PX.nm_int (by rw [IntWalk.i64_in _ (by omega)]; omega),trivial⟩ fun a w hS=>?_
  exact ⟨c.blocks.length-(k+1),by omega,k+1,rfl,by omega,trivial,(PX.cn [] _ _ 1 hS hE)⟩
 ·skip
  refine wp_exit ?_
  refine hK1 _ _ ?_
  refine PX.G [(.e 2 (.sc (.I (totW (c.blocks.take (k))))))] [] 1 [] [] [.au,.au] [2] [] hS hE trivial fun a w hS=>?_
  refine wp_ret ?_
  rw [show (.sc (.I (totW c.blocks)))=((.sc (.I (totW (c.blocks.take (k))))):PX.PV) from by rw [totW_all (le_of_dec h4)]]
  exact PX.rt hS hE (.inl rfl)

theorem has_any {l:List Int} {v y:Int} {k:Nat} (hy:l[k]?=some y) (h:(v==y)=true):R.has l v=true:=by
 unfold R.has; rw [List.any_eq_true]; exact ⟨y,List.mem_of_getElem? hy,h⟩
theorem has_none {l:List Int} {v:Int} {k:Nat} (h:Upto l (fun _ x=>!(v==x)) k) (hk:l.length≤k):R.has l v=false:=by
 unfold R.has; rw [List.any_eq_false]; intro x hx
 obtain ⟨j,hj⟩:=List.getElem?_of_mem hx
 have:=h j x (by have:=(List.getElem?_eq_some_iff.1 hj).1; omega) hj
 simpa using this

set_option maxHeartbeats 400000 in
theorem con_h71 (l:List Int) (v:Int) (hl:l.length≤140737488351232):PX.Con Try.prog 71 [(.imm 1 (l.map encI)),(.J v)] [] 1 100000 (.sc (.bool (R.has l v))) []:=by
 refine PX.con_intro [(.imm 1 (l.map encI)),(.J v)] 17 Try.func71 rfl rfl (by kernel_rfl) (by kernel_rfl) ?_
 intro E a hE hS
 generalize E.w0=w at hS ⊢
 have mix:=mixed
 refine PX.G [] [] 1 [] [] [.au] [0,1] [] hS hE trivial fun a w hS=>?_
 refine wp_seq_k fun K1 hK1=>?_
 refine PX.G [(.e 7 (.imm 1 (l.map encI))),(.e 8 (.sc (.I (l.length:Int)))),(.e 9 (.J 0))] [] 1 [.q ((.sc (.I (((l.map encI).length:Nat):Int)):PX.PV)=(.sc (.I (l.length:Int))))] [] [.au,.nm (.sc (.I (l.length:Int))),.au] [1,7,8,9] [] hS hE ⟨PX.nm_len (by simp),trivial⟩ fun a w hS=>?_
 refine wp_block ?_
 refine wp_loop_ghost (fun m2 a' w'=>∃ j:Nat,m2=l.length-j∧j≤l.length∧Upto l (fun _ x=>!(v==x)) (j)∧PX.Sat E 17 [(.e 1 (.J v)),(.e 7 (.imm 1 (l.map encI))),(.e 8 (.sc (.I (l.length:Int)))),(.e 9 (.sc (.I (j:Int))))] [] 1 a' w') (l.length-0) ⟨0,rfl,Nat.zero_le _,Upto.zero,(PX.cn [] _ _ 1 hS hE)⟩ ?_
 clear hS; rintro m2 a w ⟨j,hm2,hlej,hIj,hS⟩
 refine PX.G [(.e 10 (.sc (.bool (decide ((j:Int)<(l.length:Int))))))] [] 1 [] [] [.au] [1,7,8,9,10] [] hS hE trivial fun a w hS=>?_
 refine wp_seq_k fun K3 hK3=>?_
 refine PX.cond_s (decide ((j:Int)<(l.length:Int))) hS (by kernel_rfl) (fun h4=>?_) (fun h4=>?_)
 ·skip
  refine wp_skip ?_
  refine hK3 _ _ ?_
  refine wp_seq_k fun K5 hK5=>?_
  refine wp_block ?_
  have hlty:j<l.length:=by simpa using h4
  obtain ⟨y,hy⟩:=get_of_lt hlty
  refine PX.G [(.e 6 (.J y))] [] 1 [.q ((j:Int)=(j:Int)),.q ((l.map encI)[j]?=some (encI y))] [] [.ix j (encI y),.au,.au] [1,6,7,8,9] [] hS hE ⟨rfl,PX.map_get hy,trivial⟩ fun a w hS=>?_
  refine PX.G [(.e 15 (.sc (.bool (v==y))))] [] 1 [] [] [.au,.au,.au] [1,7,8,9,15] [] hS hE trivial fun a w hS=>?_
  refine PX.cond_s (v==y) hS (by kernel_rfl) (fun h6=>?_) (fun h6=>?_)
  ·skip
   refine PX.G [(.e 4 (.sc (.bool true)))] [] 1 [] [] [.au] [1,4,7,8,9] [] hS hE trivial fun a w hS=>?_
   refine wp_ret ?_
   rw [show (.sc (.bool (R.has l v)))=((.sc (.bool true)):PX.PV) from by rw [has_any (l:=l) hy h6]]
   exact PX.rt hS hE (.inl rfl)
  ·skip
   refine wp_skip ?_
   refine hK5 _ _ ?_
   refine PX.G0 [(.e 9 (.sc (.I ((j+1:Nat):Int))))] [] 1 [.q ((.sc (.I (IntKind.i64.wrap ((j:Int)+1))):PX.PV)=(.sc (.I ((j+1:Nat):Int))))] [] [.nm (.sc (.I ((j+1:Nat):Int))),.au] [1,7,8,9] [] hS hE ⟨PX.nm_int (by rw [IntWalk.i64_in _ (by omega)]; omega),trivial⟩ fun a w hS=>?_
   exact ⟨l.length-(j+1),by omega,j+1,rfl,by omega,hIj.step hy (by rw [h6]; rfl),(PX.cn [] _ _ 1 hS hE)⟩
 ·skip
  refine wp_exit ?_
  refine hK1 _ _ ?_
  refine PX.G [(.e 4 (.sc (.bool false)))] [] 1 [] [] [.au] [4] [] hS hE trivial fun a w hS=>?_
  refine wp_ret ?_
  rw [show (.sc (.bool (R.has l v)))=((.sc (.bool false)):PX.PV) from by rw [has_none hIj (le_of_dec h4)]]
  exact PX.rt hS hE (.inl rfl)

set_option maxHeartbeats 400000 in
theorem con_d90 (k:Int):PX.Con Try.prog 90 [(.J k)] [] 1 100000 (.sc (.bool (R.defines k))) []:=by
 refine PX.con_intro [(.J k)] 9 Try.func90 rfl rfl (by kernel_rfl) (by kernel_rfl) ?_
 intro E a hE hS
 generalize E.w0=w at hS ⊢
 have mix:=mixed
 refine PX.G [] [] 1 [] [] [.au] [0] [] hS hE trivial fun a w hS=>?_
 refine PX.G [(.e 2 (.sc (.bool (decide (1≤k)&&decide (k≤15)))))] [] 1 [] [(2,decide (1≤k))] [.au,.au,.au,.au,.au,.pk,.au] [2] [] hS hE trivial fun a w hS=>?_
 refine wp_ret ?_
 rw [show (.sc (.bool (R.defines k)))=((.sc (.bool (decide (1≤k)&&decide (k≤15)))):PX.PV) from rfl]
 exact PX.rt hS hE (.inl rfl)

set_option maxHeartbeats 400000 in
theorem con_a88 (k:Int):PX.Con Try.prog 88 [(.J k)] [] 1 100000 (.sc (.bool (R.usesA k))) []:=by
 refine PX.con_intro [(.J k)] 13 Try.func88 rfl rfl (by kernel_rfl) (by kernel_rfl) ?_
 intro E a hE hS
 generalize E.w0=w at hS ⊢
 have mix:=mixed
 refine PX.G [] [] 1 [] [] [.au] [0] [] hS hE trivial fun a w hS=>?_
 refine PX.G [(.e 2 (.sc (.bool ((decide (2≤k)&&decide (k≤16))||(k==18)))))] [] 1 [] [(2,decide (2≤k)),(6,(decide (2≤k)&&decide (k≤16)))] [.au,.au,.au,.au,.au,.pk,.au,.au,.au,.pk,.au] [2] [] hS hE trivial fun a w hS=>?_
 refine wp_ret ?_
 rw [show (.sc (.bool (R.usesA k)))=((.sc (.bool ((decide (2≤k)&&decide (k≤16))||(k==18)))):PX.PV) from rfl]
 exact PX.rt hS hE (.inl rfl)

set_option maxHeartbeats 400000 in
theorem con_b89 (k:Int):PX.Con Try.prog 89 [(.J k)] [] 1 100000 (.sc (.bool (R.usesB k))) []:=by
 refine PX.con_intro [(.J k)] 13 Try.func89 rfl rfl (by kernel_rfl) (by kernel_rfl) ?_
 intro E a hE hS
 generalize E.w0=w at hS ⊢
 have mix:=mixed
 refine PX.G [] [] 1 [] [] [.au] [0] [] hS hE trivial fun a w hS=>?_
 refine PX.G [(.e 2 (.sc (.bool ((decide (3≤k)&&decide (k≤14))||(k==16)))))] [] 1 [] [(2,decide (3≤k)),(6,(decide (3≤k)&&decide (k≤14)))] [.au,.au,.au,.au,.au,.pk,.au,.au,.au,.pk,.au] [2] [] hS hE trivial fun a w hS=>?_
 refine wp_ret ?_
 rw [show (.sc (.bool (R.usesB k)))=((.sc (.bool ((decide (3≤k)&&decide (k≤14))||(k==16)))):PX.PV) from rfl]
 exact PX.rt hS hE (.inl rfl)

set_option maxHeartbeats 400000 in
theorem con_v86 (b:BlockD) (hb:0≤b.params∧b.params≤999) (hl:b.ops.length≤1000000):PX.Con Try.prog 86 [(.agg (encB b))] [] 1 100000 (.imm 1 ((R.values b).map encI)) []:=by
 refine PX.con_intro [(.agg (encB b))] 34 Try.func86 rfl rfl (by kernel_rfl) (by kernel_rfl) ?_
 intro E a hE hS
 generalize E.w0=w at hS ⊢
 have mix:=mixed
 refine PX.G [(.e 1 (.ptr 1 0))] [(1,.box 62 (encB b))] 2 [] [] [.au,.au] [1] [1] hS hE trivial fun a w hS=>?_
 refine PX.G [(.e 3 (.sc (.slice none 0 0)))] [] 2 [] [] [.au] [1,3] [1] hS hE trivial fun a w hS=>?_
 refine wp_seq_k fun K1 hK1=>?_
 refine PX.G [(.e 4 (.J 0))] [] 2 [] [] [.au] [1,3,4] [1] hS hE trivial fun a w hS=>?_
 refine wp_block ?_
 replace hS:=PX.sl [1,3,4] (PX.reslot (t:=3) (.own 2 1 0) (PX.newrow 3 1 hS (hE.le (by decide))) rfl (PX.nil_own 2 1))
 refine wp_loop_ghost (fun m2 a' w'=>∃ k:Nat,m2=b.params.toNat-k∧k≤b.params.toNat∧True∧PX.Sat E 34 [(.e 1 (.ptr 1 0)),(.e 3 (.own 4 1 k)),(.e 4 (.sc (.I (k:Int))))] [(1,.box 62 (encB b)),(4,.row 3 1 true (((List.range (k)).map (fun i:Nat=>(i:Int))).map encI))] 5 a' w') (b.params.toNat-0) ⟨0,rfl,Nat.zero_le _,trivial,(PX.cn [(4,2)] _ _ 5 hS hE)⟩ ?_
 clear hS; rintro m2 a w ⟨k,hm2,hlek,hIk,hS⟩
 refine wp_seq_k fun K3 hK3=>?_
 refine PX.G [(.e 10 (.sc (.bool (decide ((k:Int)<b.params)))))] [] 5 [] [] [.au,.au,.au,.au] [1,3,4,10] [1,4] hS hE trivial fun a w hS=>?_
 refine PX.cond_s (decide ((k:Int)<b.params)) hS (by kernel_rfl) (fun h4=>?_) (fun h4=>?_)
 ·skip
  refine wp_skip ?_
  refine hK3 _ _ ?_
  refine wp_seq_k fun K5 hK5=>?_
  refine wp_block ?_
  refine PX.G0 [(.e 3 (.own 6 1 ((((List.range (k)).map (fun i:Nat=>(i:Int))).map encI:List (List PX.PV)).length+1)))] [(6,.row 3 1 true (((List.range (k)).map (fun i:Nat=>(i:Int))).map encI++[[(.sc (.I (k:Int)))]]))] 7 [.b (lenIs k (((List.range (k)).map (fun i:Nat=>(i:Int))).map encI)),.b (lenIs 1 ([[(.sc (.I (k:Int)))]])),.b (Nat.ble ((((List.range (k)).map (fun i:Nat=>(i:Int))).map encI:List (List PX.PV)).length+1) 1000000000)] [] [.au,.au,.au,.au,.au] [1,3,4] [1,6] hS hE ⟨by simp [PX.lenIs],rfl,by simp; omega,trivial⟩ fun a w hS=>?_
  refine hK5 _ _ ?_
  refine PX.G0 [(.e 4 (.sc (.I ((k+1:Nat):Int))))] [] 7 [.q ((.sc (.I (IntKind.i64.wrap ((k:Int)+1))):PX.PV)=(.sc (.I ((k+1:Nat):Int))))] [] [.au,.nm (.sc (.I ((k+1:Nat):Int))),.au] [1,3,4] [1,6] hS hE ⟨PX.nm_int (by rw [IntWalk.i64_in _ (by omega)]; omega),trivial⟩ fun a w hS=>?_
  have hkb:(k:Int)<b.params:=by simpa using h4
  have e1:(((List.range (k)).map (fun i:Nat=>(i:Int))).map encI++[[(.sc (.I (k:Int)))]])=((List.range (k+1)).map (fun i:Nat=>(i:Int))).map encI:=by rw [List.range_succ]; simp [encI]
  have e2:(((List.range (k)).map (fun i:Nat=>(i:Int))).map encI:List (List PX.PV)).length+1=k+1:=by simp
  rw [e2,e1] at hS
  exact ⟨b.params.toNat-(k+1),by omega,k+1,rfl,by omega,trivial,(PX.cn [(4,6)] _ _ 5 hS hE)⟩
 ·skip
  refine wp_exit ?_
  refine hK1 _ _ ?_
  refine wp_seq_k fun K6 hK6=>?_
  refine PX.G [(.e 18 (.imm 11 (b.ops.map encO))),(.e 19 (.sc (.I (b.ops.length:Int)))),(.e 20 (.J 0))] [] 5 [.q ((.sc (.I (((b.ops.map encO).length:Nat):Int)):PX.PV)=(.sc (.I (b.ops.length:Int))))] [] [.au,.au,.nm (.sc (.I (b.ops.length:Int))),.au] [3,18,19,20] [4] hS hE ⟨PX.nm_len (by simp),trivial⟩ fun a w hS=>?_
  refine wp_block ?_
  have hkb:k=b.params.toNat:=by have:=h4; simp at this; omega
  have e1:((List.range (k)).map (fun i:Nat=>(i:Int))).map encI=(R.upto b.params++dsts (b.ops.take (0))).map encI:=by rw [hkb]; simp [dsts,R.upto]
  have e2:k=(R.upto b.params++dsts (b.ops.take (0))).length:=by rw [hkb]; simp [dsts,R.upto]
  rw [e1,e2] at hS
  refine wp_loop_ghost (fun m7 a' w'=>∃ k:Nat,m7=b.ops.length-k∧k≤b.ops.length∧True∧PX.Sat E 34 [(.e 3 (.own 4 1 ((R.upto b.params++dsts (b.ops.take (k))).length))),(.e 18 (.imm 11 (b.ops.map encO))),(.e 19 (.sc (.I (b.ops.length:Int)))),(.e 20 (.sc (.I (k:Int))))] [(4,.row 3 1 true ((R.upto b.params++dsts (b.ops.take (k))).map encI))] 5 a' w') (b.ops.length-0) ⟨0,rfl,Nat.zero_le _,trivial,(PX.cn [] _ _ 5 hS hE)⟩ ?_
  clear hS; rintro m7 a w ⟨k,hm7,hlek,hIk,hS⟩
  refine PX.G [(.e 21 (.sc (.bool (decide ((k:Int)<(b.ops.length:Int))))))] [] 5 [] [] [.au] [3,18,19,20,21] [4] hS hE trivial fun a w hS=>?_
  refine wp_seq_k fun K8 hK8=>?_
  refine PX.cond_s (decide ((k:Int)<(b.ops.length:Int))) hS (by kernel_rfl) (fun h9=>?_) (fun h9=>?_)
  ·skip
   refine wp_skip ?_
   refine hK8 _ _ ?_
   refine wp_seq_k fun K10 hK10=>?_
   refine wp_block ?_
   have hlty:k<b.ops.length:=by simpa using h9
   obtain ⟨y,hy⟩:=get_of_lt hlty
   refine PX.G [(.e 6 (.ptr 5 0))] [(5,.box 74 (encO y))] 6 [.q ((k:Int)=(k:Int)),.q ((b.ops.map encO)[k]?=some (encO y))] [] [.ix k (encO y),.au,.au,.au] [3,6,18,19,20] [4,5] hS hE ⟨rfl,PX.map_get hy,trivial⟩ fun a w hS=>?_
   refine PX.G [(.e 26 (.sc (.bool (R.defines y.kind))))] [] 6 [.q (PX.Con Try.prog 90 [(.J y.kind)] [] 6 6 (.sc (.bool (R.defines y.kind))) [])] [] [.au,.au,.cl [] (.sc (.bool (R.defines y.kind))) [] 6] [3,6,18,19,20,26] [4,5] hS hE ⟨PX.con_any (con_d90 y.kind),trivial⟩ fun a w hS=>?_
   refine PX.cond_s (R.defines y.kind) hS (by kernel_rfl) (fun h11=>?_) (fun h11=>?_)
   ·skip
    refine PX.G0 [(.e 3 (.own 7 1 (((R.upto b.params++dsts (b.ops.take (k))).map encI:List (List PX.PV)).length+1)))] [(7,.row 3 1 true ((R.upto b.params++dsts (b.ops.take (k))).map encI++[[(.J y.dst)]]))] 8 [.b (lenIs ((R.upto b.params++dsts (b.ops.take (k))).length) ((R.upto b.params++dsts (b.ops.take (k))).map encI)),.b (lenIs 1 ([[(.J y.dst)]])),.b (Nat.ble (((R.upto b.params++dsts (b.ops.take (k))).map encI:List (List PX.PV)).length+1) 1000000000)] [] [.au,.au,.au,.au,.au,.au] [3,18,19,20] [7] hS hE ⟨by simp [PX.lenIs],rfl,by have:=dsts_le b.ops k; simp [upto_len] at this ⊢; omega,trivial⟩ fun a w hS=>?_
    refine hK10 _ _ ?_
    refine PX.G0 [(.e 20 (.sc (.I ((k+1:Nat):Int))))] [] 8 [.q ((.sc (.I (IntKind.i64.wrap ((k:Int)+1))):PX.PV)=(.sc (.I ((k+1:Nat):Int))))] [] [.nm (.sc (.I ((k+1:Nat):Int))),.au] [3,18,19,20] [7] hS hE ⟨PX.nm_int (by rw [IntWalk.i64_in _ (by omega)]; omega),trivial⟩ fun a w hS=>?_
    have ed:=dsts_yes hy h11
    have e1:((R.upto b.params++dsts (b.ops.take (k))).map encI++[[(.J y.dst)]])=(R.upto b.params++dsts (b.ops.take (k+1))).map encI:=by rw [ed]; simp [encI]
    have e2:((R.upto b.params++dsts (b.ops.take (k))).map encI:List (List PX.PV)).length+1=(R.upto b.params++dsts (b.ops.take (k+1))).length:=by rw [ed]; simp; omega
    rw [e2,e1] at hS
    exact ⟨b.ops.length-(k+1),by omega,k+1,rfl,by omega,trivial,(PX.cn [(4,7)] _ _ 5 hS hE)⟩
   ·skip
    refine wp_skip ?_
    refine hK10 _ _ ?_
    refine PX.G0 [(.e 20 (.sc (.I ((k+1:Nat):Int))))] [] 6 [.q ((.sc (.I (IntKind.i64.wrap ((k:Int)+1))):PX.PV)=(.sc (.I ((k+1:Nat):Int))))] [] [.nm (.sc (.I ((k+1:Nat):Int))),.au] [3,18,19,20] [4] hS hE ⟨PX.nm_int (by rw [IntWalk.i64_in _ (by omega)]; omega),trivial⟩ fun a w hS=>?_
    rw [show (R.upto b.params++dsts (b.ops.take (k)))=(R.upto b.params++dsts (b.ops.take (k+1))) from by rw [dsts_no hy h11]] at hS
    exact ⟨b.ops.length-(k+1),by omega,k+1,rfl,by omega,trivial,(PX.cn [] _ _ 5 hS hE)⟩
  ·skip
   refine wp_exit ?_
   refine hK6 _ _ ?_
   refine PX.G [(.e 2 (.own 4 1 ((R.upto b.params++dsts (b.ops.take (k))).length)))] [] 5 [] [] [.au,.au] [2] [4] hS hE trivial fun a w hS=>?_
   have hk:b.ops.length≤k:=by simpa using h9
   replace hS:=PX.fz 4 [(.e 2 (.imm 1 ((R.upto b.params++dsts (b.ops.take (k))).map encI)))] [] [2] [] [.b (PX.lenIs ((R.upto b.params++dsts (b.ops.take (k))).length) ((R.upto b.params++dsts (b.ops.take (k))).map encI))] hS ⟨(by simp [PX.lenIs]),trivial⟩
   refine wp_ret ?_
   rw [show (.imm 1 ((R.values b).map encI))=((.imm 1 ((R.upto b.params++dsts (b.ops.take (k))).map encI)):PX.PV) from by rw [values_take hk]]
   exact PX.rt hS hE (.inl rfl)

theorem src_eqB (i j:Nat) (a b c:Int):PX.BinIs Try.prog .eql 72 (.tmp i) (.tmp j) (.agg #[.I a,.I b,.I c]) (.agg #[.I 0,.I 0,.I 0]) (.bool (a==0&&(b==0&&c==0))):=by
 intro w
 cases h1:(a==0) <;> cases h2:(b==0) <;> cases h3:(c==0) <;> simp [go_sem,eqGuard,Try.underlying72,h1,h2,h3]

set_option maxHeartbeats 1000000 in
theorem con_f87 (o:OpD):PX.Con Try.prog 87 [(.agg (encO o))] [] 1 100000 (.sc (.bool (R.plain o))) []:=by
 refine PX.con_intro [(.agg (encO o))] 99 Try.func87 rfl rfl (by kernel_rfl) (by kernel_rfl) ?_
 intro E a hE hS
 generalize E.w0=w at hS ⊢
 have mix:=mixed
 refine PX.G [(.e 1 (.ptr 1 0))] [(1,.box 74 (encO o))] 2 [] [] [.au,.au] [1] [1] hS hE trivial fun a w hS=>?_
 refine PX.G [(.e 3 (.J o.kind))] [] 2 [] [] [.au,.au,.au] [1,3] [1] hS hE trivial fun a w hS=>?_
 refine wp_seq_k fun K1 hK1=>?_
 refine PX.G [(.e 34 (.sc (.bool ((((!(R.defines o.kind))&&(o.dst != 0))||((!(R.usesA o.kind))&&(o.a != 0)))||((!(R.usesB o.kind))&&(o.b != 0))))))] [] 2 [.q (PX.Con Try.prog 90 [(.J o.kind)] [] 2 2 (.sc (.bool (R.defines o.kind))) []),.q (SX.pv [(3,(!(R.defines o.kind))),(8,((!(R.defines o.kind))&&(o.dst != 0))),(12,(!(R.usesA o.kind))),(18,(((!(R.defines o.kind))&&(o.dst != 0))||((!(R.usesA o.kind))&&(o.a != 0)))),(22,(!(R.usesB o.kind)))] [(8,false)]=true→PX.AllOb [.q (PX.Con Try.prog 88 [(.J o.kind)] [] 2 2 (.sc (.bool (R.usesA o.kind))) [])]),.q (SX.pv [(3,(!(R.defines o.kind))),(8,((!(R.defines o.kind))&&(o.dst != 0))),(12,(!(R.usesA o.kind))),(18,(((!(R.defines o.kind))&&(o.dst != 0))||((!(R.usesA o.kind))&&(o.a != 0)))),(22,(!(R.usesB o.kind)))] [(18,false)]=true→PX.AllOb [.q (PX.Con Try.prog 89 [(.J o.kind)] [] 2 2 (.sc (.bool (R.usesB o.kind))) [])])] [(3,(!(R.defines o.kind))),(8,((!(R.defines o.kind))&&(o.dst != 0))),(12,(!(R.usesA o.kind))),(18,(((!(R.defines o.kind))&&(o.dst != 0))||((!(R.usesA o.kind))&&(o.a != 0)))),(22,(!(R.usesB o.kind)))] [.au,.cl [] (.sc (.bool (R.defines o.kind))) [] 2,.au,.au,.au,.au,.au,.pk,.au,.au,.cl [] (.sc (.bool (R.usesA o.kind))) [] 2,.au,.au,.au,.au,.au,.pk,.pk,.au,.au,.cl [] (.sc (.bool (R.usesB o.kind))) [] 2,.au,.au,.au,.au,.au,.pk,.pk] [1,3,34] [1] hS hE ⟨PX.con_any (con_d90 o.kind),fun hg=>⟨PX.con_any (con_a88 o.kind),trivial⟩,fun hg=>⟨PX.con_any (con_b89 o.kind),trivial⟩,trivial⟩ fun a w hS=>?_
 refine PX.cond_s ((((!(R.defines o.kind))&&(o.dst != 0))||((!(R.usesA o.kind))&&(o.a != 0)))||((!(R.usesB o.kind))&&(o.b != 0))) hS (by kernel_rfl) (fun h2=>?_) (fun h2=>?_)
 ·skip
  refine PX.G [(.e 2 (.sc (.bool false)))] [] 2 [] [] [.au] [2] [] hS hE trivial fun a w hS=>?_
  refine wp_ret ?_
  rw [show (.sc (.bool (R.plain o)))=((.sc (.bool false)):PX.PV) from by unfold R.plain; (try simp only [h2,Bool.not_true,Bool.not_false,Bool.and_true,Bool.and_false,Bool.true_and,Bool.false_and,Bool.or_true,Bool.true_or,Bool.or_false,Bool.false_or,Bool.false_eq_true,↓reduceIte]); (try simp only [Bool.and_assoc])]
  exact PX.rt hS hE (.inl rfl)
 ·skip
  refine wp_skip ?_
  refine hK1 _ _ ?_
  refine PX.G [(.e 4 (.sc (.bool ((((((o.kind==1)||(o.kind==15))||(o.kind==16))||(o.kind==17))||(o.kind==19))||(o.kind==20)))))] [] 2 [] [(2,(o.kind==1)),(6,((o.kind==1)||(o.kind==15))),(10,(((o.kind==1)||(o.kind==15))||(o.kind==16))),(14,((((o.kind==1)||(o.kind==15))||(o.kind==16))||(o.kind==17))),(18,(((((o.kind==1)||(o.kind==15))||(o.kind==16))||(o.kind==17))||(o.kind==19)))] [.au,.au,.au,.au,.au,.pk,.au,.au,.au,.pk,.au,.au,.au,.pk,.au,.au,.au,.pk,.au,.au,.au,.pk,.au] [1,3,4] [1] hS hE trivial fun a w hS=>?_
  refine wp_seq_k fun K3 hK3=>?_
  refine PX.G [(.e 80 (.sc (.bool (((!((((((o.kind==1)||(o.kind==15))||(o.kind==16))||(o.kind==17))||(o.kind==19))||(o.kind==20)))&&(o.n != 0))||((((o.kind != 19)&&(o.kind != 20))&&(o.kind != 21))&&(o.ctx != 0))))))] [] 2 [] [(2,(!((((((o.kind==1)||(o.kind==15))||(o.kind==16))||(o.kind==17))||(o.kind==19))||(o.kind==20)))),(7,((!((((((o.kind==1)||(o.kind==15))||(o.kind==16))||(o.kind==17))||(o.kind==19))||(o.kind==20)))&&(o.n != 0))),(10,(o.kind != 19)),(14,((o.kind != 19)&&(o.kind != 20))),(18,(((o.kind != 19)&&(o.kind != 20))&&(o.kind != 21)))] [.au,.au,.au,.au,.au,.au,.pk,.au,.au,.au,.au,.au,.au,.pk,.au,.au,.au,.pk,.au,.au,.au,.au,.pk,.pk] [1,3,80] [1] hS hE trivial fun a w hS=>?_
  refine PX.cond_s (((!((((((o.kind==1)||(o.kind==15))||(o.kind==16))||(o.kind==17))||(o.kind==19))||(o.kind==20)))&&(o.n != 0))||((((o.kind != 19)&&(o.kind != 20))&&(o.kind != 21))&&(o.ctx != 0))) hS (by kernel_rfl) (fun h4=>?_) (fun h4=>?_)
  ·skip
   refine PX.G [(.e 2 (.sc (.bool false)))] [] 2 [] [] [.au] [2] [] hS hE trivial fun a w hS=>?_
   refine wp_ret ?_
   rw [show (.sc (.bool (R.plain o)))=((.sc (.bool false)):PX.PV) from by unfold R.plain; (try simp only [h2,h4,Bool.not_true,Bool.not_false,Bool.and_true,Bool.and_false,Bool.true_and,Bool.false_and,Bool.or_true,Bool.true_or,Bool.or_false,Bool.false_or,Bool.false_eq_true,↓reduceIte]); (try simp only [Bool.and_assoc])]
   exact PX.rt hS hE (.inl rfl)
  ·skip
   refine wp_skip ?_
   refine hK3 _ _ ?_
   refine PX.G [(.e 2 (.sc (.bool ((o.kind==21)||(((o.var==0)&&(o.piece==0))&&(o.sk==0&&(o.sv==0&&o.sa==0)))))))] [] 2 [.q (SX.pv [(2,(o.kind==21)),(6,(o.var==0)),(11,((o.var==0)&&(o.piece==0)))] [(11,true),(2,false)]=true→PX.AllOb [.q (PX.BinIs Try.prog .eql 72 (.tmp 94) (.tmp 95) (.agg #[.I o.sk,.I o.sv,.I o.sa]) (.agg #[.I 0,.I 0,.I 0]) (.bool (o.sk==0&&(o.sv==0&&o.sa==0))))])] [(2,(o.kind==21)),(6,(o.var==0)),(11,((o.var==0)&&(o.piece==0)))] [.au,.au,.au,.au,.au,.au,.au,.au,.au,.au,.pk,.au,.au,.au,.au,.bs (.bool (o.sk==0&&(o.sv==0&&o.sa==0))),.pk,.pk,.au] [2] [] hS hE ⟨fun hg=>⟨src_eqB _ _ _ _ _,trivial⟩,trivial⟩ fun a w hS=>?_
   refine wp_ret ?_
   rw [show (.sc (.bool (R.plain o)))=((.sc (.bool ((o.kind==21)||(((o.var==0)&&(o.piece==0))&&(o.sk==0&&(o.sv==0&&o.sa==0)))))):PX.PV) from by unfold R.plain; (try simp only [h2,h4,Bool.not_true,Bool.not_false,Bool.and_true,Bool.and_false,Bool.true_and,Bool.false_and,Bool.or_true,Bool.true_or,Bool.or_false,Bool.false_or,Bool.false_eq_true,↓reduceIte]); (try simp only [Bool.and_assoc])]
   exact PX.rt hS hE (.inl rfl)

set_option maxHeartbeats 400000 in
theorem con_f91 (c:CodeD) (o:OpD) (all:List Int) (hal:all.length≤140737488351232):PX.Con Try.prog 91 [(codeP c),(.agg [(.J o.sk),(.J o.sv),(.J o.sa)]),(.imm 1 (all.map encI))] [] 1 100000 (.sc (.bool (R.source c o all))) []:=by
 refine PX.con_intro [(codeP c),(.agg [(.J o.sk),(.J o.sv),(.J o.sa)]),(.imm 1 (all.map encI))] 42 Try.func91 rfl rfl (by kernel_rfl) (by kernel_rfl) ?_
 intro E a hE hS
 generalize E.w0=w at hS ⊢
 have mix:=mixed
 refine PX.G [(.e 3 (.ptr 1 0)),(.e 4 (.ptr 2 0))] [(1,.box 26 (codeL c)),(2,.box 72 [(.J o.sk),(.J o.sv),(.J o.sa)])] 3 [] [] [.au,.au,.au] [2,3,4] [1,2] hS hE trivial fun a w hS=>?_
 refine wp_seq_k fun K1 hK1=>?_
 refine PX.G [(.e 8 (.J o.sk))] [] 3 [] [] [.au,.au] [2,3,4,8] [1,2] hS hE trivial fun a w hS=>?_
 refine wp_block ?_
 refine PX.G [(.e 9 (.sc (.bool (o.sk==0))))] [] 3 [] [] [.au,.au] [2,3,4,8,9] [1,2] hS hE trivial fun a w hS=>?_
 refine PX.cond_s (o.sk==0) hS (by kernel_rfl) (fun h2=>?_) (fun h2=>?_)
 ·skip
  refine PX.G [(.e 6 (.sc (.bool ((o.sv==0)&&(o.sa==0)))))] [] 3 [] [(3,(o.sv==0))] [.au,.au,.au,.au,.au,.au,.au,.pk,.au] [6] [] hS hE trivial fun a w hS=>?_
  refine wp_ret ?_
  rw [show (.sc (.bool (R.source c o all)))=((.sc (.bool ((o.sv==0)&&(o.sa==0)))):PX.PV) from by unfold R.source; (try simp only [h2,Bool.not_true,Bool.not_false,Bool.and_true,Bool.and_false,Bool.true_and,Bool.false_and,Bool.or_true,Bool.true_or,Bool.or_false,Bool.false_or,Bool.false_eq_true,↓reduceIte]); (try rfl)]
  exact PX.rt hS hE (.inl rfl)
 ·skip
  refine PX.G [(.e 19 (.sc (.bool (o.sk==1))))] [] 3 [] [] [.au,.au] [2,3,4,8,19] [1,2] hS hE trivial fun a w hS=>?_
  refine PX.cond_s (o.sk==1) hS (by kernel_rfl) (fun h3=>?_) (fun h3=>?_)
  ·skip
   refine PX.G [(.e 6 (.sc (.bool (o.sv==0))))] [] 3 [] [] [.au,.au,.au,.au] [6] [] hS hE trivial fun a w hS=>?_
   refine wp_ret ?_
   rw [show (.sc (.bool (R.source c o all)))=((.sc (.bool (o.sv==0))):PX.PV) from by unfold R.source; (try simp only [h2,h3,Bool.not_true,Bool.not_false,Bool.and_true,Bool.and_false,Bool.true_and,Bool.false_and,Bool.or_true,Bool.true_or,Bool.or_false,Bool.false_or,Bool.false_eq_true,↓reduceIte]); (try rfl)]
   exact PX.rt hS hE (.inl rfl)
  ·skip
   refine PX.G [(.e 24 (.sc (.bool (o.sk==2))))] [] 3 [] [] [.au,.au] [2,3,4,8,24] [1,2] hS hE trivial fun a w hS=>?_
   refine PX.cond_s (o.sk==2) hS (by kernel_rfl) (fun h4=>?_) (fun h4=>?_)
   ·skip
    refine PX.G [(.e 6 (.sc (.bool (R.has all o.sv))))] [] 3 [.q (PX.Con Try.prog 71 [(.imm 1 (all.map encI)),(.J o.sv)] [] 3 3 (.sc (.bool (R.has all o.sv))) [])] [] [.au,.au,.au,.cl [] (.sc (.bool (R.has all o.sv))) [] 3,.au] [6] [] hS hE ⟨PX.con_any (con_h71 all o.sv (by omega)),trivial⟩ fun a w hS=>?_
    refine wp_ret ?_
    rw [show (.sc (.bool (R.source c o all)))=((.sc (.bool (R.has all o.sv))):PX.PV) from by unfold R.source; (try simp only [h2,h3,h4,Bool.not_true,Bool.not_false,Bool.and_true,Bool.and_false,Bool.true_and,Bool.false_and,Bool.or_true,Bool.true_or,Bool.or_false,Bool.false_or,Bool.false_eq_true,↓reduceIte]); (try rfl)]
    exact PX.rt hS hE (.inl rfl)
   ·skip
    refine PX.G [(.e 30 (.sc (.bool (o.sk==3))))] [] 3 [] [] [.au,.au] [3,4,30] [1,2] hS hE trivial fun a w hS=>?_
    refine PX.cond_s (o.sk==3) hS (by kernel_rfl) (fun h5=>?_) (fun h5=>?_)
    ·skip
     refine PX.G [(.e 6 (.sc (.bool (decide (0≤o.sv)&&decide (o.sv<c.params)))))] [] 3 [] [(3,decide (0≤o.sv))] [.au,.au,.au,.au,.au,.au,.au,.au,.au,.pk,.au] [6] [] hS hE trivial fun a w hS=>?_
     refine wp_ret ?_
     rw [show (.sc (.bool (R.source c o all)))=((.sc (.bool (decide (0≤o.sv)&&decide (o.sv<c.params)))):PX.PV) from by unfold R.source; (try simp only [h2,h3,h4,h5,Bool.not_true,Bool.not_false,Bool.and_true,Bool.and_false,Bool.true_and,Bool.false_and,Bool.or_true,Bool.true_or,Bool.or_false,Bool.false_or,Bool.false_eq_true,↓reduceIte]); (try rfl)]
     exact PX.rt hS hE (.inl rfl)
    ·skip
     refine wp_skip ?_
     refine hK1 _ _ ?_
     refine PX.G [(.e 6 (.sc (.bool false)))] [] 3 [] [] [.au] [6] [] hS hE trivial fun a w hS=>?_
     refine wp_ret ?_
     rw [show (.sc (.bool (R.source c o all)))=((.sc (.bool false)):PX.PV) from by unfold R.source; (try simp only [h2,h3,h4,h5,Bool.not_true,Bool.not_false,Bool.and_true,Bool.and_false,Bool.true_and,Bool.false_and,Bool.or_true,Bool.true_or,Bool.or_false,Bool.false_or,Bool.false_eq_true,↓reduceIte]); (try rfl)]
     exact PX.rt hS hE (.inl rfl)

set_option maxHeartbeats 400000 in
theorem con_f93 (blk:Int) (args:List Int):PX.Con Try.prog 93 [(.agg [(.J blk),(.imm 1 (args.map encI))])] [] 1 100000 (.sc (.bool (R.none_ blk args))) []:=by
 refine PX.con_intro [(.agg [(.J blk),(.imm 1 (args.map encI))])] 12 Try.func93 rfl rfl (by kernel_rfl) (by kernel_rfl) ?_
 intro E a hE hS
 generalize E.w0=w at hS ⊢
 have mix:=mixed
 refine PX.G [(.e 1 (.ptr 1 0))] [(1,.box 57 [(.J blk),(.imm 1 (args.map encI))])] 2 [] [] [.au,.au] [1] [1] hS hE trivial fun a w hS=>?_
 refine PX.G [(.e 2 (.sc (.bool ((blk==(-1))&&((args.length:Int)==0)))))] [] 2 [.q (SX.pv [(3,(blk==(-1)))] [(3,true)]=true→PX.AllOb [.q ((.sc (.I (((args.map encI).length:Nat):Int)):PX.PV)=(.sc (.I (args.length:Int))))])] [(3,(blk==(-1)))] [.au,.au,.au,.au,.au,.au,.nm (.sc (.I (args.length:Int))),.au,.pk,.au] [2] [] hS hE ⟨fun hg=>⟨PX.nm_len (by simp),trivial⟩,trivial⟩ fun a w hS=>?_
 refine wp_ret ?_
 rw [show (.sc (.bool (R.none_ blk args)))=((.sc (.bool ((blk==(-1))&&((args.length:Int)==0)))):PX.PV) from by unfold R.none_; rw [len_eq0]]
 exact PX.rt hS hE (.inl rfl)

set_option maxHeartbeats 1000000 in
theorem con_e92 (c:CodeD) (blk more:Int) (args all:List Int) (hl:args.length≤140737488351232) (hal:all.length≤140737488351232) (hmo:0≤more∧more≤1):PX.Con Try.prog 92 [(codeP c),(.agg [(.J blk),(.imm 1 (args.map encI))]),(.imm 1 (all.map encI)),(.J more)] [] 1 100000 (.sc (.bool (R.edge c blk args all more))) []:=by
 refine PX.con_intro [(codeP c),(.agg [(.J blk),(.imm 1 (args.map encI))]),(.imm 1 (all.map encI)),(.J more)] 49 Try.func92 rfl rfl (by kernel_rfl) (by kernel_rfl) ?_
 intro E a hE hS
 generalize E.w0=w at hS ⊢
 have mix:=mixed
 refine PX.G [(.e 4 (.ptr 1 0)),(.e 5 (.ptr 2 0))] [(1,.box 26 (codeL c)),(2,.box 57 [(.J blk),(.imm 1 (args.map encI))])] 3 [] [] [.au,.au,.au] [2,3,4,5] [1,2] hS hE trivial fun a w hS=>?_
 refine wp_seq_k fun K1 hK1=>?_
 obtain ⟨x,hx⟩:=get_if c.blocks blk.toNat
 refine PX.D [(.e 36 (.sc (.bool ((decide (blk<1)||decide ((c.blocks.length:Int)≤blk))||(((args.length:Int)+more) != x.params)))))] [] 3 [.q (SX.pv [(3,decide (blk<1)),(11,(decide (blk<1)||decide ((c.blocks.length:Int)≤blk)))] [(3,false)]=true→PX.AllOb [.q ((.sc (.I (((c.blocks.map encB).length:Nat):Int)):PX.PV)=(.sc (.I (c.blocks.length:Int))))]),.q (SX.pv [(3,decide (blk<1)),(11,(decide (blk<1)||decide ((c.blocks.length:Int)≤blk)))] [(11,false)]=true→PX.AllOb [.q ((.sc (.I (((args.map encI).length:Nat):Int)):PX.PV)=(.sc (.I (args.length:Int))))]),.q (SX.pv [(3,decide (blk<1)),(11,(decide (blk<1)||decide ((c.blocks.length:Int)≤blk)))] [(11,false)]=true→PX.AllOb [.q ((.sc (.I (IntKind.i64.wrap ((args.length:Int)+more))):PX.PV)=(.sc (.I ((args.length:Int)+more))))]),.q (SX.pv [(3,decide (blk<1)),(11,(decide (blk<1)||decide ((c.blocks.length:Int)≤blk)))] [(11,false)]=true→PX.AllOb [.q (blk=(blk.toNat:Int)),.q ((c.blocks.map encB)[blk.toNat]?=some (encB x))])] [(3,decide (blk<1)),(11,(decide (blk<1)||decide ((c.blocks.length:Int)≤blk)))] [.au,.au,.au,.au,.au,.au,.au,.au,.nm (.sc (.I (c.blocks.length:Int))),.au,.pk,.au,.au,.au,.nm (.sc (.I (args.length:Int))),.au,.nm (.sc (.I ((args.length:Int)+more))),.au,.au,.au,.au,.ix blk.toNat (encB x),.au,.au,.au,.pk] [2,5,36] [2] hS mixed hE ⟨fun hg=>⟨PX.nm_len (by simp),trivial⟩,fun hg=>⟨PX.nm_len (by simp),trivial⟩,fun hg=>⟨PX.nm_int (by rw [IntWalk.i64_in _ (by omega)]),trivial⟩,fun hg=>⟨by have:=hg; simp [SX.pv,SX.kv] at this; omega,PX.map_get (hx (by have:=hg; simp [SX.pv,SX.kv] at this; omega)),trivial⟩,trivial⟩ fun a w hS=>?_
 refine PX.cond_s ((decide (blk<1)||decide ((c.blocks.length:Int)≤blk))||(((args.length:Int)+more) != x.params)) hS (by kernel_rfl) (fun h2=>?_) (fun h2=>?_)
 ·skip
  refine PX.G [(.e 8 (.sc (.bool false)))] [] 3 [] [] [.au] [8] [] hS hE trivial fun a w hS=>?_
  refine wp_ret ?_
  have e:R.edge c blk args all more=false:=by
   clear hS hE
   have h1:=h2
   unfold R.edge
   by_cases q:(decide (blk<1)||decide ((c.blocks.length:Int)≤blk))=true
   ·rw [q,Bool.true_or,if_pos rfl]
   ·have q:=Bool.eq_false_iff.2 q
    rw [params_at (hx (by simp only [Bool.or_eq_false_iff,decide_eq_false_iff_not] at q; omega))]
    rw [h1]; rfl
  rw [show (.sc (.bool (R.edge c blk args all more)))=((.sc (.bool false)):PX.PV) from by rw [e]]
  exact PX.rt hS hE (.inl rfl)
 ·skip
  refine wp_skip ?_
  refine hK1 _ _ ?_
  refine wp_seq_k fun K3 hK3=>?_
  refine PX.G [(.e 38 (.imm 1 (args.map encI))),(.e 39 (.sc (.I (args.length:Int)))),(.e 40 (.J 0))] [] 3 [.q ((.sc (.I (((args.map encI).length:Nat):Int)):PX.PV)=(.sc (.I (args.length:Int))))] [] [.au,.au,.nm (.sc (.I (args.length:Int))),.au] [2,38,39,40] [] hS hE ⟨PX.nm_len (by simp),trivial⟩ fun a w hS=>?_
  refine wp_block ?_
  refine wp_loop_ghost (fun m4 a' w'=>∃ k:Nat,m4=args.length-k∧k≤args.length∧Upto args (fun _ x=>R.has all x) (k)∧PX.Sat E 49 [(.e 2 (.imm 1 (all.map encI))),(.e 38 (.imm 1 (args.map encI))),(.e 39 (.sc (.I (args.length:Int)))),(.e 40 (.sc (.I (k:Int))))] [] 1 a' w') (args.length-0) ⟨0,rfl,Nat.zero_le _,Upto.zero,(PX.cn [] _ _ 1 hS hE)⟩ ?_
  clear hS; rintro m4 a w ⟨k,hm4,hlek,hIk,hS⟩
  refine PX.G [(.e 41 (.sc (.bool (decide ((k:Int)<(args.length:Int))))))] [] 1 [] [] [.au] [2,38,39,40,41] [] hS hE trivial fun a w hS=>?_
  refine wp_seq_k fun K5 hK5=>?_
  refine PX.cond_s (decide ((k:Int)<(args.length:Int))) hS (by kernel_rfl) (fun h6=>?_) (fun h6=>?_)
  ·skip
   refine wp_skip ?_
   refine hK5 _ _ ?_
   refine wp_seq_k fun K7 hK7=>?_
   refine wp_block ?_
   have hlty:k<args.length:=by simpa using h6
   obtain ⟨y,hy⟩:=get_of_lt hlty
   refine PX.G [(.e 10 (.J y))] [] 1 [.q ((k:Int)=(k:Int)),.q ((args.map encI)[k]?=some (encI y))] [] [.ix k (encI y),.au,.au] [2,10,38,39,40] [] hS hE ⟨rfl,PX.map_get hy,trivial⟩ fun a w hS=>?_
   refine PX.G [(.e 47 (.sc (.bool (!(R.has all y)))))] [] 1 [.q (PX.Con Try.prog 71 [(.imm 1 (all.map encI)),(.J y)] [] 1 1 (.sc (.bool (R.has all y))) [])] [] [.au,.au,.cl [] (.sc (.bool (R.has all y))) [] 1,.au] [2,38,39,40,47] [] hS hE ⟨PX.con_any (con_h71 all y (by omega)),trivial⟩ fun a w hS=>?_
   refine PX.cond_s (!(R.has all y)) hS (by kernel_rfl) (fun h8=>?_) (fun h8=>?_)
   ·skip
    refine PX.G [(.e 8 (.sc (.bool false)))] [] 1 [] [] [.au] [2,8,38,39,40] [] hS hE trivial fun a w hS=>?_
    refine wp_ret ?_
    have e:R.edge c blk args all more=args.all (R.has all):=by
     clear hS hE
     have h1:=h2
     unfold R.edge
     rw [params_at (hx (by simp only [Bool.or_eq_false_iff,decide_eq_false_iff_not] at h1; omega)),h1]; rfl
    rw [show (.sc (.bool (R.edge c blk args all more)))=((.sc (.bool false)):PX.PV) from by rw [e,← all_no hy (by simpa using h8)]]
    exact PX.rt hS hE (.inl rfl)
   ·skip
    refine wp_skip ?_
    refine hK7 _ _ ?_
    refine PX.G0 [(.e 40 (.sc (.I ((k+1:Nat):Int))))] [] 1 [.q ((.sc (.I (IntKind.i64.wrap ((k:Int)+1))):PX.PV)=(.sc (.I ((k+1:Nat):Int))))] [] [.nm (.sc (.I ((k+1:Nat):Int))),.au] [2,38,39,40] [] hS hE ⟨PX.nm_int (by rw [IntWalk.i64_in _ (by omega)]; omega),trivial⟩ fun a w hS=>?_
    exact ⟨args.length-(k+1),by omega,k+1,rfl,by omega,hIk.step hy (by simpa using h8),(PX.cn [] _ _ 1 hS hE)⟩
  ·skip
   refine wp_exit ?_
   refine hK3 _ _ ?_
   refine PX.G [(.e 8 (.sc (.bool true)))] [] 1 [] [] [.au] [8] [] hS hE trivial fun a w hS=>?_
   refine wp_ret ?_
   have e:R.edge c blk args all more=args.all (R.has all):=by
    clear hS hE
    have h1:=h2
    unfold R.edge
    rw [params_at (hx (by simp only [Bool.or_eq_false_iff,decide_eq_false_iff_not] at h1; omega)),h1]; rfl
   rw [show (.sc (.bool (R.edge c blk args all more)))=((.sc (.bool true)):PX.PV) from by rw [e,← hIk.all (le_of_dec h6)]]
   exact PX.rt hS hE (.inl rfl)
end Go.Proofs.Ytlkcidmmpeebeaa

/- Proved: ref06: heads,ops on plain data -/
namespace Go.Proofs.Ytlkcidmmpeebeaa
open Go.RowKit Go.PX
set_option maxRecDepth 100000
set_option maxHeartbeats 2000000 in
theorem con_f57 (c:CodeD) (hlc:c.contexts.length≤140737488351232) (hlo:c.objects.length≤140737488351232):PX.Con Try.prog 57 [(codeP c)] [] 1 100000 (.sc (.bool (R.heads c))) []:=by
 refine PX.con_intro [(codeP c)] 159 Try.func57 rfl rfl (by kernel_rfl) (by kernel_rfl) ?_
 intro E a hE hS
 generalize E.w0=w at hS ⊢
 have mix:=mixed
 refine PX.G [(.e 1 (.ptr 1 0))] [(1,.box 26 (codeL c))] 2 [] [] [.au,.au] [1] [1] hS hE trivial fun a w hS=>?_
 refine wp_seq_k fun K1 hK1=>?_
 obtain ⟨x,hx⟩:=get_if c.blocks 0; have hpos:=fun q:c.blocks.length≠0=>hx (Nat.pos_of_ne_zero q)
 refine PX.D [(.e 37 (.sc (.bool ((((decide (c.params<0)||decide (4<c.params))||((c.blocks.length:Int)==0))||(x.params != c.params))||((c.contexts.length:Int)==0)))))] [] 2 [.q (SX.pv [(3,decide (c.params<0)),(8,(decide (c.params<0)||decide (4<c.params))),(14,((decide (c.params<0)||decide (4<c.params))||((c.blocks.length:Int)==0))),(24,(((decide (c.params<0)||decide (4<c.params))||((c.blocks.length:Int)==0))||(x.params != c.params)))] [(8,false)]=true→PX.AllOb [.q ((.sc (.I (((c.blocks.map encB).length:Nat):Int)):PX.PV)=(.sc (.I (c.blocks.length:Int))))]),.q (SX.pv [(3,decide (c.params<0)),(8,(decide (c.params<0)||decide (4<c.params))),(14,((decide (c.params<0)||decide (4<c.params))||((c.blocks.length:Int)==0))),(24,(((decide (c.params<0)||decide (4<c.params))||((c.blocks.length:Int)==0))||(x.params != c.params)))] [(14,false)]=true→PX.AllOb [.q (0=((0:Nat):Int)),.q ((c.blocks.map encB)[0]?=some (encB x))]),.q (SX.pv [(3,decide (c.params<0)),(8,(decide (c.params<0)||decide (4<c.params))),(14,((decide (c.params<0)||decide (4<c.params))||((c.blocks.length:Int)==0))),(24,(((decide (c.params<0)||decide (4<c.params))||((c.blocks.length:Int)==0))||(x.params != c.params)))] [(24,false)]=true→PX.AllOb [.q ((.sc (.I (((c.contexts.map encR).length:Nat):Int)):PX.PV)=(.sc (.I (c.contexts.length:Int))))])] [(3,decide (c.params<0)),(8,(decide (c.params<0)||decide (4<c.params))),(14,((decide (c.params<0)||decide (4<c.params))||((c.blocks.length:Int)==0))),(24,(((decide (c.params<0)||decide (4<c.params))||((c.blocks.length:Int)==0))||(x.params != c.params)))] [.au,.au,.au,.au,.au,.au,.au,.pk,.au,.au,.au,.nm (.sc (.I (c.blocks.length:Int))),.au,.pk,.au,.au,.au,.ix 0 (encB x),.au,.au,.au,.au,.au,.pk,.au,.au,.au,.nm (.sc (.I (c.contexts.length:Int))),.au,.pk] [1,37] [1] hS mixed hE ⟨fun hg=>⟨PX.nm_len (by simp),trivial⟩,fun hg=>⟨by omega,PX.map_get (hpos (fun q=>by rw [q] at hg; simp [SX.pv,SX.kv] at hg)),trivial⟩,fun hg=>⟨PX.nm_len (by simp),trivial⟩,trivial⟩ fun a w hS=>?_
 refine PX.cond_s ((((decide (c.params<0)||decide (4<c.params))||((c.blocks.length:Int)==0))||(x.params != c.params))||((c.contexts.length:Int)==0)) hS (by kernel_rfl) (fun h2=>?_) (fun h2=>?_)
 ·skip
  refine PX.G [(.e 2 (.sc (.bool false)))] [] 2 [] [] [.au] [2] [] hS hE trivial fun a w hS=>?_
  refine wp_ret ?_
  have e:R.heads c=false:=by
   clear hS hE
   have h1:=h2
   unfold R.heads
   rw [len_eq0,len_eq0] at h1
   rcases Nat.eq_zero_or_pos c.blocks.length with q | q
   ·simp [q]
   ·rw [show R.paramsAt c 0=x.params from params_at (i:=0) (hx q),h1]; rfl
  rw [show (.sc (.bool (R.heads c)))=((.sc (.bool false)):PX.PV) from by rw [e]]
  exact PX.rt hS hE (.inl rfl)
 ·skip
  refine wp_skip ?_
  refine hK1 _ _ ?_
  refine wp_seq_k fun K3 hK3=>?_
  refine PX.G [(.e 39 (.imm 3 (c.contexts.map encR))),(.e 40 (.sc (.I (c.contexts.length:Int)))),(.e 41 (.J 0))] [] 2 [.q ((.sc (.I (((c.contexts.map encR).length:Nat):Int)):PX.PV)=(.sc (.I (c.contexts.length:Int))))] [] [.au,.au,.nm (.sc (.I (c.contexts.length:Int))),.au] [1,39,40,41] [1] hS hE ⟨PX.nm_len (by simp),trivial⟩ fun a w hS=>?_
  refine wp_block ?_
  refine wp_loop_ghost (fun m4 a' w'=>∃ k:Nat,m4=c.contexts.length-k∧k≤c.contexts.length∧Upto c.contexts R.ctx1 (k)∧PX.Sat E 159 [(.e 1 (.ptr 1 0)),(.e 39 (.imm 3 (c.contexts.map encR))),(.e 40 (.sc (.I (c.contexts.length:Int)))),(.e 41 (.sc (.I (k:Int))))] [(1,.box 26 (codeL c))] 2 a' w') (c.contexts.length-0) ⟨0,rfl,Nat.zero_le _,Upto.zero,(PX.cn [] _ _ 2 hS hE)⟩ ?_
  clear hS; rintro m4 a w ⟨k,hm4,hlek,hIk,hS⟩
  refine PX.G [(.e 42 (.sc (.bool (decide ((k:Int)<(c.contexts.length:Int))))))] [] 2 [] [] [.au] [1,39,40,41,42] [1] hS hE trivial fun a w hS=>?_
  refine wp_seq_k fun K5 hK5=>?_
  refine PX.cond_s (decide ((k:Int)<(c.contexts.length:Int))) hS (by kernel_rfl) (fun h6=>?_) (fun h6=>?_)
  ·skip
   refine wp_skip ?_
   refine hK5 _ _ ?_
   refine wp_seq_k fun K7 hK7=>?_
   refine wp_block ?_
   have hlty:k<c.contexts.length:=by simpa using h6
   obtain ⟨y,hy⟩:=get_of_lt hlty
   refine PX.G [(.e 3 (.sc (.I (k:Int)))),(.e 4 (.ptr 2 0))] [(2,.box 99 [(.J y.1),(.J y.2.1),(.J y.2.2)])] 3 [.q ((k:Int)=(k:Int)),.q ((c.contexts.map encR)[k]?=some (encR y))] [] [.au,.ix k (encR y),.au,.au,.au,.au] [1,3,4,39,40,41] [1,2] hS hE ⟨rfl,PX.map_get hy,trivial⟩ fun a w hS=>?_
   refine PX.G [(.e 92 (.sc (.bool (((decide (y.2.2<0)||decide (8≤y.2.2))||(((k:Int)==0)&&((y.1 != (-1))||(y.2.1 != (-1)))))||(decide (0<(k:Int))&&(((decide (y.1<0)||decide ((k:Int)≤y.1))||decide (y.2.1<0))||decide (9999<y.2.1)))))))] [] 3 [] [(3,decide (y.2.2<0)),(8,(decide (y.2.2<0)||decide (8≤y.2.2))),(11,((k:Int)==0)),(15,(y.1 != (-1))),(22,((decide (y.2.2<0)||decide (8≤y.2.2))||(((k:Int)==0)&&((y.1 != (-1))||(y.2.1 != (-1)))))),(25,decide (0<(k:Int))),(29,decide (y.1<0)),(35,(decide (y.1<0)||decide ((k:Int)≤y.1))),(40,((decide (y.1<0)||decide ((k:Int)≤y.1))||decide (y.2.1<0)))] [.au,.au,.au,.au,.au,.au,.au,.pk,.au,.au,.au,.au,.au,.au,.au,.au,.au,.au,.au,.pk,.pk,.pk,.au,.au,.au,.au,.au,.au,.au,.au,.au,.au,.au,.au,.pk,.au,.au,.au,.au,.pk,.au,.au,.au,.au,.pk,.pk,.pk] [1,39,40,41,92] [1] hS hE trivial fun a w hS=>?_
   refine PX.cond_s (((decide (y.2.2<0)||decide (8≤y.2.2))||(((k:Int)==0)&&((y.1 != (-1))||(y.2.1 != (-1)))))||(decide (0<(k:Int))&&(((decide (y.1<0)||decide ((k:Int)≤y.1))||decide (y.2.1<0))||decide (9999<y.2.1)))) hS (by kernel_rfl) (fun h8=>?_) (fun h8=>?_)
   ·skip
    refine PX.G [(.e 2 (.sc (.bool false)))] [] 3 [] [] [.au] [1,2,39,40,41] [1] hS hE trivial fun a w hS=>?_
    refine wp_ret ?_
    have e:R.heads c=(R.ctxs c.contexts&&R.objs c.contexts.length c.objects):=by
     clear hS hE
     have h1:=h2
     unfold R.heads
     rw [len_eq0,len_eq0] at h1
     rw [show R.paramsAt c 0=x.params from params_at (i:=0) (hpos fun q=>by rw [q] at h1; simp at h1),h1]; rfl
    rw [show (.sc (.bool (R.heads c)))=((.sc (.bool false)):PX.PV) from by rw [e]; unfold R.ctxs; rw [← allAt_no hy (p:=R.ctx1) (by have:=h8; rw [ctxR_eq] at this; simpa using this)] <;> rfl]
    exact PX.rt hS hE (.inl rfl)
   ·skip
    refine wp_skip ?_
    refine hK7 _ _ ?_
    refine PX.G0 [(.e 41 (.sc (.I ((k+1:Nat):Int))))] [] 3 [.q ((.sc (.I (IntKind.i64.wrap ((k:Int)+1))):PX.PV)=(.sc (.I ((k+1:Nat):Int))))] [] [.nm (.sc (.I ((k+1:Nat):Int))),.au] [1,39,40,41] [1] hS hE ⟨PX.nm_int (by rw [IntWalk.i64_in _ (by omega)]; omega),trivial⟩ fun a w hS=>?_
    exact ⟨c.contexts.length-(k+1),by omega,k+1,rfl,by omega,hIk.step hy (by have:=h8; rw [ctxR_eq] at this; simpa using this),(PX.cn [] _ _ 2 hS hE)⟩
  ·skip
   refine wp_exit ?_
   refine hK3 _ _ ?_
   refine wp_seq_k fun K9 hK9=>?_
   have hctx:=hIk.allAt (le_of_dec h6)
   refine PX.G [(.e 95 (.imm 3 (c.objects.map encR))),(.e 96 (.sc (.I (c.objects.length:Int)))),(.e 97 (.J 0))] [] 2 [.q ((.sc (.I (((c.objects.map encR).length:Nat):Int)):PX.PV)=(.sc (.I (c.objects.length:Int))))] [] [.au,.au,.nm (.sc (.I (c.objects.length:Int))),.au] [1,95,96,97] [1] hS hE ⟨PX.nm_len (by simp),trivial⟩ fun a w hS=>?_
   refine wp_block ?_
   refine wp_loop_ghost (fun m10 a' w'=>∃ m:Nat,m10=c.objects.length-m∧m≤c.objects.length∧Upto c.objects (fun i x=>R.obj1 c.contexts.length x&&(c.objects.take i).all (fun y=>!(y.1==x.1&&y.2.1==x.2.1))) (m)∧PX.Sat E 159 [(.e 1 (.ptr 1 0)),(.e 95 (.imm 3 (c.objects.map encR))),(.e 96 (.sc (.I (c.objects.length:Int)))),(.e 97 (.sc (.I (m:Int))))] [(1,.box 26 (codeL c))] 2 a' w') (c.objects.length-0) ⟨0,rfl,Nat.zero_le _,Upto.zero,(PX.cn [] _ _ 2 hS hE)⟩ ?_
   clear hS; rintro m10 a w ⟨m,hm10,hlem,hIm,hS⟩
   refine PX.G [(.e 98 (.sc (.bool (decide ((m:Int)<(c.objects.length:Int))))))] [] 2 [] [] [.au] [1,95,96,97,98] [1] hS hE trivial fun a w hS=>?_
   refine wp_seq_k fun K11 hK11=>?_
   refine PX.cond_s (decide ((m:Int)<(c.objects.length:Int))) hS (by kernel_rfl) (fun h12=>?_) (fun h12=>?_)
   ·skip
    refine wp_skip ?_
    refine hK11 _ _ ?_
    refine wp_seq_k fun K13 hK13=>?_
    refine wp_block ?_
    have hltz:m<c.objects.length:=by simpa using h12
    obtain ⟨z,hz⟩:=get_of_lt hltz
    refine PX.G [(.e 5 (.sc (.I (m:Int)))),(.e 6 (.ptr 2 0))] [(2,.box 102 [(.J z.1),(.J z.2.1),(.J z.2.2)])] 3 [.q ((m:Int)=(m:Int)),.q ((c.objects.map encR)[m]?=some (encR z))] [] [.au,.ix m (encR z),.au,.au,.au,.au] [1,5,6,95,96,97] [1,2] hS hE ⟨rfl,PX.map_get hz,trivial⟩ fun a w hS=>?_
    refine wp_seq_k fun K14 hK14=>?_
    refine PX.G [(.e 132 (.sc (.bool (((((decide (z.1<0)||decide ((c.contexts.length:Int)≤z.1))||decide (z.2.1<0))||decide (24≤z.2.1))||decide (z.2.2<1))||decide (8<z.2.2)))))] [] 3 [.q (SX.pv [(3,decide (z.1<0)),(11,(decide (z.1<0)||decide ((c.contexts.length:Int)≤z.1))),(16,((decide (z.1<0)||decide ((c.contexts.length:Int)≤z.1))||decide (z.2.1<0))),(21,(((decide (z.1<0)||decide ((c.contexts.length:Int)≤z.1))||decide (z.2.1<0))||decide (24≤z.2.1))),(26,((((decide (z.1<0)||decide ((c.contexts.length:Int)≤z.1))||decide (z.2.1<0))||decide (24≤z.2.1))||decide (z.2.2<1)))] [(3,false)]=true→PX.AllOb [.q ((.sc (.I (((c.contexts.map encR).length:Nat):Int)):PX.PV)=(.sc (.I (c.contexts.length:Int))))])] [(3,decide (z.1<0)),(11,(decide (z.1<0)||decide ((c.contexts.length:Int)≤z.1))),(16,((decide (z.1<0)||decide ((c.contexts.length:Int)≤z.1))||decide (z.2.1<0))),(21,(((decide (z.1<0)||decide ((c.contexts.length:Int)≤z.1))||decide (z.2.1<0))||decide (24≤z.2.1))),(26,((((decide (z.1<0)||decide ((c.contexts.length:Int)≤z.1))||decide (z.2.1<0))||decide (24≤z.2.1))||decide (z.2.2<1)))] [.au,.au,.au,.au,.au,.au,.au,.au,.nm (.sc (.I (c.contexts.length:Int))),.au,.pk,.au,.au,.au,.au,.pk,.au,.au,.au,.au,.pk,.au,.au,.au,.au,.pk,.au,.au,.au,.au,.pk] [1,5,6,95,96,97,132] [1,2] hS hE ⟨fun hg=>⟨PX.nm_len (by simp),trivial⟩,trivial⟩ fun a w hS=>?_
    refine PX.cond_s (((((decide (z.1<0)||decide ((c.contexts.length:Int)≤z.1))||decide (z.2.1<0))||decide (24≤z.2.1))||decide (z.2.2<1))||decide (8<z.2.2)) hS (by kernel_rfl) (fun h15=>?_) (fun h15=>?_)
    ·skip
     refine PX.G [(.e 2 (.sc (.bool false)))] [] 3 [] [] [.au] [1,2,95,96,97] [1] hS hE trivial fun a w hS=>?_
     refine wp_ret ?_
     have e:R.heads c=(R.ctxs c.contexts&&R.objs c.contexts.length c.objects):=by
      clear hS hE
      have h1:=h2
      unfold R.heads
      rw [len_eq0,len_eq0] at h1
      rw [show R.paramsAt c 0=x.params from params_at (i:=0) (hpos fun q=>by rw [q] at h1; simp at h1),h1]; rfl
     rw [show (.sc (.bool (R.heads c)))=((.sc (.bool false)):PX.PV) from by rw [e]; unfold R.ctxs R.objs; rw [← hctx,← allAt_no hz (p:=(fun i x=>R.obj1 c.contexts.length x&&(c.objects.take i).all (fun y=>!(y.1==x.1&&y.2.1==x.2.1)))) (by have:=h15; rw [objR_eq] at this; rw [show R.obj1 c.contexts.length z=false from by simpa using this]; rfl)] <;> rfl]
     exact PX.rt hS hE (.inl rfl)
    ·skip
     refine wp_skip ?_
     refine hK14 _ _ ?_
     refine PX.G [(.e 7 (.J 0))] [] 3 [] [] [.au] [1,5,6,7,95,96,97] [1,2] hS hE trivial fun a w hS=>?_
     refine wp_block ?_
     refine wp_loop_ghost (fun m16 a' w'=>∃ j:Nat,m16=m-j∧j≤m∧Upto c.objects (fun _ y=>!(y.1==z.1&&y.2.1==z.2.1)) (j)∧PX.Sat E 159 [(.e 1 (.ptr 1 0)),(.e 5 (.sc (.I (m:Int)))),(.e 6 (.ptr 2 0)),(.e 7 (.sc (.I (j:Int)))),(.e 95 (.imm 3 (c.objects.map encR))),(.e 96 (.sc (.I (c.objects.length:Int)))),(.e 97 (.sc (.I (m:Int))))] [(1,.box 26 (codeL c)),(2,.box 102 [(.J z.1),(.J z.2.1),(.J z.2.2)])] 3 a' w') (m-0) ⟨0,rfl,Nat.zero_le _,Upto.zero,(PX.cn [] _ _ 3 hS hE)⟩ ?_
     clear hS; rintro m16 a w ⟨j,hm16,hlej,hIj,hS⟩
     refine wp_seq_k fun K17 hK17=>?_
     refine PX.G [(.e 135 (.sc (.bool (decide ((j:Int)<(m:Int))))))] [] 3 [] [] [.au,.au,.au] [1,5,6,7,95,96,97,135] [1,2] hS hE trivial fun a w hS=>?_
     refine PX.cond_s (decide ((j:Int)<(m:Int))) hS (by kernel_rfl) (fun h18=>?_) (fun h18=>?_)
     ·skip
      refine wp_skip ?_
      refine hK17 _ _ ?_
      refine wp_seq_k fun K19 hK19=>?_
      refine wp_block ?_
      have hlj:j<m:=lt_of_dec h18; obtain ⟨x2,hx2⟩:=get_of_lt (l:=c.objects) (k:=j) (by omega)
      refine PX.D [(.e 157 (.sc (.bool ((x2.1==z.1)&&(x2.2.1==z.2.1)))))] [] 3 [.q ((j:Int)=(j:Int)),.q ((c.objects.map encR)[j]?=some (encR x2)),.q (SX.pv [(9,(x2.1==z.1))] [(9,true)]=true→PX.AllOb [.q ((j:Int)=(j:Int)),.q ((c.objects.map encR)[j]?=some (encR x2))])] [(9,(x2.1==z.1))] [.au,.au,.au,.ix j (encR x2),.au,.au,.au,.au,.au,.au,.au,.au,.au,.ix j (encR x2),.au,.au,.au,.au,.au,.pk] [1,5,6,7,95,96,97,157] [1,2] hS mixed hE ⟨rfl,PX.map_get hx2,fun hg=>⟨rfl,PX.map_get hx2,trivial⟩,trivial⟩ fun a w hS=>?_
      refine PX.cond_s ((x2.1==z.1)&&(x2.2.1==z.2.1)) hS (by kernel_rfl) (fun h20=>?_) (fun h20=>?_)
      ·skip
       refine PX.G [(.e 2 (.sc (.bool false)))] [] 3 [] [] [.au] [1,2,5,6,7,95,96,97] [1,2] hS hE trivial fun a w hS=>?_
       refine wp_ret ?_
       have e:R.heads c=(R.ctxs c.contexts&&R.objs c.contexts.length c.objects):=by
        clear hS hE
        have h1:=h2
        unfold R.heads
        rw [len_eq0,len_eq0] at h1
        rw [show R.paramsAt c 0=x.params from params_at (i:=0) (hpos fun q=>by rw [q] at h1; simp at h1),h1]; rfl
       rw [show (.sc (.bool (R.heads c)))=((.sc (.bool false)):PX.PV) from by rw [e]; unfold R.ctxs R.objs; rw [← hctx,← allAt_no hz (p:=(fun i x=>R.obj1 c.contexts.length x&&(c.objects.take i).all (fun y=>!(y.1==x.1&&y.2.1==x.2.1)))) (by rw [take_no hx2 hlj (by rw [h20]; rfl),Bool.and_false])] <;> rfl]
       exact PX.rt hS hE (.inl rfl)
      ·skip
       refine wp_skip ?_
       refine hK19 _ _ ?_
       refine PX.G0 [(.e 7 (.sc (.I ((j+1:Nat):Int))))] [] 3 [.q ((.sc (.I (IntKind.i64.wrap ((j:Int)+1))):PX.PV)=(.sc (.I ((j+1:Nat):Int))))] [] [.au,.nm (.sc (.I ((j+1:Nat):Int))),.au] [1,5,6,7,95,96,97] [1,2] hS hE ⟨PX.nm_int (by rw [IntWalk.i64_in _ (by omega)]; omega),trivial⟩ fun a w hS=>?_
       exact ⟨m-(j+1),by omega,j+1,rfl,by omega,hIj.step hx2 (by rw [h20]; rfl),(PX.cn [] _ _ 3 hS hE)⟩
     ·skip
      refine wp_exit ?_
      refine hK13 _ _ ?_
      refine PX.G0 [(.e 97 (.sc (.I ((m+1:Nat):Int))))] [] 3 [.q ((.sc (.I (IntKind.i64.wrap ((m:Int)+1))):PX.PV)=(.sc (.I ((m+1:Nat):Int))))] [] [.nm (.sc (.I ((m+1:Nat):Int))),.au] [1,95,96,97] [1] hS hE ⟨PX.nm_int (by rw [IntWalk.i64_in _ (by omega)]; omega),trivial⟩ fun a w hS=>?_
      exact ⟨c.objects.length-(m+1),by omega,m+1,rfl,by omega,hIm.step hz (by have:=h15; rw [objR_eq] at this; rw [show R.obj1 c.contexts.length z=true from by simpa using this,hIj.take_all (le_of_dec h18)]; rfl),(PX.cn [] _ _ 2 hS hE)⟩
   ·skip
    refine wp_exit ?_
    refine hK9 _ _ ?_
    refine PX.G [(.e 2 (.sc (.bool true)))] [] 2 [] [] [.au] [2] [] hS hE trivial fun a w hS=>?_
    refine wp_ret ?_
    have e:R.heads c=(R.ctxs c.contexts&&R.objs c.contexts.length c.objects):=by
     clear hS hE
     have h1:=h2
     unfold R.heads
     rw [len_eq0,len_eq0] at h1
     rw [show R.paramsAt c 0=x.params from params_at (i:=0) (hpos fun q=>by rw [q] at h1; simp at h1),h1]; rfl
    rw [show (.sc (.bool (R.heads c)))=((.sc (.bool true)):PX.PV) from by rw [e]; unfold R.ctxs R.objs; rw [← hctx,← hIm.allAt (le_of_dec h12)] <;> rfl]
    exact PX.rt hS hE (.inl rfl)

theorem values_le (b:BlockD) (hb:0≤b.params∧b.params≤999) (hl:b.ops.length≤6000):(R.values b).length≤6999:=by
 have h1:=dsts_le b.ops b.ops.length
 rw [List.take_length] at h1
 rw [values_eq,List.length_append,upto_len]; omega

set_option maxHeartbeats 4000000 in
theorem con_f58 (c:CodeD) (b:BlockD) (hbp:0≤b.params∧b.params≤999) (hol:b.ops.length≤6000):PX.Con Try.prog 58 [(codeP c),(.agg (encB b))] [] 1 100000 (.sc (.bool (R.ops c b))) []:=by
 refine PX.con_intro [(codeP c),(.agg (encB b))] 173 Try.func58 rfl rfl (by kernel_rfl) (by kernel_rfl) ?_
 intro E a hE hS
 generalize E.w0=w at hS ⊢
 have mix:=mixed; have hvl:=values_le b hbp hol
 refine PX.G [(.e 2 (.ptr 1 0)),(.e 3 (.ptr 2 0))] [(1,.box 26 (codeL c)),(2,.box 62 (encB b))] 3 [] [] [.au,.au,.au] [2,3] [1,2] hS hE trivial fun a w hS=>?_
 refine PX.G [(.e 5 (.imm 1 ((R.values b).map encI)))] [] 3 [.q (PX.Con Try.prog 86 [(.agg (encB b))] [] 3 3 (.imm 1 ((R.values b).map encI)) [])] [] [.au,.cl [] (.imm 1 ((R.values b).map encI)) [] 3,.au] [2,3,5] [1,2] hS hE ⟨PX.con_any (con_v86 b hbp (by omega)),trivial⟩ fun a w hS=>?_
 refine PX.G [(.e 6 (.sc (.slice none 0 0)))] [] 3 [] [] [.au] [2,3,5,6] [1,2] hS hE trivial fun a w hS=>?_
 refine wp_seq_k fun K1 hK1=>?_
 refine PX.G [(.e 7 (.J 0))] [] 3 [] [] [.au] [2,3,5,6,7] [1,2] hS hE trivial fun a w hS=>?_
 refine wp_block ?_
 replace hS:=PX.sl [2,3,5,6,7] (PX.reslot (t:=6) (.own 3 1 0) (PX.newrow 3 1 hS (hE.le (by decide))) rfl (PX.nil_own 3 1))
 refine wp_loop_ghost (fun m2 a' w'=>∃ k:Nat,m2=b.params.toNat-k∧k≤b.params.toNat∧True∧PX.Sat E 173 [(.e 2 (.ptr 1 0)),(.e 3 (.ptr 2 0)),(.e 5 (.imm 1 ((R.values b).map encI))),(.e 6 (.own 3 1 k)),(.e 7 (.sc (.I (k:Int))))] [(1,.box 26 (codeL c)),(2,.box 62 (encB b)),(3,.row 3 1 true (((List.range (k)).map (fun i:Nat=>(i:Int))).map encI))] 4 a' w') (b.params.toNat-0) ⟨0,rfl,Nat.zero_le _,trivial,(PX.cn [] _ _ 4 hS hE)⟩ ?_
 clear hS; rintro m2 a w ⟨k,hm2,hlek,hIk,hS⟩
 refine wp_seq_k fun K3 hK3=>?_
 refine PX.G [(.e 15 (.sc (.bool (decide ((k:Int)<b.params)))))] [] 4 [] [] [.au,.au,.au,.au] [2,3,5,6,7,15] [1,2,3] hS hE trivial fun a w hS=>?_
 refine PX.cond_s (decide ((k:Int)<b.params)) hS (by kernel_rfl) (fun h4=>?_) (fun h4=>?_)
 ·skip
  refine wp_skip ?_
  refine hK3 _ _ ?_
  refine wp_seq_k fun K5 hK5=>?_
  refine wp_block ?_
  refine PX.G0 [(.e 6 (.own 5 1 ((((List.range (k)).map (fun i:Nat=>(i:Int))).map encI:List (List PX.PV)).length+1)))] [(5,.row 3 1 true (((List.range (k)).map (fun i:Nat=>(i:Int))).map encI++[[(.sc (.I (k:Int)))]]))] 6 [.b (lenIs k (((List.range (k)).map (fun i:Nat=>(i:Int))).map encI)),.b (lenIs 1 ([[(.sc (.I (k:Int)))]])),.b (Nat.ble ((((List.range (k)).map (fun i:Nat=>(i:Int))).map encI:List (List PX.PV)).length+1) 1000000000)] [] [.au,.au,.au,.au,.au] [2,3,5,6,7] [1,2,5] hS hE ⟨by simp [PX.lenIs],rfl,by simp; omega,trivial⟩ fun a w hS=>?_
  refine hK5 _ _ ?_
  refine PX.G0 [(.e 7 (.sc (.I ((k+1:Nat):Int))))] [] 6 [.q ((.sc (.I (IntKind.i64.wrap ((k:Int)+1))):PX.PV)=(.sc (.I ((k+1:Nat):Int))))] [] [.au,.nm (.sc (.I ((k+1:Nat):Int))),.au] [2,3,5,6,7] [1,2,5] hS hE ⟨PX.nm_int (by rw [IntWalk.i64_in _ (by omega)]; omega),trivial⟩ fun a w hS=>?_
  have hkb:(k:Int)<b.params:=by simpa using h4
  have e1:(((List.range (k)).map (fun i:Nat=>(i:Int))).map encI++[[(.sc (.I (k:Int)))]])=((List.range (k+1)).map (fun i:Nat=>(i:Int))).map encI:=by rw [List.range_succ]; simp [encI]
  have e2:(((List.range (k)).map (fun i:Nat=>(i:Int))).map encI:List (List PX.PV)).length+1=k+1:=by simp
  rw [e2,e1] at hS
  exact ⟨b.params.toNat-(k+1),by omega,k+1,rfl,by omega,trivial,(PX.cn [(3,5)] _ _ 4 hS hE)⟩
 ·skip
  refine wp_exit ?_
  refine hK1 _ _ ?_
  refine wp_seq_k fun K6 hK6=>?_
  refine PX.G [(.e 23 (.imm 11 (b.ops.map encO))),(.e 24 (.sc (.I (b.ops.length:Int)))),(.e 25 (.J 0))] [] 4 [.q ((.sc (.I (((b.ops.map encO).length:Nat):Int)):PX.PV)=(.sc (.I (b.ops.length:Int))))] [] [.au,.au,.nm (.sc (.I (b.ops.length:Int))),.au] [2,3,5,6,23,24,25] [1,2,3] hS hE ⟨PX.nm_len (by simp),trivial⟩ fun a w hS=>?_
  refine wp_block ?_
  have hkb:k=b.params.toNat:=by have:=h4; simp at this; omega
  have e1:((List.range (k)).map (fun i:Nat=>(i:Int))).map encI=(R.upto b.params++dsts (b.ops.take (0))).map encI:=by rw [hkb]; simp [dsts,R.upto]
  have e2:k=(R.upto b.params++dsts (b.ops.take (0))).length:=by rw [hkb]; simp [dsts,R.upto]
  rw [e1,e2] at hS
  refine wp_loop_ghost (fun m7 a' w'=>∃ j:Nat,m7=b.ops.length-j∧j≤b.ops.length∧Upto b.ops (fun i o=>stepB c b.params (R.values b) (R.upto b.params++dsts (b.ops.take i)) o) (j)∧PX.Sat E 173 [(.e 2 (.ptr 1 0)),(.e 3 (.ptr 2 0)),(.e 5 (.imm 1 ((R.values b).map encI))),(.e 6 (.own 3 1 ((R.upto b.params++dsts (b.ops.take (j))).length))),(.e 23 (.imm 11 (b.ops.map encO))),(.e 24 (.sc (.I (b.ops.length:Int)))),(.e 25 (.sc (.I (j:Int))))] [(1,.box 26 (codeL c)),(2,.box 62 (encB b)),(3,.row 3 1 true ((R.upto b.params++dsts (b.ops.take (j))).map encI))] 4 a' w') (b.ops.length-0) ⟨0,rfl,Nat.zero_le _,Upto.zero,(PX.cn [] _ _ 4 hS hE)⟩ ?_
  clear hS; rintro m7 a w ⟨j,hm7,hlej,hIj,hS⟩
  refine PX.G [(.e 26 (.sc (.bool (decide ((j:Int)<(b.ops.length:Int))))))] [] 4 [] [] [.au] [2,3,5,6,23,24,25,26] [1,2,3] hS hE trivial fun a w hS=>?_
  refine wp_seq_k fun K8 hK8=>?_
  refine PX.cond_s (decide ((j:Int)<(b.ops.length:Int))) hS (by kernel_rfl) (fun h9=>?_) (fun h9=>?_)
  ·skip
   refine wp_skip ?_
   refine hK8 _ _ ?_
   refine wp_seq_k fun K10 hK10=>?_
   refine wp_block ?_
   have hlty:j<b.ops.length:=by simpa using h9
   obtain ⟨y,hy⟩:=get_of_lt hlty
   refine PX.G [(.e 9 (.ptr 4 0))] [(4,.box 74 (encO y))] 5 [.q ((j:Int)=(j:Int)),.q ((b.ops.map encO)[j]?=some (encO y))] [] [.ix j (encO y),.au,.au,.au] [2,3,5,6,9,23,24,25] [1,2,3,4] hS hE ⟨rfl,PX.map_get hy,trivial⟩ fun a w hS=>?_
   refine wp_seq_k fun K11 hK11=>?_
   refine PX.G [(.e 65 (.sc (.bool ((((decide (y.kind<1)||decide (21<y.kind))||(!(R.plain y)))||((R.usesA y.kind)&&(!(R.has (R.upto b.params++dsts (b.ops.take (j))) y.a))))||((R.usesB y.kind)&&(!(R.has (R.upto b.params++dsts (b.ops.take (j))) y.b)))))))] [] 5 [.q (SX.pv [(3,decide (y.kind<1)),(8,(decide (y.kind<1)||decide (21<y.kind))),(13,((decide (y.kind<1)||decide (21<y.kind))||(!(R.plain y)))),(17,(R.usesA y.kind)),(25,(((decide (y.kind<1)||decide (21<y.kind))||(!(R.plain y)))||((R.usesA y.kind)&&(!(R.has (R.upto b.params++dsts (b.ops.take (j))) y.a))))),(29,(R.usesB y.kind))] [(8,false)]=true→PX.AllOb [.q (PX.Con Try.prog 87 [(.agg (encO y))] [] 5 5 (.sc (.bool (R.plain y))) [])]),.q (SX.pv [(3,decide (y.kind<1)),(8,(decide (y.kind<1)||decide (21<y.kind))),(13,((decide (y.kind<1)||decide (21<y.kind))||(!(R.plain y)))),(17,(R.usesA y.kind)),(25,(((decide (y.kind<1)||decide (21<y.kind))||(!(R.plain y)))||((R.usesA y.kind)&&(!(R.has (R.upto b.params++dsts (b.ops.take (j))) y.a))))),(29,(R.usesB y.kind))] [(13,false)]=true→PX.AllOb [.q (PX.Con Try.prog 88 [(.J y.kind)] [] 5 5 (.sc (.bool (R.usesA y.kind))) [])]),.q (SX.pv [(3,decide (y.kind<1)),(8,(decide (y.kind<1)||decide (21<y.kind))),(13,((decide (y.kind<1)||decide (21<y.kind))||(!(R.plain y)))),(17,(R.usesA y.kind)),(25,(((decide (y.kind<1)||decide (21<y.kind))||(!(R.plain y)))||((R.usesA y.kind)&&(!(R.has (R.upto b.params++dsts (b.ops.take (j))) y.a))))),(29,(R.usesB y.kind))] [(17,true),(13,false)]=true→PX.AllOb [.q (PX.Con Try.prog 71 [(.imm 1 ((R.upto b.params++dsts (b.ops.take (j))).map encI)),(.J y.a)] [] 5 5 (.sc (.bool (R.has (R.upto b.params++dsts (b.ops.take (j))) y.a))) []),.b (PX.lenIs ((R.upto b.params++dsts (b.ops.take (j))).length) ((R.upto b.params++dsts (b.ops.take (j))).map encI))]),.q (SX.pv [(3,decide (y.kind<1)),(8,(decide (y.kind<1)||decide (21<y.kind))),(13,((decide (y.kind<1)||decide (21<y.kind))||(!(R.plain y)))),(17,(R.usesA y.kind)),(25,(((decide (y.kind<1)||decide (21<y.kind))||(!(R.plain y)))||((R.usesA y.kind)&&(!(R.has (R.upto b.params++dsts (b.ops.take (j))) y.a))))),(29,(R.usesB y.kind))] [(25,false)]=true→PX.AllOb [.q (PX.Con Try.prog 89 [(.J y.kind)] [] 5 5 (.sc (.bool (R.usesB y.kind))) [])]),.q (SX.pv [(3,decide (y.kind<1)),(8,(decide (y.kind<1)||decide (21<y.kind))),(13,((decide (y.kind<1)||decide (21<y.kind))||(!(R.plain y)))),(17,(R.usesA y.kind)),(25,(((decide (y.kind<1)||decide (21<y.kind))||(!(R.plain y)))||((R.usesA y.kind)&&(!(R.has (R.upto b.params++dsts (b.ops.take (j))) y.a))))),(29,(R.usesB y.kind))] [(29,true),(25,false)]=true→PX.AllOb [.q (PX.Con Try.prog 71 [(.imm 1 ((R.upto b.params++dsts (b.ops.take (j))).map encI)),(.J y.b)] [] 5 5 (.sc (.bool (R.has (R.upto b.params++dsts (b.ops.take (j))) y.b))) []),.b (PX.lenIs ((R.upto b.params++dsts (b.ops.take (j))).length) ((R.upto b.params++dsts (b.ops.take (j))).map encI))])] [(3,decide (y.kind<1)),(8,(decide (y.kind<1)||decide (21<y.kind))),(13,((decide (y.kind<1)||decide (21<y.kind))||(!(R.plain y)))),(17,(R.usesA y.kind)),(25,(((decide (y.kind<1)||decide (21<y.kind))||(!(R.plain y)))||((R.usesA y.kind)&&(!(R.has (R.upto b.params++dsts (b.ops.take (j))) y.a))))),(29,(R.usesB y.kind))] [.au,.au,.au,.au,.au,.au,.au,.pk,.au,.au,.cl [] (.sc (.bool (R.plain y))) [] 5,.au,.pk,.au,.au,.au,.cl [] (.sc (.bool (R.usesA y.kind))) [] 5,.au,.au,.au,.au,.cr [3] (.bool (R.has (R.upto b.params++dsts (b.ops.take (j))) y.a)),.au,.pk,.pk,.au,.au,.au,.cl [] (.sc (.bool (R.usesB y.kind))) [] 5,.au,.au,.au,.au,.cr [3] (.bool (R.has (R.upto b.params++dsts (b.ops.take (j))) y.b)),.au,.pk,.pk] [2,3,5,6,9,23,24,25,65] [1,2,3,4] hS hE ⟨fun hg=>⟨PX.con_any (con_f87 y),trivial⟩,fun hg=>⟨PX.con_any (con_a88 y.kind),trivial⟩,fun hg=>⟨PX.con_any (con_h71 (R.upto b.params++dsts (b.ops.take (j))) y.a (by have h1:=dsts_le b.ops j; have h2:=upto_len b.params; rw [List.length_append,h2]; omega)),by simp [PX.lenIs],trivial⟩,fun hg=>⟨PX.con_any (con_b89 y.kind),trivial⟩,fun hg=>⟨PX.con_any (con_h71 (R.upto b.params++dsts (b.ops.take (j))) y.b (by have h1:=dsts_le b.ops j; have h2:=upto_len b.params; rw [List.length_append,h2]; omega)),by simp [PX.lenIs],trivial⟩,trivial⟩ fun a w hS=>?_
   refine PX.cond_s ((((decide (y.kind<1)||decide (21<y.kind))||(!(R.plain y)))||((R.usesA y.kind)&&(!(R.has (R.upto b.params++dsts (b.ops.take (j))) y.a))))||((R.usesB y.kind)&&(!(R.has (R.upto b.params++dsts (b.ops.take (j))) y.b)))) hS (by kernel_rfl) (fun h12=>?_) (fun h12=>?_)
   ·skip
    refine PX.G [(.e 4 (.sc (.bool false)))] [] 5 [] [] [.au] [2,3,4,5,6,23,24,25] [1,2,3] hS hE trivial fun a w hS=>?_
    refine wp_ret ?_
    have hq:(fun i o=>stepB c b.params (R.values b) (R.upto b.params++dsts (b.ops.take i)) o) j y=false:=by show stepB c b.params (R.values b) (R.upto b.params++dsts (b.ops.take j)) y=false; unfold stepB R.head; rw [h12]; rfl
    rw [show (.sc (.bool (R.ops c b)))=((.sc (.bool false)):PX.PV) from by rw [ops_all,← allAt_no hy hq]]
    exact PX.rt hS hE (.inl rfl)
   ·skip
    refine wp_skip ?_
    refine hK11 _ _ ?_
    refine PX.seq_cutq (E:=E) (N:=173) (T:=[(.e 2 (.ptr 1 0)),(.e 3 (.ptr 2 0)),(.e 5 (.imm 1 ((R.values b).map encI))),(.e 6 (.own 3 1 ((R.upto b.params++dsts (b.ops.take (j+1))).length))),(.e 9 (.ptr 4 0)),(.e 23 (.imm 11 (b.ops.map encO))),(.e 24 (.sc (.I (b.ops.length:Int)))),(.e 25 (.sc (.I (j:Int))))]) (H:=[(1,.box 26 (codeL c)),(2,.box 62 (encB b)),(3,.row 3 1 true ((R.upto b.params++dsts (b.ops.take (j+1))).map encI)),(4,.box 74 (encO y))]) (nx:=5) ((!R.defines y.kind||!(decide (y.dst<b.params)||decide (9999<y.dst)||R.has (R.upto b.params++dsts (b.ops.take (j))) y.dst))=true) ?_ ?_
    ·skip
     refine PX.G [(.e 68 (.sc (.bool (R.defines y.kind))))] [] 5 [.q (PX.Con Try.prog 90 [(.J y.kind)] [] 5 5 (.sc (.bool (R.defines y.kind))) [])] [] [.au,.au,.cl [] (.sc (.bool (R.defines y.kind))) [] 5] [2,3,5,6,9,23,24,25,68] [1,2,3,4] hS hE ⟨PX.con_any (con_d90 y.kind),trivial⟩ fun a w hS=>?_
     refine PX.cond_s (R.defines y.kind) hS (by kernel_rfl) (fun h14=>?_) (fun h14=>?_)
     ·skip
      refine wp_seq_k fun K15 hK15=>?_
      refine PX.G [(.e 84 (.sc (.bool ((decide (y.dst<b.params)||decide (9999<y.dst))||(R.has (R.upto b.params++dsts (b.ops.take (j))) y.dst)))))] [] 5 [.q (SX.pv [(5,decide (y.dst<b.params)),(10,(decide (y.dst<b.params)||decide (9999<y.dst)))] [(10,false)]=true→PX.AllOb [.q (PX.Con Try.prog 71 [(.imm 1 ((R.upto b.params++dsts (b.ops.take (j))).map encI)),(.J y.dst)] [] 5 5 (.sc (.bool (R.has (R.upto b.params++dsts (b.ops.take (j))) y.dst))) []),.b (PX.lenIs ((R.upto b.params++dsts (b.ops.take (j))).length) ((R.upto b.params++dsts (b.ops.take (j))).map encI))])] [(5,decide (y.dst<b.params)),(10,(decide (y.dst<b.params)||decide (9999<y.dst)))] [.au,.au,.au,.au,.au,.au,.au,.au,.au,.pk,.au,.au,.au,.au,.cr [3] (.bool (R.has (R.upto b.params++dsts (b.ops.take (j))) y.dst)),.pk] [2,3,5,6,9,23,24,25,84] [1,2,3,4] hS hE ⟨fun hg=>⟨PX.con_any (con_h71 (R.upto b.params++dsts (b.ops.take (j))) y.dst (by have h1:=dsts_le b.ops j; have h2:=upto_len b.params; rw [List.length_append,h2]; omega)),by simp [PX.lenIs],trivial⟩,trivial⟩ fun a w hS=>?_
      refine PX.cond_s ((decide (y.dst<b.params)||decide (9999<y.dst))||(R.has (R.upto b.params++dsts (b.ops.take (j))) y.dst)) hS (by kernel_rfl) (fun h16=>?_) (fun h16=>?_)
      ·skip
       refine PX.G [(.e 4 (.sc (.bool false)))] [] 5 [] [] [.au] [2,3,4,5,6,9,23,24,25] [1,2,3,4] hS hE trivial fun a w hS=>?_
       refine wp_ret ?_
       have hq:(fun i o=>stepB c b.params (R.values b) (R.upto b.params++dsts (b.ops.take i)) o) j y=false:=by show stepB c b.params (R.values b) (R.upto b.params++dsts (b.ops.take j)) y=false; unfold stepB R.head; rw [h12,h14,h16]; rfl
       rw [show (.sc (.bool (R.ops c b)))=((.sc (.bool false)):PX.PV) from by rw [ops_all,← allAt_no hy hq]]
       exact PX.rt hS hE (.inl rfl)
      ·skip
       refine wp_skip ?_
       refine hK15 _ _ ?_
       refine PX.G0 [(.e 6 (.own 6 1 (((R.upto b.params++dsts (b.ops.take (j))).map encI:List (List PX.PV)).length+1)))] [(6,.row 3 1 true ((R.upto b.params++dsts (b.ops.take (j))).map encI++[[(.J y.dst)]]))] 7 [.b (lenIs ((R.upto b.params++dsts (b.ops.take (j))).length) ((R.upto b.params++dsts (b.ops.take (j))).map encI)),.b (lenIs 1 ([[(.J y.dst)]])),.b (Nat.ble (((R.upto b.params++dsts (b.ops.take (j))).map encI:List (List PX.PV)).length+1) 1000000000)] [] [.au,.au,.au,.au,.au,.au] [2,3,5,6,9,23,24,25] [1,2,4,6] hS hE ⟨by simp [PX.lenIs],rfl,by have:=dsts_le b.ops j; simp [upto_len] at this ⊢; omega,trivial⟩ fun a w hS=>?_
       have ed:=dsts_yes hy h14
       have e1:((R.upto b.params++dsts (b.ops.take (j))).map encI++[[(.J y.dst)]])=(R.upto b.params++dsts (b.ops.take (j+1))).map encI:=by rw [ed]; simp [encI]
       have e2:((R.upto b.params++dsts (b.ops.take (j))).map encI:List (List PX.PV)).length+1=(R.upto b.params++dsts (b.ops.take (j+1))).length:=by rw [ed]; simp; omega
       rw [e2,e1] at hS
       exact And.intro (by rw [h14,h16]; rfl) (PX.cn [(3,6)] _ _ 5 hS hE)
     ·skip
      refine wp_skip ?_
      rw [show (R.upto b.params++dsts (b.ops.take (j)))=(R.upto b.params++dsts (b.ops.take (j+1))) from by rw [dsts_no hy h14]] at hS
      replace hS:=PX.sl [2,3,5,6,9,23,24,25] hS
      exact And.intro (by rw [h14]; rfl) (PX.cn [] _ _ 5 hS hE)
    clear hS; intro hx13 a w hS
    refine PX.G [(.e 91 (.J y.kind))] [] 5 [] [] [.au,.au] [2,3,5,6,9,23,24,25,91] [1,2,3,4] hS hE trivial fun a w hS=>?_
    refine wp_block ?_
    refine PX.seq_cutq (E:=E) (N:=173) (T:=[(.e 2 (.ptr 1 0)),(.e 3 (.ptr 2 0)),(.e 5 (.imm 1 ((R.values b).map encI))),(.e 6 (.own 3 1 ((R.upto b.params++dsts (b.ops.take (j+1))).length))),(.e 9 (.ptr 4 0)),(.e 23 (.imm 11 (b.ops.map encO))),(.e 24 (.sc (.I (b.ops.length:Int)))),(.e 25 (.sc (.I (j:Int)))),(.e 91 (.J y.kind)),(.e 92 (.sc (.bool (y.kind==15||y.kind==16||y.kind==17))))]) (H:=[(1,.box 26 (codeL c)),(2,.box 62 (encB b)),(3,.row 3 1 true ((R.upto b.params++dsts (b.ops.take (j+1))).map encI)),(4,.box 74 (encO y))]) (nx:=5) (True) ?_ ?_
    ·skip
     refine PX.G [(.e 92 (.sc (.bool (y.kind==15))))] [] 5 [] [] [.au,.au] [2,3,5,6,9,23,24,25,91,92] [1,2,3,4] hS hE trivial fun a w hS=>?_
     refine PX.cond_s (y.kind==15) hS (by kernel_rfl) (fun h18=>?_) (fun h18=>?_)
     ·skip
      refine wp_skip ?_
      replace hS:=PX.sl [2,3,5,6,9,23,24,25,91,92] (PX.reslot (t:=92) (.sc (.bool (y.kind==15||y.kind==16||y.kind==17))) hS rfl (fun _ _ _ _ h=>(show PX.PV.sc (.bool (y.kind==15))=.sc (.bool (y.kind==15||y.kind==16||y.kind==17)) from by simp only [h18,Bool.or_true,Bool.true_or,Bool.or_false,Bool.false_or]) ▸ h))
      exact And.intro (trivial) (PX.cn [] _ _ 5 hS hE)
     ·skip
      refine PX.G [(.e 92 (.sc (.bool (y.kind==16))))] [] 5 [] [] [.au,.au] [2,3,5,6,9,23,24,25,91,92] [1,2,3,4] hS hE trivial fun a w hS=>?_
      refine PX.cond_s (y.kind==16) hS (by kernel_rfl) (fun h19=>?_) (fun h19=>?_)
      ·skip
       refine wp_skip ?_
       replace hS:=PX.sl [2,3,5,6,9,23,24,25,91,92] (PX.reslot (t:=92) (.sc (.bool (y.kind==15||y.kind==16||y.kind==17))) hS rfl (fun _ _ _ _ h=>(show PX.PV.sc (.bool (y.kind==16))=.sc (.bool (y.kind==15||y.kind==16||y.kind==17)) from by simp only [h18,h19,Bool.or_true,Bool.true_or,Bool.or_false,Bool.false_or]) ▸ h))
       exact And.intro (trivial) (PX.cn [] _ _ 5 hS hE)
      ·skip
       refine PX.G0 [(.e 92 (.sc (.bool (y.kind==17))))] [] 5 [] [] [.au,.au] [2,3,5,6,9,23,24,25,91,92] [1,2,3,4] hS hE trivial fun a w hS=>?_
       replace hS:=PX.sl [2,3,5,6,9,23,24,25,91,92] (PX.reslot (t:=92) (.sc (.bool (y.kind==15||y.kind==16||y.kind==17))) hS rfl (fun _ _ _ _ h=>(show PX.PV.sc (.bool (y.kind==17))=.sc (.bool (y.kind==15||y.kind==16||y.kind==17)) from by simp only [h18,h19,Bool.or_true,Bool.true_or,Bool.or_false,Bool.false_or]) ▸ h))
       exact And.intro (trivial) (PX.cn [] _ _ 5 hS hE)
    clear hS; intro hx17 a w hS
    refine PX.cond_s (y.kind==15||y.kind==16||y.kind==17) hS (by kernel_rfl) (fun h20=>?_) (fun h20=>?_)
    ·skip
     refine PX.G [(.e 106 (.sc (.bool (decide (y.n<0)||decide ((c.objects.length:Int)≤y.n)))))] [] 5 [.q (SX.pv [(3,decide (y.n<0))] [(3,false)]=true→PX.AllOb [.q ((.sc (.I (((c.objects.map encR).length:Nat):Int)):PX.PV)=(.sc (.I (c.objects.length:Int))))])] [(3,decide (y.n<0))] [.au,.au,.au,.au,.au,.au,.au,.au,.nm (.sc (.I (c.objects.length:Int))),.au,.pk] [2,3,5,6,23,24,25,106] [1,2,3] hS hE ⟨fun hg=>⟨PX.nm_len (by simp),trivial⟩,trivial⟩ fun a w hS=>?_
     refine PX.cond_s (decide (y.n<0)||decide ((c.objects.length:Int)≤y.n)) hS (by kernel_rfl) (fun h21=>?_) (fun h21=>?_)
     ·skip
      refine PX.G [(.e 4 (.sc (.bool false)))] [] 5 [] [] [.au] [2,3,4,5,6,23,24,25] [1,2,3] hS hE trivial fun a w hS=>?_
      refine wp_ret ?_
      have hq:(fun i o=>stepB c b.params (R.values b) (R.upto b.params++dsts (b.ops.take i)) o) j y=false:=by show stepB c b.params (R.values b) (R.upto b.params++dsts (b.ops.take j)) y=false; unfold stepB R.head; rw [h12,hx13,tail_obj h20,h21]; rfl
      rw [show (.sc (.bool (R.ops c b)))=((.sc (.bool false)):PX.PV) from by rw [ops_all,← allAt_no hy hq]]
      exact PX.rt hS hE (.inl rfl)
     ·skip
      refine wp_skip ?_
      refine hK10 _ _ ?_
      refine PX.G0 [(.e 25 (.sc (.I ((j+1:Nat):Int))))] [] 5 [.q ((.sc (.I (IntKind.i64.wrap ((j:Int)+1))):PX.PV)=(.sc (.I ((j+1:Nat):Int))))] [] [.nm (.sc (.I ((j+1:Nat):Int))),.au] [2,3,5,6,23,24,25] [1,2,3] hS hE ⟨PX.nm_int (by rw [IntWalk.i64_in _ (by omega)]; omega),trivial⟩ fun a w hS=>?_
      exact ⟨b.ops.length-(j+1),by omega,j+1,rfl,by omega,hIj.step hy (by unfold stepB R.head; rw [h12,hx13]; rw [tail_obj h20,h21]; rfl),(PX.cn [] _ _ 4 hS hE)⟩
    ·skip
     refine PX.seq_cutq (E:=E) (N:=173) (T:=[(.e 2 (.ptr 1 0)),(.e 3 (.ptr 2 0)),(.e 5 (.imm 1 ((R.values b).map encI))),(.e 6 (.own 3 1 ((R.upto b.params++dsts (b.ops.take (j+1))).length))),(.e 9 (.ptr 4 0)),(.e 23 (.imm 11 (b.ops.map encO))),(.e 24 (.sc (.I (b.ops.length:Int)))),(.e 25 (.sc (.I (j:Int)))),(.e 91 (.J y.kind)),(.e 107 (.sc (.bool (y.kind==19||y.kind==20))))]) (H:=[(1,.box 26 (codeL c)),(2,.box 62 (encB b)),(3,.row 3 1 true ((R.upto b.params++dsts (b.ops.take (j+1))).map encI)),(4,.box 74 (encO y))]) (nx:=5) (True) ?_ ?_
     ·skip
      refine PX.G [(.e 107 (.sc (.bool (y.kind==19))))] [] 5 [] [] [.au,.au] [2,3,5,6,9,23,24,25,91,107] [1,2,3,4] hS hE trivial fun a w hS=>?_
      refine PX.cond_s (y.kind==19) hS (by kernel_rfl) (fun h23=>?_) (fun h23=>?_)
      ·skip
       refine wp_skip ?_
       replace hS:=PX.sl [2,3,5,6,9,23,24,25,91,107] (PX.reslot (t:=107) (.sc (.bool (y.kind==19||y.kind==20))) hS rfl (fun _ _ _ _ h=>(show PX.PV.sc (.bool (y.kind==19))=.sc (.bool (y.kind==19||y.kind==20)) from by simp only [h23,Bool.or_true,Bool.true_or,Bool.or_false,Bool.false_or]) ▸ h))
       exact And.intro (trivial) (PX.cn [] _ _ 5 hS hE)
      ·skip
       refine PX.G0 [(.e 107 (.sc (.bool (y.kind==20))))] [] 5 [] [] [.au,.au] [2,3,5,6,9,23,24,25,91,107] [1,2,3,4] hS hE trivial fun a w hS=>?_
       replace hS:=PX.sl [2,3,5,6,9,23,24,25,91,107] (PX.reslot (t:=107) (.sc (.bool (y.kind==19||y.kind==20))) hS rfl (fun _ _ _ _ h=>(show PX.PV.sc (.bool (y.kind==20))=.sc (.bool (y.kind==19||y.kind==20)) from by simp only [h23,Bool.or_true,Bool.true_or,Bool.or_false,Bool.false_or]) ▸ h))
       exact And.intro (trivial) (PX.cn [] _ _ 5 hS hE)
     clear hS; intro hx22 a w hS
     refine PX.cond_s (y.kind==19||y.kind==20) hS (by kernel_rfl) (fun h24=>?_) (fun h24=>?_)
     ·skip
      refine PX.G [(.e 130 (.sc (.bool (((decide (y.n<0)||decide (9999<y.n))||decide (y.ctx<0))||decide ((c.contexts.length:Int)≤y.ctx)))))] [] 5 [.q (SX.pv [(3,decide (y.n<0)),(8,(decide (y.n<0)||decide (9999<y.n))),(13,((decide (y.n<0)||decide (9999<y.n))||decide (y.ctx<0)))] [(13,false)]=true→PX.AllOb [.q ((.sc (.I (((c.contexts.map encR).length:Nat):Int)):PX.PV)=(.sc (.I (c.contexts.length:Int))))])] [(3,decide (y.n<0)),(8,(decide (y.n<0)||decide (9999<y.n))),(13,((decide (y.n<0)||decide (9999<y.n))||decide (y.ctx<0)))] [.au,.au,.au,.au,.au,.au,.au,.pk,.au,.au,.au,.au,.pk,.au,.au,.au,.au,.au,.nm (.sc (.I (c.contexts.length:Int))),.au,.pk] [2,3,5,6,23,24,25,130] [1,2,3] hS hE ⟨fun hg=>⟨PX.nm_len (by simp),trivial⟩,trivial⟩ fun a w hS=>?_
      refine PX.cond_s (((decide (y.n<0)||decide (9999<y.n))||decide (y.ctx<0))||decide ((c.contexts.length:Int)≤y.ctx)) hS (by kernel_rfl) (fun h25=>?_) (fun h25=>?_)
      ·skip
       refine PX.G [(.e 4 (.sc (.bool false)))] [] 5 [] [] [.au] [2,3,4,5,6,23,24,25] [1,2,3] hS hE trivial fun a w hS=>?_
       refine wp_ret ?_
       have hq:(fun i o=>stepB c b.params (R.values b) (R.upto b.params++dsts (b.ops.take i)) o) j y=false:=by show stepB c b.params (R.values b) (R.upto b.params++dsts (b.ops.take j)) y=false; unfold stepB R.head; rw [h12,hx13,tail_mark h20 h24,h25]; rfl
       rw [show (.sc (.bool (R.ops c b)))=((.sc (.bool false)):PX.PV) from by rw [ops_all,← allAt_no hy hq]]
       exact PX.rt hS hE (.inl rfl)
      ·skip
       refine wp_skip ?_
       refine hK10 _ _ ?_
       refine PX.G0 [(.e 25 (.sc (.I ((j+1:Nat):Int))))] [] 5 [.q ((.sc (.I (IntKind.i64.wrap ((j:Int)+1))):PX.PV)=(.sc (.I ((j+1:Nat):Int))))] [] [.nm (.sc (.I ((j+1:Nat):Int))),.au] [2,3,5,6,23,24,25] [1,2,3] hS hE ⟨PX.nm_int (by rw [IntWalk.i64_in _ (by omega)]; omega),trivial⟩ fun a w hS=>?_
       exact ⟨b.ops.length-(j+1),by omega,j+1,rfl,by omega,hIj.step hy (by unfold stepB R.head; rw [h12,hx13]; rw [tail_mark h20 h24,h25]; rfl),(PX.cn [] _ _ 4 hS hE)⟩
     ·skip
      refine PX.G [(.e 131 (.sc (.bool (y.kind==21))))] [] 5 [] [] [.au,.au] [2,3,5,6,9,23,24,25,131] [1,2,3,4] hS hE trivial fun a w hS=>?_
      refine PX.cond_s (y.kind==21) hS (by kernel_rfl) (fun h26=>?_) (fun h26=>?_)
      ·skip
       refine PX.G [(.e 171 (.sc (.bool ((((((decide (y.ctx<0)||decide ((c.contexts.length:Int)≤y.ctx))||decide (y.var<0))||decide (24≤y.var))||decide (y.piece<0))||decide (4≤y.piece))||(!(R.source c y (R.values b)))))))] [] 5 [.q (SX.pv [(3,decide (y.ctx<0)),(11,(decide (y.ctx<0)||decide ((c.contexts.length:Int)≤y.ctx))),(16,((decide (y.ctx<0)||decide ((c.contexts.length:Int)≤y.ctx))||decide (y.var<0))),(21,(((decide (y.ctx<0)||decide ((c.contexts.length:Int)≤y.ctx))||decide (y.var<0))||decide (24≤y.var))),(26,((((decide (y.ctx<0)||decide ((c.contexts.length:Int)≤y.ctx))||decide (y.var<0))||decide (24≤y.var))||decide (y.piece<0))),(31,(((((decide (y.ctx<0)||decide ((c.contexts.length:Int)≤y.ctx))||decide (y.var<0))||decide (24≤y.var))||decide (y.piece<0))||decide (4≤y.piece)))] [(3,false)]=true→PX.AllOb [.q ((.sc (.I (((c.contexts.map encR).length:Nat):Int)):PX.PV)=(.sc (.I (c.contexts.length:Int))))]),.q (SX.pv [(3,decide (y.ctx<0)),(11,(decide (y.ctx<0)||decide ((c.contexts.length:Int)≤y.ctx))),(16,((decide (y.ctx<0)||decide ((c.contexts.length:Int)≤y.ctx))||decide (y.var<0))),(21,(((decide (y.ctx<0)||decide ((c.contexts.length:Int)≤y.ctx))||decide (y.var<0))||decide (24≤y.var))),(26,((((decide (y.ctx<0)||decide ((c.contexts.length:Int)≤y.ctx))||decide (y.var<0))||decide (24≤y.var))||decide (y.piece<0))),(31,(((((decide (y.ctx<0)||decide ((c.contexts.length:Int)≤y.ctx))||decide (y.var<0))||decide (24≤y.var))||decide (y.piece<0))||decide (4≤y.piece)))] [(31,false)]=true→PX.AllOb [.q (PX.Con Try.prog 91 [(codeP c),(.agg [(.J y.sk),(.J y.sv),(.J y.sa)]),(.imm 1 ((R.values b).map encI))] [] 5 5 (.sc (.bool (R.source c y (R.values b)))) [])])] [(3,decide (y.ctx<0)),(11,(decide (y.ctx<0)||decide ((c.contexts.length:Int)≤y.ctx))),(16,((decide (y.ctx<0)||decide ((c.contexts.length:Int)≤y.ctx))||decide (y.var<0))),(21,(((decide (y.ctx<0)||decide ((c.contexts.length:Int)≤y.ctx))||decide (y.var<0))||decide (24≤y.var))),(26,((((decide (y.ctx<0)||decide ((c.contexts.length:Int)≤y.ctx))||decide (y.var<0))||decide (24≤y.var))||decide (y.piece<0))),(31,(((((decide (y.ctx<0)||decide ((c.contexts.length:Int)≤y.ctx))||decide (y.var<0))||decide (24≤y.var))||decide (y.piece<0))||decide (4≤y.piece)))] [.au,.au,.au,.au,.au,.au,.au,.au,.nm (.sc (.I (c.contexts.length:Int))),.au,.pk,.au,.au,.au,.au,.pk,.au,.au,.au,.au,.pk,.au,.au,.au,.au,.pk,.au,.au,.au,.au,.pk,.au,.au,.au,.au,.au,.cl [] (.sc (.bool (R.source c y (R.values b)))) [] 5,.au,.pk] [2,3,5,6,23,24,25,171] [1,2,3] hS hE ⟨fun hg=>⟨PX.nm_len (by simp),trivial⟩,fun hg=>⟨PX.con_any (con_f91 c y (R.values b) (by omega)),trivial⟩,trivial⟩ fun a w hS=>?_
       refine PX.cond_s ((((((decide (y.ctx<0)||decide ((c.contexts.length:Int)≤y.ctx))||decide (y.var<0))||decide (24≤y.var))||decide (y.piece<0))||decide (4≤y.piece))||(!(R.source c y (R.values b)))) hS (by kernel_rfl) (fun h27=>?_) (fun h27=>?_)
       ·skip
        refine PX.G [(.e 4 (.sc (.bool false)))] [] 5 [] [] [.au] [2,3,4,5,6,23,24,25] [1,2,3] hS hE trivial fun a w hS=>?_
        refine wp_ret ?_
        have hq:(fun i o=>stepB c b.params (R.values b) (R.upto b.params++dsts (b.ops.take i)) o) j y=false:=by show stepB c b.params (R.values b) (R.upto b.params++dsts (b.ops.take j)) y=false; unfold stepB R.head; rw [h12,hx13,tail_bind h20 h24 h26,h27]; rfl
        rw [show (.sc (.bool (R.ops c b)))=((.sc (.bool false)):PX.PV) from by rw [ops_all,← allAt_no hy hq]]
        exact PX.rt hS hE (.inl rfl)
       ·skip
        refine wp_skip ?_
        refine hK10 _ _ ?_
        refine PX.G0 [(.e 25 (.sc (.I ((j+1:Nat):Int))))] [] 5 [.q ((.sc (.I (IntKind.i64.wrap ((j:Int)+1))):PX.PV)=(.sc (.I ((j+1:Nat):Int))))] [] [.nm (.sc (.I ((j+1:Nat):Int))),.au] [2,3,5,6,23,24,25] [1,2,3] hS hE ⟨PX.nm_int (by rw [IntWalk.i64_in _ (by omega)]; omega),trivial⟩ fun a w hS=>?_
        exact ⟨b.ops.length-(j+1),by omega,j+1,rfl,by omega,hIj.step hy (by unfold stepB R.head; rw [h12,hx13]; rw [tail_bind h20 h24 h26,h27]; rfl),(PX.cn [] _ _ 4 hS hE)⟩
      ·skip
       refine wp_skip ?_
       refine hK10 _ _ ?_
       refine PX.G0 [(.e 25 (.sc (.I ((j+1:Nat):Int))))] [] 5 [.q ((.sc (.I (IntKind.i64.wrap ((j:Int)+1))):PX.PV)=(.sc (.I ((j+1:Nat):Int))))] [] [.nm (.sc (.I ((j+1:Nat):Int))),.au] [2,3,5,6,23,24,25] [1,2,3] hS hE ⟨PX.nm_int (by rw [IntWalk.i64_in _ (by omega)]; omega),trivial⟩ fun a w hS=>?_
       exact ⟨b.ops.length-(j+1),by omega,j+1,rfl,by omega,hIj.step hy (by unfold stepB R.head; rw [h12,hx13]; rw [tail_else h20 h24 h26]; rfl),(PX.cn [] _ _ 4 hS hE)⟩
  ·skip
   refine wp_exit ?_
   refine hK6 _ _ ?_
   refine PX.G [(.e 4 (.sc (.bool true)))] [] 4 [] [] [.au] [4] [] hS hE trivial fun a w hS=>?_
   refine wp_ret ?_
   rw [show (.sc (.bool (R.ops c b)))=((.sc (.bool true)):PX.PV) from by rw [ops_all,← hIj.allAt (le_of_dec h9)]]
   exact PX.rt hS hE (.inl rfl)
end Go.Proofs.Ytlkcidmmpeebeaa

/- Proved: ref06.CheckCode on plain data -/
namespace Go.Proofs.Ytlkcidmmpeebeaa
open Go.RowKit Go.PX
set_option maxRecDepth 100000
set_option maxHeartbeats 4000000 in
theorem con_f59 (c:CodeD) (b:BlockD) (hbl:BlkL b) (hbp:0≤b.params∧b.params≤999) (hol:b.ops.length≤6000):PX.Con Try.prog 59 [(codeP c),(.agg (encB b))] [] 1 100000 (.sc (.bool (R.term c b))) []:=by
 refine PX.con_intro [(codeP c),(.agg (encB b))] 167 Try.func59 rfl rfl (by kernel_rfl) (by kernel_rfl) ?_
 intro E a hE hS
 generalize E.w0=w at hS ⊢
 have mix:=mixed; have hvl:=values_le b hbp hol; have ha:=hbl.args; have ha0:=hbl.args0; have ha1:=hbl.args1
 refine PX.G [(.e 2 (.ptr 1 0)),(.e 3 (.ptr 2 0))] [(1,.box 26 (codeL c)),(2,.box 62 (encB b))] 3 [] [] [.au,.au,.au] [2,3] [1,2] hS hE trivial fun a w hS=>?_
 refine PX.D [(.e 5 (.ptr 3 0)),(.e 6 (.imm 1 ((R.values b).map encI)))] [(3,.box 60 [(.J b.term.kind),(.J b.term.a),(.J b.term.n),(.imm 1 (b.term.args.map encI)),(.J b.term.b0),(.imm 1 (b.term.args0.map encI)),(.J b.term.b1),(.imm 1 (b.term.args1.map encI))])] 4 [.q (PX.Con Try.prog 86 [(.agg (encB b))] [] 3 3 (.imm 1 ((R.values b).map encI)) [])] [] [.au,.au,.au,.cl [] (.imm 1 ((R.values b).map encI)) [] 3,.au,.au,.au] [2,5,6] [1,3] hS mixed hE ⟨PX.con_any (con_v86 b hbp (by omega)),trivial⟩ fun a w hS=>?_
 refine PX.G [(.e 7 (.sc (.bool ((b.term.kind==3)||(b.term.kind==6)))))] [] 4 [] [(3,(b.term.kind==3))] [.au,.au,.au,.au,.au,.au,.au,.pk,.au] [2,5,6,7] [1,3] hS hE trivial fun a w hS=>?_
 refine PX.G [(.e 8 (.sc (.bool (((b.term.kind==2)||(b.term.kind==4))||(b.term.kind==5)))))] [] 4 [] [(3,(b.term.kind==2)),(8,((b.term.kind==2)||(b.term.kind==4)))] [.au,.au,.au,.au,.au,.au,.au,.pk,.au,.au,.au,.au,.pk,.au] [2,5,6,7,8] [1,3] hS hE trivial fun a w hS=>?_
 refine wp_seq_k fun K1 hK1=>?_
 refine PX.G [(.e 86 (.sc (.bool (((((((b.term.kind==2)||(b.term.kind==4))||(b.term.kind==5))&&(!(R.has (R.values b) b.term.a)))||((!(((b.term.kind==2)||(b.term.kind==4))||(b.term.kind==5)))&&(b.term.a != 0)))||((!((b.term.kind==3)||(b.term.kind==6)))&&((b.term.n != 0)||decide (0<(b.term.args.length:Int)))))||(((b.term.kind==3)||(b.term.kind==6))&&((decide (b.term.n<0)||decide (8≤b.term.n))||decide (4<(b.term.args.length:Int))))))))] [] 4 [.q (SX.pv [(1,(((b.term.kind==2)||(b.term.kind==4))||(b.term.kind==5))),(8,((((b.term.kind==2)||(b.term.kind==4))||(b.term.kind==5))&&(!(R.has (R.values b) b.term.a)))),(11,(!(((b.term.kind==2)||(b.term.kind==4))||(b.term.kind==5)))),(17,(((((b.term.kind==2)||(b.term.kind==4))||(b.term.kind==5))&&(!(R.has (R.values b) b.term.a)))||((!(((b.term.kind==2)||(b.term.kind==4))||(b.term.kind==5)))&&(b.term.a != 0)))),(20,(!((b.term.kind==3)||(b.term.kind==6)))),(24,(b.term.n != 0)),(32,((((((b.term.kind==2)||(b.term.kind==4))||(b.term.kind==5))&&(!(R.has (R.values b) b.term.a)))||((!(((b.term.kind==2)||(b.term.kind==4))||(b.term.kind==5)))&&(b.term.a != 0)))||((!((b.term.kind==3)||(b.term.kind==6)))&&((b.term.n != 0)||decide (0<(b.term.args.length:Int)))))),(34,((b.term.kind==3)||(b.term.kind==6))),(38,decide (b.term.n<0)),(43,(decide (b.term.n<0)||decide (8≤b.term.n)))] [(1,true)]=true→PX.AllOb [.q (PX.Con Try.prog 71 [(.imm 1 ((R.values b).map encI)),(.J b.term.a)] [] 4 4 (.sc (.bool (R.has (R.values b) b.term.a))) [])]),.q (SX.pv [(1,(((b.term.kind==2)||(b.term.kind==4))||(b.term.kind==5))),(8,((((b.term.kind==2)||(b.term.kind==4))||(b.term.kind==5))&&(!(R.has (R.values b) b.term.a)))),(11,(!(((b.term.kind==2)||(b.term.kind==4))||(b.term.kind==5)))),(17,(((((b.term.kind==2)||(b.term.kind==4))||(b.term.kind==5))&&(!(R.has (R.values b) b.term.a)))||((!(((b.term.kind==2)||(b.term.kind==4))||(b.term.kind==5)))&&(b.term.a != 0)))),(20,(!((b.term.kind==3)||(b.term.kind==6)))),(24,(b.term.n != 0)),(32,((((((b.term.kind==2)||(b.term.kind==4))||(b.term.kind==5))&&(!(R.has (R.values b) b.term.a)))||((!(((b.term.kind==2)||(b.term.kind==4))||(b.term.kind==5)))&&(b.term.a != 0)))||((!((b.term.kind==3)||(b.term.kind==6)))&&((b.term.n != 0)||decide (0<(b.term.args.length:Int)))))),(34,((b.term.kind==3)||(b.term.kind==6))),(38,decide (b.term.n<0)),(43,(decide (b.term.n<0)||decide (8≤b.term.n)))] [(24,false),(20,true),(17,false)]=true→PX.AllOb [.q ((.sc (.I (((b.term.args.map encI).length:Nat):Int)):PX.PV)=(.sc (.I (b.term.args.length:Int))))]),.q (SX.pv [(1,(((b.term.kind==2)||(b.term.kind==4))||(b.term.kind==5))),(8,((((b.term.kind==2)||(b.term.kind==4))||(b.term.kind==5))&&(!(R.has (R.values b) b.term.a)))),(11,(!(((b.term.kind==2)||(b.term.kind==4))||(b.term.kind==5)))),(17,(((((b.term.kind==2)||(b.term.kind==4))||(b.term.kind==5))&&(!(R.has (R.values b) b.term.a)))||((!(((b.term.kind==2)||(b.term.kind==4))||(b.term.kind==5)))&&(b.term.a != 0)))),(20,(!((b.term.kind==3)||(b.term.kind==6)))),(24,(b.term.n != 0)),(32,((((((b.term.kind==2)||(b.term.kind==4))||(b.term.kind==5))&&(!(R.has (R.values b) b.term.a)))||((!(((b.term.kind==2)||(b.term.kind==4))||(b.term.kind==5)))&&(b.term.a != 0)))||((!((b.term.kind==3)||(b.term.kind==6)))&&((b.term.n != 0)||decide (0<(b.term.args.length:Int)))))),(34,((b.term.kind==3)||(b.term.kind==6))),(38,decide (b.term.n<0)),(43,(decide (b.term.n<0)||decide (8≤b.term.n)))] [(43,false),(34,true),(32,false)]=true→PX.AllOb [.q ((.sc (.I (((b.term.args.map encI).length:Nat):Int)):PX.PV)=(.sc (.I (b.term.args.length:Int))))])] [(1,(((b.term.kind==2)||(b.term.kind==4))||(b.term.kind==5))),(8,((((b.term.kind==2)||(b.term.kind==4))||(b.term.kind==5))&&(!(R.has (R.values b) b.term.a)))),(11,(!(((b.term.kind==2)||(b.term.kind==4))||(b.term.kind==5)))),(17,(((((b.term.kind==2)||(b.term.kind==4))||(b.term.kind==5))&&(!(R.has (R.values b) b.term.a)))||((!(((b.term.kind==2)||(b.term.kind==4))||(b.term.kind==5)))&&(b.term.a != 0)))),(20,(!((b.term.kind==3)||(b.term.kind==6)))),(24,(b.term.n != 0)),(32,((((((b.term.kind==2)||(b.term.kind==4))||(b.term.kind==5))&&(!(R.has (R.values b) b.term.a)))||((!(((b.term.kind==2)||(b.term.kind==4))||(b.term.kind==5)))&&(b.term.a != 0)))||((!((b.term.kind==3)||(b.term.kind==6)))&&((b.term.n != 0)||decide (0<(b.term.args.length:Int)))))),(34,((b.term.kind==3)||(b.term.kind==6))),(38,decide (b.term.n<0)),(43,(decide (b.term.n<0)||decide (8≤b.term.n)))] [.au,.au,.au,.au,.au,.cl [] (.sc (.bool (R.has (R.values b) b.term.a))) [] 4,.au,.pk,.au,.au,.au,.au,.au,.au,.au,.pk,.pk,.au,.au,.au,.au,.au,.au,.au,.au,.au,.au,.nm (.sc (.I (b.term.args.length:Int))),.au,.pk,.pk,.pk,.au,.au,.au,.au,.au,.au,.au,.au,.au,.au,.pk,.au,.au,.au,.nm (.sc (.I (b.term.args.length:Int))),.au,.pk,.pk,.pk] [2,5,6,86] [1,3] hS hE ⟨fun hg=>⟨PX.con_any (con_h71 (R.values b) b.term.a (by omega)),trivial⟩,fun hg=>⟨PX.nm_len (by simp),trivial⟩,fun hg=>⟨PX.nm_len (by simp),trivial⟩,trivial⟩ fun a w hS=>?_
 refine PX.cond_s (((((((b.term.kind==2)||(b.term.kind==4))||(b.term.kind==5))&&(!(R.has (R.values b) b.term.a)))||((!(((b.term.kind==2)||(b.term.kind==4))||(b.term.kind==5)))&&(b.term.a != 0)))||((!((b.term.kind==3)||(b.term.kind==6)))&&((b.term.n != 0)||decide (0<(b.term.args.length:Int)))))||(((b.term.kind==3)||(b.term.kind==6))&&((decide (b.term.n<0)||decide (8≤b.term.n))||decide (4<(b.term.args.length:Int))))) hS (by kernel_rfl) (fun h2=>?_) (fun h2=>?_)
 ·skip
  refine PX.G [(.e 4 (.sc (.bool false)))] [] 4 [] [] [.au] [4] [] hS hE trivial fun a w hS=>?_
  refine wp_ret ?_
  have e:R.term c b=false:=by
   clear hS hE
   have h1:=h2
   simp only [gt0,lt4] at h1
   unfold R.term
   simp only [h1,↓reduceIte]
  rw [show (.sc (.bool (R.term c b)))=((.sc (.bool false)):PX.PV) from by rw [e]]
  exact PX.rt hS hE (.inl rfl)
 ·skip
  refine wp_skip ?_
  refine hK1 _ _ ?_
  refine wp_seq_k fun K3 hK3=>?_
  refine PX.G [(.e 88 (.imm 1 (b.term.args.map encI))),(.e 89 (.sc (.I (b.term.args.length:Int)))),(.e 90 (.J 0))] [] 4 [.q ((.sc (.I (((b.term.args.map encI).length:Nat):Int)):PX.PV)=(.sc (.I (b.term.args.length:Int))))] [] [.au,.au,.nm (.sc (.I (b.term.args.length:Int))),.au] [2,5,6,88,89,90] [1,3] hS hE ⟨PX.nm_len (by simp),trivial⟩ fun a w hS=>?_
  refine wp_block ?_
  refine wp_loop_ghost (fun m4 a' w'=>∃ k:Nat,m4=b.term.args.length-k∧k≤b.term.args.length∧Upto b.term.args (fun _ x=>R.has (R.values b) x) (k)∧PX.Sat E 167 [(.e 2 (.ptr 1 0)),(.e 5 (.ptr 3 0)),(.e 6 (.imm 1 ((R.values b).map encI))),(.e 88 (.imm 1 (b.term.args.map encI))),(.e 89 (.sc (.I (b.term.args.length:Int)))),(.e 90 (.sc (.I (k:Int))))] [(1,.box 26 (codeL c)),(3,.box 60 [(.J b.term.kind),(.J b.term.a),(.J b.term.n),(.imm 1 (b.term.args.map encI)),(.J b.term.b0),(.imm 1 (b.term.args0.map encI)),(.J b.term.b1),(.imm 1 (b.term.args1.map encI))])] 4 a' w') (b.term.args.length-0) ⟨0,rfl,Nat.zero_le _,Upto.zero,(PX.cn [] _ _ 4 hS hE)⟩ ?_
  clear hS; rintro m4 a w ⟨k,hm4,hlek,hIk,hS⟩
  refine PX.G [(.e 91 (.sc (.bool (decide ((k:Int)<(b.term.args.length:Int))))))] [] 4 [] [] [.au] [2,5,6,88,89,90,91] [1,3] hS hE trivial fun a w hS=>?_
  refine wp_seq_k fun K5 hK5=>?_
  refine PX.cond_s (decide ((k:Int)<(b.term.args.length:Int))) hS (by kernel_rfl) (fun h6=>?_) (fun h6=>?_)
  ·skip
   refine wp_skip ?_
   refine hK5 _ _ ?_
   refine wp_seq_k fun K7 hK7=>?_
   refine wp_block ?_
   have hlty:k<b.term.args.length:=by simpa using h6
   obtain ⟨y,hy⟩:=get_of_lt hlty
   refine PX.G [(.e 10 (.J y))] [] 4 [.q ((k:Int)=(k:Int)),.q ((b.term.args.map encI)[k]?=some (encI y))] [] [.ix k (encI y),.au,.au] [2,5,6,10,88,89,90] [1,3] hS hE ⟨rfl,PX.map_get hy,trivial⟩ fun a w hS=>?_
   refine PX.G [(.e 97 (.sc (.bool (!(R.has (R.values b) y)))))] [] 4 [.q (PX.Con Try.prog 71 [(.imm 1 ((R.values b).map encI)),(.J y)] [] 4 4 (.sc (.bool (R.has (R.values b) y))) [])] [] [.au,.au,.cl [] (.sc (.bool (R.has (R.values b) y))) [] 4,.au] [2,5,6,88,89,90,97] [1,3] hS hE ⟨PX.con_any (con_h71 (R.values b) y (by omega)),trivial⟩ fun a w hS=>?_
   refine PX.cond_s (!(R.has (R.values b) y)) hS (by kernel_rfl) (fun h8=>?_) (fun h8=>?_)
   ·skip
    refine PX.G [(.e 4 (.sc (.bool false)))] [] 4 [] [] [.au] [2,4,5,6,88,89,90] [1,3] hS hE trivial fun a w hS=>?_
    refine wp_ret ?_
    have e:R.term c b=false:=by
     clear hS hE
     have h1:=h2
     simp only [gt0,lt4] at h1
     unfold R.term
     simp only [h1,Bool.false_eq_true,↓reduceIte]
     rw [← all_no hy (p:=R.has (R.values b)) (by simpa using h8)]; rfl
    rw [show (.sc (.bool (R.term c b)))=((.sc (.bool false)):PX.PV) from by rw [e]]
    exact PX.rt hS hE (.inl rfl)
   ·skip
    refine wp_skip ?_
    refine hK7 _ _ ?_
    refine PX.G0 [(.e 90 (.sc (.I ((k+1:Nat):Int))))] [] 4 [.q ((.sc (.I (IntKind.i64.wrap ((k:Int)+1))):PX.PV)=(.sc (.I ((k+1:Nat):Int))))] [] [.nm (.sc (.I ((k+1:Nat):Int))),.au] [2,5,6,88,89,90] [1,3] hS hE ⟨PX.nm_int (by rw [IntWalk.i64_in _ (by omega)]; omega),trivial⟩ fun a w hS=>?_
    exact ⟨b.term.args.length-(k+1),by omega,k+1,rfl,by omega,hIk.step hy (by simpa using h8),(PX.cn [] _ _ 4 hS hE)⟩
  ·skip
   refine wp_exit ?_
   refine hK3 _ _ ?_
   refine wp_seq_k fun K9 hK9=>?_
   have hargs:=hIk.all (le_of_dec h6)
   refine PX.G [(.e 100 (.J b.term.kind))] [] 4 [] [] [.au,.au] [2,5,6,100] [1,3] hS hE trivial fun a w hS=>?_
   refine wp_block ?_
   refine PX.G [(.e 101 (.sc (.bool (b.term.kind==1))))] [] 4 [] [] [.au,.au] [2,5,6,100,101] [1,3] hS hE trivial fun a w hS=>?_
   refine PX.cond_s (b.term.kind==1) hS (by kernel_rfl) (fun h10=>?_) (fun h10=>?_)
   ·skip
    refine PX.G [(.e 4 (.sc (.bool ((R.edge c b.term.b0 b.term.args0 (R.values b) 0)&&(R.none_ b.term.b1 b.term.args1)))))] [] 4 [.q (PX.Con Try.prog 92 [(codeP c),(.agg [(.J b.term.b0),(.imm 1 (b.term.args0.map encI))]),(.imm 1 ((R.values b).map encI)),(.J 0)] [] 4 4 (.sc (.bool (R.edge c b.term.b0 b.term.args0 (R.values b) 0))) []),.q (SX.pv [(6,(R.edge c b.term.b0 b.term.args0 (R.values b) 0))] [(6,true)]=true→PX.AllOb [.q (PX.Con Try.prog 93 [(.agg [(.J b.term.b1),(.imm 1 (b.term.args1.map encI))])] [] 4 4 (.sc (.bool (R.none_ b.term.b1 b.term.args1))) [])])] [(6,(R.edge c b.term.b0 b.term.args0 (R.values b) 0))] [.au,.au,.au,.au,.au,.cl [] (.sc (.bool (R.edge c b.term.b0 b.term.args0 (R.values b) 0))) [] 4,.au,.au,.au,.au,.cl [] (.sc (.bool (R.none_ b.term.b1 b.term.args1))) [] 4,.pk,.au] [4] [] hS hE ⟨PX.con_any (con_e92 c b.term.b0 0 b.term.args0 (R.values b) (by omega) (by omega) (by decide)),fun hg=>⟨PX.con_any (con_f93 b.term.b1 b.term.args1),trivial⟩,trivial⟩ fun a w hS=>?_
    refine wp_ret ?_
    have e:R.term c b=((R.edge c b.term.b0 b.term.args0 (R.values b) 0)&&(R.none_ b.term.b1 b.term.args1)):=by
     clear hS hE
     have h1:=h2
     simp only [gt0,lt4] at h1
     unfold R.term
     simp only [h1,Bool.false_eq_true,↓reduceIte]
     rw [← hargs]
     simp only [h10,Bool.not_true,Bool.not_false,Bool.false_eq_true,↓reduceIte,Bool.or_true,Bool.true_or,Bool.or_false,Bool.false_or]
     try rfl
    rw [show (.sc (.bool (R.term c b)))=((.sc (.bool ((R.edge c b.term.b0 b.term.args0 (R.values b) 0)&&(R.none_ b.term.b1 b.term.args1)))):PX.PV) from by rw [e]]
    exact PX.rt hS hE (.inl rfl)
   ·skip
    refine PX.G [(.e 115 (.sc (.bool (b.term.kind==2))))] [] 4 [] [] [.au,.au] [2,5,6,100,115] [1,3] hS hE trivial fun a w hS=>?_
    refine PX.cond_s (b.term.kind==2) hS (by kernel_rfl) (fun h11=>?_) (fun h11=>?_)
    ·skip
     refine PX.G [(.e 4 (.sc (.bool ((R.edge c b.term.b0 b.term.args0 (R.values b) 0)&&(R.edge c b.term.b1 b.term.args1 (R.values b) 0)))))] [] 4 [.q (PX.Con Try.prog 92 [(codeP c),(.agg [(.J b.term.b0),(.imm 1 (b.term.args0.map encI))]),(.imm 1 ((R.values b).map encI)),(.J 0)] [] 4 4 (.sc (.bool (R.edge c b.term.b0 b.term.args0 (R.values b) 0))) []),.q (SX.pv [(6,(R.edge c b.term.b0 b.term.args0 (R.values b) 0))] [(6,true)]=true→PX.AllOb [.q (PX.Con Try.prog 92 [(codeP c),(.agg [(.J b.term.b1),(.imm 1 (b.term.args1.map encI))]),(.imm 1 ((R.values b).map encI)),(.J 0)] [] 4 4 (.sc (.bool (R.edge c b.term.b1 b.term.args1 (R.values b) 0))) [])])] [(6,(R.edge c b.term.b0 b.term.args0 (R.values b) 0))] [.au,.au,.au,.au,.au,.cl [] (.sc (.bool (R.edge c b.term.b0 b.term.args0 (R.values b) 0))) [] 4,.au,.au,.au,.au,.au,.au,.cl [] (.sc (.bool (R.edge c b.term.b1 b.term.args1 (R.values b) 0))) [] 4,.pk,.au] [4] [] hS hE ⟨PX.con_any (con_e92 c b.term.b0 0 b.term.args0 (R.values b) (by omega) (by omega) (by decide)),fun hg=>⟨PX.con_any (con_e92 c b.term.b1 0 b.term.args1 (R.values b) (by omega) (by omega) (by decide)),trivial⟩,trivial⟩ fun a w hS=>?_
     refine wp_ret ?_
     have e:R.term c b=((R.edge c b.term.b0 b.term.args0 (R.values b) 0)&&(R.edge c b.term.b1 b.term.args1 (R.values b) 0)):=by
      clear hS hE
      have h1:=h2
      simp only [gt0,lt4] at h1
      unfold R.term
      simp only [h1,Bool.false_eq_true,↓reduceIte]
      rw [← hargs]
      simp only [h10,h11,Bool.not_true,Bool.not_false,Bool.false_eq_true,↓reduceIte,Bool.or_true,Bool.true_or,Bool.or_false,Bool.false_or]
      try rfl
     rw [show (.sc (.bool (R.term c b)))=((.sc (.bool ((R.edge c b.term.b0 b.term.args0 (R.values b) 0)&&(R.edge c b.term.b1 b.term.args1 (R.values b) 0)))):PX.PV) from by rw [e]]
     exact PX.rt hS hE (.inl rfl)
    ·skip
     refine PX.G [(.e 131 (.sc (.bool (b.term.kind==3))))] [] 4 [] [] [.au,.au] [2,5,6,100,131] [1,3] hS hE trivial fun a w hS=>?_
     refine PX.cond_s (b.term.kind==3) hS (by kernel_rfl) (fun h12=>?_) (fun h12=>?_)
     ·skip
      refine PX.G [(.e 4 (.sc (.bool ((R.edge c b.term.b0 b.term.args0 (R.values b) 1)&&((R.none_ b.term.b1 b.term.args1)||(R.edge c b.term.b1 b.term.args1 (R.values b) 1))))))] [] 4 [.q (PX.Con Try.prog 92 [(codeP c),(.agg [(.J b.term.b0),(.imm 1 (b.term.args0.map encI))]),(.imm 1 ((R.values b).map encI)),(.J 1)] [] 4 4 (.sc (.bool (R.edge c b.term.b0 b.term.args0 (R.values b) 1))) []),.q (SX.pv [(6,(R.edge c b.term.b0 b.term.args0 (R.values b) 1)),(11,(R.none_ b.term.b1 b.term.args1))] [(6,true)]=true→PX.AllOb [.q (PX.Con Try.prog 93 [(.agg [(.J b.term.b1),(.imm 1 (b.term.args1.map encI))])] [] 4 4 (.sc (.bool (R.none_ b.term.b1 b.term.args1))) [])]),.q (SX.pv [(6,(R.edge c b.term.b0 b.term.args0 (R.values b) 1)),(11,(R.none_ b.term.b1 b.term.args1))] [(11,false),(6,true)]=true→PX.AllOb [.q (PX.Con Try.prog 92 [(codeP c),(.agg [(.J b.term.b1),(.imm 1 (b.term.args1.map encI))]),(.imm 1 ((R.values b).map encI)),(.J 1)] [] 4 4 (.sc (.bool (R.edge c b.term.b1 b.term.args1 (R.values b) 1))) [])])] [(6,(R.edge c b.term.b0 b.term.args0 (R.values b) 1)),(11,(R.none_ b.term.b1 b.term.args1))] [.au,.au,.au,.au,.au,.cl [] (.sc (.bool (R.edge c b.term.b0 b.term.args0 (R.values b) 1))) [] 4,.au,.au,.au,.au,.cl [] (.sc (.bool (R.none_ b.term.b1 b.term.args1))) [] 4,.au,.au,.au,.au,.au,.au,.cl [] (.sc (.bool (R.edge c b.term.b1 b.term.args1 (R.values b) 1))) [] 4,.pk,.pk,.au] [4] [] hS hE ⟨PX.con_any (con_e92 c b.term.b0 1 b.term.args0 (R.values b) (by omega) (by omega) (by decide)),fun hg=>⟨PX.con_any (con_f93 b.term.b1 b.term.args1),trivial⟩,fun hg=>⟨PX.con_any (con_e92 c b.term.b1 1 b.term.args1 (R.values b) (by omega) (by omega) (by decide)),trivial⟩,trivial⟩ fun a w hS=>?_
      refine wp_ret ?_
      have e:R.term c b=((R.edge c b.term.b0 b.term.args0 (R.values b) 1)&&((R.none_ b.term.b1 b.term.args1)||(R.edge c b.term.b1 b.term.args1 (R.values b) 1))):=by
       clear hS hE
       have h1:=h2
       simp only [gt0,lt4] at h1
       unfold R.term
       simp only [h1,Bool.false_eq_true,↓reduceIte]
       rw [← hargs]
       simp only [h10,h11,h12,Bool.not_true,Bool.not_false,Bool.false_eq_true,↓reduceIte,Bool.or_true,Bool.true_or,Bool.or_false,Bool.false_or]
       try rfl
      rw [show (.sc (.bool (R.term c b)))=((.sc (.bool ((R.edge c b.term.b0 b.term.args0 (R.values b) 1)&&((R.none_ b.term.b1 b.term.args1)||(R.edge c b.term.b1 b.term.args1 (R.values b) 1))))):PX.PV) from by rw [e]]
      exact PX.rt hS hE (.inl rfl)
     ·skip
      refine wp_seq_k fun K13 hK13=>?_
      refine PX.G [(.e 153 (.sc (.bool (b.term.kind==4))))] [] 4 [] [] [.au,.au] [5,100,153] [3] hS hE trivial fun a w hS=>?_
      refine PX.cond_s (b.term.kind==4) hS (by kernel_rfl) (fun h14=>?_) (fun h14=>?_)
      ·skip
       refine wp_skip ?_
       refine hK13 _ _ ?_
       refine PX.cond_s (b.term.kind==4) hS (by kernel_rfl) (fun h15=>?_) (fun h15=>nomatch (h14.symm.trans h15))
       refine PX.G [(.e 4 (.sc (.bool ((R.none_ b.term.b0 b.term.args0)&&(R.none_ b.term.b1 b.term.args1)))))] [] 4 [.q (PX.Con Try.prog 93 [(.agg [(.J b.term.b0),(.imm 1 (b.term.args0.map encI))])] [] 4 4 (.sc (.bool (R.none_ b.term.b0 b.term.args0))) []),.q (SX.pv [(4,(R.none_ b.term.b0 b.term.args0))] [(4,true)]=true→PX.AllOb [.q (PX.Con Try.prog 93 [(.agg [(.J b.term.b1),(.imm 1 (b.term.args1.map encI))])] [] 4 4 (.sc (.bool (R.none_ b.term.b1 b.term.args1))) [])])] [(4,(R.none_ b.term.b0 b.term.args0))] [.au,.au,.au,.cl [] (.sc (.bool (R.none_ b.term.b0 b.term.args0))) [] 4,.au,.au,.au,.au,.cl [] (.sc (.bool (R.none_ b.term.b1 b.term.args1))) [] 4,.pk,.au] [4] [] hS hE ⟨PX.con_any (con_f93 b.term.b0 b.term.args0),fun hg=>⟨PX.con_any (con_f93 b.term.b1 b.term.args1),trivial⟩,trivial⟩ fun a w hS=>?_
       refine wp_ret ?_
       have e:R.term c b=((R.none_ b.term.b0 b.term.args0)&&(R.none_ b.term.b1 b.term.args1)):=by
        clear hS hE
        have h1:=h2
        simp only [gt0,lt4] at h1
        unfold R.term
        simp only [h1,Bool.false_eq_true,↓reduceIte]
        rw [← hargs]
        simp only [h10,h11,h12,h14,Bool.not_true,Bool.not_false,Bool.false_eq_true,↓reduceIte,Bool.or_true,Bool.true_or,Bool.or_false,Bool.false_or]
        try rfl
       rw [show (.sc (.bool (R.term c b)))=((.sc (.bool ((R.none_ b.term.b0 b.term.args0)&&(R.none_ b.term.b1 b.term.args1)))):PX.PV) from by rw [e]]
       exact PX.rt hS hE (.inl rfl)
      ·skip
       refine PX.G [(.e 153 (.sc (.bool (b.term.kind==5))))] [] 4 [] [] [.au,.au] [5,100,153] [3] hS hE trivial fun a w hS=>?_
       refine PX.cond_s (b.term.kind==5) hS (by kernel_rfl) (fun h16=>?_) (fun h16=>?_)
       ·skip
        refine wp_skip ?_
        refine hK13 _ _ ?_
        refine PX.cond_s (b.term.kind==5) hS (by kernel_rfl) (fun h17=>?_) (fun h17=>nomatch (h16.symm.trans h17))
        refine PX.G [(.e 4 (.sc (.bool ((R.none_ b.term.b0 b.term.args0)&&(R.none_ b.term.b1 b.term.args1)))))] [] 4 [.q (PX.Con Try.prog 93 [(.agg [(.J b.term.b0),(.imm 1 (b.term.args0.map encI))])] [] 4 4 (.sc (.bool (R.none_ b.term.b0 b.term.args0))) []),.q (SX.pv [(4,(R.none_ b.term.b0 b.term.args0))] [(4,true)]=true→PX.AllOb [.q (PX.Con Try.prog 93 [(.agg [(.J b.term.b1),(.imm 1 (b.term.args1.map encI))])] [] 4 4 (.sc (.bool (R.none_ b.term.b1 b.term.args1))) [])])] [(4,(R.none_ b.term.b0 b.term.args0))] [.au,.au,.au,.cl [] (.sc (.bool (R.none_ b.term.b0 b.term.args0))) [] 4,.au,.au,.au,.au,.cl [] (.sc (.bool (R.none_ b.term.b1 b.term.args1))) [] 4,.pk,.au] [4] [] hS hE ⟨PX.con_any (con_f93 b.term.b0 b.term.args0),fun hg=>⟨PX.con_any (con_f93 b.term.b1 b.term.args1),trivial⟩,trivial⟩ fun a w hS=>?_
        refine wp_ret ?_
        have e:R.term c b=((R.none_ b.term.b0 b.term.args0)&&(R.none_ b.term.b1 b.term.args1)):=by
         clear hS hE
         have h1:=h2
         simp only [gt0,lt4] at h1
         unfold R.term
         simp only [h1,Bool.false_eq_true,↓reduceIte]
         rw [← hargs]
         simp only [h10,h11,h12,h14,h16,Bool.not_true,Bool.not_false,Bool.false_eq_true,↓reduceIte,Bool.or_true,Bool.true_or,Bool.or_false,Bool.false_or]
         try rfl
        rw [show (.sc (.bool (R.term c b)))=((.sc (.bool ((R.none_ b.term.b0 b.term.args0)&&(R.none_ b.term.b1 b.term.args1)))):PX.PV) from by rw [e]]
        exact PX.rt hS hE (.inl rfl)
       ·skip
        refine PX.G0 [(.e 153 (.sc (.bool (b.term.kind==6))))] [] 4 [] [] [.au,.au] [5,153] [3] hS hE trivial fun a w hS=>?_
        refine hK13 _ _ ?_
        refine PX.cond_s (b.term.kind==6) hS (by kernel_rfl) (fun h18=>?_) (fun h18=>?_)
        ·skip
         refine PX.G [(.e 4 (.sc (.bool ((R.none_ b.term.b0 b.term.args0)&&(R.none_ b.term.b1 b.term.args1)))))] [] 4 [.q (PX.Con Try.prog 93 [(.agg [(.J b.term.b0),(.imm 1 (b.term.args0.map encI))])] [] 4 4 (.sc (.bool (R.none_ b.term.b0 b.term.args0))) []),.q (SX.pv [(4,(R.none_ b.term.b0 b.term.args0))] [(4,true)]=true→PX.AllOb [.q (PX.Con Try.prog 93 [(.agg [(.J b.term.b1),(.imm 1 (b.term.args1.map encI))])] [] 4 4 (.sc (.bool (R.none_ b.term.b1 b.term.args1))) [])])] [(4,(R.none_ b.term.b0 b.term.args0))] [.au,.au,.au,.cl [] (.sc (.bool (R.none_ b.term.b0 b.term.args0))) [] 4,.au,.au,.au,.au,.cl [] (.sc (.bool (R.none_ b.term.b1 b.term.args1))) [] 4,.pk,.au] [4] [] hS hE ⟨PX.con_any (con_f93 b.term.b0 b.term.args0),fun hg=>⟨PX.con_any (con_f93 b.term.b1 b.term.args1),trivial⟩,trivial⟩ fun a w hS=>?_
         refine wp_ret ?_
         have e:R.term c b=((R.none_ b.term.b0 b.term.args0)&&(R.none_ b.term.b1 b.term.args1)):=by
          clear hS hE
          have h1:=h2
          simp only [gt0,lt4] at h1
          unfold R.term
          simp only [h1,Bool.false_eq_true,↓reduceIte]
          rw [← hargs]
          simp only [h10,h11,h12,h14,h16,h18,Bool.not_true,Bool.not_false,Bool.false_eq_true,↓reduceIte,Bool.or_true,Bool.true_or,Bool.or_false,Bool.false_or]
          try rfl
         rw [show (.sc (.bool (R.term c b)))=((.sc (.bool ((R.none_ b.term.b0 b.term.args0)&&(R.none_ b.term.b1 b.term.args1)))):PX.PV) from by rw [e]]
         exact PX.rt hS hE (.inl rfl)
        ·skip
         refine wp_skip ?_
         refine hK9 _ _ ?_
         refine PX.G [(.e 4 (.sc (.bool false)))] [] 4 [] [] [.au] [4] [] hS hE trivial fun a w hS=>?_
         refine wp_ret ?_
         have e:R.term c b=false:=by
          clear hS hE
          have h1:=h2
          simp only [gt0,lt4] at h1
          unfold R.term
          simp only [h1,Bool.false_eq_true,↓reduceIte]
          rw [← hargs]
          simp only [h10,h11,h12,h14,h16,h18,Bool.not_true,Bool.not_false,Bool.false_eq_true,↓reduceIte,Bool.or_true,Bool.true_or,Bool.or_false,Bool.false_or]
          try rfl
         rw [show (.sc (.bool (R.term c b)))=((.sc (.bool false)):PX.PV) from by rw [e]]
         exact PX.rt hS hE (.inl rfl)

set_option maxHeartbeats 2000000 in
theorem con_f18 (c:CodeD) (hl:CodeL c):PX.Con Try.prog 18 [(codeP c)] [] 1 100000 (.sc (.I (R.check c (totW c.blocks)))) []:=by
 refine PX.con_intro [(codeP c)] 57 Try.func18 rfl rfl (by kernel_rfl) (by kernel_rfl) ?_
 intro E a hE hS
 generalize E.w0=w at hS ⊢
 have mix:=mixed; have hlb:=hl.blocks; have hlc:=hl.ctx; have hlo:=hl.obj
 refine PX.G [(.e 1 (.ptr 1 0))] [(1,.box 26 (codeL c))] 2 [] [] [.au,.au] [1] [1] hS hE trivial fun a w hS=>?_
 refine wp_seq_k fun K1 hK1=>?_
 refine PX.G [(.e 25 (.sc (.bool (((decide (400<(c.blocks.length:Int))||decide (6000<(totW c.blocks)))||decide (64<(c.contexts.length:Int)))||decide (64<(c.objects.length:Int))))))] [] 2 [.q ((.sc (.I (((c.blocks.map encB).length:Nat):Int)):PX.PV)=(.sc (.I (c.blocks.length:Int)))),.q (SX.pv [(4,decide (400<(c.blocks.length:Int))),(9,(decide (400<(c.blocks.length:Int))||decide (6000<(totW c.blocks)))),(15,((decide (400<(c.blocks.length:Int))||decide (6000<(totW c.blocks)))||decide (64<(c.contexts.length:Int))))] [(4,false)]=true→PX.AllOb [.q (PX.Con Try.prog 45 [(codeP c)] [] 2 2 (.sc (.I (totW c.blocks))) [])]),.q (SX.pv [(4,decide (400<(c.blocks.length:Int))),(9,(decide (400<(c.blocks.length:Int))||decide (6000<(totW c.blocks)))),(15,((decide (400<(c.blocks.length:Int))||decide (6000<(totW c.blocks)))||decide (64<(c.contexts.length:Int))))] [(9,false)]=true→PX.AllOb [.q ((.sc (.I (((c.contexts.map encR).length:Nat):Int)):PX.PV)=(.sc (.I (c.contexts.length:Int))))]),.q (SX.pv [(4,decide (400<(c.blocks.length:Int))),(9,(decide (400<(c.blocks.length:Int))||decide (6000<(totW c.blocks)))),(15,((decide (400<(c.blocks.length:Int))||decide (6000<(totW c.blocks)))||decide (64<(c.contexts.length:Int))))] [(15,false)]=true→PX.AllOb [.q ((.sc (.I (((c.objects.map encR).length:Nat):Int)):PX.PV)=(.sc (.I (c.objects.length:Int))))])] [(4,decide (400<(c.blocks.length:Int))),(9,(decide (400<(c.blocks.length:Int))||decide (6000<(totW c.blocks)))),(15,((decide (400<(c.blocks.length:Int))||decide (6000<(totW c.blocks)))||decide (64<(c.contexts.length:Int))))] [.au,.au,.nm (.sc (.I (c.blocks.length:Int))),.au,.au,.au,.cl [] (.sc (.I (totW c.blocks))) [] 2,.au,.pk,.au,.au,.au,.nm (.sc (.I (c.contexts.length:Int))),.au,.pk,.au,.au,.au,.nm (.sc (.I (c.objects.length:Int))),.au,.pk] [1,25] [1] hS hE ⟨PX.nm_len (by simp),fun hg=>⟨PX.con_any (con_o45 c hlb),trivial⟩,fun hg=>⟨PX.nm_len (by simp),trivial⟩,fun hg=>⟨PX.nm_len (by simp),trivial⟩,trivial⟩ fun a w hS=>?_
 refine PX.cond_s (((decide (400<(c.blocks.length:Int))||decide (6000<(totW c.blocks)))||decide (64<(c.contexts.length:Int)))||decide (64<(c.objects.length:Int))) hS (by kernel_rfl) (fun h2=>?_) (fun h2=>?_)
 ·skip
  refine PX.G [(.e 2 (.J 5))] [] 2 [] [] [.au] [2] [] hS hE trivial fun a w hS=>?_
  refine wp_ret ?_
  rw [show (.sc (.I (R.check c (totW c.blocks))))=((.J 5):PX.PV) from by unfold R.check; rw [lim_eq]; simp only [h2,Bool.not_true,Bool.not_false,Bool.false_eq_true,↓reduceIte]]
  exact PX.rt hS hE (.inl rfl)
 ·skip
  refine wp_skip ?_
  refine hK1 _ _ ?_
  refine wp_seq_k fun K3 hK3=>?_
  refine PX.G [(.e 28 (.sc (.bool (!(R.heads c)))))] [] 2 [.q (PX.Con Try.prog 57 [(codeP c)] [] 2 2 (.sc (.bool (R.heads c))) [])] [] [.au,.cl [] (.sc (.bool (R.heads c))) [] 2,.au] [1,28] [1] hS hE ⟨PX.con_any (con_f57 c hlc hlo),trivial⟩ fun a w hS=>?_
  refine PX.cond_s (!(R.heads c)) hS (by kernel_rfl) (fun h4=>?_) (fun h4=>?_)
  ·skip
   refine PX.G [(.e 2 (.J 4))] [] 2 [] [] [.au] [2] [] hS hE trivial fun a w hS=>?_
   refine wp_ret ?_
   rw [show (.sc (.I (R.check c (totW c.blocks))))=((.J 4):PX.PV) from by unfold R.check; rw [lim_eq]; simp only [h2,h4,Bool.not_true,Bool.not_false,Bool.false_eq_true,↓reduceIte]]
   exact PX.rt hS hE (.inl rfl)
  ·skip
   refine wp_skip ?_
   refine hK3 _ _ ?_
   refine wp_seq_k fun K5 hK5=>?_
   have hsm:=ops_small (fun x hx=>(hl.blk x hx).ops) (by have:=h2; simp only [Bool.or_eq_false_iff,decide_eq_false_iff_not] at this; omega) (by have:=h2; simp only [Bool.or_eq_false_iff,decide_eq_false_iff_not] at this; omega)
   refine PX.G [(.e 30 (.imm 10 (c.blocks.map encB))),(.e 31 (.sc (.I (c.blocks.length:Int)))),(.e 32 (.J 0))] [] 2 [.q ((.sc (.I (((c.blocks.map encB).length:Nat):Int)):PX.PV)=(.sc (.I (c.blocks.length:Int))))] [] [.au,.au,.nm (.sc (.I (c.blocks.length:Int))),.au] [1,30,31,32] [1] hS hE ⟨PX.nm_len (by simp),trivial⟩ fun a w hS=>?_
   refine wp_block ?_
   refine wp_loop_ghost (fun m6 a' w'=>∃ k:Nat,m6=c.blocks.length-k∧k≤c.blocks.length∧Upto c.blocks (fun _ b=>!(decide (b.params<0)||decide (999<b.params))&&R.ops c b&&R.term c b) (k)∧PX.Sat E 57 [(.e 1 (.ptr 1 0)),(.e 30 (.imm 10 (c.blocks.map encB))),(.e 31 (.sc (.I (c.blocks.length:Int)))),(.e 32 (.sc (.I (k:Int))))] [(1,.box 26 (codeL c))] 2 a' w') (c.blocks.length-0) ⟨0,rfl,Nat.zero_le _,Upto.zero,(PX.cn [] _ _ 2 hS hE)⟩ ?_
   clear hS; rintro m6 a w ⟨k,hm6,hlek,hIk,hS⟩
   refine PX.G [(.e 33 (.sc (.bool (decide ((k:Int)<(c.blocks.length:Int))))))] [] 2 [] [] [.au] [1,30,31,32,33] [1] hS hE trivial fun a w hS=>?_
   refine wp_seq_k fun K7 hK7=>?_
   refine PX.cond_s (decide ((k:Int)<(c.blocks.length:Int))) hS (by kernel_rfl) (fun h8=>?_) (fun h8=>?_)
   ·skip
    refine wp_skip ?_
    refine hK7 _ _ ?_
    refine wp_seq_k fun K9 hK9=>?_
    refine wp_block ?_
    have hlty:k<c.blocks.length:=by simpa using h8
    obtain ⟨y,hy⟩:=get_of_lt hlty
    refine PX.G [(.e 4 (.ptr 2 0))] [(2,.box 62 (encB y))] 3 [.q ((k:Int)=(k:Int)),.q ((c.blocks.map encB)[k]?=some (encB y))] [] [.ix k (encB y),.au,.au,.au] [1,4,30,31,32] [1,2] hS hE ⟨rfl,PX.map_get hy,trivial⟩ fun a w hS=>?_
    refine PX.G [(.e 55 (.sc (.bool (((decide (y.params<0)||decide (999<y.params))||(!(R.ops c y)))||(!(R.term c y))))))] [] 3 [.q (SX.pv [(3,decide (y.params<0)),(8,(decide (y.params<0)||decide (999<y.params))),(14,((decide (y.params<0)||decide (999<y.params))||(!(R.ops c y))))] [(8,false)]=true→PX.AllOb [.q (PX.Con Try.prog 58 [(codeP c),(.agg (encB y))] [] 3 3 (.sc (.bool (R.ops c y))) [])]),.q (SX.pv [(3,decide (y.params<0)),(8,(decide (y.params<0)||decide (999<y.params))),(14,((decide (y.params<0)||decide (999<y.params))||(!(R.ops c y))))] [(14,false)]=true→PX.AllOb [.q (PX.Con Try.prog 59 [(codeP c),(.agg (encB y))] [] 3 3 (.sc (.bool (R.term c y))) [])])] [(3,decide (y.params<0)),(8,(decide (y.params<0)||decide (999<y.params))),(14,((decide (y.params<0)||decide (999<y.params))||(!(R.ops c y))))] [.au,.au,.au,.au,.au,.au,.au,.pk,.au,.au,.au,.cl [] (.sc (.bool (R.ops c y))) [] 3,.au,.pk,.au,.au,.au,.cl [] (.sc (.bool (R.term c y))) [] 3,.au,.pk] [1,30,31,32,55] [1] hS hE ⟨fun hg=>⟨PX.con_any (con_f58 c y (by have:=hg; simp [SX.pv,SX.kv] at this; omega) (hsm y (List.mem_of_getElem? hy))),trivial⟩,fun hg=>⟨PX.con_any (con_f59 c y (hl.blk y (List.mem_of_getElem? hy)) (by have:=hg; simp [SX.pv,SX.kv] at this; omega) (hsm y (List.mem_of_getElem? hy))),trivial⟩,trivial⟩ fun a w hS=>?_
    refine PX.cond_s (((decide (y.params<0)||decide (999<y.params))||(!(R.ops c y)))||(!(R.term c y))) hS (by kernel_rfl) (fun h10=>?_) (fun h10=>?_)
    ·skip
     refine PX.G [(.e 2 (.J 4))] [] 3 [] [] [.au] [1,2,30,31,32] [1] hS hE trivial fun a w hS=>?_
     refine wp_ret ?_
     rw [show (.sc (.I (R.check c (totW c.blocks))))=((.J 4):PX.PV) from by unfold R.check; rw [lim_eq]; simp only [h2,h4,Bool.not_true,Bool.not_false,Bool.false_eq_true,↓reduceIte]; rw [← all_no hy (p:=fun b=>!(decide (b.params<0)||decide (999<b.params))&&R.ops c b&&R.term c b) (chkB_no h10)] <;> rfl]
     exact PX.rt hS hE (.inl rfl)
    ·skip
     refine wp_skip ?_
     refine hK9 _ _ ?_
     refine PX.G0 [(.e 32 (.sc (.I ((k+1:Nat):Int))))] [] 3 [.q ((.sc (.I (IntKind.i64.wrap ((k:Int)+1))):PX.PV)=(.sc (.I ((k+1:Nat):Int))))] [] [.nm (.sc (.I ((k+1:Nat):Int))),.au] [1,30,31,32] [1] hS hE ⟨PX.nm_int (by rw [IntWalk.i64_in _ (by omega)]; omega),trivial⟩ fun a w hS=>?_
     exact ⟨c.blocks.length-(k+1),by omega,k+1,rfl,by omega,hIk.step hy (chkB_yes h10),(PX.cn [] _ _ 2 hS hE)⟩
   ·skip
    refine wp_exit ?_
    refine hK5 _ _ ?_
    refine PX.G [(.e 2 (.J 0))] [] 2 [] [] [.au] [2] [] hS hE trivial fun a w hS=>?_
    refine wp_ret ?_
    rw [show (.sc (.I (R.check c (totW c.blocks))))=((.J 0):PX.PV) from by unfold R.check; rw [lim_eq]; simp only [h2,h4,Bool.not_true,Bool.not_false,Bool.false_eq_true,↓reduceIte]; rw [← hIk.all (le_of_dec h8)] <;> rfl]
    exact PX.rt hS hE (.inl rfl)
end Go.Proofs.Ytlkcidmmpeebeaa
