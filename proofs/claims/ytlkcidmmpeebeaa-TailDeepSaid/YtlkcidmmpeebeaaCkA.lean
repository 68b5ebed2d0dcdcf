/- Proved: small tests of ir.CheckCode on plain data -/
import Derived.Test.YtlkcidmmpeebeaaPcD
set_option linter.unusedVariables false
set_option linter.unusedSimpArgs false
namespace Go.Proofs.Ytlkcidmmpeebeaa
open Go.RowKit Go.PX
set_option maxRecDepth 100000
set_option maxHeartbeats 400000 in
theorem con_f84 (n m:Int):PX.Con Try.prog 84 [(.J n),(.J m)] [] 1 100000 (.sc (.bool (P.within n m))) []:=by
 refine PX.con_intro [(.J n),(.J m)] 12 Try.func84 rfl rfl (by kernel_rfl) (by kernel_rfl) ?_
 intro E a hE hS
 generalize E.w0=w at hS ⊢
 have mix:=mixed
 refine PX.G [] [] 1 [] [] [.au] [0,1] [] hS hE trivial fun a w hS=>?_
 refine PX.G [(.e 4 (.sc (.bool (decide (0≤n)&&decide (n≤m)))))] [] 1 [] [(2,decide (0≤n))] [.au,.au,.au,.au,.au,.au,.pk,.au] [4] [] hS hE trivial fun a w hS=>?_
 refine wp_ret ?_
 rw [show (.sc (.bool (P.within n m)))=((.sc (.bool (decide (0≤n)&&decide (n≤m)))):PX.PV) from rfl]
 exact PX.rt hS hE (.inl rfl)

set_option maxHeartbeats 400000 in
theorem con_f156 (blk:Int) (args:List Int):PX.Con Try.prog 156 [(.agg [(.J blk),(.imm 1 (args.map encI))])] [] 1 100000 (.sc (.bool (P.absent blk args))) []:=by
 refine PX.con_intro [(.agg [(.J blk),(.imm 1 (args.map encI))])] 12 Try.func156 rfl rfl (by kernel_rfl) (by kernel_rfl) ?_
 intro E a hE hS
 generalize E.w0=w at hS ⊢
 have mix:=mixed
 refine PX.G [(.e 1 (.ptr 1 0))] [(1,.box 57 [(.J blk),(.imm 1 (args.map encI))])] 2 [] [] [.au,.au] [1] [1] hS hE trivial fun a w hS=>?_
 refine PX.G [(.e 2 (.sc (.bool ((blk==(-1))&&((args.length:Int)==0)))))] [] 2 [.q (SX.pv [(3,(blk==(-1)))] [(3,true)]=true→PX.AllOb [.q ((.sc (.I (((args.map encI).length:Nat):Int)):PX.PV)=(.sc (.I (args.length:Int))))])] [(3,(blk==(-1)))] [.au,.au,.au,.au,.au,.au,.nm (.sc (.I (args.length:Int))),.au,.pk,.au] [2] [] hS hE ⟨fun hg=>⟨PX.nm_len (by simp),trivial⟩,trivial⟩ fun a w hS=>?_
 refine wp_ret ?_
 rw [show (.sc (.bool (P.absent blk args)))=((.sc (.bool ((blk==(-1))&&((args.length:Int)==0)))):PX.PV) from by unfold P.absent; rw [len_eq0]]
 exact PX.rt hS hE (.inl rfl)

set_option maxHeartbeats 400000 in
theorem con_f157 (c:CodeD) (blk kind:Int) (args:List Int) (hl:args.length≤140737488351232):PX.Con Try.prog 157 [(codeP c),(.agg [(.J blk),(.imm 1 (args.map encI))]),(.J kind)] [] 1 100000 (.sc (.bool (P.rightEdge c blk args kind))) []:=by
 refine PX.con_intro [(codeP c),(.agg [(.J blk),(.imm 1 (args.map encI))]),(.J kind)] 35 Try.func157 rfl rfl (by kernel_rfl) (by kernel_rfl) ?_
 intro E a hE hS
 generalize E.w0=w at hS ⊢
 have mix:=mixed
 refine PX.G [(.e 3 (.ptr 1 0)),(.e 4 (.ptr 2 0))] [(1,.box 26 (codeL c)),(2,.box 57 [(.J blk),(.imm 1 (args.map encI))])] 3 [] [] [.au,.au,.au] [2,3,4] [1,2] hS hE trivial fun a w hS=>?_
 refine wp_seq_k fun K1 hK1=>?_
 refine PX.G [(.e 18 (.sc (.bool (decide (blk<1)||decide ((c.blocks.length:Int)≤blk)))))] [] 3 [.q (SX.pv [(3,decide (blk<1))] [(3,false)]=true→PX.AllOb [.q ((.sc (.I (((c.blocks.map encB).length:Nat):Int)):PX.PV)=(.sc (.I (c.blocks.length:Int))))])] [(3,decide (blk<1))] [.au,.au,.au,.au,.au,.au,.au,.au,.nm (.sc (.I (c.blocks.length:Int))),.au,.pk] [2,3,4,18] [1,2] hS hE ⟨fun hg=>⟨PX.nm_len (by simp),trivial⟩,trivial⟩ fun a w hS=>?_
 refine PX.cond_s (decide (blk<1)||decide ((c.blocks.length:Int)≤blk)) hS (by kernel_rfl) (fun h2=>?_) (fun h2=>?_)
 ·skip
  refine PX.G [(.e 6 (.sc (.bool false)))] [] 3 [] [] [.au] [6] [] hS hE trivial fun a w hS=>?_
  refine wp_ret ?_
  rw [show (.sc (.bool (P.rightEdge c blk args kind)))=((.sc (.bool false)):PX.PV) from by unfold P.rightEdge; (try simp only [h2,Bool.not_true,Bool.not_false,Bool.and_true,Bool.and_false,Bool.true_and,Bool.false_and,Bool.or_true,Bool.true_or,Bool.or_false,Bool.false_or,Bool.false_eq_true,↓reduceIte]); (try rfl)]
  exact PX.rt hS hE (.inl rfl)
 ·skip
  refine wp_skip ?_
  refine hK1 _ _ ?_
  refine PX.G [(.e 7 (.sc (.I (args.length:Int))))] [] 3 [.q ((.sc (.I (((args.map encI).length:Nat):Int)):PX.PV)=(.sc (.I (args.length:Int))))] [] [.au,.au,.nm (.sc (.I (args.length:Int))),.au] [2,3,4,7] [1,2] hS hE ⟨PX.nm_len (by simp),trivial⟩ fun a w hS=>?_
  refine wp_seq_k fun K3 hK3=>?_
  refine PX.G [(.e 23 (.sc (.bool (kind==3))))] [] 3 [] [] [.au,.au] [3,4,7,23] [1,2] hS hE trivial fun a w hS=>?_
  refine PX.cond_s (kind==3) hS (by kernel_rfl) (fun h4=>?_) (fun h4=>?_)
  ·skip
   refine PX.G0 [(.e 7 (.sc (.I ((args.length:Int)+1))))] [] 3 [.q ((.sc (.I (IntKind.i64.wrap ((args.length:Int)+1))):PX.PV)=(.sc (.I ((args.length:Int)+1))))] [] [.au,.nm (.sc (.I ((args.length:Int)+1))),.au] [3,4,7] [1,2] hS hE ⟨PX.nm_int (by rw [IntWalk.i64_in _ (by omega)]),trivial⟩ fun a w hS=>?_
   refine hK3 _ _ ?_
   have hb0:0≤blk∧blk<(c.blocks.length:Int):=by have:=h2; simp only [Bool.or_eq_false_iff,decide_eq_false_iff_not] at this; omega
   obtain ⟨x,hx⟩:=get_of_lt (l:=c.blocks) (k:=blk.toNat) (by omega)
   refine PX.G [(.e 6 (.sc (.bool (((args.length:Int)+1)==x.params))))] [] 3 [.q (blk=(blk.toNat:Int)),.q ((c.blocks.map encB)[blk.toNat]?=some (encB x))] [] [.au,.au,.au,.au,.au,.ix blk.toNat (encB x),.au,.au,.au,.au] [6] [] hS hE ⟨by omega,PX.map_get hx,trivial⟩ fun a w hS=>?_
   refine wp_ret ?_
   rw [show (.sc (.bool (P.rightEdge c blk args kind)))=((.sc (.bool (((args.length:Int)+1)==x.params))):PX.PV) from by unfold P.rightEdge; rw [params_at hx]; (try simp only [h2,h4,Bool.not_true,Bool.not_false,Bool.and_true,Bool.and_false,Bool.true_and,Bool.false_and,Bool.or_true,Bool.true_or,Bool.or_false,Bool.false_or,Bool.false_eq_true,↓reduceIte]); (try rfl)]
   exact PX.rt hS hE (.inl rfl)
  ·skip
   refine wp_skip ?_
   refine hK3 _ _ ?_
   have hb0:0≤blk∧blk<(c.blocks.length:Int):=by have:=h2; simp only [Bool.or_eq_false_iff,decide_eq_false_iff_not] at this; omega
   obtain ⟨x,hx⟩:=get_of_lt (l:=c.blocks) (k:=blk.toNat) (by omega)
   refine PX.G [(.e 6 (.sc (.bool ((args.length:Int)==x.params))))] [] 3 [.q (blk=(blk.toNat:Int)),.q ((c.blocks.map encB)[blk.toNat]?=some (encB x))] [] [.au,.au,.au,.au,.au,.ix blk.toNat (encB x),.au,.au,.au,.au] [6] [] hS hE ⟨by omega,PX.map_get hx,trivial⟩ fun a w hS=>?_
   refine wp_ret ?_
   rw [show (.sc (.bool (P.rightEdge c blk args kind)))=((.sc (.bool ((args.length:Int)==x.params))):PX.PV) from by unfold P.rightEdge; rw [params_at hx]; (try simp only [h2,h4,Bool.not_true,Bool.not_false,Bool.and_true,Bool.and_false,Bool.true_and,Bool.false_and,Bool.or_true,Bool.true_or,Bool.or_false,Bool.false_or,Bool.false_eq_true,↓reduceIte]); (try rfl)]
   exact PX.rt hS hE (.inl rfl)

theorem find_iv (D:List (Int × Int)) (n:Int):PX.findV (iv D) n=(findD D n).map (Value.int .i64):=by
 unfold PX.findV iv findD
 rw [List.find?_map,Option.map_map,Option.map_map]; rfl
theorem look_ok (D:List (Int × Int)) (n:Int):(.tup [.sc ((PX.findV (iv D) n).getD (.I 0)),.sc (.bool (PX.findV (iv D) n).isSome)]:PX.PV)=.tup [.sc (.I ((findD D n).getD 0)),.sc (.bool (findD D n).isSome)]:=by
 rw [find_iv]; cases findD D n <;> rfl

set_option maxHeartbeats 400000 in
theorem con_f154 (ps v n:Int) (D:List (Int × Int)) (hp:0≤ps∧ps≤999):PX.Con Try.prog 154 [(.agg [(.J ps),(.map 1)]),(.J v),(.J n)] [(1,.mp (iv D))] 2 100000 (.sc (.bool (hasD ps D v n))) [(1,some (.mp (iv D)))]:=by
 refine PX.con_intro [(.agg [(.J ps),(.map 1)]),(.J v),(.J n)] 27 Try.func154 rfl rfl (by kernel_rfl) (by kernel_rfl) ?_
 intro E a hE hS
 generalize E.w0=w at hS ⊢
 have mix:=mixed
 refine PX.G [(.e 3 (.ptr 2 0))] [(2,.box 183 [(.J ps),(.map 1)])] 3 [] [] [.au,.au] [1,2,3] [1,2] hS hE trivial fun a w hS=>?_
 refine wp_seq_k fun K1 hK1=>?_
 refine PX.G [(.e 13 (.sc (.bool (P.within v (ps-1)))))] [] 3 [.q ((.sc (.I (IntKind.i64.wrap (ps-1))):PX.PV)=(.sc (.I (ps-1)))),.q (PX.Con Try.prog 84 [(.J v),(.sc (.I (ps-1)))] [] 3 3 (.sc (.bool (P.within v (ps-1)))) [])] [] [.au,.au,.au,.nm (.sc (.I (ps-1))),.cl [] (.sc (.bool (P.within v (ps-1)))) [] 3] [1,2,3,13] [1,2] hS hE ⟨PX.nm_int (by rw [IntWalk.i64_in _ (by omega)]),PX.con_any (con_f84 v (ps-1)),trivial⟩ fun a w hS=>?_
 refine PX.cond_s (P.within v (ps-1)) hS (by kernel_rfl) (fun h2=>?_) (fun h2=>?_)
 ·skip
  refine PX.G [(.e 6 (.sc (.bool true)))] [] 3 [] [] [.au] [6] [1] hS hE trivial fun a w hS=>?_
  refine wp_ret ?_
  rw [show (.sc (.bool (hasD ps D v n)))=((.sc (.bool true)):PX.PV) from by unfold hasD; rw [h2] <;> rfl]
  exact PX.rt hS hE (.inl rfl)
 ·skip
  refine wp_skip ?_
  refine hK1 _ _ ?_
  refine PX.G [(.e 7 (.sc (.I ((findD D v).getD 0)))),(.e 8 (.sc (.bool ((findD D v).isSome))))] [] 3 [.q ((.tup [.sc ((PX.findV (iv D) v).getD (.I 0)),.sc (.bool (PX.findV (iv D) v).isSome)]:PX.PV)=(.tup [(.sc (.I ((findD D v).getD 0))),(.sc (.bool ((findD D v).isSome)))]))] [] [.au,.au,.au,.nm (.tup [(.sc (.I ((findD D v).getD 0))),(.sc (.bool ((findD D v).isSome)))]),.au,.au,.au,.au,.au] [2,7,8] [1] hS hE ⟨look_ok D v,trivial⟩ fun a w hS=>?_
  refine PX.G [(.e 6 (.sc (.bool ((findD D v).isSome&&decide (((findD D v).getD 0)<n)))))] [] 3 [] [(1,(findD D v).isSome)] [.au,.au,.au,.au,.au,.pk,.au] [6] [1] hS hE trivial fun a w hS=>?_
  refine wp_ret ?_
  rw [show (.sc (.bool (hasD ps D v n)))=((.sc (.bool ((findD D v).isSome&&decide (((findD D v).getD 0)<n)))):PX.PV) from by unfold hasD; rw [h2]; simp]
  exact PX.rt hS hE (.inl rfl)

set_option maxHeartbeats 400000 in
theorem con_f155 (ps n:Int) (D:List (Int × Int)) (xs:List Int) (hp:0≤ps∧ps≤999) (hl:xs.length≤140737488351232):PX.Con Try.prog 155 [(.agg [(.J ps),(.map 1)]),(.J n),(.imm 1 (xs.map encI))] [(1,.mp (iv D))] 2 100000 (.sc (.bool (xs.all (fun x=>hasD ps D x n)))) [(1,some (.mp (iv D)))]:=by
 refine PX.con_intro [(.agg [(.J ps),(.map 1)]),(.J n),(.imm 1 (xs.map encI))] 21 Try.func155 rfl rfl (by kernel_rfl) (by kernel_rfl) ?_
 intro E a hE hS
 generalize E.w0=w at hS ⊢
 have mix:=mixed
 refine PX.G [(.e 3 (.ptr 2 0))] [(2,.box 183 [(.J ps),(.map 1)])] 3 [] [] [.au,.au] [1,2,3] [1,2] hS hE trivial fun a w hS=>?_
 refine wp_seq_k fun K1 hK1=>?_
 refine PX.G [(.e 9 (.imm 1 (xs.map encI))),(.e 10 (.sc (.I (xs.length:Int)))),(.e 11 (.J 0))] [] 3 [.q ((.sc (.I (((xs.map encI).length:Nat):Int)):PX.PV)=(.sc (.I (xs.length:Int))))] [] [.au,.nm (.sc (.I (xs.length:Int))),.au] [1,3,9,10,11] [1,2] hS hE ⟨PX.nm_len (by simp),trivial⟩ fun a w hS=>?_
 refine wp_block ?_
 refine wp_loop_ghost (fun m2 a' w'=>∃ k:Nat,m2=xs.length-k∧k≤xs.length∧Upto xs (fun _ x=>hasD ps D x n) (k)∧PX.Sat E 21 [(.e 1 (.J n)),(.e 3 (.ptr 2 0)),(.e 9 (.imm 1 (xs.map encI))),(.e 10 (.sc (.I (xs.length:Int)))),(.e 11 (.sc (.I (k:Int))))] [(1,.mp (iv D)),(2,.box 183 [(.J ps),(.map 1)])] 3 a' w') (xs.length-0) ⟨0,rfl,Nat.zero_le _,Upto.zero,(PX.cn [] _ _ 3 hS hE)⟩ ?_
 clear hS; rintro m2 a w ⟨k,hm2,hlek,hIk,hS⟩
 refine PX.G [(.e 12 (.sc (.bool (decide ((k:Int)<(xs.length:Int))))))] [] 3 [] [] [.au] [1,3,9,10,11,12] [1,2] hS hE trivial fun a w hS=>?_
 refine wp_seq_k fun K3 hK3=>?_
 refine PX.cond_s (decide ((k:Int)<(xs.length:Int))) hS (by kernel_rfl) (fun h4=>?_) (fun h4=>?_)
 ·skip
  refine wp_skip ?_
  refine hK3 _ _ ?_
  refine wp_seq_k fun K5 hK5=>?_
  refine wp_block ?_
  have hltx:k<xs.length:=by simpa using h4
  obtain ⟨x,hx⟩:=get_of_lt hltx
  refine PX.G [(.e 8 (.J x))] [] 3 [.q ((k:Int)=(k:Int)),.q ((xs.map encI)[k]?=some (encI x))] [] [.ix k (encI x),.au,.au] [1,3,8,9,10,11] [1,2] hS hE ⟨rfl,PX.map_get hx,trivial⟩ fun a w hS=>?_
  refine PX.G [(.e 19 (.sc (.bool (!(hasD ps D x n)))))] [] 3 [.q (PX.Con Try.prog 154 [(.agg [(.J ps),(.map 1)]),(.J x),(.J n)] [(1,.mp (iv D))] 3 3 (.sc (.bool (hasD ps D x n))) [(1,some (.mp (iv D)))])] [] [.au,.au,.au,.cl [1] (.sc (.bool (hasD ps D x n))) [(1,some (.mp (iv D)))] 3,.au] [1,3,9,10,11,19] [1,2] hS hE ⟨PX.con_as [(1,1)] [(1,1)] (con_f154 ps x n D hp) (by kernel_rfl) (by kernel_rfl) (by kernel_rfl) (by kernel_rfl) (by kernel_rfl) (by kernel_rfl),trivial⟩ fun a w hS=>?_
  refine PX.cond_s (!(hasD ps D x n)) hS (by kernel_rfl) (fun h6=>?_) (fun h6=>?_)
  ·skip
   refine PX.G [(.e 6 (.sc (.bool false)))] [] 3 [] [] [.au] [1,3,6,9,10,11] [1,2] hS hE trivial fun a w hS=>?_
   refine wp_ret ?_
   rw [show (.sc (.bool (xs.all (fun x=>hasD ps D x n))))=((.sc (.bool false)):PX.PV) from by rw [← all_no hx (by simpa using h6)]]
   exact PX.rt hS hE (.inl rfl)
  ·skip
   refine wp_skip ?_
   refine hK5 _ _ ?_
   refine PX.G0 [(.e 11 (.sc (.I ((k+1:Nat):Int))))] [] 3 [.q ((.sc (.I (IntKind.i64.wrap ((k:Int)+1))):PX.PV)=(.sc (.I ((k+1:Nat):Int))))] [] [.nm (.sc (.I ((k+1:Nat):Int))),.au] [1,3,9,10,11] [1,2] hS hE ⟨PX.nm_int (by rw [IntWalk.i64_in _ (by omega)]; omega),trivial⟩ fun a w hS=>?_
   exact ⟨xs.length-(k+1),by omega,k+1,rfl,by omega,hIk.step hx (by simpa using h6),(PX.cn [] _ _ 3 hS hE)⟩
 ·skip
  refine wp_exit ?_
  refine hK1 _ _ ?_
  refine PX.G [(.e 6 (.sc (.bool true)))] [] 3 [] [] [.au] [6] [1] hS hE trivial fun a w hS=>?_
  refine wp_ret ?_
  rw [show (.sc (.bool (xs.all (fun x=>hasD ps D x n))))=((.sc (.bool true)):PX.PV) from by rw [← hIk.all (le_of_dec h4)]]
  exact PX.rt hS hE (.inl rfl)

set_option maxHeartbeats 400000 in
theorem con_f126 (k:Int):PX.Con Try.prog 126 [(.J k)] [] 1 100000 (.sc (.I (fieldsN k))) []:=by
 refine PX.con_intro [(.J k)] 38 Try.func126 rfl rfl (by kernel_rfl) (by kernel_rfl) ?_
 intro E a hE hS
 generalize E.w0=w at hS ⊢
 have mix:=mixed
 refine PX.G [] [] 1 [] [] [.au] [0] [] hS hE trivial fun a w hS=>?_
 refine wp_seq_k fun K1 hK1=>?_
 refine wp_block ?_
 refine PX.G [(.e 3 (.sc (.bool (k==1))))] [] 1 [] [] [.au,.au,.au] [0,3] [] hS hE trivial fun a w hS=>?_
 refine PX.cond_s (k==1) hS (by kernel_rfl) (fun h2=>?_) (fun h2=>?_)
 ·skip
  refine PX.G [(.e 2 (.J 9))] [] 1 [] [] [.au] [2] [] hS hE trivial fun a w hS=>?_
  refine wp_ret ?_
  have e:fieldsN k=9:=by clear hS hE; simp only [beq_iff_eq,beq_eq_false_iff_ne,Bool.and_eq_true,Bool.and_eq_false_iff,Bool.or_eq_true,Bool.or_eq_false_iff,decide_eq_true_eq,decide_eq_false_iff_not,ne_eq] at h2; unfold fieldsN; (repeat' split) <;> omega
  rw [show (.sc (.I (fieldsN k)))=((.J 9):PX.PV) from by rw [e]]
  exact PX.rt hS hE (.inl rfl)
 ·skip
  refine PX.G [(.e 6 (.sc (.bool (k==2))))] [] 1 [] [] [.au,.au,.au] [0,6] [] hS hE trivial fun a w hS=>?_
  refine PX.cond_s (k==2) hS (by kernel_rfl) (fun h3=>?_) (fun h3=>?_)
  ·skip
   refine PX.G [(.e 2 (.J 3))] [] 1 [] [] [.au] [2] [] hS hE trivial fun a w hS=>?_
   refine wp_ret ?_
   have e:fieldsN k=3:=by clear hS hE; simp only [beq_iff_eq,beq_eq_false_iff_ne,Bool.and_eq_true,Bool.and_eq_false_iff,Bool.or_eq_true,Bool.or_eq_false_iff,decide_eq_true_eq,decide_eq_false_iff_not,ne_eq] at h2 h3; unfold fieldsN; (repeat' split) <;> omega
   rw [show (.sc (.I (fieldsN k)))=((.J 3):PX.PV) from by rw [e]]
   exact PX.rt hS hE (.inl rfl)
  ·skip
   refine PX.G [(.e 9 (.sc (.bool (decide (3≤k)&&decide (k≤14)))))] [] 1 [] [(2,decide (3≤k))] [.au,.au,.au,.au,.au,.pk,.au] [0,9] [] hS hE trivial fun a w hS=>?_
   refine PX.cond_s (decide (3≤k)&&decide (k≤14)) hS (by kernel_rfl) (fun h4=>?_) (fun h4=>?_)
   ·skip
    refine PX.G [(.e 2 (.J 7))] [] 1 [] [] [.au] [2] [] hS hE trivial fun a w hS=>?_
    refine wp_ret ?_
    have e:fieldsN k=7:=by clear hS hE; simp only [beq_iff_eq,beq_eq_false_iff_ne,Bool.and_eq_true,Bool.and_eq_false_iff,Bool.or_eq_true,Bool.or_eq_false_iff,decide_eq_true_eq,decide_eq_false_iff_not,ne_eq] at h2 h3 h4; unfold fieldsN; (repeat' split) <;> omega
    rw [show (.sc (.I (fieldsN k)))=((.J 7):PX.PV) from by rw [e]]
    exact PX.rt hS hE (.inl rfl)
   ·skip
    refine PX.G [(.e 16 (.sc (.bool (k==15))))] [] 1 [] [] [.au,.au,.au] [0,16] [] hS hE trivial fun a w hS=>?_
    refine PX.cond_s (k==15) hS (by kernel_rfl) (fun h5=>?_) (fun h5=>?_)
    ·skip
     refine PX.G [(.e 2 (.J 11))] [] 1 [] [] [.au] [2] [] hS hE trivial fun a w hS=>?_
     refine wp_ret ?_
     have e:fieldsN k=11:=by clear hS hE; simp only [beq_iff_eq,beq_eq_false_iff_ne,Bool.and_eq_true,Bool.and_eq_false_iff,Bool.or_eq_true,Bool.or_eq_false_iff,decide_eq_true_eq,decide_eq_false_iff_not,ne_eq] at h2 h3 h4 h5; unfold fieldsN; (repeat' split) <;> omega
     rw [show (.sc (.I (fieldsN k)))=((.J 11):PX.PV) from by rw [e]]
     exact PX.rt hS hE (.inl rfl)
    ·skip
     refine PX.G [(.e 19 (.sc (.bool (k==16))))] [] 1 [] [] [.au,.au,.au] [0,19] [] hS hE trivial fun a w hS=>?_
     refine PX.cond_s (k==16) hS (by kernel_rfl) (fun h6=>?_) (fun h6=>?_)
     ·skip
      refine PX.G [(.e 2 (.J 14))] [] 1 [] [] [.au] [2] [] hS hE trivial fun a w hS=>?_
      refine wp_ret ?_
      have e:fieldsN k=14:=by clear hS hE; simp only [beq_iff_eq,beq_eq_false_iff_ne,Bool.and_eq_true,Bool.and_eq_false_iff,Bool.or_eq_true,Bool.or_eq_false_iff,decide_eq_true_eq,decide_eq_false_iff_not,ne_eq] at h2 h3 h4 h5 h6; unfold fieldsN; (repeat' split) <;> omega
      rw [show (.sc (.I (fieldsN k)))=((.J 14):PX.PV) from by rw [e]]
      exact PX.rt hS hE (.inl rfl)
     ·skip
      refine PX.G [(.e 22 (.sc (.bool (k==17))))] [] 1 [] [] [.au,.au,.au] [0,22] [] hS hE trivial fun a w hS=>?_
      refine PX.cond_s (k==17) hS (by kernel_rfl) (fun h7=>?_) (fun h7=>?_)
      ·skip
       refine PX.G [(.e 2 (.J 8))] [] 1 [] [] [.au] [2] [] hS hE trivial fun a w hS=>?_
       refine wp_ret ?_
       have e:fieldsN k=8:=by clear hS hE; simp only [beq_iff_eq,beq_eq_false_iff_ne,Bool.and_eq_true,Bool.and_eq_false_iff,Bool.or_eq_true,Bool.or_eq_false_iff,decide_eq_true_eq,decide_eq_false_iff_not,ne_eq] at h2 h3 h4 h5 h6 h7; unfold fieldsN; (repeat' split) <;> omega
       rw [show (.sc (.I (fieldsN k)))=((.J 8):PX.PV) from by rw [e]]
       exact PX.rt hS hE (.inl rfl)
      ·skip
       refine PX.G [(.e 25 (.sc (.bool (k==18))))] [] 1 [] [] [.au,.au,.au] [0,25] [] hS hE trivial fun a w hS=>?_
       refine PX.cond_s (k==18) hS (by kernel_rfl) (fun h8=>?_) (fun h8=>?_)
       ·skip
        refine PX.G [(.e 2 (.J 2))] [] 1 [] [] [.au] [2] [] hS hE trivial fun a w hS=>?_
        refine wp_ret ?_
        have e:fieldsN k=2:=by clear hS hE; simp only [beq_iff_eq,beq_eq_false_iff_ne,Bool.and_eq_true,Bool.and_eq_false_iff,Bool.or_eq_true,Bool.or_eq_false_iff,decide_eq_true_eq,decide_eq_false_iff_not,ne_eq] at h2 h3 h4 h5 h6 h7 h8; unfold fieldsN; (repeat' split) <;> omega
        rw [show (.sc (.I (fieldsN k)))=((.J 2):PX.PV) from by rw [e]]
        exact PX.rt hS hE (.inl rfl)
       ·skip
        refine PX.G [(.e 28 (.sc (.bool ((k==19)||(k==20)))))] [] 1 [] [(2,(k==19))] [.au,.au,.au,.au,.au,.pk,.au] [0,28] [] hS hE trivial fun a w hS=>?_
        refine PX.cond_s ((k==19)||(k==20)) hS (by kernel_rfl) (fun h9=>?_) (fun h9=>?_)
        ·skip
         refine PX.G [(.e 2 (.J 24))] [] 1 [] [] [.au] [2] [] hS hE trivial fun a w hS=>?_
         refine wp_ret ?_
         have e:fieldsN k=24:=by clear hS hE; simp only [beq_iff_eq,beq_eq_false_iff_ne,Bool.and_eq_true,Bool.and_eq_false_iff,Bool.or_eq_true,Bool.or_eq_false_iff,decide_eq_true_eq,decide_eq_false_iff_not,ne_eq] at h2 h3 h4 h5 h6 h7 h8 h9; unfold fieldsN; (repeat' split) <;> omega
         rw [show (.sc (.I (fieldsN k)))=((.J 24):PX.PV) from by rw [e]]
         exact PX.rt hS hE (.inl rfl)
        ·skip
         refine PX.G [(.e 35 (.sc (.bool (k==21))))] [] 1 [] [] [.au,.au,.au] [35] [] hS hE trivial fun a w hS=>?_
         refine PX.cond_s (k==21) hS (by kernel_rfl) (fun h10=>?_) (fun h10=>?_)
         ·skip
          refine PX.G [(.e 2 (.J 48))] [] 1 [] [] [.au] [2] [] hS hE trivial fun a w hS=>?_
          refine wp_ret ?_
          have e:fieldsN k=48:=by clear hS hE; simp only [beq_iff_eq,beq_eq_false_iff_ne,Bool.and_eq_true,Bool.and_eq_false_iff,Bool.or_eq_true,Bool.or_eq_false_iff,decide_eq_true_eq,decide_eq_false_iff_not,ne_eq] at h2 h3 h4 h5 h6 h7 h8 h9 h10; unfold fieldsN; (repeat' split) <;> omega
          rw [show (.sc (.I (fieldsN k)))=((.J 48):PX.PV) from by rw [e]]
          exact PX.rt hS hE (.inl rfl)
         ·skip
          refine wp_skip ?_
          refine hK1 _ _ ?_
          refine PX.G [(.e 2 (.J 0))] [] 1 [] [] [.au] [2] [] hS hE trivial fun a w hS=>?_
          refine wp_ret ?_
          have e:fieldsN k=0:=by clear hS hE; simp only [beq_iff_eq,beq_eq_false_iff_ne,Bool.and_eq_true,Bool.and_eq_false_iff,Bool.or_eq_true,Bool.or_eq_false_iff,decide_eq_true_eq,decide_eq_false_iff_not,ne_eq] at h2 h3 h4 h5 h6 h7 h8 h9 h10; unfold fieldsN; (repeat' split) <;> omega
          rw [show (.sc (.I (fieldsN k)))=((.J 0):PX.PV) from by rw [e]]
          exact PX.rt hS hE (.inl rfl)

set_option maxHeartbeats 400000 in
theorem con_f153 (u x f:Int):PX.Con Try.prog 153 [(.J u),(.J x),(.iptr ([.sc (.I f)]) 0)] [] 1 100000 (.sc (.bool ((andI f u==0)&&(x != 0)))) []:=by
 refine PX.con_intro [(.J u),(.J x),(.iptr ([.sc (.I f)]) 0)] 14 Try.func153 rfl rfl (by kernel_rfl) (by kernel_rfl) ?_
 intro E a hE hS
 generalize E.w0=w at hS ⊢
 have mix:=mixed
 refine PX.G [] [] 1 [] [] [.au] [0,1,2] [] hS hE trivial fun a w hS=>?_
 refine PX.G [(.e 5 (.sc (.bool (((andI f u)==0)&&(x != 0)))))] [] 1 [] [(4,((andI f u)==0))] [.au,.au,.au,.au,.au,.au,.au,.pk,.au] [5] [] hS hE trivial fun a w hS=>?_
 refine wp_ret ?_
 rw [show (.sc (.bool ((andI f u==0)&&(x != 0))))=((.sc (.bool (((andI f u)==0)&&(x != 0)))):PX.PV) from rfl]
 exact PX.rt hS hE (.inl rfl)

theorem src_neB (i j:Nat) (a b c:Int):PX.BinIs Try.prog .neq 72 (.tmp i) (.tmp j) (.agg #[.I a,.I b,.I c]) (.agg #[.I 0,.I 0,.I 0]) (.bool (!(a==0&&(b==0&&c==0)))):=by
 intro w
 cases h1:(a==0) <;> cases h2:(b==0) <;> cases h3:(c==0) <;> simp [go_sem,eqGuard,Try.underlying72,h1,h2,h3]

set_option maxHeartbeats 400000 in
theorem con_f127 (o:OpD):PX.Con Try.prog 127 [(.agg (encO o))] [] 1 100000 (.sc (.bool (P.clean o))) []:=by
 refine PX.con_intro [(.agg (encO o))] 63 Try.func127 rfl rfl (by kernel_rfl) (by kernel_rfl) ?_
 intro E a hE hS
 generalize E.w0=w at hS ⊢
 have mix:=mixed
 refine PX.G [(.e 1 (.ptr 1 0))] [(1,.box 74 (encO o))] 2 [] [] [.au,.au] [1] [1] hS hE trivial fun a w hS=>?_
 refine PX.G [(.e 3 (.ptr 2 0))] [(2,.box 3 [(.sc (.I (fieldsN o.kind)))])] 3 [.q (PX.Con Try.prog 126 [(.J o.kind)] [] 2 2 (.sc (.I (fieldsN o.kind))) [])] [] [.au,.au,.cl [] (.sc (.I (fieldsN o.kind))) [] 2,.au,.au] [1,3] [1,2] hS hE ⟨PX.con_any (con_f126 o.kind),trivial⟩ fun a w hS=>?_
 replace hS:=PX.fzb (id:=2) (t:=3) (T:=[(.e 1 (.ptr 1 0))]) (H':=[(1,.box 74 (encO o))]) [1] [1] hS rfl rfl rfl (by kernel_rfl) (by kernel_rfl) rfl
 refine wp_seq_k fun K1 hK1=>?_
 refine PX.G [(.e 9 (.sc (.bool ((fieldsN o.kind)==0))))] [] 3 [] [] [.au,.au] [1,3,9] [1] hS hE trivial fun a w hS=>?_
 refine PX.cond_s ((fieldsN o.kind)==0) hS (by kernel_rfl) (fun h2=>?_) (fun h2=>?_)
 ·skip
  refine PX.G [(.e 2 (.sc (.bool false)))] [] 3 [] [] [.au] [2] [] hS hE trivial fun a w hS=>?_
  refine wp_ret ?_
  rw [show (.sc (.bool (P.clean o)))=((.sc (.bool false)):PX.PV) from by clear hS hE; have hk:=h2; rw [f_zero] at hk; unfold P.clean; (try simp only [f_dst,f_a,f_b,f_n,f_ctx,f_bind]); simp_all [Bool.and_assoc]]
  exact PX.rt hS hE (.inl rfl)
 ·skip
  refine wp_skip ?_
  refine hK1 _ _ ?_
  refine PX.G [(.e 4 (.fn 153 [] [(.iptr ([(.sc (.I (fieldsN o.kind)))]) 0)]))] [] 3 [] [] [.au,.au] [1,3,4] [1] hS hE trivial fun a w hS=>?_
  refine PX.G [(.e 2 (.sc (.bool (!(((((((((andI (fieldsN o.kind) 1==0)&&(o.dst != 0))||((andI (fieldsN o.kind) 2==0)&&(o.a != 0)))||((andI (fieldsN o.kind) 4==0)&&(o.b != 0)))||((andI (fieldsN o.kind) 8==0)&&(o.n != 0)))||((andI (fieldsN o.kind) 16==0)&&(o.ctx != 0)))||((andI (fieldsN o.kind) 32==0)&&(o.var != 0)))||((andI (fieldsN o.kind) 32==0)&&(o.piece != 0)))||(((andI (fieldsN o.kind) 32)==0)&&(!(o.sk==0&&(o.sv==0&&o.sa==0)))))))))] [] 3 [.q (PX.Con Try.prog 153 [(.J 1),(.J o.dst),(.iptr ([(.sc (.I (fieldsN o.kind)))]) 0)] [] 3 3 (.sc (.bool ((andI (fieldsN o.kind) 1==0)&&(o.dst != 0)))) []),.q (SX.pv [(4,((andI (fieldsN o.kind) 1==0)&&(o.dst != 0))),(10,(((andI (fieldsN o.kind) 1==0)&&(o.dst != 0))||((andI (fieldsN o.kind) 2==0)&&(o.a != 0)))),(16,((((andI (fieldsN o.kind) 1==0)&&(o.dst != 0))||((andI (fieldsN o.kind) 2==0)&&(o.a != 0)))||((andI (fieldsN o.kind) 4==0)&&(o.b != 0)))),(22,(((((andI (fieldsN o.kind) 1==0)&&(o.dst != 0))||((andI (fieldsN o.kind) 2==0)&&(o.a != 0)))||((andI (fieldsN o.kind) 4==0)&&(o.b != 0)))||((andI (fieldsN o.kind) 8==0)&&(o.n != 0)))),(28,((((((andI (fieldsN o.kind) 1==0)&&(o.dst != 0))||((andI (fieldsN o.kind) 2==0)&&(o.a != 0)))||((andI (fieldsN o.kind) 4==0)&&(o.b != 0)))||((andI (fieldsN o.kind) 8==0)&&(o.n != 0)))||((andI (fieldsN o.kind) 16==0)&&(o.ctx != 0)))),(34,(((((((andI (fieldsN o.kind) 1==0)&&(o.dst != 0))||((andI (fieldsN o.kind) 2==0)&&(o.a != 0)))||((andI (fieldsN o.kind) 4==0)&&(o.b != 0)))||((andI (fieldsN o.kind) 8==0)&&(o.n != 0)))||((andI (fieldsN o.kind) 16==0)&&(o.ctx != 0)))||((andI (fieldsN o.kind) 32==0)&&(o.var != 0)))),(40,((((((((andI (fieldsN o.kind) 1==0)&&(o.dst != 0))||((andI (fieldsN o.kind) 2==0)&&(o.a != 0)))||((andI (fieldsN o.kind) 4==0)&&(o.b != 0)))||((andI (fieldsN o.kind) 8==0)&&(o.n != 0)))||((andI (fieldsN o.kind) 16==0)&&(o.ctx != 0)))||((andI (fieldsN o.kind) 32==0)&&(o.var != 0)))||((andI (fieldsN o.kind) 32==0)&&(o.piece != 0)))),(44,((andI (fieldsN o.kind) 32)==0))] [(4,false)]=true→PX.AllOb [.q (PX.Con Try.prog 153 [(.J 2),(.J o.a),(.iptr ([(.sc (.I (fieldsN o.kind)))]) 0)] [] 3 3 (.sc (.bool ((andI (fieldsN o.kind) 2==0)&&(o.a != 0)))) [])]),.q (SX.pv [(4,((andI (fieldsN o.kind) 1==0)&&(o.dst != 0))),(10,(((andI (fieldsN o.kind) 1==0)&&(o.dst != 0))||((andI (fieldsN o.kind) 2==0)&&(o.a != 0)))),(16,((((andI (fieldsN o.kind) 1==0)&&(o.dst != 0))||((andI (fieldsN o.kind) 2==0)&&(o.a != 0)))||((andI (fieldsN o.kind) 4==0)&&(o.b != 0)))),(22,(((((andI (fieldsN o.kind) 1==0)&&(o.dst != 0))||((andI (fieldsN o.kind) 2==0)&&(o.a != 0)))||((andI (fieldsN o.kind) 4==0)&&(o.b != 0)))||((andI (fieldsN o.kind) 8==0)&&(o.n != 0)))),(28,((((((andI (fieldsN o.kind) 1==0)&&(o.dst != 0))||((andI (fieldsN o.kind) 2==0)&&(o.a != 0)))||((andI (fieldsN o.kind) 4==0)&&(o.b != 0)))||((andI (fieldsN o.kind) 8==0)&&(o.n != 0)))||((andI (fieldsN o.kind) 16==0)&&(o.ctx != 0)))),(34,(((((((andI (fieldsN o.kind) 1==0)&&(o.dst != 0))||((andI (fieldsN o.kind) 2==0)&&(o.a != 0)))||((andI (fieldsN o.kind) 4==0)&&(o.b != 0)))||((andI (fieldsN o.kind) 8==0)&&(o.n != 0)))||((andI (fieldsN o.kind) 16==0)&&(o.ctx != 0)))||((andI (fieldsN o.kind) 32==0)&&(o.var != 0)))),(40,((((((((andI (fieldsN o.kind) 1==0)&&(o.dst != 0))||((andI (fieldsN o.kind) 2==0)&&(o.a != 0)))||((andI (fieldsN o.kind) 4==0)&&(o.b != 0)))||((andI (fieldsN o.kind) 8==0)&&(o.n != 0)))||((andI (fieldsN o.kind) 16==0)&&(o.ctx != 0)))||((andI (fieldsN o.kind) 32==0)&&(o.var != 0)))||((andI (fieldsN o.kind) 32==0)&&(o.piece != 0)))),(44,((andI (fieldsN o.kind) 32)==0))] [(10,false)]=true→PX.AllOb [.q (PX.Con Try.prog 153 [(.J 4),(.J o.b),(.iptr ([(.sc (.I (fieldsN o.kind)))]) 0)] [] 3 3 (.sc (.bool ((andI (fieldsN o.kind) 4==0)&&(o.b != 0)))) [])]),.q (SX.pv [(4,((andI (fieldsN o.kind) 1==0)&&(o.dst != 0))),(10,(((andI (fieldsN o.kind) 1==0)&&(o.dst != 0))||((andI (fieldsN o.kind) 2==0)&&(o.a != 0)))),(16,((((andI (fieldsN o.kind) 1==0)&&(o.dst != 0))||((andI (fieldsN o.kind) 2==0)&&(o.a != 0)))||((andI (fieldsN o.kind) 4==0)&&(o.b != 0)))),(22,(((((andI (fieldsN o.kind) 1==0)&&(o.dst != 0))||((andI (fieldsN o.kind) 2==0)&&(o.a != 0)))||((andI (fieldsN o.kind) 4==0)&&(o.b != 0)))||((andI (fieldsN o.kind) 8==0)&&(o.n != 0)))),(28,((((((andI (fieldsN o.kind) 1==0)&&(o.dst != 0))||((andI (fieldsN o.kind) 2==0)&&(o.a != 0)))||((andI (fieldsN o.kind) 4==0)&&(o.b != 0)))||((andI (fieldsN o.kind) 8==0)&&(o.n != 0)))||((andI (fieldsN o.kind) 16==0)&&(o.ctx != 0)))),(34,(((((((andI (fieldsN o.kind) 1==0)&&(o.dst != 0))||((andI (fieldsN o.kind) 2==0)&&(o.a != 0)))||((andI (fieldsN o.kind) 4==0)&&(o.b != 0)))||((andI (fieldsN o.kind) 8==0)&&(o.n != 0)))||((andI (fieldsN o.kind) 16==0)&&(o.ctx != 0)))||((andI (fieldsN o.kind) 32==0)&&(o.var != 0)))),(40,((((((((andI (fieldsN o.kind) 1==0)&&(o.dst != 0))||((andI (fieldsN o.kind) 2==0)&&(o.a != 0)))||((andI (fieldsN o.kind) 4==0)&&(o.b != 0)))||((andI (fieldsN o.kind) 8==0)&&(o.n != 0)))||((andI (fieldsN o.kind) 16==0)&&(o.ctx != 0)))||((andI (fieldsN o.kind) 32==0)&&(o.var != 0)))||((andI (fieldsN o.kind) 32==0)&&(o.piece != 0)))),(44,((andI (fieldsN o.kind) 32)==0))] [(16,false)]=true→PX.AllOb [.q (PX.Con Try.prog 153 [(.J 8),(.J o.n),(.iptr ([(.sc (.I (fieldsN o.kind)))]) 0)] [] 3 3 (.sc (.bool ((andI (fieldsN o.kind) 8==0)&&(o.n != 0)))) [])]),.q (SX.pv [(4,((andI (fieldsN o.kind) 1==0)&&(o.dst != 0))),(10,(((andI (fieldsN o.kind) 1==0)&&(o.dst != 0))||((andI (fieldsN o.kind) 2==0)&&(o.a != 0)))),(16,((((andI (fieldsN o.kind) 1==0)&&(o.dst != 0))||((andI (fieldsN o.kind) 2==0)&&(o.a != 0)))||((andI (fieldsN o.kind) 4==0)&&(o.b != 0)))),(22,(((((andI (fieldsN o.kind) 1==0)&&(o.dst != 0))||((andI (fieldsN o.kind) 2==0)&&(o.a != 0)))||((andI (fieldsN o.kind) 4==0)&&(o.b != 0)))||((andI (fieldsN o.kind) 8==0)&&(o.n != 0)))),(28,((((((andI (fieldsN o.kind) 1==0)&&(o.dst != 0))||((andI (fieldsN o.kind) 2==0)&&(o.a != 0)))||((andI (fieldsN o.kind) 4==0)&&(o.b != 0)))||((andI (fieldsN o.kind) 8==0)&&(o.n != 0)))||((andI (fieldsN o.kind) 16==0)&&(o.ctx != 0)))),(34,(((((((andI (fieldsN o.kind) 1==0)&&(o.dst != 0))||((andI (fieldsN o.kind) 2==0)&&(o.a != 0)))||((andI (fieldsN o.kind) 4==0)&&(o.b != 0)))||((andI (fieldsN o.kind) 8==0)&&(o.n != 0)))||((andI (fieldsN o.kind) 16==0)&&(o.ctx != 0)))||((andI (fieldsN o.kind) 32==0)&&(o.var != 0)))),(40,((((((((andI (fieldsN o.kind) 1==0)&&(o.dst != 0))||((andI (fieldsN o.kind) 2==0)&&(o.a != 0)))||((andI (fieldsN o.kind) 4==0)&&(o.b != 0)))||((andI (fieldsN o.kind) 8==0)&&(o.n != 0)))||((andI (fieldsN o.kind) 16==0)&&(o.ctx != 0)))||((andI (fieldsN o.kind) 32==0)&&(o.var != 0)))||((andI (fieldsN o.kind) 32==0)&&(o.piece != 0)))),(44,((andI (fieldsN o.kind) 32)==0))] [(22,false)]=true→PX.AllOb [.q (PX.Con Try.prog 153 [(.J 16),(.J o.ctx),(.iptr ([(.sc (.I (fieldsN o.kind)))]) 0)] [] 3 3 (.sc (.bool ((andI (fieldsN o.kind) 16==0)&&(o.ctx != 0)))) [])]),.q (SX.pv [(4,((andI (fieldsN o.kind) 1==0)&&(o.dst != 0))),(10,(((andI (fieldsN o.kind) 1==0)&&(o.dst != 0))||((andI (fieldsN o.kind) 2==0)&&(o.a != 0)))),(16,((((andI (fieldsN o.kind) 1==0)&&(o.dst != 0))||((andI (fieldsN o.kind) 2==0)&&(o.a != 0)))||((andI (fieldsN o.kind) 4==0)&&(o.b != 0)))),(22,(((((andI (fieldsN o.kind) 1==0)&&(o.dst != 0))||((andI (fieldsN o.kind) 2==0)&&(o.a != 0)))||((andI (fieldsN o.kind) 4==0)&&(o.b != 0)))||((andI (fieldsN o.kind) 8==0)&&(o.n != 0)))),(28,((((((andI (fieldsN o.kind) 1==0)&&(o.dst != 0))||((andI (fieldsN o.kind) 2==0)&&(o.a != 0)))||((andI (fieldsN o.kind) 4==0)&&(o.b != 0)))||((andI (fieldsN o.kind) 8==0)&&(o.n != 0)))||((andI (fieldsN o.kind) 16==0)&&(o.ctx != 0)))),(34,(((((((andI (fieldsN o.kind) 1==0)&&(o.dst != 0))||((andI (fieldsN o.kind) 2==0)&&(o.a != 0)))||((andI (fieldsN o.kind) 4==0)&&(o.b != 0)))||((andI (fieldsN o.kind) 8==0)&&(o.n != 0)))||((andI (fieldsN o.kind) 16==0)&&(o.ctx != 0)))||((andI (fieldsN o.kind) 32==0)&&(o.var != 0)))),(40,((((((((andI (fieldsN o.kind) 1==0)&&(o.dst != 0))||((andI (fieldsN o.kind) 2==0)&&(o.a != 0)))||((andI (fieldsN o.kind) 4==0)&&(o.b != 0)))||((andI (fieldsN o.kind) 8==0)&&(o.n != 0)))||((andI (fieldsN o.kind) 16==0)&&(o.ctx != 0)))||((andI (fieldsN o.kind) 32==0)&&(o.var != 0)))||((andI (fieldsN o.kind) 32==0)&&(o.piece != 0)))),(44,((andI (fieldsN o.kind) 32)==0))] [(28,false)]=true→PX.AllOb [.q (PX.Con Try.prog 153 [(.J 32),(.J o.var),(.iptr ([(.sc (.I (fieldsN o.kind)))]) 0)] [] 3 3 (.sc (.bool ((andI (fieldsN o.kind) 32==0)&&(o.var != 0)))) [])]),.q (SX.pv [(4,((andI (fieldsN o.kind) 1==0)&&(o.dst != 0))),(10,(((andI (fieldsN o.kind) 1==0)&&(o.dst != 0))||((andI (fieldsN o.kind) 2==0)&&(o.a != 0)))),(16,((((andI (fieldsN o.kind) 1==0)&&(o.dst != 0))||((andI (fieldsN o.kind) 2==0)&&(o.a != 0)))||((andI (fieldsN o.kind) 4==0)&&(o.b != 0)))),(22,(((((andI (fieldsN o.kind) 1==0)&&(o.dst != 0))||((andI (fieldsN o.kind) 2==0)&&(o.a != 0)))||((andI (fieldsN o.kind) 4==0)&&(o.b != 0)))||((andI (fieldsN o.kind) 8==0)&&(o.n != 0)))),(28,((((((andI (fieldsN o.kind) 1==0)&&(o.dst != 0))||((andI (fieldsN o.kind) 2==0)&&(o.a != 0)))||((andI (fieldsN o.kind) 4==0)&&(o.b != 0)))||((andI (fieldsN o.kind) 8==0)&&(o.n != 0)))||((andI (fieldsN o.kind) 16==0)&&(o.ctx != 0)))),(34,(((((((andI (fieldsN o.kind) 1==0)&&(o.dst != 0))||((andI (fieldsN o.kind) 2==0)&&(o.a != 0)))||((andI (fieldsN o.kind) 4==0)&&(o.b != 0)))||((andI (fieldsN o.kind) 8==0)&&(o.n != 0)))||((andI (fieldsN o.kind) 16==0)&&(o.ctx != 0)))||((andI (fieldsN o.kind) 32==0)&&(o.var != 0)))),(40,((((((((andI (fieldsN o.kind) 1==0)&&(o.dst != 0))||((andI (fieldsN o.kind) 2==0)&&(o.a != 0)))||((andI (fieldsN o.kind) 4==0)&&(o.b != 0)))||((andI (fieldsN o.kind) 8==0)&&(o.n != 0)))||((andI (fieldsN o.kind) 16==0)&&(o.ctx != 0)))||((andI (fieldsN o.kind) 32==0)&&(o.var != 0)))||((andI (fieldsN o.kind) 32==0)&&(o.piece != 0)))),(44,((andI (fieldsN o.kind) 32)==0))] [(34,false)]=true→PX.AllOb [.q (PX.Con Try.prog 153 [(.J 32),(.J o.piece),(.iptr ([(.sc (.I (fieldsN o.kind)))]) 0)] [] 3 3 (.sc (.bool ((andI (fieldsN o.kind) 32==0)&&(o.piece != 0)))) [])]),.q (SX.pv [(4,((andI (fieldsN o.kind) 1==0)&&(o.dst != 0))),(10,(((andI (fieldsN o.kind) 1==0)&&(o.dst != 0))||((andI (fieldsN o.kind) 2==0)&&(o.a != 0)))),(16,((((andI (fieldsN o.kind) 1==0)&&(o.dst != 0))||((andI (fieldsN o.kind) 2==0)&&(o.a != 0)))||((andI (fieldsN o.kind) 4==0)&&(o.b != 0)))),(22,(((((andI (fieldsN o.kind) 1==0)&&(o.dst != 0))||((andI (fieldsN o.kind) 2==0)&&(o.a != 0)))||((andI (fieldsN o.kind) 4==0)&&(o.b != 0)))||((andI (fieldsN o.kind) 8==0)&&(o.n != 0)))),(28,((((((andI (fieldsN o.kind) 1==0)&&(o.dst != 0))||((andI (fieldsN o.kind) 2==0)&&(o.a != 0)))||((andI (fieldsN o.kind) 4==0)&&(o.b != 0)))||((andI (fieldsN o.kind) 8==0)&&(o.n != 0)))||((andI (fieldsN o.kind) 16==0)&&(o.ctx != 0)))),(34,(((((((andI (fieldsN o.kind) 1==0)&&(o.dst != 0))||((andI (fieldsN o.kind) 2==0)&&(o.a != 0)))||((andI (fieldsN o.kind) 4==0)&&(o.b != 0)))||((andI (fieldsN o.kind) 8==0)&&(o.n != 0)))||((andI (fieldsN o.kind) 16==0)&&(o.ctx != 0)))||((andI (fieldsN o.kind) 32==0)&&(o.var != 0)))),(40,((((((((andI (fieldsN o.kind) 1==0)&&(o.dst != 0))||((andI (fieldsN o.kind) 2==0)&&(o.a != 0)))||((andI (fieldsN o.kind) 4==0)&&(o.b != 0)))||((andI (fieldsN o.kind) 8==0)&&(o.n != 0)))||((andI (fieldsN o.kind) 16==0)&&(o.ctx != 0)))||((andI (fieldsN o.kind) 32==0)&&(o.var != 0)))||((andI (fieldsN o.kind) 32==0)&&(o.piece != 0)))),(44,((andI (fieldsN o.kind) 32)==0))] [(44,true),(40,false)]=true→PX.AllOb [.q (PX.BinIs Try.prog .neq 72 (.tmp 57) (.tmp 58) (.agg #[.I o.sk,.I o.sv,.I o.sa]) (.agg #[.I 0,.I 0,.I 0]) (.bool (!(o.sk==0&&(o.sv==0&&o.sa==0)))))])] [(4,((andI (fieldsN o.kind) 1==0)&&(o.dst != 0))),(10,(((andI (fieldsN o.kind) 1==0)&&(o.dst != 0))||((andI (fieldsN o.kind) 2==0)&&(o.a != 0)))),(16,((((andI (fieldsN o.kind) 1==0)&&(o.dst != 0))||((andI (fieldsN o.kind) 2==0)&&(o.a != 0)))||((andI (fieldsN o.kind) 4==0)&&(o.b != 0)))),(22,(((((andI (fieldsN o.kind) 1==0)&&(o.dst != 0))||((andI (fieldsN o.kind) 2==0)&&(o.a != 0)))||((andI (fieldsN o.kind) 4==0)&&(o.b != 0)))||((andI (fieldsN o.kind) 8==0)&&(o.n != 0)))),(28,((((((andI (fieldsN o.kind) 1==0)&&(o.dst != 0))||((andI (fieldsN o.kind) 2==0)&&(o.a != 0)))||((andI (fieldsN o.kind) 4==0)&&(o.b != 0)))||((andI (fieldsN o.kind) 8==0)&&(o.n != 0)))||((andI (fieldsN o.kind) 16==0)&&(o.ctx != 0)))),(34,(((((((andI (fieldsN o.kind) 1==0)&&(o.dst != 0))||((andI (fieldsN o.kind) 2==0)&&(o.a != 0)))||((andI (fieldsN o.kind) 4==0)&&(o.b != 0)))||((andI (fieldsN o.kind) 8==0)&&(o.n != 0)))||((andI (fieldsN o.kind) 16==0)&&(o.ctx != 0)))||((andI (fieldsN o.kind) 32==0)&&(o.var != 0)))),(40,((((((((andI (fieldsN o.kind) 1==0)&&(o.dst != 0))||((andI (fieldsN o.kind) 2==0)&&(o.a != 0)))||((andI (fieldsN o.kind) 4==0)&&(o.b != 0)))||((andI (fieldsN o.kind) 8==0)&&(o.n != 0)))||((andI (fieldsN o.kind) 16==0)&&(o.ctx != 0)))||((andI (fieldsN o.kind) 32==0)&&(o.var != 0)))||((andI (fieldsN o.kind) 32==0)&&(o.piece != 0)))),(44,((andI (fieldsN o.kind) 32)==0))] [.au,.au,.au,.cl [] (.sc (.bool ((andI (fieldsN o.kind) 1==0)&&(o.dst != 0)))) [] 3,.au,.au,.au,.au,.cl [] (.sc (.bool ((andI (fieldsN o.kind) 2==0)&&(o.a != 0)))) [] 3,.pk,.au,.au,.au,.au,.cl [] (.sc (.bool ((andI (fieldsN o.kind) 4==0)&&(o.b != 0)))) [] 3,.pk,.au,.au,.au,.au,.cl [] (.sc (.bool ((andI (fieldsN o.kind) 8==0)&&(o.n != 0)))) [] 3,.pk,.au,.au,.au,.au,.cl [] (.sc (.bool ((andI (fieldsN o.kind) 16==0)&&(o.ctx != 0)))) [] 3,.pk,.au,.au,.au,.au,.cl [] (.sc (.bool ((andI (fieldsN o.kind) 32==0)&&(o.var != 0)))) [] 3,.pk,.au,.au,.au,.au,.cl [] (.sc (.bool ((andI (fieldsN o.kind) 32==0)&&(o.piece != 0)))) [] 3,.pk,.au,.au,.au,.au,.au,.au,.au,.au,.bs (.bool (!(o.sk==0&&(o.sv==0&&o.sa==0)))),.pk,.pk,.au,.au] [2] [] hS hE ⟨PX.con_any (con_f153 1 o.dst (fieldsN o.kind)),fun hg=>⟨PX.con_any (con_f153 2 o.a (fieldsN o.kind)),trivial⟩,fun hg=>⟨PX.con_any (con_f153 4 o.b (fieldsN o.kind)),trivial⟩,fun hg=>⟨PX.con_any (con_f153 8 o.n (fieldsN o.kind)),trivial⟩,fun hg=>⟨PX.con_any (con_f153 16 o.ctx (fieldsN o.kind)),trivial⟩,fun hg=>⟨PX.con_any (con_f153 32 o.var (fieldsN o.kind)),trivial⟩,fun hg=>⟨PX.con_any (con_f153 32 o.piece (fieldsN o.kind)),trivial⟩,fun hg=>⟨src_neB _ _ _ _ _,trivial⟩,trivial⟩ fun a w hS=>?_
  refine wp_ret ?_
  rw [show (.sc (.bool (P.clean o)))=((.sc (.bool (!(((((((((andI (fieldsN o.kind) 1==0)&&(o.dst != 0))||((andI (fieldsN o.kind) 2==0)&&(o.a != 0)))||((andI (fieldsN o.kind) 4==0)&&(o.b != 0)))||((andI (fieldsN o.kind) 8==0)&&(o.n != 0)))||((andI (fieldsN o.kind) 16==0)&&(o.ctx != 0)))||((andI (fieldsN o.kind) 32==0)&&(o.var != 0)))||((andI (fieldsN o.kind) 32==0)&&(o.piece != 0)))||(((andI (fieldsN o.kind) 32)==0)&&(!(o.sk==0&&(o.sv==0&&o.sa==0)))))))):PX.PV) from by clear hS hE; have hk:=h2; rw [f_zero] at hk; unfold P.clean; (try simp only [f_dst,f_a,f_b,f_n,f_ctx,f_bind]); simp_all [Bool.and_assoc]]
  exact PX.rt hS hE (.inl rfl)
end Go.Proofs.Ytlkcidmmpeebeaa

/- Proved: rightOp,rightBind,rightTerm on plain data -/
namespace Go.Proofs.Ytlkcidmmpeebeaa
open Go.RowKit Go.PX
set_option maxRecDepth 100000
set_option maxHeartbeats 1000000 in
theorem con_f128 (c:CodeD) (o:OpD) (i ps:Int) (D:List (Int × Int)) (hp:0≤ps∧ps≤999) (hL:c.contexts.length≤64∧c.objects.length≤64):PX.Con Try.prog 128 [(codeP c),(.agg [(.J ps),(.map 1)]),(.agg (encO o)),(.J i)] [(1,.mp (iv D))] 2 100000 (.sc (.bool (rightOpD c ps D o i))) [(1,some (.mp (iv D)))]:=by
 refine PX.con_intro [(codeP c),(.agg [(.J ps),(.map 1)]),(.agg (encO o)),(.J i)] 71 Try.func128 rfl rfl (by kernel_rfl) (by kernel_rfl) ?_
 intro E a hE hS
 generalize E.w0=w at hS ⊢
 have mix:=mixed
 refine PX.G [(.e 4 (.ptr 2 0)),(.e 5 (.ptr 3 0)),(.e 6 (.ptr 4 0))] [(2,.box 26 (codeL c)),(3,.box 183 [(.J ps),(.map 1)]),(4,.box 74 (encO o))] 5 [] [] [.au,.au,.au,.au] [3,4,5,6] [1,2,3,4] hS hE trivial fun a w hS=>?_
 refine PX.G [(.e 9 (.sc (.I (fieldsN o.kind))))] [] 5 [.q (PX.Con Try.prog 126 [(.J o.kind)] [] 5 5 (.sc (.I (fieldsN o.kind))) [])] [] [.au,.au,.cl [] (.sc (.I (fieldsN o.kind))) [] 5,.au] [3,4,5,6,9] [1,2,3,4] hS hE ⟨PX.con_any (con_f126 o.kind),trivial⟩ fun a w hS=>?_
 refine PX.seq_cutq (E:=E) (N:=71) (T:=[(.e 4 (.ptr 2 0)),(.e 6 (.ptr 4 0))]) (H:=[(1,.mp (iv D)),(2,.box 26 (codeL c)),(4,.box 74 (encO o))]) (nx:=5) (((((andI (fieldsN o.kind) 2 != 0)&&!hasD ps D o.a i)||((andI (fieldsN o.kind) 4 != 0)&&!hasD ps D o.b i))||((andI (fieldsN o.kind) 16 != 0)&&!P.within o.ctx ((c.contexts.length:Int)-1)))=false) ?_ ?_
 ·skip
  rcases Bool.eq_false_or_eq_true ((andI (fieldsN o.kind) 2) != 0) with h2 | h2
  ·skip
   rcases Bool.eq_false_or_eq_true (hasD ps D o.a i) with h3 | h3
   ·skip
    rcases Bool.eq_false_or_eq_true ((andI (fieldsN o.kind) 4) != 0) with h4 | h4
    ·skip
     rcases Bool.eq_false_or_eq_true (hasD ps D o.b i) with h5 | h5
     ·skip
      refine PX.G [(.e 51 (.sc (.bool (((andI (fieldsN o.kind) 16) != 0)&&(!(P.within o.ctx ((c.contexts.length:Int)-1)))))))] [] 5 [.q (((.sc (.bool ((andI (fieldsN o.kind) 2) != 0))):PX.PV)=(.sc (.bool true))),.q (PX.Con Try.prog 154 [(.agg [(.sc (.I ps)),(.map 1)]),(.sc (.I o.a)),(.sc (.I i))] [(1,.mp (iv D))] 5 5 (.sc (.bool true)) [(1,some (.mp (iv D)))]),.q (((.sc (.bool ((andI (fieldsN o.kind) 4) != 0))):PX.PV)=(.sc (.bool true))),.q (PX.Con Try.prog 154 [(.agg [(.sc (.I ps)),(.map 1)]),(.sc (.I o.b)),(.sc (.I i))] [(1,.mp (iv D))] 5 5 (.sc (.bool true)) [(1,some (.mp (iv D)))]),.q (SX.pv [(28,((andI (fieldsN o.kind) 16) != 0))] [(28,true)]=true→PX.AllOb [.q ((.sc (.I (((c.contexts.map encR).length:Nat):Int)):PX.PV)=(.sc (.I (c.contexts.length:Int))))]),.q (SX.pv [(28,((andI (fieldsN o.kind) 16) != 0))] [(28,true)]=true→PX.AllOb [.q ((.sc (.I (IntKind.i64.wrap ((c.contexts.length:Int)-1))):PX.PV)=(.sc (.I ((c.contexts.length:Int)-1))))]),.q (SX.pv [(28,((andI (fieldsN o.kind) 16) != 0))] [(28,true)]=true→PX.AllOb [.q (PX.Con Try.prog 84 [(.sc (.I o.ctx)),(.sc (.I ((c.contexts.length:Int)-1)))] [] 5 5 (.sc (.bool (P.within o.ctx ((c.contexts.length:Int)-1)))) [])])] [(28,((andI (fieldsN o.kind) 16) != 0))] [.au,.au,.nm (.sc (.bool true)),.au,.au,.au,.au,.au,.cl [1] (.sc (.bool true)) [(1,some (.mp (iv D)))] 5,.au,.au,.au,.au,.au,.nm (.sc (.bool true)),.au,.au,.au,.au,.au,.cl [1] (.sc (.bool true)) [(1,some (.mp (iv D)))] 5,.au,.au,.au,.au,.au,.au,.au,.au,.au,.au,.au,.au,.nm (.sc (.I (c.contexts.length:Int))),.nm (.sc (.I ((c.contexts.length:Int)-1))),.cl [] (.sc (.bool (P.within o.ctx ((c.contexts.length:Int)-1)))) [] 5,.au,.pk,.au] [4,6,51] [1,2,4] hS hE ⟨by rw [h2],(show PX.Con Try.prog 154 [(.agg [(.sc (.I ps)),(.map 1)]),(.sc (.I o.a)),(.sc (.I i))] [(1,.mp (iv D))] 5 5 (.sc (.bool true)) [(1,some (.mp (iv D)))] from h3 ▸ (show PX.Con Try.prog 154 [(.agg [(.sc (.I ps)),(.map 1)]),(.sc (.I o.a)),(.sc (.I i))] [(1,.mp (iv D))] 5 5 (.sc (.bool (hasD ps D o.a i))) [(1,some (.mp (iv D)))] from PX.con_as [(1,1)] [(1,1)] (con_f154 ps o.a i D hp) (by kernel_rfl) (by kernel_rfl) (by kernel_rfl) (by kernel_rfl) (by kernel_rfl) (by kernel_rfl))),by rw [h4],(show PX.Con Try.prog 154 [(.agg [(.sc (.I ps)),(.map 1)]),(.sc (.I o.b)),(.sc (.I i))] [(1,.mp (iv D))] 5 5 (.sc (.bool true)) [(1,some (.mp (iv D)))] from h5 ▸ (show PX.Con Try.prog 154 [(.agg [(.sc (.I ps)),(.map 1)]),(.sc (.I o.b)),(.sc (.I i))] [(1,.mp (iv D))] 5 5 (.sc (.bool (hasD ps D o.b i))) [(1,some (.mp (iv D)))] from PX.con_as [(1,1)] [(1,1)] (con_f154 ps o.b i D hp) (by kernel_rfl) (by kernel_rfl) (by kernel_rfl) (by kernel_rfl) (by kernel_rfl) (by kernel_rfl))),fun hg=>⟨PX.nm_len (by simp),trivial⟩,fun hg=>⟨PX.nm_int (by rw [IntWalk.i64_in _ (by omega)]),trivial⟩,fun hg=>⟨PX.con_any (con_f84 o.ctx ((c.contexts.length:Int)-1)),trivial⟩,trivial⟩ fun a w hS=>?_
      refine PX.cond_s (((andI (fieldsN o.kind) 16) != 0)&&(!(P.within o.ctx ((c.contexts.length:Int)-1)))) hS (by kernel_rfl) (fun h6=>?_) (fun h6=>?_)
      ·skip
       refine PX.G [(.e 8 (.sc (.bool false)))] [] 5 [] [] [.au] [4,6,8] [1,2,4] hS hE trivial fun a w hS=>?_
       refine wp_ret ?_
       rw [show (.sc (.bool (rightOpD c ps D o i)))=((.sc (.bool false)):PX.PV) from by unfold rightOpD; (try simp only [h2,h3,h4,h5,h6,Bool.not_true,Bool.not_false,Bool.and_true,Bool.and_false,Bool.true_and,Bool.false_and,Bool.or_true,Bool.true_or,Bool.or_false,Bool.false_or,Bool.false_eq_true,↓reduceIte]); (try rfl)]
       exact PX.rt hS hE (.inl rfl)
      ·skip
       refine wp_skip ?_
       replace hS:=PX.sl [4,6] hS
       exact And.intro (by simp only [h2,h3,h4,h5,h6,Bool.not_true,Bool.not_false,Bool.and_true,Bool.and_false,Bool.true_and,Bool.false_and,Bool.or_true,Bool.true_or,Bool.or_false,Bool.false_or,Bool.false_eq_true,↓reduceIte]) (PX.cn [] _ _ 5 hS hE)
     ·skip
      refine PX.G [(.e 51 (.sc (.bool true)))] [] 5 [.q (((.sc (.bool ((andI (fieldsN o.kind) 2) != 0))):PX.PV)=(.sc (.bool true))),.q (PX.Con Try.prog 154 [(.agg [(.sc (.I ps)),(.map 1)]),(.sc (.I o.a)),(.sc (.I i))] [(1,.mp (iv D))] 5 5 (.sc (.bool true)) [(1,some (.mp (iv D)))]),.q (((.sc (.bool ((andI (fieldsN o.kind) 4) != 0))):PX.PV)=(.sc (.bool true))),.q (PX.Con Try.prog 154 [(.agg [(.sc (.I ps)),(.map 1)]),(.sc (.I o.b)),(.sc (.I i))] [(1,.mp (iv D))] 5 5 (.sc (.bool false)) [(1,some (.mp (iv D)))])] [(24,true),(28,false)] [.au,.au,.nm (.sc (.bool true)),.au,.au,.au,.au,.au,.cl [1] (.sc (.bool true)) [(1,some (.mp (iv D)))] 5,.au,.au,.au,.au,.au,.nm (.sc (.bool true)),.au,.au,.au,.au,.au,.cl [1] (.sc (.bool false)) [(1,some (.mp (iv D)))] 5,.au,.au,.au,.au,.dd,.dd,.dd,.dd,.dd,.dd,.dd,.dd,.dd,.dd,.dd,.dd,.dd,.au] [4,6,51] [1,2,4] hS hE ⟨by rw [h2],(show PX.Con Try.prog 154 [(.agg [(.sc (.I ps)),(.map 1)]),(.sc (.I o.a)),(.sc (.I i))] [(1,.mp (iv D))] 5 5 (.sc (.bool true)) [(1,some (.mp (iv D)))] from h3 ▸ (show PX.Con Try.prog 154 [(.agg [(.sc (.I ps)),(.map 1)]),(.sc (.I o.a)),(.sc (.I i))] [(1,.mp (iv D))] 5 5 (.sc (.bool (hasD ps D o.a i))) [(1,some (.mp (iv D)))] from PX.con_as [(1,1)] [(1,1)] (con_f154 ps o.a i D hp) (by kernel_rfl) (by kernel_rfl) (by kernel_rfl) (by kernel_rfl) (by kernel_rfl) (by kernel_rfl))),by rw [h4],(show PX.Con Try.prog 154 [(.agg [(.sc (.I ps)),(.map 1)]),(.sc (.I o.b)),(.sc (.I i))] [(1,.mp (iv D))] 5 5 (.sc (.bool false)) [(1,some (.mp (iv D)))] from h5 ▸ (show PX.Con Try.prog 154 [(.agg [(.sc (.I ps)),(.map 1)]),(.sc (.I o.b)),(.sc (.I i))] [(1,.mp (iv D))] 5 5 (.sc (.bool (hasD ps D o.b i))) [(1,some (.mp (iv D)))] from PX.con_as [(1,1)] [(1,1)] (con_f154 ps o.b i D hp) (by kernel_rfl) (by kernel_rfl) (by kernel_rfl) (by kernel_rfl) (by kernel_rfl) (by kernel_rfl))),trivial⟩ fun a w hS=>?_
      refine PX.cond_s true hS (by kernel_rfl) (fun h7=>?_) (fun h7=>nomatch h7)
      refine PX.G [(.e 8 (.sc (.bool false)))] [] 5 [] [] [.au] [4,6,8] [1,2,4] hS hE trivial fun a w hS=>?_
      refine wp_ret ?_
      rw [show (.sc (.bool (rightOpD c ps D o i)))=((.sc (.bool false)):PX.PV) from by unfold rightOpD; (try simp only [h2,h3,h4,h5,Bool.not_true,Bool.not_false,Bool.and_true,Bool.and_false,Bool.true_and,Bool.false_and,Bool.or_true,Bool.true_or,Bool.or_false,Bool.false_or,Bool.false_eq_true,↓reduceIte]); (try rfl)]
      exact PX.rt hS hE (.inl rfl)
    ·skip
     refine PX.G [(.e 51 (.sc (.bool (((andI (fieldsN o.kind) 16) != 0)&&(!(P.within o.ctx ((c.contexts.length:Int)-1)))))))] [] 5 [.q (((.sc (.bool ((andI (fieldsN o.kind) 2) != 0))):PX.PV)=(.sc (.bool true))),.q (PX.Con Try.prog 154 [(.agg [(.sc (.I ps)),(.map 1)]),(.sc (.I o.a)),(.sc (.I i))] [(1,.mp (iv D))] 5 5 (.sc (.bool true)) [(1,some (.mp (iv D)))]),.q (((.sc (.bool ((andI (fieldsN o.kind) 4) != 0))):PX.PV)=(.sc (.bool false))),.q (SX.pv [(15,false),(28,((andI (fieldsN o.kind) 16) != 0))] [(28,true)]=true→PX.AllOb [.q ((.sc (.I (((c.contexts.map encR).length:Nat):Int)):PX.PV)=(.sc (.I (c.contexts.length:Int))))]),.q (SX.pv [(15,false),(28,((andI (fieldsN o.kind) 16) != 0))] [(28,true)]=true→PX.AllOb [.q ((.sc (.I (IntKind.i64.wrap ((c.contexts.length:Int)-1))):PX.PV)=(.sc (.I ((c.contexts.length:Int)-1))))]),.q (SX.pv [(15,false),(28,((andI (fieldsN o.kind) 16) != 0))] [(28,true)]=true→PX.AllOb [.q (PX.Con Try.prog 84 [(.sc (.I o.ctx)),(.sc (.I ((c.contexts.length:Int)-1)))] [] 5 5 (.sc (.bool (P.within o.ctx ((c.contexts.length:Int)-1)))) [])])] [(15,false),(28,((andI (fieldsN o.kind) 16) != 0))] [.au,.au,.nm (.sc (.bool true)),.au,.au,.au,.au,.au,.cl [1] (.sc (.bool true)) [(1,some (.mp (iv D)))] 5,.au,.au,.au,.au,.au,.nm (.sc (.bool false)),.au,.dd,.dd,.dd,.dd,.dd,.dd,.au,.au,.au,.au,.au,.au,.au,.au,.au,.au,.au,.nm (.sc (.I (c.contexts.length:Int))),.nm (.sc (.I ((c.contexts.length:Int)-1))),.cl [] (.sc (.bool (P.within o.ctx ((c.contexts.length:Int)-1)))) [] 5,.au,.pk,.au] [4,6,51] [1,2,4] hS hE ⟨by rw [h2],(show PX.Con Try.prog 154 [(.agg [(.sc (.I ps)),(.map 1)]),(.sc (.I o.a)),(.sc (.I i))] [(1,.mp (iv D))] 5 5 (.sc (.bool true)) [(1,some (.mp (iv D)))] from h3 ▸ (show PX.Con Try.prog 154 [(.agg [(.sc (.I ps)),(.map 1)]),(.sc (.I o.a)),(.sc (.I i))] [(1,.mp (iv D))] 5 5 (.sc (.bool (hasD ps D o.a i))) [(1,some (.mp (iv D)))] from PX.con_as [(1,1)] [(1,1)] (con_f154 ps o.a i D hp) (by kernel_rfl) (by kernel_rfl) (by kernel_rfl) (by kernel_rfl) (by kernel_rfl) (by kernel_rfl))),by rw [h4],fun hg=>⟨PX.nm_len (by simp),trivial⟩,fun hg=>⟨PX.nm_int (by rw [IntWalk.i64_in _ (by omega)]),trivial⟩,fun hg=>⟨PX.con_any (con_f84 o.ctx ((c.contexts.length:Int)-1)),trivial⟩,trivial⟩ fun a w hS=>?_
     refine PX.cond_s (((andI (fieldsN o.kind) 16) != 0)&&(!(P.within o.ctx ((c.contexts.length:Int)-1)))) hS (by kernel_rfl) (fun h8=>?_) (fun h8=>?_)
     ·skip
      refine PX.G [(.e 8 (.sc (.bool false)))] [] 5 [] [] [.au] [4,6,8] [1,2,4] hS hE trivial fun a w hS=>?_
      refine wp_ret ?_
      rw [show (.sc (.bool (rightOpD c ps D o i)))=((.sc (.bool false)):PX.PV) from by unfold rightOpD; (try simp only [h2,h3,h4,h8,Bool.not_true,Bool.not_false,Bool.and_true,Bool.and_false,Bool.true_and,Bool.false_and,Bool.or_true,Bool.true_or,Bool.or_false,Bool.false_or,Bool.false_eq_true,↓reduceIte]); (try rfl)]
      exact PX.rt hS hE (.inl rfl)
     ·skip
      refine wp_skip ?_
      replace hS:=PX.sl [4,6] hS
      exact And.intro (by simp only [h2,h3,h4,h8,Bool.not_true,Bool.not_false,Bool.and_true,Bool.and_false,Bool.true_and,Bool.false_and,Bool.or_true,Bool.true_or,Bool.or_false,Bool.false_or,Bool.false_eq_true,↓reduceIte]) (PX.cn [] _ _ 5 hS hE)
   ·skip
    refine PX.G [(.e 51 (.sc (.bool true)))] [] 5 [.q (((.sc (.bool ((andI (fieldsN o.kind) 2) != 0))):PX.PV)=(.sc (.bool true))),.q (PX.Con Try.prog 154 [(.agg [(.sc (.I ps)),(.map 1)]),(.sc (.I o.a)),(.sc (.I i))] [(1,.mp (iv D))] 5 5 (.sc (.bool false)) [(1,some (.mp (iv D)))])] [(11,true),(15,false),(24,true),(28,false)] [.au,.au,.nm (.sc (.bool true)),.au,.au,.au,.au,.au,.cl [1] (.sc (.bool false)) [(1,some (.mp (iv D)))] 5,.au,.au,.au,.dd,.dd,.dd,.dd,.dd,.dd,.dd,.dd,.dd,.dd,.dd,.au,.au,.dd,.dd,.dd,.dd,.dd,.dd,.dd,.dd,.dd,.dd,.dd,.dd,.dd,.au] [4,6,51] [1,2,4] hS hE ⟨by rw [h2],(show PX.Con Try.prog 154 [(.agg [(.sc (.I ps)),(.map 1)]),(.sc (.I o.a)),(.sc (.I i))] [(1,.mp (iv D))] 5 5 (.sc (.bool false)) [(1,some (.mp (iv D)))] from h3 ▸ (show PX.Con Try.prog 154 [(.agg [(.sc (.I ps)),(.map 1)]),(.sc (.I o.a)),(.sc (.I i))] [(1,.mp (iv D))] 5 5 (.sc (.bool (hasD ps D o.a i))) [(1,some (.mp (iv D)))] from PX.con_as [(1,1)] [(1,1)] (con_f154 ps o.a i D hp) (by kernel_rfl) (by kernel_rfl) (by kernel_rfl) (by kernel_rfl) (by kernel_rfl) (by kernel_rfl))),trivial⟩ fun a w hS=>?_
    refine PX.cond_s true hS (by kernel_rfl) (fun h9=>?_) (fun h9=>nomatch h9)
    refine PX.G [(.e 8 (.sc (.bool false)))] [] 5 [] [] [.au] [4,6,8] [1,2,4] hS hE trivial fun a w hS=>?_
    refine wp_ret ?_
    rw [show (.sc (.bool (rightOpD c ps D o i)))=((.sc (.bool false)):PX.PV) from by unfold rightOpD; (try simp only [h2,h3,Bool.not_true,Bool.not_false,Bool.and_true,Bool.and_false,Bool.true_and,Bool.false_and,Bool.or_true,Bool.true_or,Bool.or_false,Bool.false_or,Bool.false_eq_true,↓reduceIte]); (try rfl)]
    exact PX.rt hS hE (.inl rfl)
  ·skip
   rcases Bool.eq_false_or_eq_true ((andI (fieldsN o.kind) 4) != 0) with h10 | h10
   ·skip
    rcases Bool.eq_false_or_eq_true (hasD ps D o.b i) with h11 | h11
    ·skip
     refine PX.G [(.e 51 (.sc (.bool (((andI (fieldsN o.kind) 16) != 0)&&(!(P.within o.ctx ((c.contexts.length:Int)-1)))))))] [] 5 [.q (((.sc (.bool ((andI (fieldsN o.kind) 2) != 0))):PX.PV)=(.sc (.bool false))),.q (((.sc (.bool ((andI (fieldsN o.kind) 4) != 0))):PX.PV)=(.sc (.bool true))),.q (PX.Con Try.prog 154 [(.agg [(.sc (.I ps)),(.map 1)]),(.sc (.I o.b)),(.sc (.I i))] [(1,.mp (iv D))] 5 5 (.sc (.bool true)) [(1,some (.mp (iv D)))]),.q (SX.pv [(3,false),(28,((andI (fieldsN o.kind) 16) != 0))] [(28,true)]=true→PX.AllOb [.q ((.sc (.I (((c.contexts.map encR).length:Nat):Int)):PX.PV)=(.sc (.I (c.contexts.length:Int))))]),.q (SX.pv [(3,false),(28,((andI (fieldsN o.kind) 16) != 0))] [(28,true)]=true→PX.AllOb [.q ((.sc (.I (IntKind.i64.wrap ((c.contexts.length:Int)-1))):PX.PV)=(.sc (.I ((c.contexts.length:Int)-1))))]),.q (SX.pv [(3,false),(28,((andI (fieldsN o.kind) 16) != 0))] [(28,true)]=true→PX.AllOb [.q (PX.Con Try.prog 84 [(.sc (.I o.ctx)),(.sc (.I ((c.contexts.length:Int)-1)))] [] 5 5 (.sc (.bool (P.within o.ctx ((c.contexts.length:Int)-1)))) [])])] [(3,false),(28,((andI (fieldsN o.kind) 16) != 0))] [.au,.au,.nm (.sc (.bool false)),.au,.dd,.dd,.dd,.dd,.dd,.dd,.au,.au,.au,.au,.nm (.sc (.bool true)),.au,.au,.au,.au,.au,.cl [1] (.sc (.bool true)) [(1,some (.mp (iv D)))] 5,.au,.au,.au,.au,.au,.au,.au,.au,.au,.au,.au,.au,.nm (.sc (.I (c.contexts.length:Int))),.nm (.sc (.I ((c.contexts.length:Int)-1))),.cl [] (.sc (.bool (P.within o.ctx ((c.contexts.length:Int)-1)))) [] 5,.au,.pk,.au] [4,6,51] [1,2,4] hS hE ⟨by rw [h2],by rw [h10],(show PX.Con Try.prog 154 [(.agg [(.sc (.I ps)),(.map 1)]),(.sc (.I o.b)),(.sc (.I i))] [(1,.mp (iv D))] 5 5 (.sc (.bool true)) [(1,some (.mp (iv D)))] from h11 ▸ (show PX.Con Try.prog 154 [(.agg [(.sc (.I ps)),(.map 1)]),(.sc (.I o.b)),(.sc (.I i))] [(1,.mp (iv D))] 5 5 (.sc (.bool (hasD ps D o.b i))) [(1,some (.mp (iv D)))] from PX.con_as [(1,1)] [(1,1)] (con_f154 ps o.b i D hp) (by kernel_rfl) (by kernel_rfl) (by kernel_rfl) (by kernel_rfl) (by kernel_rfl) (by kernel_rfl))),fun hg=>⟨PX.nm_len (by simp),trivial⟩,fun hg=>⟨PX.nm_int (by rw [IntWalk.i64_in _ (by omega)]),trivial⟩,fun hg=>⟨PX.con_any (con_f84 o.ctx ((c.contexts.length:Int)-1)),trivial⟩,trivial⟩ fun a w hS=>?_
     refine PX.cond_s (((andI (fieldsN o.kind) 16) != 0)&&(!(P.within o.ctx ((c.contexts.length:Int)-1)))) hS (by kernel_rfl) (fun h12=>?_) (fun h12=>?_)
     ·skip
      refine PX.G [(.e 8 (.sc (.bool false)))] [] 5 [] [] [.au] [4,6,8] [1,2,4] hS hE trivial fun a w hS=>?_
      refine wp_ret ?_
      rw [show (.sc (.bool (rightOpD c ps D o i)))=((.sc (.bool false)):PX.PV) from by unfold rightOpD; (try simp only [h2,h10,h11,h12,Bool.not_true,Bool.not_false,Bool.and_true,Bool.and_false,Bool.true_and,Bool.false_and,Bool.or_true,Bool.true_or,Bool.or_false,Bool.false_or,Bool.false_eq_true,↓reduceIte]); (try rfl)]
      exact PX.rt hS hE (.inl rfl)
     ·skip
      refine wp_skip ?_
      replace hS:=PX.sl [4,6] hS
      exact And.intro (by simp only [h2,h10,h11,h12,Bool.not_true,Bool.not_false,Bool.and_true,Bool.and_false,Bool.true_and,Bool.false_and,Bool.or_true,Bool.true_or,Bool.or_false,Bool.false_or,Bool.false_eq_true,↓reduceIte]) (PX.cn [] _ _ 5 hS hE)
    ·skip
     refine PX.G [(.e 51 (.sc (.bool true)))] [] 5 [.q (((.sc (.bool ((andI (fieldsN o.kind) 2) != 0))):PX.PV)=(.sc (.bool false))),.q (((.sc (.bool ((andI (fieldsN o.kind) 4) != 0))):PX.PV)=(.sc (.bool true))),.q (PX.Con Try.prog 154 [(.agg [(.sc (.I ps)),(.map 1)]),(.sc (.I o.b)),(.sc (.I i))] [(1,.mp (iv D))] 5 5 (.sc (.bool false)) [(1,some (.mp (iv D)))])] [(3,false),(24,true),(28,false)] [.au,.au,.nm (.sc (.bool false)),.au,.dd,.dd,.dd,.dd,.dd,.dd,.au,.au,.au,.au,.nm (.sc (.bool true)),.au,.au,.au,.au,.au,.cl [1] (.sc (.bool false)) [(1,some (.mp (iv D)))] 5,.au,.au,.au,.au,.dd,.dd,.dd,.dd,.dd,.dd,.dd,.dd,.dd,.dd,.dd,.dd,.dd,.au] [4,6,51] [1,2,4] hS hE ⟨by rw [h2],by rw [h10],(show PX.Con Try.prog 154 [(.agg [(.sc (.I ps)),(.map 1)]),(.sc (.I o.b)),(.sc (.I i))] [(1,.mp (iv D))] 5 5 (.sc (.bool false)) [(1,some (.mp (iv D)))] from h11 ▸ (show PX.Con Try.prog 154 [(.agg [(.sc (.I ps)),(.map 1)]),(.sc (.I o.b)),(.sc (.I i))] [(1,.mp (iv D))] 5 5 (.sc (.bool (hasD ps D o.b i))) [(1,some (.mp (iv D)))] from PX.con_as [(1,1)] [(1,1)] (con_f154 ps o.b i D hp) (by kernel_rfl) (by kernel_rfl) (by kernel_rfl) (by kernel_rfl) (by kernel_rfl) (by kernel_rfl))),trivial⟩ fun a w hS=>?_
     refine PX.cond_s true hS (by kernel_rfl) (fun h13=>?_) (fun h13=>nomatch h13)
     refine PX.G [(.e 8 (.sc (.bool false)))] [] 5 [] [] [.au] [4,6,8] [1,2,4] hS hE trivial fun a w hS=>?_
     refine wp_ret ?_
     rw [show (.sc (.bool (rightOpD c ps D o i)))=((.sc (.bool false)):PX.PV) from by unfold rightOpD; (try simp only [h2,h10,h11,Bool.not_true,Bool.not_false,Bool.and_true,Bool.and_false,Bool.true_and,Bool.false_and,Bool.or_true,Bool.true_or,Bool.or_false,Bool.false_or,Bool.false_eq_true,↓reduceIte]); (try rfl)]
     exact PX.rt hS hE (.inl rfl)
   ·skip
    refine PX.G [(.e 51 (.sc (.bool (((andI (fieldsN o.kind) 16) != 0)&&(!(P.within o.ctx ((c.contexts.length:Int)-1)))))))] [] 5 [.q (((.sc (.bool ((andI (fieldsN o.kind) 2) != 0))):PX.PV)=(.sc (.bool false))),.q (((.sc (.bool ((andI (fieldsN o.kind) 4) != 0))):PX.PV)=(.sc (.bool false))),.q (SX.pv [(3,false),(15,false),(28,((andI (fieldsN o.kind) 16) != 0))] [(28,true)]=true→PX.AllOb [.q ((.sc (.I (((c.contexts.map encR).length:Nat):Int)):PX.PV)=(.sc (.I (c.contexts.length:Int))))]),.q (SX.pv [(3,false),(15,false),(28,((andI (fieldsN o.kind) 16) != 0))] [(28,true)]=true→PX.AllOb [.q ((.sc (.I (IntKind.i64.wrap ((c.contexts.length:Int)-1))):PX.PV)=(.sc (.I ((c.contexts.length:Int)-1))))]),.q (SX.pv [(3,false),(15,false),(28,((andI (fieldsN o.kind) 16) != 0))] [(28,true)]=true→PX.AllOb [.q (PX.Con Try.prog 84 [(.J o.ctx),(.sc (.I ((c.contexts.length:Int)-1)))] [] 5 5 (.sc (.bool (P.within o.ctx ((c.contexts.length:Int)-1)))) [])])] [(3,false),(15,false),(28,((andI (fieldsN o.kind) 16) != 0))] [.au,.au,.nm (.sc (.bool false)),.au,.dd,.dd,.dd,.dd,.dd,.dd,.au,.au,.au,.au,.nm (.sc (.bool false)),.au,.dd,.dd,.dd,.dd,.dd,.dd,.au,.au,.au,.au,.au,.au,.au,.au,.au,.au,.au,.nm (.sc (.I (c.contexts.length:Int))),.nm (.sc (.I ((c.contexts.length:Int)-1))),.cl [] (.sc (.bool (P.within o.ctx ((c.contexts.length:Int)-1)))) [] 5,.au,.pk,.au] [4,6,51] [1,2,4] hS hE ⟨by rw [h2],by rw [h10],fun hg=>⟨PX.nm_len (by simp),trivial⟩,fun hg=>⟨PX.nm_int (by rw [IntWalk.i64_in _ (by omega)]),trivial⟩,fun hg=>⟨PX.con_any (con_f84 o.ctx ((c.contexts.length:Int)-1)),trivial⟩,trivial⟩ fun a w hS=>?_
    refine PX.cond_s (((andI (fieldsN o.kind) 16) != 0)&&(!(P.within o.ctx ((c.contexts.length:Int)-1)))) hS (by kernel_rfl) (fun h14=>?_) (fun h14=>?_)
    ·skip
     refine PX.G [(.e 8 (.sc (.bool false)))] [] 5 [] [] [.au] [4,6,8] [1,2,4] hS hE trivial fun a w hS=>?_
     refine wp_ret ?_
     rw [show (.sc (.bool (rightOpD c ps D o i)))=((.sc (.bool false)):PX.PV) from by unfold rightOpD; (try simp only [h2,h10,h14,Bool.not_true,Bool.not_false,Bool.and_true,Bool.and_false,Bool.true_and,Bool.false_and,Bool.or_true,Bool.true_or,Bool.or_false,Bool.false_or,Bool.false_eq_true,↓reduceIte]); (try rfl)]
     exact PX.rt hS hE (.inl rfl)
    ·skip
     refine wp_skip ?_
     replace hS:=PX.sl [4,6] hS
     exact And.intro (by simp only [h2,h10,h14,Bool.not_true,Bool.not_false,Bool.and_true,Bool.and_false,Bool.true_and,Bool.false_and,Bool.or_true,Bool.true_or,Bool.or_false,Bool.false_or,Bool.false_eq_true,↓reduceIte]) (PX.cn [] _ _ 5 hS hE)
 clear hS; intro hx1 a w hS
 refine wp_seq_k fun K15 hK15=>?_
 refine PX.G [(.e 53 (.J o.kind))] [] 5 [] [] [.au,.au] [4,6,53] [1,2,4] hS hE trivial fun a w hS=>?_
 refine wp_block ?_
 refine wp_seq_k fun K16 hK16=>?_
 refine PX.G [(.e 54 (.sc (.bool (o.kind==15))))] [] 5 [] [] [.au,.au] [4,6,53,54] [1,2,4] hS hE trivial fun a w hS=>?_
 refine PX.cond_s (o.kind==15) hS (by kernel_rfl) (fun h17=>?_) (fun h17=>?_)
 ·skip
  refine wp_skip ?_
  refine hK16 _ _ ?_
  refine PX.cond_s (o.kind==15) hS (by kernel_rfl) (fun h18=>?_) (fun h18=>nomatch (h17.symm.trans h18))
  refine PX.G [(.e 8 (.sc (.bool (P.within o.n ((c.objects.length:Int)-1)))))] [] 5 [.q ((.sc (.I (((c.objects.map encR).length:Nat):Int)):PX.PV)=(.sc (.I (c.objects.length:Int)))),.q ((.sc (.I (IntKind.i64.wrap ((c.objects.length:Int)-1))):PX.PV)=(.sc (.I ((c.objects.length:Int)-1)))),.q (PX.Con Try.prog 84 [(.J o.n),(.sc (.I ((c.objects.length:Int)-1)))] [] 5 5 (.sc (.bool (P.within o.n ((c.objects.length:Int)-1)))) [])] [] [.au,.au,.au,.au,.nm (.sc (.I (c.objects.length:Int))),.nm (.sc (.I ((c.objects.length:Int)-1))),.cl [] (.sc (.bool (P.within o.n ((c.objects.length:Int)-1)))) [] 5,.au] [8] [1] hS hE ⟨PX.nm_len (by simp),PX.nm_int (by rw [IntWalk.i64_in _ (by omega)]),PX.con_any (con_f84 o.n ((c.objects.length:Int)-1)),trivial⟩ fun a w hS=>?_
  refine wp_ret ?_
  rw [show (.sc (.bool (rightOpD c ps D o i)))=((.sc (.bool (P.within o.n ((c.objects.length:Int)-1)))):PX.PV) from by unfold rightOpD; (try simp only [hx1,h17,Bool.not_true,Bool.not_false,Bool.and_true,Bool.and_false,Bool.true_and,Bool.false_and,Bool.or_true,Bool.true_or,Bool.or_false,Bool.false_or,Bool.false_eq_true,↓reduceIte]); (try rfl)]
  exact PX.rt hS hE (.inl rfl)
 ·skip
  refine PX.G [(.e 54 (.sc (.bool (o.kind==16))))] [] 5 [] [] [.au,.au] [4,6,53,54] [1,2,4] hS hE trivial fun a w hS=>?_
  refine PX.cond_s (o.kind==16) hS (by kernel_rfl) (fun h19=>?_) (fun h19=>?_)
  ·skip
   refine wp_skip ?_
   refine hK16 _ _ ?_
   refine PX.cond_s (o.kind==16) hS (by kernel_rfl) (fun h20=>?_) (fun h20=>nomatch (h19.symm.trans h20))
   refine PX.G [(.e 8 (.sc (.bool (P.within o.n ((c.objects.length:Int)-1)))))] [] 5 [.q ((.sc (.I (((c.objects.map encR).length:Nat):Int)):PX.PV)=(.sc (.I (c.objects.length:Int)))),.q ((.sc (.I (IntKind.i64.wrap ((c.objects.length:Int)-1))):PX.PV)=(.sc (.I ((c.objects.length:Int)-1)))),.q (PX.Con Try.prog 84 [(.J o.n),(.sc (.I ((c.objects.length:Int)-1)))] [] 5 5 (.sc (.bool (P.within o.n ((c.objects.length:Int)-1)))) [])] [] [.au,.au,.au,.au,.nm (.sc (.I (c.objects.length:Int))),.nm (.sc (.I ((c.objects.length:Int)-1))),.cl [] (.sc (.bool (P.within o.n ((c.objects.length:Int)-1)))) [] 5,.au] [8] [1] hS hE ⟨PX.nm_len (by simp),PX.nm_int (by rw [IntWalk.i64_in _ (by omega)]),PX.con_any (con_f84 o.n ((c.objects.length:Int)-1)),trivial⟩ fun a w hS=>?_
   refine wp_ret ?_
   rw [show (.sc (.bool (rightOpD c ps D o i)))=((.sc (.bool (P.within o.n ((c.objects.length:Int)-1)))):PX.PV) from by unfold rightOpD; (try simp only [hx1,h17,h19,Bool.not_true,Bool.not_false,Bool.and_true,Bool.and_false,Bool.true_and,Bool.false_and,Bool.or_true,Bool.true_or,Bool.or_false,Bool.false_or,Bool.false_eq_true,↓reduceIte]); (try rfl)]
   exact PX.rt hS hE (.inl rfl)
  ·skip
   refine PX.G0 [(.e 54 (.sc (.bool (o.kind==17))))] [] 5 [] [] [.au,.au] [4,6,53,54] [1,2,4] hS hE trivial fun a w hS=>?_
   refine hK16 _ _ ?_
   refine PX.cond_s (o.kind==17) hS (by kernel_rfl) (fun h21=>?_) (fun h21=>?_)
   ·skip
    refine PX.G [(.e 8 (.sc (.bool (P.within o.n ((c.objects.length:Int)-1)))))] [] 5 [.q ((.sc (.I (((c.objects.map encR).length:Nat):Int)):PX.PV)=(.sc (.I (c.objects.length:Int)))),.q ((.sc (.I (IntKind.i64.wrap ((c.objects.length:Int)-1))):PX.PV)=(.sc (.I ((c.objects.length:Int)-1)))),.q (PX.Con Try.prog 84 [(.J o.n),(.sc (.I ((c.objects.length:Int)-1)))] [] 5 5 (.sc (.bool (P.within o.n ((c.objects.length:Int)-1)))) [])] [] [.au,.au,.au,.au,.nm (.sc (.I (c.objects.length:Int))),.nm (.sc (.I ((c.objects.length:Int)-1))),.cl [] (.sc (.bool (P.within o.n ((c.objects.length:Int)-1)))) [] 5,.au] [8] [1] hS hE ⟨PX.nm_len (by simp),PX.nm_int (by rw [IntWalk.i64_in _ (by omega)]),PX.con_any (con_f84 o.n ((c.objects.length:Int)-1)),trivial⟩ fun a w hS=>?_
    refine wp_ret ?_
    rw [show (.sc (.bool (rightOpD c ps D o i)))=((.sc (.bool (P.within o.n ((c.objects.length:Int)-1)))):PX.PV) from by unfold rightOpD; (try simp only [hx1,h17,h19,h21,Bool.not_true,Bool.not_false,Bool.and_true,Bool.and_false,Bool.true_and,Bool.false_and,Bool.or_true,Bool.true_or,Bool.or_false,Bool.false_or,Bool.false_eq_true,↓reduceIte]); (try rfl)]
    exact PX.rt hS hE (.inl rfl)
   ·skip
    refine wp_seq_k fun K22 hK22=>?_
    refine PX.G [(.e 65 (.sc (.bool (o.kind==19))))] [] 5 [] [] [.au,.au] [6,53,65] [1,4] hS hE trivial fun a w hS=>?_
    refine PX.cond_s (o.kind==19) hS (by kernel_rfl) (fun h23=>?_) (fun h23=>?_)
    ·skip
     refine wp_skip ?_
     refine hK22 _ _ ?_
     refine PX.cond_s (o.kind==19) hS (by kernel_rfl) (fun h24=>?_) (fun h24=>nomatch (h23.symm.trans h24))
     refine PX.G [(.e 8 (.sc (.bool (P.within o.n 9999))))] [] 5 [.q (PX.Con Try.prog 84 [(.J o.n),(.J 9999)] [] 5 5 (.sc (.bool (P.within o.n 9999))) [])] [] [.au,.au,.cl [] (.sc (.bool (P.within o.n 9999))) [] 5,.au] [8] [1] hS hE ⟨PX.con_any (con_f84 o.n 9999),trivial⟩ fun a w hS=>?_
     refine wp_ret ?_
     rw [show (.sc (.bool (rightOpD c ps D o i)))=((.sc (.bool (P.within o.n 9999))):PX.PV) from by unfold rightOpD; (try simp only [hx1,h17,h19,h21,h23,Bool.not_true,Bool.not_false,Bool.and_true,Bool.and_false,Bool.true_and,Bool.false_and,Bool.or_true,Bool.true_or,Bool.or_false,Bool.false_or,Bool.false_eq_true,↓reduceIte]); (try rfl)]
     exact PX.rt hS hE (.inl rfl)
    ·skip
     refine PX.G0 [(.e 65 (.sc (.bool (o.kind==20))))] [] 5 [] [] [.au,.au] [6,65] [1,4] hS hE trivial fun a w hS=>?_
     refine hK22 _ _ ?_
     refine PX.cond_s (o.kind==20) hS (by kernel_rfl) (fun h25=>?_) (fun h25=>?_)
     ·skip
      refine PX.G [(.e 8 (.sc (.bool (P.within o.n 9999))))] [] 5 [.q (PX.Con Try.prog 84 [(.J o.n),(.J 9999)] [] 5 5 (.sc (.bool (P.within o.n 9999))) [])] [] [.au,.au,.cl [] (.sc (.bool (P.within o.n 9999))) [] 5,.au] [8] [1] hS hE ⟨PX.con_any (con_f84 o.n 9999),trivial⟩ fun a w hS=>?_
      refine wp_ret ?_
      rw [show (.sc (.bool (rightOpD c ps D o i)))=((.sc (.bool (P.within o.n 9999))):PX.PV) from by unfold rightOpD; (try simp only [hx1,h17,h19,h21,h23,h25,Bool.not_true,Bool.not_false,Bool.and_true,Bool.and_false,Bool.true_and,Bool.false_and,Bool.or_true,Bool.true_or,Bool.or_false,Bool.false_or,Bool.false_eq_true,↓reduceIte]); (try rfl)]
      exact PX.rt hS hE (.inl rfl)
     ·skip
      refine wp_skip ?_
      refine hK15 _ _ ?_
      refine PX.G [(.e 8 (.sc (.bool true)))] [] 5 [] [] [.au] [8] [1] hS hE trivial fun a w hS=>?_
      refine wp_ret ?_
      rw [show (.sc (.bool (rightOpD c ps D o i)))=((.sc (.bool true)):PX.PV) from by unfold rightOpD; (try simp only [hx1,h17,h19,h21,h23,h25,Bool.not_true,Bool.not_false,Bool.and_true,Bool.and_false,Bool.true_and,Bool.false_and,Bool.or_true,Bool.true_or,Bool.or_false,Bool.false_or,Bool.false_eq_true,↓reduceIte]); (try rfl)]
      exact PX.rt hS hE (.inl rfl)

set_option maxHeartbeats 1000000 in
theorem con_f129 (c:CodeD) (o:OpD) (n ps:Int) (D:List (Int × Int)) (hp:0≤ps∧ps≤999) (hcp:0≤c.params∧c.params≤4):PX.Con Try.prog 129 [(codeP c),(.agg [(.J ps),(.map 1)]),(.agg (encO o)),(.J n)] [(1,.mp (iv D))] 2 100000 (.sc (.bool (rightBindD c ps D o n))) [(1,some (.mp (iv D)))]:=by
 refine PX.con_intro [(codeP c),(.agg [(.J ps),(.map 1)]),(.agg (encO o)),(.J n)] 57 Try.func129 rfl rfl (by kernel_rfl) (by kernel_rfl) ?_
 intro E a hE hS
 generalize E.w0=w at hS ⊢
 have mix:=mixed
 refine PX.G [(.e 4 (.ptr 2 0)),(.e 5 (.ptr 3 0)),(.e 6 (.ptr 4 0))] [(2,.box 26 (codeL c)),(3,.box 183 [(.J ps),(.map 1)]),(4,.box 74 (encO o))] 5 [] [] [.au,.au,.au,.au] [3,4,5,6] [1,2,3,4] hS hE trivial fun a w hS=>?_
 refine wp_seq_k fun K1 hK1=>?_
 refine PX.G [(.e 18 (.sc (.bool ((!(P.within o.var 23))||(!(P.within o.piece 3))))))] [] 5 [.q (PX.Con Try.prog 84 [(.J o.var),(.J 23)] [] 5 5 (.sc (.bool (P.within o.var 23))) []),.q (SX.pv [(4,(!(P.within o.var 23)))] [(4,false)]=true→PX.AllOb [.q (PX.Con Try.prog 84 [(.J o.piece),(.J 3)] [] 5 5 (.sc (.bool (P.within o.piece 3))) [])])] [(4,(!(P.within o.var 23)))] [.au,.au,.cl [] (.sc (.bool (P.within o.var 23))) [] 5,.au,.au,.au,.au,.cl [] (.sc (.bool (P.within o.piece 3))) [] 5,.au,.pk] [3,4,5,6,18] [1,2,3,4] hS hE ⟨PX.con_any (con_f84 o.var 23),fun hg=>⟨PX.con_any (con_f84 o.piece 3),trivial⟩,trivial⟩ fun a w hS=>?_
 refine PX.cond_s ((!(P.within o.var 23))||(!(P.within o.piece 3))) hS (by kernel_rfl) (fun h2=>?_) (fun h2=>?_)
 ·skip
  refine PX.G [(.e 8 (.sc (.bool false)))] [] 5 [] [] [.au] [8] [1] hS hE trivial fun a w hS=>?_
  refine wp_ret ?_
  rw [show (.sc (.bool (rightBindD c ps D o n)))=((.sc (.bool false)):PX.PV) from by unfold rightBindD; (try simp only [h2,Bool.not_true,Bool.not_false,Bool.and_true,Bool.and_false,Bool.true_and,Bool.false_and,Bool.or_true,Bool.true_or,Bool.or_false,Bool.false_or,Bool.false_eq_true,↓reduceIte]); (try rfl)]
  exact PX.rt hS hE (.inl rfl)
 ·skip
  refine wp_skip ?_
  refine hK1 _ _ ?_
  refine wp_seq_k fun K3 hK3=>?_
  refine PX.G [(.e 21 (.J o.sk))] [] 5 [] [] [.au,.au,.au] [3,4,5,6,21] [1,2,3,4] hS hE trivial fun a w hS=>?_
  refine wp_block ?_
  refine PX.G [(.e 22 (.sc (.bool (o.sk==0))))] [] 5 [] [] [.au,.au] [3,4,5,6,21,22] [1,2,3,4] hS hE trivial fun a w hS=>?_
  refine PX.cond_s (o.sk==0) hS (by kernel_rfl) (fun h4=>?_) (fun h4=>?_)
  ·skip
   refine PX.G [(.e 8 (.sc (.bool ((o.sv==0)&&(o.sa==0)))))] [] 5 [] [(4,(o.sv==0))] [.au,.au,.au,.au,.au,.au,.au,.au,.au,.pk,.au] [8] [1] hS hE trivial fun a w hS=>?_
   refine wp_ret ?_
   rw [show (.sc (.bool (rightBindD c ps D o n)))=((.sc (.bool ((o.sv==0)&&(o.sa==0)))):PX.PV) from by unfold rightBindD; (try simp only [h2,h4,Bool.not_true,Bool.not_false,Bool.and_true,Bool.and_false,Bool.true_and,Bool.false_and,Bool.or_true,Bool.true_or,Bool.or_false,Bool.false_or,Bool.false_eq_true,↓reduceIte]); (try rfl)]
   exact PX.rt hS hE (.inl rfl)
  ·skip
   refine PX.G [(.e 34 (.sc (.bool (o.sk==1))))] [] 5 [] [] [.au,.au] [3,4,5,6,21,34] [1,2,3,4] hS hE trivial fun a w hS=>?_
   refine PX.cond_s (o.sk==1) hS (by kernel_rfl) (fun h5=>?_) (fun h5=>?_)
   ·skip
    refine PX.G [(.e 8 (.sc (.bool (o.sv==0))))] [] 5 [] [] [.au,.au,.au,.au,.au] [8] [1] hS hE trivial fun a w hS=>?_
    refine wp_ret ?_
    rw [show (.sc (.bool (rightBindD c ps D o n)))=((.sc (.bool (o.sv==0))):PX.PV) from by unfold rightBindD; (try simp only [h2,h4,h5,Bool.not_true,Bool.not_false,Bool.and_true,Bool.and_false,Bool.true_and,Bool.false_and,Bool.or_true,Bool.true_or,Bool.or_false,Bool.false_or,Bool.false_eq_true,↓reduceIte]); (try rfl)]
    exact PX.rt hS hE (.inl rfl)
   ·skip
    refine PX.G [(.e 40 (.sc (.bool (o.sk==2))))] [] 5 [] [] [.au,.au] [3,4,5,6,21,40] [1,2,3,4] hS hE trivial fun a w hS=>?_
    refine PX.cond_s (o.sk==2) hS (by kernel_rfl) (fun h6=>?_) (fun h6=>?_)
    ·skip
     refine PX.G [(.e 8 (.sc (.bool (hasD ps D o.sv n))))] [] 5 [.q (PX.Con Try.prog 154 [(.agg [(.J ps),(.map 1)]),(.J o.sv),(.J n)] [(1,.mp (iv D))] 5 5 (.sc (.bool (hasD ps D o.sv n))) [(1,some (.mp (iv D)))])] [] [.au,.au,.au,.au,.au,.cl [1] (.sc (.bool (hasD ps D o.sv n))) [(1,some (.mp (iv D)))] 5,.au] [8] [1] hS hE ⟨PX.con_as [(1,1)] [(1,1)] (con_f154 ps o.sv n D hp) (by kernel_rfl) (by kernel_rfl) (by kernel_rfl) (by kernel_rfl) (by kernel_rfl) (by kernel_rfl),trivial⟩ fun a w hS=>?_
     refine wp_ret ?_
     rw [show (.sc (.bool (rightBindD c ps D o n)))=((.sc (.bool (hasD ps D o.sv n))):PX.PV) from by unfold rightBindD; (try simp only [h2,h4,h5,h6,Bool.not_true,Bool.not_false,Bool.and_true,Bool.and_false,Bool.true_and,Bool.false_and,Bool.or_true,Bool.true_or,Bool.or_false,Bool.false_or,Bool.false_eq_true,↓reduceIte]); (try rfl)]
     exact PX.rt hS hE (.inl rfl)
    ·skip
     refine PX.G [(.e 48 (.sc (.bool (o.sk==3))))] [] 5 [] [] [.au,.au] [4,6,48] [1,2,4] hS hE trivial fun a w hS=>?_
     refine PX.cond_s (o.sk==3) hS (by kernel_rfl) (fun h7=>?_) (fun h7=>?_)
     ·skip
      refine PX.G [(.e 8 (.sc (.bool (P.within o.sv (c.params-1)))))] [] 5 [.q ((.sc (.I (IntKind.i64.wrap (c.params-1))):PX.PV)=(.sc (.I (c.params-1)))),.q (PX.Con Try.prog 84 [(.J o.sv),(.sc (.I (c.params-1)))] [] 5 5 (.sc (.bool (P.within o.sv (c.params-1)))) [])] [] [.au,.au,.au,.au,.au,.nm (.sc (.I (c.params-1))),.cl [] (.sc (.bool (P.within o.sv (c.params-1)))) [] 5,.au] [8] [1] hS hE ⟨PX.nm_int (by rw [IntWalk.i64_in _ (by omega)]),PX.con_any (con_f84 o.sv (c.params-1)),trivial⟩ fun a w hS=>?_
      refine wp_ret ?_
      rw [show (.sc (.bool (rightBindD c ps D o n)))=((.sc (.bool (P.within o.sv (c.params-1)))):PX.PV) from by unfold rightBindD; (try simp only [h2,h4,h5,h6,h7,Bool.not_true,Bool.not_false,Bool.and_true,Bool.and_false,Bool.true_and,Bool.false_and,Bool.or_true,Bool.true_or,Bool.or_false,Bool.false_or,Bool.false_eq_true,↓reduceIte]); (try rfl)]
      exact PX.rt hS hE (.inl rfl)
     ·skip
      refine wp_skip ?_
      refine hK3 _ _ ?_
      refine PX.G [(.e 8 (.sc (.bool false)))] [] 5 [] [] [.au] [8] [1] hS hE trivial fun a w hS=>?_
      refine wp_ret ?_
      rw [show (.sc (.bool (rightBindD c ps D o n)))=((.sc (.bool false)):PX.PV) from by unfold rightBindD; (try simp only [h2,h4,h5,h6,h7,Bool.not_true,Bool.not_false,Bool.and_true,Bool.and_false,Bool.true_and,Bool.false_and,Bool.or_true,Bool.true_or,Bool.or_false,Bool.false_or,Bool.false_eq_true,↓reduceIte]); (try rfl)]
      exact PX.rt hS hE (.inl rfl)

theorem edges_le {t:TermD} {m:Nat} (h:P.edges t=some m):m≤2:=by
 unfold P.edges at h
 (repeat' split at h) <;> simp at h <;> omega

set_option maxHeartbeats 4000000 in
theorem con_f130 (c:CodeD) (t:TermD) (n ps:Int) (D:List (Int × Int)) (hp:0≤ps∧ps≤999) (h1:t.args.length≤140737488351232) (h2:t.args0.length≤140737488351232) (h3:t.args1.length≤140737488351232):PX.Con Try.prog 130 [(codeP c),(.agg [(.J ps),(.map 1)]),(.agg [(.J t.kind),(.J t.a),(.J t.n),(.imm 1 (t.args.map encI)),(.J t.b0),(.imm 1 (t.args0.map encI)),(.J t.b1),(.imm 1 (t.args1.map encI))]),(.J n)] [(1,.mp (iv D))] 2 100000 (.sc (.bool (rightTermH c (fun x=>hasD ps D x n) t))) [(1,some (.mp (iv D)))]:=by
 refine PX.con_intro [(codeP c),(.agg [(.J ps),(.map 1)]),(.agg [(.J t.kind),(.J t.a),(.J t.n),(.imm 1 (t.args.map encI)),(.J t.b0),(.imm 1 (t.args0.map encI)),(.J t.b1),(.imm 1 (t.args1.map encI))]),(.J n)] 134 Try.func130 rfl rfl (by kernel_rfl) (by kernel_rfl) ?_
 intro E a hE hS
 generalize E.w0=w at hS ⊢
 have mix:=mixed
 refine PX.G [(.e 4 (.ptr 2 0)),(.e 5 (.ptr 3 0)),(.e 6 (.ptr 4 0))] [(2,.box 26 (codeL c)),(3,.box 183 [(.J ps),(.map 1)]),(4,.box 60 [(.J t.kind),(.J t.a),(.J t.n),(.imm 1 (t.args.map encI)),(.J t.b0),(.imm 1 (t.args0.map encI)),(.J t.b1),(.imm 1 (t.args1.map encI))])] 5 [] [] [.au,.au,.au,.au] [3,4,5,6] [1,2,3,4] hS hE trivial fun a w hS=>?_
 rcases Bool.eq_false_or_eq_true (t.args.all (fun x=>hasD ps D x n)) with h1 | h1
 ·skip
  rcases Bool.eq_false_or_eq_true (t.args0.all (fun x=>hasD ps D x n)) with h2 | h2
  ·skip
   refine wp_seq_k fun K3 hK3=>?_
   refine PX.G [(.e 38 (.sc (.bool (!(t.args1.all (fun x=>hasD ps D x n))))))] [] 5 [.q (PX.Con Try.prog 155 [(.agg [(.sc (.I ps)),(.map 1)]),(.sc (.I n)),(.imm 1 (t.args.map encI))] [(1,.mp (iv D))] 5 5 (.sc (.bool true)) [(1,some (.mp (iv D)))]),.q (PX.Con Try.prog 155 [(.agg [(.sc (.I ps)),(.map 1)]),(.sc (.I n)),(.imm 1 (t.args0.map encI))] [(1,.mp (iv D))] 5 5 (.sc (.bool true)) [(1,some (.mp (iv D)))]),.q (PX.Con Try.prog 155 [(.agg [(.sc (.I ps)),(.map 1)]),(.sc (.I n)),(.imm 1 (t.args1.map encI))] [(1,.mp (iv D))] 5 5 (.sc (.bool (t.args1.all (fun x=>hasD ps D x n)))) [(1,some (.mp (iv D)))])] [] [.au,.au,.au,.au,.cl [1] (.sc (.bool true)) [(1,some (.mp (iv D)))] 5,.au,.au,.au,.au,.au,.au,.au,.au,.cl [1] (.sc (.bool true)) [(1,some (.mp (iv D)))] 5,.au,.au,.au,.au,.au,.au,.au,.au,.au,.cl [1] (.sc (.bool (t.args1.all (fun x=>hasD ps D x n)))) [(1,some (.mp (iv D)))] 5,.au,.au] [3,4,5,6,38] [1,2,3,4] hS hE ⟨(show PX.Con Try.prog 155 [(.agg [(.sc (.I ps)),(.map 1)]),(.sc (.I n)),(.imm 1 (t.args.map encI))] [(1,.mp (iv D))] 5 5 (.sc (.bool true)) [(1,some (.mp (iv D)))] from h1 ▸ (show PX.Con Try.prog 155 [(.agg [(.sc (.I ps)),(.map 1)]),(.sc (.I n)),(.imm 1 (t.args.map encI))] [(1,.mp (iv D))] 5 5 (.sc (.bool (t.args.all (fun x=>hasD ps D x n)))) [(1,some (.mp (iv D)))] from PX.con_as [(1,1)] [(1,1)] (con_f155 ps n D t.args hp (by omega)) (by kernel_rfl) (by kernel_rfl) (by kernel_rfl) (by kernel_rfl) (by kernel_rfl) (by kernel_rfl))),(show PX.Con Try.prog 155 [(.agg [(.sc (.I ps)),(.map 1)]),(.sc (.I n)),(.imm 1 (t.args0.map encI))] [(1,.mp (iv D))] 5 5 (.sc (.bool true)) [(1,some (.mp (iv D)))] from h2 ▸ (show PX.Con Try.prog 155 [(.agg [(.sc (.I ps)),(.map 1)]),(.sc (.I n)),(.imm 1 (t.args0.map encI))] [(1,.mp (iv D))] 5 5 (.sc (.bool (t.args0.all (fun x=>hasD ps D x n)))) [(1,some (.mp (iv D)))] from PX.con_as [(1,1)] [(1,1)] (con_f155 ps n D t.args0 hp (by omega)) (by kernel_rfl) (by kernel_rfl) (by kernel_rfl) (by kernel_rfl) (by kernel_rfl) (by kernel_rfl))),PX.con_as [(1,1)] [(1,1)] (con_f155 ps n D t.args1 hp (by omega)) (by kernel_rfl) (by kernel_rfl) (by kernel_rfl) (by kernel_rfl) (by kernel_rfl) (by kernel_rfl),trivial⟩ fun a w hS=>?_
   refine PX.cond_s (!(t.args1.all (fun x=>hasD ps D x n))) hS (by kernel_rfl) (fun h4=>?_) (fun h4=>?_)
   ·skip
    refine PX.G [(.e 8 (.sc (.bool false)))] [] 5 [] [] [.au] [8] [1] hS hE trivial fun a w hS=>?_
    refine wp_ret ?_
    rw [show (.sc (.bool (rightTermH c (fun x=>hasD ps D x n) t)))=((.sc (.bool false)):PX.PV) from by clear hS hE; unfold rightTermH; rw [h1,h2,show (t.args1.all (fun x=>hasD ps D x n))=false from by simpa using h4]; simp only [Bool.not_true,Bool.not_false,Bool.or_false,Bool.or_true,Bool.false_or,Bool.false_eq_true,↓reduceIte]]
    exact PX.rt hS hE (.inl rfl)
   ·skip
    refine wp_skip ?_
    refine hK3 _ _ ?_
    refine PX.G [(.e 9 (.J 0))] [] 5 [] [] [.au] [3,4,5,6,9] [1,2,3,4] hS hE trivial fun a w hS=>?_
    refine PX.seq_cutq (E:=E) (N:=134) (T:=[(.e 3 (.J n)),(.e 4 (.ptr 2 0)),(.e 5 (.ptr 3 0)),(.e 6 (.ptr 4 0)),(.e 9 (.sc (.I ((((P.edges t).getD 0):Nat):Int))))]) (H:=[(1,.mp (iv D)),(2,.box 26 (codeL c)),(3,.box 183 [(.J ps),(.map 1)]),(4,.box 60 [(.J t.kind),(.J t.a),(.J t.n),(.imm 1 (t.args.map encI)),(.J t.b0),(.imm 1 (t.args0.map encI)),(.J t.b1),(.imm 1 (t.args1.map encI))])]) (nx:=5) ((P.edges t).isSome=true) ?_ ?_
    ·skip
     refine PX.G [(.e 40 (.J t.kind))] [] 5 [] [] [.au,.au] [3,4,5,6,9,40] [1,2,3,4] hS hE trivial fun a w hS=>?_
     refine wp_block ?_
     refine PX.G [(.e 41 (.sc (.bool (t.kind==1))))] [] 5 [] [] [.au,.au] [3,4,5,6,9,40,41] [1,2,3,4] hS hE trivial fun a w hS=>?_
     refine PX.cond_s (t.kind==1) hS (by kernel_rfl) (fun h6=>?_) (fun h6=>?_)
     ·skip
      refine PX.G0 [(.e 9 (.J 1))] [] 5 [] [] [.au] [3,4,5,6,9] [1,2,3,4] hS hE trivial fun a w hS=>?_
      have hed:P.edges t=some 1:=by unfold P.edges; rw [show t.kind=1 from by simpa using h6]; rfl
      replace hS:=PX.sl [3,4,5,6,9] (PX.reslot (t:=9) (.sc (.I ((((P.edges t).getD 0):Nat):Int))) hS rfl (fun _ _ _ _ h=>(show PX.PV.sc (.I 1)=.sc (.I (((P.edges t).getD 0:Nat):Int)) from by rw [hed]; rfl) ▸ h))
      exact And.intro (by rw [hed]; rfl) (PX.cn [] _ _ 5 hS hE)
     ·skip
      refine PX.G [(.e 43 (.sc (.bool (t.kind==2))))] [] 5 [] [] [.au,.au] [3,4,5,6,9,40,43] [1,2,3,4] hS hE trivial fun a w hS=>?_
      refine PX.cond_s (t.kind==2) hS (by kernel_rfl) (fun h7=>?_) (fun h7=>?_)
      ·skip
       refine PX.G0 [(.e 9 (.J 2))] [] 5 [] [] [.au] [3,4,5,6,9] [1,2,3,4] hS hE trivial fun a w hS=>?_
       have hed:P.edges t=some 2:=by unfold P.edges; rw [show t.kind=2 from by simpa using h7]; rfl
       replace hS:=PX.sl [3,4,5,6,9] (PX.reslot (t:=9) (.sc (.I ((((P.edges t).getD 0):Nat):Int))) hS rfl (fun _ _ _ _ h=>(show PX.PV.sc (.I 2)=.sc (.I (((P.edges t).getD 0:Nat):Int)) from by rw [hed]; rfl) ▸ h))
       exact And.intro (by rw [hed]; rfl) (PX.cn [] _ _ 5 hS hE)
      ·skip
       refine PX.G [(.e 45 (.sc (.bool (t.kind==3))))] [] 5 [] [] [.au,.au] [3,4,5,6,9,40,45] [1,2,3,4] hS hE trivial fun a w hS=>?_
       refine PX.cond_s (t.kind==3) hS (by kernel_rfl) (fun h8=>?_) (fun h8=>?_)
       ·skip
        refine PX.G [(.e 9 (.J 1))] [] 5 [] [] [.au] [3,4,5,6,9] [1,2,3,4] hS hE trivial fun a w hS=>?_
        refine PX.G [(.e 51 (.sc (.bool (!(P.absent t.b1 t.args1)))))] [] 5 [.q (PX.Con Try.prog 156 [(.agg [(.J t.b1),(.imm 1 (t.args1.map encI))])] [] 5 5 (.sc (.bool (P.absent t.b1 t.args1))) [])] [] [.au,.au,.au,.cl [] (.sc (.bool (P.absent t.b1 t.args1))) [] 5,.au] [3,4,5,6,9,51] [1,2,3,4] hS hE ⟨PX.con_any (con_f156 t.b1 t.args1),trivial⟩ fun a w hS=>?_
        refine PX.cond_s (!(P.absent t.b1 t.args1)) hS (by kernel_rfl) (fun h9=>?_) (fun h9=>?_)
        ·skip
         refine PX.G0 [(.e 9 (.J 2))] [] 5 [] [] [.au] [3,4,5,6,9] [1,2,3,4] hS hE trivial fun a w hS=>?_
         have hed:P.edges t=some 2:=by unfold P.edges; rw [show t.kind=3 from by simpa using h8]; simp only [h9]; rfl
         replace hS:=PX.sl [3,4,5,6,9] (PX.reslot (t:=9) (.sc (.I ((((P.edges t).getD 0):Nat):Int))) hS rfl (fun _ _ _ _ h=>(show PX.PV.sc (.I 2)=.sc (.I (((P.edges t).getD 0:Nat):Int)) from by rw [hed]; rfl) ▸ h))
         exact And.intro (by rw [hed]; rfl) (PX.cn [] _ _ 5 hS hE)
        ·skip
         refine wp_skip ?_
         have hed:P.edges t=some 1:=by unfold P.edges; rw [show t.kind=3 from by simpa using h8]; simp only [h9]; rfl
         replace hS:=PX.sl [3,4,5,6,9,51] (PX.reslot (t:=9) (.sc (.I ((((P.edges t).getD 0):Nat):Int))) hS rfl (fun _ _ _ _ h=>(show PX.PV.sc (.I 1)=.sc (.I (((P.edges t).getD 0:Nat):Int)) from by rw [hed]; rfl) ▸ h))
         replace hS:=PX.sl [3,4,5,6,9] hS
         exact And.intro (by rw [hed]; rfl) (PX.cn [] _ _ 5 hS hE)
       ·skip
        refine wp_seq_k fun K10 hK10=>?_
        refine PX.G [(.e 52 (.sc (.bool (t.kind==4))))] [] 5 [] [] [.au,.au] [3,4,5,6,9,40,52] [1,2,3,4] hS hE trivial fun a w hS=>?_
        refine PX.cond_s (t.kind==4) hS (by kernel_rfl) (fun h11=>?_) (fun h11=>?_)
        ·skip
         refine wp_skip ?_
         refine hK10 _ _ ?_
         refine PX.cond_s (t.kind==4) hS (by kernel_rfl) (fun h12=>?_) (fun h12=>nomatch (h11.symm.trans h12))
         refine wp_skip ?_
         have hed:P.edges t=some 0:=by unfold P.edges; rw [show t.kind=4 from by simpa using h11]; rfl
         replace hS:=PX.sl [3,4,5,6,9,40,52] (PX.reslot (t:=9) (.sc (.I ((((P.edges t).getD 0):Nat):Int))) hS rfl (fun _ _ _ _ h=>(show PX.PV.sc (.I 0)=.sc (.I (((P.edges t).getD 0:Nat):Int)) from by rw [hed]; rfl) ▸ h))
         replace hS:=PX.sl [3,4,5,6,9] hS
         exact And.intro (by rw [hed]; rfl) (PX.cn [] _ _ 5 hS hE)
        ·skip
         refine PX.G [(.e 52 (.sc (.bool (t.kind==5))))] [] 5 [] [] [.au,.au] [3,4,5,6,9,40,52] [1,2,3,4] hS hE trivial fun a w hS=>?_
         refine PX.cond_s (t.kind==5) hS (by kernel_rfl) (fun h13=>?_) (fun h13=>?_)
         ·skip
          refine wp_skip ?_
          refine hK10 _ _ ?_
          refine PX.cond_s (t.kind==5) hS (by kernel_rfl) (fun h14=>?_) (fun h14=>nomatch (h13.symm.trans h14))
          refine wp_skip ?_
          have hed:P.edges t=some 0:=by unfold P.edges; rw [show t.kind=5 from by simpa using h13]; rfl
          replace hS:=PX.sl [3,4,5,6,9,40,52] (PX.reslot (t:=9) (.sc (.I ((((P.edges t).getD 0):Nat):Int))) hS rfl (fun _ _ _ _ h=>(show PX.PV.sc (.I 0)=.sc (.I (((P.edges t).getD 0:Nat):Int)) from by rw [hed]; rfl) ▸ h))
          replace hS:=PX.sl [3,4,5,6,9] hS
          exact And.intro (by rw [hed]; rfl) (PX.cn [] _ _ 5 hS hE)
         ·skip
          refine PX.G0 [(.e 52 (.sc (.bool (t.kind==6))))] [] 5 [] [] [.au,.au] [3,4,5,6,9,52] [1,2,3,4] hS hE trivial fun a w hS=>?_
          refine hK10 _ _ ?_
          refine PX.cond_s (t.kind==6) hS (by kernel_rfl) (fun h15=>?_) (fun h15=>?_)
          ·skip
           refine wp_skip ?_
           have hed:P.edges t=some 0:=by unfold P.edges; rw [show t.kind=6 from by simpa using h15]; rfl
           replace hS:=PX.sl [3,4,5,6,9,52] (PX.reslot (t:=9) (.sc (.I ((((P.edges t).getD 0):Nat):Int))) hS rfl (fun _ _ _ _ h=>(show PX.PV.sc (.I 0)=.sc (.I (((P.edges t).getD 0:Nat):Int)) from by rw [hed]; rfl) ▸ h))
           replace hS:=PX.sl [3,4,5,6,9] hS
           exact And.intro (by rw [hed]; rfl) (PX.cn [] _ _ 5 hS hE)
          ·skip
           refine PX.G [(.e 8 (.sc (.bool false)))] [] 5 [] [] [.au] [3,4,5,6,8,9] [1,2,3,4] hS hE trivial fun a w hS=>?_
           refine wp_ret ?_
           rw [show (.sc (.bool (rightTermH c (fun x=>hasD ps D x n) t)))=((.sc (.bool false)):PX.PV) from by clear hS hE; unfold rightTermH; rw [h1,h2,show (t.args1.all (fun x=>hasD ps D x n))=true from by simpa using h4]; simp only [Bool.not_true,Bool.not_false,Bool.or_false,Bool.or_true,Bool.false_or,Bool.false_eq_true,↓reduceIte]; rw [show P.edges t=none from by unfold P.edges; simp only [h6,h7,h8,h11,h13,h15] <;> rfl]]
           exact PX.rt hS hE (.inl rfl)
    clear hS; intro hx5 a w hS
    obtain ⟨m,hm⟩:=Option.isSome_iff_exists.1 hx5
    have hm2:=edges_le hm
    rw [show (P.edges t).getD 0=m from by rw [hm] <;> rfl] at hS
    refine PX.seq_cutq (E:=E) (N:=134) (T:=[(.e 4 (.ptr 2 0)),(.e 6 (.ptr 4 0)),(.e 9 (.sc (.I (m:Int))))]) (H:=[(1,.mp (iv D)),(2,.box 26 (codeL c)),(4,.box 60 [(.J t.kind),(.J t.a),(.J t.n),(.imm 1 (t.args.map encI)),(.J t.b0),(.imm 1 (t.args0.map encI)),(.J t.b1),(.imm 1 (t.args1.map encI))])]) (nx:=5) ((if t.kind==2||t.kind==4||t.kind==5 then !hasD ps D t.a n else t.a != 0)=false) ?_ ?_
    ·skip
     refine PX.G [(.e 10 (.sc (.bool (((t.kind==2)||(t.kind==4))||(t.kind==5)))))] [] 5 [] [(3,(t.kind==2)),(8,((t.kind==2)||(t.kind==4)))] [.au,.au,.au,.au,.au,.au,.au,.pk,.au,.au,.au,.au,.pk,.au] [3,4,5,6,9,10] [1,2,3,4] hS hE trivial fun a w hS=>?_
     refine PX.G [(.e 69 (.sc (.bool (((t.kind==2)||(t.kind==4))||(t.kind==5)))))] [] 5 [] [] [.au] [3,4,5,6,9,69] [1,2,3,4] hS hE trivial fun a w hS=>?_
     refine PX.cond_s (((t.kind==2)||(t.kind==4))||(t.kind==5)) hS (by kernel_rfl) (fun h17=>?_) (fun h17=>?_)
     ·skip
      refine PX.G [(.e 75 (.sc (.bool (!(hasD ps D t.a n)))))] [] 5 [.q (PX.Con Try.prog 154 [(.agg [(.J ps),(.map 1)]),(.J t.a),(.J n)] [(1,.mp (iv D))] 5 5 (.sc (.bool (hasD ps D t.a n))) [(1,some (.mp (iv D)))])] [] [.au,.au,.au,.au,.cl [1] (.sc (.bool (hasD ps D t.a n))) [(1,some (.mp (iv D)))] 5,.au] [4,6,9,75] [1,2,4] hS hE ⟨PX.con_as [(1,1)] [(1,1)] (con_f154 ps t.a n D hp) (by kernel_rfl) (by kernel_rfl) (by kernel_rfl) (by kernel_rfl) (by kernel_rfl) (by kernel_rfl),trivial⟩ fun a w hS=>?_
      refine PX.cond_s (!(hasD ps D t.a n)) hS (by kernel_rfl) (fun h18=>?_) (fun h18=>?_)
      ·skip
       refine PX.G [(.e 8 (.sc (.bool false)))] [] 5 [] [] [.au] [4,6,8,9] [1,2,4] hS hE trivial fun a w hS=>?_
       refine wp_ret ?_
       rw [show (.sc (.bool (rightTermH c (fun x=>hasD ps D x n) t)))=((.sc (.bool false)):PX.PV) from by clear hS hE; unfold rightTermH; rw [h1,h2,show (t.args1.all (fun x=>hasD ps D x n))=true from by simpa using h4]; simp only [Bool.not_true,Bool.not_false,Bool.or_false,Bool.or_true,Bool.false_or,Bool.false_eq_true,↓reduceIte]; rw [hm]; simp only []; rw [if_pos (by simp only [h17,Bool.false_eq_true,↓reduceIte]; simpa using h18)]]
       exact PX.rt hS hE (.inl rfl)
      ·skip
       refine wp_skip ?_
       replace hS:=PX.sl [4,6,9] hS
       exact And.intro (by clear hS hE; simp only [h17,Bool.false_eq_true,↓reduceIte]; simpa using h18) (PX.cn [] _ _ 5 hS hE)
     ·skip
      refine PX.G [(.e 78 (.sc (.bool (t.a != 0))))] [] 5 [] [] [.au,.au,.au] [4,6,9,78] [1,2,4] hS hE trivial fun a w hS=>?_
      refine PX.cond_s (t.a != 0) hS (by kernel_rfl) (fun h19=>?_) (fun h19=>?_)
      ·skip
       refine PX.G [(.e 8 (.sc (.bool false)))] [] 5 [] [] [.au] [4,6,8,9] [1,2,4] hS hE trivial fun a w hS=>?_
       refine wp_ret ?_
       rw [show (.sc (.bool (rightTermH c (fun x=>hasD ps D x n) t)))=((.sc (.bool false)):PX.PV) from by clear hS hE; unfold rightTermH; rw [h1,h2,show (t.args1.all (fun x=>hasD ps D x n))=true from by simpa using h4]; simp only [Bool.not_true,Bool.not_false,Bool.or_false,Bool.or_true,Bool.false_or,Bool.false_eq_true,↓reduceIte]; rw [hm]; simp only []; rw [if_pos (by simp only [h17,Bool.false_eq_true,↓reduceIte]; simpa using h19)]]
       exact PX.rt hS hE (.inl rfl)
      ·skip
       refine wp_skip ?_
       replace hS:=PX.sl [4,6,9] hS
       exact And.intro (by clear hS hE; simp only [h17,Bool.false_eq_true,↓reduceIte]; simpa using h19) (PX.cn [] _ _ 5 hS hE)
    clear hS; intro hx16 a w hS
    refine PX.seq_cutq (E:=E) (N:=134) (T:=[(.e 4 (.ptr 2 0)),(.e 6 (.ptr 4 0)),(.e 9 (.sc (.I (m:Int))))]) (H:=[(1,.mp (iv D)),(2,.box 26 (codeL c)),(4,.box 60 [(.J t.kind),(.J t.a),(.J t.n),(.imm 1 (t.args.map encI)),(.J t.b0),(.imm 1 (t.args0.map encI)),(.J t.b1),(.imm 1 (t.args1.map encI))])]) (nx:=5) ((if t.kind==3||t.kind==6 then !P.within t.n 7||decide (4<t.args.length) else t.n != 0||t.args.length != 0)=false) ?_ ?_
    ·skip
     refine PX.G [(.e 86 (.sc (.bool ((t.kind==3)||(t.kind==6)))))] [] 5 [] [(3,(t.kind==3))] [.au,.au,.au,.au,.au,.au,.au,.pk] [4,6,9,86] [1,2,4] hS hE trivial fun a w hS=>?_
     refine PX.cond_s ((t.kind==3)||(t.kind==6)) hS (by kernel_rfl) (fun h21=>?_) (fun h21=>?_)
     ·skip
      refine PX.G [(.e 96 (.sc (.bool ((!(P.within t.n 7))||decide (4<(t.args.length:Int))))))] [] 5 [.q (PX.Con Try.prog 84 [(.J t.n),(.J 7)] [] 5 5 (.sc (.bool (P.within t.n 7))) []),.q (SX.pv [(4,(!(P.within t.n 7)))] [(4,false)]=true→PX.AllOb [.q ((.sc (.I (((t.args.map encI).length:Nat):Int)):PX.PV)=(.sc (.I (t.args.length:Int))))])] [(4,(!(P.within t.n 7)))] [.au,.au,.cl [] (.sc (.bool (P.within t.n 7))) [] 5,.au,.au,.au,.au,.nm (.sc (.I (t.args.length:Int))),.au,.pk] [4,6,9,96] [1,2,4] hS hE ⟨PX.con_any (con_f84 t.n 7),fun hg=>⟨PX.nm_len (by simp),trivial⟩,trivial⟩ fun a w hS=>?_
      refine PX.cond_s ((!(P.within t.n 7))||decide (4<(t.args.length:Int))) hS (by kernel_rfl) (fun h22=>?_) (fun h22=>?_)
      ·skip
       refine PX.G [(.e 8 (.sc (.bool false)))] [] 5 [] [] [.au] [4,6,8,9] [1,2,4] hS hE trivial fun a w hS=>?_
       refine wp_ret ?_
       rw [show (.sc (.bool (rightTermH c (fun x=>hasD ps D x n) t)))=((.sc (.bool false)):PX.PV) from by clear hS hE; unfold rightTermH; rw [h1,h2,show (t.args1.all (fun x=>hasD ps D x n))=true from by simpa using h4]; simp only [Bool.not_true,Bool.not_false,Bool.or_false,Bool.or_true,Bool.false_or,Bool.false_eq_true,↓reduceIte]; rw [hm]; simp only []; rw [if_neg (by rw [hx16]; simp)]; rw [if_pos (by simp only [h21,Bool.false_eq_true,↓reduceIte,← lt4,← ne0]; simpa using h22)]]
       exact PX.rt hS hE (.inl rfl)
      ·skip
       refine wp_skip ?_
       replace hS:=PX.sl [4,6,9] hS
       exact And.intro (by clear hS hE; simp only [h21,Bool.false_eq_true,↓reduceIte,← lt4,← ne0]; simpa using h22) (PX.cn [] _ _ 5 hS hE)
     ·skip
      refine PX.G [(.e 105 (.sc (.bool ((t.n != 0)||((t.args.length:Int) != 0)))))] [] 5 [.q (SX.pv [(3,(t.n != 0))] [(3,false)]=true→PX.AllOb [.q ((.sc (.I (((t.args.map encI).length:Nat):Int)):PX.PV)=(.sc (.I (t.args.length:Int))))])] [(3,(t.n != 0))] [.au,.au,.au,.au,.au,.au,.nm (.sc (.I (t.args.length:Int))),.au,.pk] [4,6,9,105] [1,2,4] hS hE ⟨fun hg=>⟨PX.nm_len (by simp),trivial⟩,trivial⟩ fun a w hS=>?_
      refine PX.cond_s ((t.n != 0)||((t.args.length:Int) != 0)) hS (by kernel_rfl) (fun h23=>?_) (fun h23=>?_)
      ·skip
       refine PX.G [(.e 8 (.sc (.bool false)))] [] 5 [] [] [.au] [4,6,8,9] [1,2,4] hS hE trivial fun a w hS=>?_
       refine wp_ret ?_
       rw [show (.sc (.bool (rightTermH c (fun x=>hasD ps D x n) t)))=((.sc (.bool false)):PX.PV) from by clear hS hE; unfold rightTermH; rw [h1,h2,show (t.args1.all (fun x=>hasD ps D x n))=true from by simpa using h4]; simp only [Bool.not_true,Bool.not_false,Bool.or_false,Bool.or_true,Bool.false_or,Bool.false_eq_true,↓reduceIte]; rw [hm]; simp only []; rw [if_neg (by rw [hx16]; simp)]; rw [if_pos (by simp only [h21,Bool.false_eq_true,↓reduceIte,← lt4,← ne0]; simpa using h23)]]
       exact PX.rt hS hE (.inl rfl)
      ·skip
       refine wp_skip ?_
       replace hS:=PX.sl [4,6,9] hS
       exact And.intro (by clear hS hE; simp only [h21,Bool.false_eq_true,↓reduceIte,← lt4,← ne0]; simpa using h23) (PX.cn [] _ _ 5 hS hE)
    clear hS; intro hx20 a w hS
    refine wp_seq_k fun K24 hK24=>?_
    refine PX.G [(.e 107 (.agg [(.J t.b0),(.imm 1 (t.args0.map encI)),(.J t.b1),(.imm 1 (t.args1.map encI))])),(.e 108 (.J 0))] [] 5 [] [] [.au,.au,.au] [4,6,9,107,108] [1,2,4] hS hE trivial fun a w hS=>?_
    refine wp_block ?_
    refine wp_loop_rounds 3 ?_
    rw [rounds_succ]
    refine PX.G [(.e 109 (.sc (.bool true)))] [] 5 [] [] [.au] [4,6,9,107,108,109] [1,2,4] hS hE trivial fun a w hS=>?_
    refine wp_seq_k fun K25 hK25=>?_
    refine PX.cond_s true hS (by kernel_rfl) (fun h26=>?_) (fun h26=>nomatch h26)
    refine wp_skip ?_
    refine hK25 _ _ ?_
    refine wp_seq_k fun K27 hK27=>?_
    refine wp_block ?_
    refine PX.G [(.e 11 (.J 0)),(.e 12 (.ptr 5 0))] [(5,.box 57 [(.J t.b0),(.imm 1 (t.args0.map encI))])] 6 [.q (0=((0:Nat):Int))] [] [.au,.ix 0 [],.au,.au,.au] [4,6,9,11,12,107,108] [1,2,4,5] hS hE ⟨rfl,trivial⟩ fun a w hS=>?_
    refine PX.G [(.e 132 (.sc (.bool ((decide (0<(m:Int))&&(!(P.rightEdge c t.b0 t.args0 t.kind)))||(decide ((m:Int)≤0)&&(!(P.absent t.b0 t.args0)))))))] [] 6 [.q (SX.pv [(3,decide (0<(m:Int))),(11,(decide (0<(m:Int))&&(!(P.rightEdge c t.b0 t.args0 t.kind)))),(15,decide ((m:Int)≤0))] [(3,true)]=true→PX.AllOb [.q (PX.Con Try.prog 157 [(codeP c),(.agg [(.J t.b0),(.imm 1 (t.args0.map encI))]),(.J t.kind)] [] 6 6 (.sc (.bool (P.rightEdge c t.b0 t.args0 t.kind))) [])]),.q (SX.pv [(3,decide (0<(m:Int))),(11,(decide (0<(m:Int))&&(!(P.rightEdge c t.b0 t.args0 t.kind)))),(15,decide ((m:Int)≤0))] [(15,true),(11,false)]=true→PX.AllOb [.q (PX.Con Try.prog 156 [(.agg [(.J t.b0),(.imm 1 (t.args0.map encI))])] [] 6 6 (.sc (.bool (P.absent t.b0 t.args0))) [])])] [(3,decide (0<(m:Int))),(11,(decide (0<(m:Int))&&(!(P.rightEdge c t.b0 t.args0 t.kind)))),(15,decide ((m:Int)≤0))] [.au,.au,.au,.au,.au,.au,.au,.au,.cl [] (.sc (.bool (P.rightEdge c t.b0 t.args0 t.kind))) [] 6,.au,.pk,.au,.au,.au,.au,.au,.au,.cl [] (.sc (.bool (P.absent t.b0 t.args0))) [] 6,.au,.pk,.pk] [4,6,9,107,108,132] [1,2,4] hS hE ⟨fun hg=>⟨PX.con_any (con_f157 c t.b0 t.kind t.args0 (by omega)),trivial⟩,fun hg=>⟨PX.con_any (con_f156 t.b0 t.args0),trivial⟩,trivial⟩ fun a w hS=>?_
    refine PX.cond_s ((decide (0<(m:Int))&&(!(P.rightEdge c t.b0 t.args0 t.kind)))||(decide ((m:Int)≤0)&&(!(P.absent t.b0 t.args0)))) hS (by kernel_rfl) (fun h28=>?_) (fun h28=>?_)
    ·skip
     refine PX.G [(.e 8 (.sc (.bool false)))] [] 6 [] [] [.au] [4,6,8,9,107,108] [1,2,4] hS hE trivial fun a w hS=>?_
     refine wp_ret ?_
     rw [show (.sc (.bool (rightTermH c (fun x=>hasD ps D x n) t)))=((.sc (.bool false)):PX.PV) from by clear hS hE; unfold rightTermH; rw [h1,h2,show (t.args1.all (fun x=>hasD ps D x n))=true from by simpa using h4]; simp only [Bool.not_true,Bool.not_false,Bool.or_false,Bool.or_true,Bool.false_or,Bool.false_eq_true,↓reduceIte]; rw [hm]; simp only []; rw [if_neg (by rw [hx16]; simp)]; rw [if_neg (by rw [hx20]; simp)]; simp only [lt0m,le0m,lt1m,le1m] at h28; rcases (show m=0∨m=1∨m=2 by omega) with rfl | rfl | rfl <;> simp_all]
     exact PX.rt hS hE (.inl rfl)
    ·skip
     refine wp_skip ?_
     refine hK27 _ _ ?_
     refine PX.G0 [(.e 108 (.J 1))] [] 6 [] [] [.au,.au] [4,6,9,107,108] [1,2,4] hS hE trivial fun a w hS=>?_
     show Code.rounds _ _ _ 2 _ _
     rw [rounds_succ]
     refine PX.G [(.e 109 (.sc (.bool true)))] [] 6 [] [] [.au] [4,6,9,107,108,109] [1,2,4] hS hE trivial fun a w hS=>?_
     refine wp_seq_k fun K29 hK29=>?_
     refine PX.cond_s true hS (by kernel_rfl) (fun h30=>?_) (fun h30=>nomatch h30)
     refine wp_skip ?_
     refine hK29 _ _ ?_
     refine wp_seq_k fun K31 hK31=>?_
     refine wp_block ?_
     refine PX.G [(.e 11 (.J 1)),(.e 12 (.ptr 6 0))] [(6,.box 57 [(.J t.b1),(.imm 1 (t.args1.map encI))])] 7 [.q (1=((1:Nat):Int))] [] [.au,.ix 1 [],.au,.au,.au] [4,6,9,11,12,107,108] [1,2,4,6] hS hE ⟨rfl,trivial⟩ fun a w hS=>?_
     refine PX.G [(.e 132 (.sc (.bool ((decide (1<(m:Int))&&(!(P.rightEdge c t.b1 t.args1 t.kind)))||(decide ((m:Int)≤1)&&(!(P.absent t.b1 t.args1)))))))] [] 7 [.q (SX.pv [(3,decide (1<(m:Int))),(11,(decide (1<(m:Int))&&(!(P.rightEdge c t.b1 t.args1 t.kind)))),(15,decide ((m:Int)≤1))] [(3,true)]=true→PX.AllOb [.q (PX.Con Try.prog 157 [(codeP c),(.agg [(.J t.b1),(.imm 1 (t.args1.map encI))]),(.J t.kind)] [] 7 7 (.sc (.bool (P.rightEdge c t.b1 t.args1 t.kind))) [])]),.q (SX.pv [(3,decide (1<(m:Int))),(11,(decide (1<(m:Int))&&(!(P.rightEdge c t.b1 t.args1 t.kind)))),(15,decide ((m:Int)≤1))] [(15,true),(11,false)]=true→PX.AllOb [.q (PX.Con Try.prog 156 [(.agg [(.J t.b1),(.imm 1 (t.args1.map encI))])] [] 7 7 (.sc (.bool (P.absent t.b1 t.args1))) [])])] [(3,decide (1<(m:Int))),(11,(decide (1<(m:Int))&&(!(P.rightEdge c t.b1 t.args1 t.kind)))),(15,decide ((m:Int)≤1))] [.au,.au,.au,.au,.au,.au,.au,.au,.cl [] (.sc (.bool (P.rightEdge c t.b1 t.args1 t.kind))) [] 7,.au,.pk,.au,.au,.au,.au,.au,.au,.cl [] (.sc (.bool (P.absent t.b1 t.args1))) [] 7,.au,.pk,.pk] [4,6,9,107,108,132] [1,2,4] hS hE ⟨fun hg=>⟨PX.con_any (con_f157 c t.b1 t.kind t.args1 (by omega)),trivial⟩,fun hg=>⟨PX.con_any (con_f156 t.b1 t.args1),trivial⟩,trivial⟩ fun a w hS=>?_
     refine PX.cond_s ((decide (1<(m:Int))&&(!(P.rightEdge c t.b1 t.args1 t.kind)))||(decide ((m:Int)≤1)&&(!(P.absent t.b1 t.args1)))) hS (by kernel_rfl) (fun h32=>?_) (fun h32=>?_)
     ·skip
      refine PX.G [(.e 8 (.sc (.bool false)))] [] 7 [] [] [.au] [4,6,8,9,107,108] [1,2,4] hS hE trivial fun a w hS=>?_
      refine wp_ret ?_
      rw [show (.sc (.bool (rightTermH c (fun x=>hasD ps D x n) t)))=((.sc (.bool false)):PX.PV) from by clear hS hE; unfold rightTermH; rw [h1,h2,show (t.args1.all (fun x=>hasD ps D x n))=true from by simpa using h4]; simp only [Bool.not_true,Bool.not_false,Bool.or_false,Bool.or_true,Bool.false_or,Bool.false_eq_true,↓reduceIte]; rw [hm]; simp only []; rw [if_neg (by rw [hx16]; simp)]; rw [if_neg (by rw [hx20]; simp)]; simp only [lt0m,le0m,lt1m,le1m] at h28 h32; rcases (show m=0∨m=1∨m=2 by omega) with rfl | rfl | rfl <;> simp_all]
      exact PX.rt hS hE (.inl rfl)
     ·skip
      refine wp_skip ?_
      refine hK31 _ _ ?_
      refine PX.G0 [(.e 108 (.J 2))] [] 7 [] [] [.au,.au] [4,6,9,107,108] [1,2,4] hS hE trivial fun a w hS=>?_
      show Code.rounds _ _ _ 1 _ _
      rw [rounds_succ]
      refine PX.G [(.e 109 (.sc (.bool false)))] [] 7 [] [] [.au] [4,6,9,107,108,109] [1,2,4] hS hE trivial fun a w hS=>?_
      refine wp_seq_k fun K33 hK33=>?_
      refine PX.cond_s false hS (by kernel_rfl) (fun h34=>nomatch h34) (fun h34=>?_)
      refine wp_exit ?_
      refine hK24 _ _ ?_
      refine PX.G [(.e 8 (.sc (.bool true)))] [] 7 [] [] [.au] [8] [1] hS hE trivial fun a w hS=>?_
      refine wp_ret ?_
      rw [show (.sc (.bool (rightTermH c (fun x=>hasD ps D x n) t)))=((.sc (.bool true)):PX.PV) from by clear hS hE; unfold rightTermH; rw [h1,h2,show (t.args1.all (fun x=>hasD ps D x n))=true from by simpa using h4]; simp only [Bool.not_true,Bool.not_false,Bool.or_false,Bool.or_true,Bool.false_or,Bool.false_eq_true,↓reduceIte]; rw [hm]; simp only []; rw [if_neg (by rw [hx16]; simp)]; rw [if_neg (by rw [hx20]; simp)]; simp only [lt0m,le0m,lt1m,le1m] at h28 h32; rcases (show m=0∨m=1∨m=2 by omega) with rfl | rfl | rfl <;> simp_all]
      exact PX.rt hS hE (.inl rfl)
  ·skip
   refine wp_seq_k fun K35 hK35=>?_
   refine PX.G [(.e 38 (.sc (.bool true)))] [] 5 [.q (PX.Con Try.prog 155 [(.agg [(.sc (.I ps)),(.map 1)]),(.sc (.I n)),(.imm 1 (t.args.map encI))] [(1,.mp (iv D))] 5 5 (.sc (.bool true)) [(1,some (.mp (iv D)))]),.q (PX.Con Try.prog 155 [(.agg [(.sc (.I ps)),(.map 1)]),(.sc (.I n)),(.imm 1 (t.args0.map encI))] [(1,.mp (iv D))] 5 5 (.sc (.bool false)) [(1,some (.mp (iv D)))])] [(16,true)] [.au,.au,.au,.au,.cl [1] (.sc (.bool true)) [(1,some (.mp (iv D)))] 5,.au,.au,.au,.au,.au,.au,.au,.au,.cl [1] (.sc (.bool false)) [(1,some (.mp (iv D)))] 5,.au,.au,.au,.dd,.dd,.dd,.dd,.dd,.dd,.dd,.dd,.au] [3,4,5,6,38] [1,2,3,4] hS hE ⟨(show PX.Con Try.prog 155 [(.agg [(.sc (.I ps)),(.map 1)]),(.sc (.I n)),(.imm 1 (t.args.map encI))] [(1,.mp (iv D))] 5 5 (.sc (.bool true)) [(1,some (.mp (iv D)))] from h1 ▸ (show PX.Con Try.prog 155 [(.agg [(.sc (.I ps)),(.map 1)]),(.sc (.I n)),(.imm 1 (t.args.map encI))] [(1,.mp (iv D))] 5 5 (.sc (.bool (t.args.all (fun x=>hasD ps D x n)))) [(1,some (.mp (iv D)))] from PX.con_as [(1,1)] [(1,1)] (con_f155 ps n D t.args hp (by omega)) (by kernel_rfl) (by kernel_rfl) (by kernel_rfl) (by kernel_rfl) (by kernel_rfl) (by kernel_rfl))),(show PX.Con Try.prog 155 [(.agg [(.sc (.I ps)),(.map 1)]),(.sc (.I n)),(.imm 1 (t.args0.map encI))] [(1,.mp (iv D))] 5 5 (.sc (.bool false)) [(1,some (.mp (iv D)))] from h2 ▸ (show PX.Con Try.prog 155 [(.agg [(.sc (.I ps)),(.map 1)]),(.sc (.I n)),(.imm 1 (t.args0.map encI))] [(1,.mp (iv D))] 5 5 (.sc (.bool (t.args0.all (fun x=>hasD ps D x n)))) [(1,some (.mp (iv D)))] from PX.con_as [(1,1)] [(1,1)] (con_f155 ps n D t.args0 hp (by omega)) (by kernel_rfl) (by kernel_rfl) (by kernel_rfl) (by kernel_rfl) (by kernel_rfl) (by kernel_rfl))),trivial⟩ fun a w hS=>?_
   refine PX.cond_s true hS (by kernel_rfl) (fun h36=>?_) (fun h36=>nomatch h36)
   refine PX.G [(.e 8 (.sc (.bool false)))] [] 5 [] [] [.au] [8] [1] hS hE trivial fun a w hS=>?_
   refine wp_ret ?_
   rw [show (.sc (.bool (rightTermH c (fun x=>hasD ps D x n) t)))=((.sc (.bool false)):PX.PV) from by unfold rightTermH; rw [h1,h2] <;> rfl]
   exact PX.rt hS hE (.inl rfl)
 ·skip
  refine wp_seq_k fun K37 hK37=>?_
  refine PX.G [(.e 38 (.sc (.bool true)))] [] 5 [.q (PX.Con Try.prog 155 [(.agg [(.sc (.I ps)),(.map 1)]),(.sc (.I n)),(.imm 1 (t.args.map encI))] [(1,.mp (iv D))] 5 5 (.sc (.bool false)) [(1,some (.mp (iv D)))])] [(6,true),(16,true)] [.au,.au,.au,.au,.cl [1] (.sc (.bool false)) [(1,some (.mp (iv D)))] 5,.au,.au,.dd,.dd,.dd,.dd,.dd,.dd,.dd,.dd,.au,.au,.dd,.dd,.dd,.dd,.dd,.dd,.dd,.dd,.au] [3,4,5,6,38] [1,2,3,4] hS hE ⟨(show PX.Con Try.prog 155 [(.agg [(.sc (.I ps)),(.map 1)]),(.sc (.I n)),(.imm 1 (t.args.map encI))] [(1,.mp (iv D))] 5 5 (.sc (.bool false)) [(1,some (.mp (iv D)))] from h1 ▸ (show PX.Con Try.prog 155 [(.agg [(.sc (.I ps)),(.map 1)]),(.sc (.I n)),(.imm 1 (t.args.map encI))] [(1,.mp (iv D))] 5 5 (.sc (.bool (t.args.all (fun x=>hasD ps D x n)))) [(1,some (.mp (iv D)))] from PX.con_as [(1,1)] [(1,1)] (con_f155 ps n D t.args hp (by omega)) (by kernel_rfl) (by kernel_rfl) (by kernel_rfl) (by kernel_rfl) (by kernel_rfl) (by kernel_rfl))),trivial⟩ fun a w hS=>?_
  refine PX.cond_s true hS (by kernel_rfl) (fun h38=>?_) (fun h38=>nomatch h38)
  refine PX.G [(.e 8 (.sc (.bool false)))] [] 5 [] [] [.au] [8] [1] hS hE trivial fun a w hS=>?_
  refine wp_ret ?_
  rw [show (.sc (.bool (rightTermH c (fun x=>hasD ps D x n) t)))=((.sc (.bool false)):PX.PV) from by unfold rightTermH; rw [h1] <;> rfl]
  exact PX.rt hS hE (.inl rfl)
end Go.Proofs.Ytlkcidmmpeebeaa
