/- Proved: alloc.lastUses -/
import Derived.Test.YtlkcidmmpeebeaaPAlA
import Derived.Test.YtlkcidmmpeebeaaPcI
set_option linter.unusedVariables false
set_option linter.unusedSimpArgs false
namespace Go.Proofs.Ytlkcidmmpeebeaa
open Go.RowKit Go.PX
set_option maxRecDepth 100000
theorem termU_len (t:TermD):(termU t).length≤1+t.args.length+t.args0.length+t.args1.length:=by
 unfold termU
 by_cases h1:t.kind=2∨t.kind=4∨t.kind=5 <;> by_cases h2:t.kind=3∨t.kind=6 <;> by_cases h3:0≤t.b0 <;> by_cases h4:0≤t.b1 <;> simp [h1,h2,h3,h4] <;> omega

set_option maxHeartbeats 2000000 in
theorem con_f105 (keep:Bool) (cn:Nat) (b:BlockD) (ho:AOk cn b) (hM:keep=true→M144 cn b):PX.Con Try.prog 105 [(.agg (encB b)),(.sc (.I (cn:Int))),(.sc (.bool keep))] [] 1 100000 (.imm 1 ((lastD keep cn b).map encI)) []:=by
 refine PX.con_intro [(.agg (encB b)),(.sc (.I (cn:Int))),(.sc (.bool keep))] 97 Try.func105 rfl rfl (by kernel_rfl) (by kernel_rfl) ?_
 intro E a hE hS
 generalize E.w0=w at hS ⊢
 have mix:=mixed
 have hpos:=ho.pos; have hops:=ho.ops; have hlen:=ho.len; have hul:=termU_len b.term
 refine PX.G [(.e 3 (.ptr 1 0))] [(1,.box 62 (encB b))] 2 [] [] [.au,.au] [1,2,3] [1] hS hE trivial fun a w hS=>?_
 refine PX.G [(.e 7 (.ptr 3 0))] [(2,.row 3 1 true (List.replicate cn [(.J 0)])),(3,.box 35 [(.own 2 1 cn)])] 4 [.q ((cn:Int)=(cn:Nat)),.q ((cn:Int)=(cn:Nat)),.b (Nat.ble cn 1000000000)] [] [.au,.mk cn,.au,.au] [1,2,3,7] [1,2,3] hS hE ⟨rfl,rfl,by rw [Nat.ble_eq]; have:=ho.pos; omega,trivial⟩ fun a w hS=>?_
 refine PX.G [(.e 8 (.own 4 1 cn))] [(4,.row 3 1 true (List.replicate cn [(.J 0)]))] 5 [.q ((cn:Int)=(cn:Nat)),.q ((cn:Int)=(cn:Nat)),.b (Nat.ble cn 1000000000)] [] [.au,.mk cn,.au] [2,3,7,8] [1,2,3,4] hS hE ⟨rfl,rfl,by rw [Nat.ble_eq]; have:=ho.pos; omega,trivial⟩ fun a w hS=>?_
 refine wp_seq_k fun K1 hK1=>?_
 refine PX.G [(.e 22 (.sc (.I (cn:Int)))),(.e 23 (.J 0))] [] 5 [] [] [.au,.au,.au] [2,3,7,8,22,23] [1,2,3,4] hS hE trivial fun a w hS=>?_
 refine wp_block ?_
 replace hS:=PX.rerow (id:=4) ((List.replicate (0) (-1:Int)++List.replicate (cn-(0)) 0).map encI) hS rfl (by simp [encI])
 refine wp_loop_ghost (fun m2 a' w'=>∃ k:Nat,m2=cn-k∧k≤cn∧True∧PX.Sat E 97 [(.e 2 (.sc (.bool keep))),(.e 3 (.ptr 1 0)),(.e 7 (.ptr 3 0)),(.e 8 (.own 4 1 cn)),(.e 22 (.sc (.I (cn:Int)))),(.e 23 (.sc (.I (k:Int))))] [(1,.box 62 (encB b)),(2,.row 3 1 true (List.replicate cn [(.J 0)])),(3,.box 35 [(.own 2 1 cn)]),(4,.row 3 1 true ((List.replicate (k) (-1:Int)++List.replicate (cn-(k)) 0).map encI))] 5 a' w') (cn-0) ⟨0,rfl,Nat.zero_le _,trivial,(PX.cn [] _ _ 5 hS hE)⟩ ?_
 clear hS; rintro m2 a w ⟨k,hm2,hlek,hIk,hS⟩
 refine PX.G [(.e 24 (.sc (.bool (decide ((k:Int)<(cn:Int))))))] [] 5 [] [] [.au] [2,3,7,8,22,23,24] [1,2,3,4] hS hE trivial fun a w hS=>?_
 refine wp_seq_k fun K3 hK3=>?_
 refine PX.cond_s (decide ((k:Int)<(cn:Int))) hS (by kernel_rfl) (fun h4=>?_) (fun h4=>?_)
 ·skip
  refine wp_skip ?_
  refine hK3 _ _ ?_
  refine wp_seq_k fun K5 hK5=>?_
  refine wp_block ?_
  have hlt:k<cn:=by simpa using h4
  refine PX.G [(.e 9 (.sc (.I (k:Int))))] [] 5 [] [] [.au,.au] [2,3,7,8,9,22,23] [1,2,3,4] hS hE trivial fun a w hS=>?_
  obtain ⟨z,hz⟩:=get_of_lt (show k<((List.replicate (k) (-1:Int)++List.replicate (cn-(k)) 0)).length by simp; omega)
  refine PX.G0 [] [(4,.row 3 1 true (((List.replicate (k) (-1:Int)++List.replicate (cn-(k)) 0).map encI).set k [(.sc (.I (-1)))]))] 5 [.q ((k:Int)=(k:Int)),.q (k<cn),.q (((List.replicate (k) (-1:Int)++List.replicate (cn-(k)) 0).map encI)[k]?=some (encI z))] [] [.au,.au,.ix k [],.lr (encI z)] [2,3,7,8,22,23] [1,2,3,4] hS hE ⟨rfl,hlt,PX.map_get hz,trivial⟩ fun a w hS=>?_
  refine hK5 _ _ ?_
  refine PX.G0 [(.e 23 (.sc (.I ((k+1:Nat):Int))))] [] 5 [.q ((.sc (.I (IntKind.i64.wrap ((k:Int)+1))):PX.PV)=(.sc (.I ((k+1:Nat):Int))))] [] [.nm (.sc (.I ((k+1:Nat):Int))),.au] [2,3,7,8,22,23] [1,2,3,4] hS hE ⟨PX.nm_int (by rw [IntWalk.i64_in _ (by omega)]; omega),trivial⟩ fun a w hS=>?_
  replace hS:=PX.rerow (id:=4) ((List.replicate (k+1) (-1:Int)++List.replicate (cn-(k+1)) 0).map encI) hS rfl (set_minus (by omega))
  exact ⟨cn-(k+1),by omega,k+1,rfl,by omega,trivial,(PX.cn [] _ _ 5 hS hE)⟩
 ·skip
  refine wp_exit ?_
  refine hK1 _ _ ?_
  refine wp_seq_k fun K6 hK6=>?_
  refine PX.G [(.e 31 (.imm 11 (b.ops.map encO))),(.e 32 (.sc (.I (b.ops.length:Int)))),(.e 33 (.J 0))] [] 5 [.q ((.sc (.I (((b.ops.map encO).length:Nat):Int)):PX.PV)=(.sc (.I (b.ops.length:Int))))] [] [.au,.au,.nm (.sc (.I (b.ops.length:Int))),.au] [2,3,7,8,31,32,33] [1,2,3,4] hS hE ⟨PX.nm_len (by simp),trivial⟩ fun a w hS=>?_
  refine wp_block ?_
  have hk0:k=cn:=by have:=le_of_dec h4; omega
  rw [hk0] at hS
  replace hS:=PX.rerow (id:=4) ((defK cn b.ops (0)).map encI) hS rfl (by simp [defK])
  refine wp_loop_ghost (fun m7 a' w'=>∃ q:Nat,m7=b.ops.length-q∧q≤b.ops.length∧True∧PX.Sat E 97 [(.e 2 (.sc (.bool keep))),(.e 3 (.ptr 1 0)),(.e 7 (.ptr 3 0)),(.e 8 (.own 4 1 cn)),(.e 31 (.imm 11 (b.ops.map encO))),(.e 32 (.sc (.I (b.ops.length:Int)))),(.e 33 (.sc (.I (q:Int))))] [(1,.box 62 (encB b)),(2,.row 3 1 true (List.replicate cn [(.J 0)])),(3,.box 35 [(.own 2 1 cn)]),(4,.row 3 1 true ((defK cn b.ops (q)).map encI))] 5 a' w') (b.ops.length-0) ⟨0,rfl,Nat.zero_le _,trivial,(PX.cn [] _ _ 5 hS hE)⟩ ?_
  clear hS; rintro m7 a w ⟨q,hm7,hleq,hIq,hS⟩
  refine PX.G [(.e 34 (.sc (.bool (decide ((q:Int)<(b.ops.length:Int))))))] [] 5 [] [] [.au] [2,3,7,8,31,32,33,34] [1,2,3,4] hS hE trivial fun a w hS=>?_
  refine wp_seq_k fun K8 hK8=>?_
  refine PX.cond_s (decide ((q:Int)<(b.ops.length:Int))) hS (by kernel_rfl) (fun h9=>?_) (fun h9=>?_)
  ·skip
   refine wp_skip ?_
   refine hK8 _ _ ?_
   refine wp_seq_k fun K10 hK10=>?_
   refine wp_block ?_
   have hlty:q<b.ops.length:=by simpa using h9
   obtain ⟨y,hy⟩:=get_of_lt hlty
   refine PX.G [(.e 10 (.sc (.I (q:Int)))),(.e 11 (.ptr 5 0))] [(5,.box 74 (encO y))] 6 [.q ((q:Int)=(q:Int)),.q ((b.ops.map encO)[q]?=some (encO y))] [] [.au,.ix q (encO y),.au,.au,.au,.au] [2,3,7,8,10,11,31,32,33] [1,2,3,4,5] hS hE ⟨rfl,PX.map_get hy,trivial⟩ fun a w hS=>?_
   refine PX.G [(.e 40 (.sc (.bool (R.defines y.kind))))] [] 6 [.q (PX.Con Try.prog 104 [(.J y.kind)] [] 6 6 (.sc (.bool (R.defines y.kind))) [])] [] [.au,.au,.cl [] (.sc (.bool (R.defines y.kind))) [] 6] [2,3,7,8,10,11,31,32,33,40] [1,2,3,4,5] hS hE ⟨PX.con_any (con_f104 y.kind),trivial⟩ fun a w hS=>?_
   refine PX.cond_s (R.defines y.kind) hS (by kernel_rfl) (fun h11=>?_) (fun h11=>?_)
   ·skip
    have hd:=ho.dst y (List.mem_of_getElem? hy) h11
    obtain ⟨z,hz⟩:=get_of_lt (show y.dst.toNat<((defK cn b.ops (q))).length by rw [defK_len]; omega)
    refine PX.G0 [] [(4,.row 3 1 true (((defK cn b.ops (q)).map encI).set y.dst.toNat [(.sc (.I (q:Int)))]))] 6 [.q (y.dst=(y.dst.toNat:Int)),.q (y.dst.toNat<cn),.q (((defK cn b.ops (q)).map encI)[y.dst.toNat]?=some (encI z))] [] [.au,.au,.au,.au,.ix y.dst.toNat [],.lr (encI z)] [2,3,7,8,31,32,33] [1,2,3,4] hS hE ⟨by omega,by omega,PX.map_get hz,trivial⟩ fun a w hS=>?_
    refine hK10 _ _ ?_
    refine PX.G0 [(.e 33 (.sc (.I ((q+1:Nat):Int))))] [] 6 [.q ((.sc (.I (IntKind.i64.wrap ((q:Int)+1))):PX.PV)=(.sc (.I ((q+1:Nat):Int))))] [] [.nm (.sc (.I ((q+1:Nat):Int))),.au] [2,3,7,8,31,32,33] [1,2,3,4] hS hE ⟨PX.nm_int (by rw [IntWalk.i64_in _ (by omega)]; omega),trivial⟩ fun a w hS=>?_
    replace hS:=PX.rerow (id:=4) ((defK cn b.ops (q+1)).map encI) hS rfl (by unfold defK; rw [fold_take _ _ hy]; unfold defI; rw [if_pos h11]; rw [List.map_set]; rfl)
    exact ⟨b.ops.length-(q+1),by omega,q+1,rfl,by omega,trivial,(PX.cn [] _ _ 5 hS hE)⟩
   ·skip
    refine wp_skip ?_
    refine hK10 _ _ ?_
    refine PX.G0 [(.e 33 (.sc (.I ((q+1:Nat):Int))))] [] 6 [.q ((.sc (.I (IntKind.i64.wrap ((q:Int)+1))):PX.PV)=(.sc (.I ((q+1:Nat):Int))))] [] [.nm (.sc (.I ((q+1:Nat):Int))),.au] [2,3,7,8,31,32,33] [1,2,3,4] hS hE ⟨PX.nm_int (by rw [IntWalk.i64_in _ (by omega)]; omega),trivial⟩ fun a w hS=>?_
    replace hS:=PX.rerow (id:=4) ((defK cn b.ops (q+1)).map encI) hS rfl (by unfold defK; rw [fold_take _ _ hy]; unfold defI; rw [if_neg (by rw [h11]; simp)])
    exact ⟨b.ops.length-(q+1),by omega,q+1,rfl,by omega,trivial,(PX.cn [] _ _ 5 hS hE)⟩
  ·skip
   refine wp_exit ?_
   refine hK6 _ _ ?_
   have hq0:q=b.ops.length:=by have:=le_of_dec h9; omega
   rw [hq0] at hS
   refine PX.G [] [(2,.row 3 1 true ((defK cn b.ops (b.ops.length)).map encI))] 5 [.b (lenIs cn (List.replicate cn [(.J 0)])),.b (lenIs cn ((defK cn b.ops (b.ops.length)).map encI)),.q (((List.replicate cn [(.J 0)]):List (List PX.PV)).length=((defK cn b.ops (b.ops.length)).map encI:List (List PX.PV)).length)] [] [.au,.au,.au] [2,3,7,8] [1,2,3,4] hS hE ⟨by simp [PX.lenIs],by simp [PX.lenIs,defK_len],by simp [defK_len],trivial⟩ fun a w hS=>?_
   refine PX.G [(.e 12 (.fn 140 [] [(.ptr 3 0)]))] [] 5 [] [] [.au,.au] [2,3,7,8,12] [1,2,3,4] hS hE trivial fun a w hS=>?_
   refine wp_seq_k fun K12 hK12=>?_
   refine PX.G [(.e 52 (.imm 11 (b.ops.map encO))),(.e 53 (.sc (.I (b.ops.length:Int)))),(.e 54 (.J 0))] [] 5 [.q ((.sc (.I (((b.ops.map encO).length:Nat):Int)):PX.PV)=(.sc (.I (b.ops.length:Int))))] [] [.au,.au,.nm (.sc (.I (b.ops.length:Int))),.au] [2,3,7,8,12,52,53,54] [1,2,3,4] hS hE ⟨PX.nm_len (by simp),trivial⟩ fun a w hS=>?_
   refine wp_block ?_
   replace hS:=PX.rerow (id:=2) ((useK cn b.ops (0)).map encI) hS rfl (rfl)
   refine wp_loop_ghost (fun m13 a' w'=>∃ m:Nat,m13=b.ops.length-m∧m≤b.ops.length∧True∧PX.Sat E 97 [(.e 2 (.sc (.bool keep))),(.e 3 (.ptr 1 0)),(.e 7 (.ptr 3 0)),(.e 8 (.own 4 1 cn)),(.e 12 (.fn 140 [] [(.ptr 3 0)])),(.e 52 (.imm 11 (b.ops.map encO))),(.e 53 (.sc (.I (b.ops.length:Int)))),(.e 54 (.sc (.I (m:Int))))] [(1,.box 62 (encB b)),(2,.row 3 1 true ((useK cn b.ops (m)).map encI)),(3,.box 35 [(.own 2 1 cn)]),(4,.row 3 1 true ((defK cn b.ops (b.ops.length)).map encI))] 5 a' w') (b.ops.length-0) ⟨0,rfl,Nat.zero_le _,trivial,(PX.cn [] _ _ 5 hS hE)⟩ ?_
   clear hS; rintro m13 a w ⟨m,hm13,hlem,hIm,hS⟩
   refine PX.G [(.e 55 (.sc (.bool (decide ((m:Int)<(b.ops.length:Int))))))] [] 5 [] [] [.au] [2,3,7,8,12,52,53,54,55] [1,2,3,4] hS hE trivial fun a w hS=>?_
   refine wp_seq_k fun K14 hK14=>?_
   refine PX.cond_s (decide ((m:Int)<(b.ops.length:Int))) hS (by kernel_rfl) (fun h15=>?_) (fun h15=>?_)
   ·skip
    refine wp_skip ?_
    refine hK14 _ _ ?_
    refine wp_seq_k fun K16 hK16=>?_
    refine wp_block ?_
    have hlty:m<b.ops.length:=by simpa using h15
    obtain ⟨y,hy⟩:=get_of_lt hlty
    refine PX.G [(.e 13 (.sc (.I (m:Int)))),(.e 14 (.ptr 5 0))] [(5,.box 74 (encO y))] 6 [.q ((m:Int)=(m:Int)),.q ((b.ops.map encO)[m]?=some (encO y))] [] [.au,.ix m (encO y),.au,.au,.au,.au] [2,3,7,8,12,13,14,52,53,54] [1,2,3,4,5] hS hE ⟨rfl,PX.map_get hy,trivial⟩ fun a w hS=>?_
    refine PX.seq_cut (E:=E) (N:=97) (T:=[(.e 2 (.sc (.bool keep))),(.e 3 (.ptr 1 0)),(.e 7 (.ptr 3 0)),(.e 8 (.own 4 1 cn)),(.e 12 (.fn 140 [] [(.ptr 3 0)])),(.e 13 (.sc (.I (m:Int)))),(.e 14 (.ptr 5 0)),(.e 52 (.imm 11 (b.ops.map encO))),(.e 53 (.sc (.I (b.ops.length:Int)))),(.e 54 (.sc (.I (m:Int))))]) (H:=[(1,.box 62 (encB b)),(2,.row 3 1 true ((use1 (useK cn b.ops (m)) y m).map encI)),(3,.box 35 [(.own 2 1 cn)]),(4,.row 3 1 true ((defK cn b.ops (b.ops.length)).map encI)),(5,.box 74 (encO y))]) (nx:=6) ?_ ?_
    ·skip
     refine PX.G [(.e 61 (.sc (.bool (R.usesA y.kind))))] [] 6 [.q (PX.Con Try.prog 141 [(.J y.kind)] [] 6 6 (.sc (.bool (R.usesA y.kind))) [])] [] [.au,.au,.cl [] (.sc (.bool (R.usesA y.kind))) [] 6] [2,3,7,8,12,13,14,52,53,54,61] [1,2,3,4,5] hS hE ⟨PX.con_any (con_f141 y.kind),trivial⟩ fun a w hS=>?_
     refine PX.cond_s (R.usesA y.kind) hS (by kernel_rfl) (fun h17=>?_) (fun h17=>?_)
     ·skip
      refine PX.G0 [] [(2,.row 3 1 true ((useD (useK cn b.ops (m)) y.a (m:Int)).map encI))] 6 [.q (PX.Con Try.prog 140 [(.J y.a),(.sc (.I (m:Int))),(.ptr 3 0)] [(3,.box 35 [(.own 2 1 cn)]),(2,.row 3 1 true ((useK cn b.ops (m)).map encI))] 6 6 (.tup []) [(3,some (.box 35 [(.own 2 1 cn)])),(2,some (.row 3 1 true ((useD (useK cn b.ops (m)) y.a (m:Int)).map encI)))])] [] [.au,.au,.au,.au,.cl [3,2] (.tup []) [(3,some (.box 35 [(.own 2 1 cn)])),(2,some (.row 3 1 true ((useD (useK cn b.ops (m)) y.a (m:Int)).map encI)))] 6] [2,3,7,8,12,13,14,52,53,54] [1,2,3,4,5] hS hE ⟨PX.con_as [(3,1),(2,2)] [(1,3),(2,2)] (con_f140 (useK cn b.ops (m)) cn (useK_len _ _ _) y.a (m:Int) (ho.ua y (List.mem_of_getElem? hy) h17)) (by kernel_rfl) (by kernel_rfl) (by kernel_rfl) (by kernel_rfl) (by kernel_rfl) (by kernel_rfl),trivial⟩ fun a w hS=>?_
      replace hS:=PX.rerow (id:=2) ((use1 (useK cn b.ops (m)) y m).map encI) hS rfl (by unfold use1; rw [if_pos h17])
      exact (PX.cn [] _ _ 6 hS hE)
     ·skip
      refine wp_skip ?_
      replace hS:=PX.rerow (id:=2) ((use1 (useK cn b.ops (m)) y m).map encI) hS rfl (by unfold use1; rw [if_neg (by rw [h17]; simp)])
      replace hS:=PX.sl [2,3,7,8,12,13,14,52,53,54] hS
      exact (PX.cn [] _ _ 6 hS hE)
    clear hS; intro a w hS
    refine PX.G [(.e 69 (.sc (.bool (R.usesB y.kind))))] [] 6 [.q (PX.Con Try.prog 142 [(.J y.kind)] [] 6 6 (.sc (.bool (R.usesB y.kind))) [])] [] [.au,.au,.cl [] (.sc (.bool (R.usesB y.kind))) [] 6] [2,3,7,8,12,13,14,52,53,54,69] [1,2,3,4,5] hS hE ⟨PX.con_any (con_f142 y.kind),trivial⟩ fun a w hS=>?_
    refine PX.cond_s (R.usesB y.kind) hS (by kernel_rfl) (fun h18=>?_) (fun h18=>?_)
    ·skip
     refine PX.G0 [] [(2,.row 3 1 true ((useD (use1 (useK cn b.ops (m)) y m) y.b (m:Int)).map encI))] 6 [.q (PX.Con Try.prog 140 [(.J y.b),(.sc (.I (m:Int))),(.ptr 3 0)] [(3,.box 35 [(.own 2 1 cn)]),(2,.row 3 1 true ((use1 (useK cn b.ops (m)) y m).map encI))] 6 6 (.tup []) [(3,some (.box 35 [(.own 2 1 cn)])),(2,some (.row 3 1 true ((useD (use1 (useK cn b.ops (m)) y m) y.b (m:Int)).map encI)))])] [] [.au,.au,.au,.au,.cl [3,2] (.tup []) [(3,some (.box 35 [(.own 2 1 cn)])),(2,some (.row 3 1 true ((useD (use1 (useK cn b.ops (m)) y m) y.b (m:Int)).map encI)))] 6] [2,3,7,8,12,52,53,54] [1,2,3,4] hS hE ⟨PX.con_as [(3,1),(2,2)] [(1,3),(2,2)] (con_f140 (use1 (useK cn b.ops (m)) y m) cn ((use2_len _ _ _).1.trans (useK_len _ _ _)) y.b (m:Int) (ho.ub y (List.mem_of_getElem? hy) h18)) (by kernel_rfl) (by kernel_rfl) (by kernel_rfl) (by kernel_rfl) (by kernel_rfl) (by kernel_rfl),trivial⟩ fun a w hS=>?_
     refine hK16 _ _ ?_
     refine PX.G0 [(.e 54 (.sc (.I ((m+1:Nat):Int))))] [] 6 [.q ((.sc (.I (IntKind.i64.wrap ((m:Int)+1))):PX.PV)=(.sc (.I ((m+1:Nat):Int))))] [] [.nm (.sc (.I ((m+1:Nat):Int))),.au] [2,3,7,8,12,52,53,54] [1,2,3,4] hS hE ⟨PX.nm_int (by rw [IntWalk.i64_in _ (by omega)]; omega),trivial⟩ fun a w hS=>?_
     replace hS:=PX.rerow (id:=2) ((useK cn b.ops (m+1)).map encI) hS rfl (by rw [show useK cn b.ops (m+1)=use2 (useK cn b.ops m) y m from by unfold useK; rw [fold_take _ _ hy]]; unfold use2; rw [if_pos h18])
     exact ⟨b.ops.length-(m+1),by omega,m+1,rfl,by omega,trivial,(PX.cn [] _ _ 5 hS hE)⟩
    ·skip
     refine wp_skip ?_
     refine hK16 _ _ ?_
     refine PX.G0 [(.e 54 (.sc (.I ((m+1:Nat):Int))))] [] 6 [.q ((.sc (.I (IntKind.i64.wrap ((m:Int)+1))):PX.PV)=(.sc (.I ((m+1:Nat):Int))))] [] [.nm (.sc (.I ((m+1:Nat):Int))),.au] [2,3,7,8,12,52,53,54] [1,2,3,4] hS hE ⟨PX.nm_int (by rw [IntWalk.i64_in _ (by omega)]; omega),trivial⟩ fun a w hS=>?_
     replace hS:=PX.rerow (id:=2) ((useK cn b.ops (m+1)).map encI) hS rfl (by rw [show useK cn b.ops (m+1)=use2 (useK cn b.ops m) y m from by unfold useK; rw [fold_take _ _ hy]]; unfold use2; rw [if_neg (by rw [h18]; simp)])
     exact ⟨b.ops.length-(m+1),by omega,m+1,rfl,by omega,trivial,(PX.cn [] _ _ 5 hS hE)⟩
   ·skip
    refine wp_exit ?_
    refine hK12 _ _ ?_
    refine wp_seq_k fun K19 hK19=>?_
    have hm0:m=b.ops.length:=by have:=le_of_dec h15; omega
    rw [hm0] at hS
    refine PX.G [(.e 78 (.imm 1 ((termU b.term).map encI))),(.e 79 (.sc (.I (((termU b.term).length:Nat):Int)))),(.e 80 (.J 0))] [] 5 [.q (PX.Con Try.prog 143 [(.agg [(.J b.term.kind),(.J b.term.a),(.J b.term.n),(.imm 1 (b.term.args.map encI)),(.J b.term.b0),(.imm 1 (b.term.args0.map encI)),(.J b.term.b1),(.imm 1 (b.term.args1.map encI))])] [] 5 5 (.imm 1 ((termU b.term).map encI)) []),.q ((.sc (.I ((((termU b.term).map encI).length:Nat):Int)):PX.PV)=(.sc (.I (((termU b.term).length:Nat):Int))))] [] [.au,.au,.cl [] (.imm 1 ((termU b.term).map encI)) [] 5,.nm (.sc (.I (((termU b.term).length:Nat):Int))),.au] [2,3,7,8,12,78,79,80] [1,2,3,4] hS hE ⟨PX.con_any (con_f143 b.term ho.len.1 ho.len.2.1 ho.len.2.2),PX.nm_len (by simp),trivial⟩ fun a w hS=>?_
    refine wp_block ?_
    replace hS:=PX.rerow (id:=2) ((endK cn b (0)).map encI) hS rfl (rfl)
    refine wp_loop_ghost (fun m20 a' w'=>∃ j:Nat,m20=(termU b.term).length-j∧j≤(termU b.term).length∧True∧PX.Sat E 97 [(.e 2 (.sc (.bool keep))),(.e 3 (.ptr 1 0)),(.e 7 (.ptr 3 0)),(.e 8 (.own 4 1 cn)),(.e 12 (.fn 140 [] [(.ptr 3 0)])),(.e 78 (.imm 1 ((termU b.term).map encI))),(.e 79 (.sc (.I (((termU b.term).length:Nat):Int)))),(.e 80 (.sc (.I (j:Int))))] [(1,.box 62 (encB b)),(2,.row 3 1 true ((endK cn b (j)).map encI)),(3,.box 35 [(.own 2 1 cn)]),(4,.row 3 1 true ((defK cn b.ops (b.ops.length)).map encI))] 5 a' w') ((termU b.term).length-0) ⟨0,rfl,Nat.zero_le _,trivial,(PX.cn [] _ _ 5 hS hE)⟩ ?_
    clear hS; rintro m20 a w ⟨j,hm20,hlej,hIj,hS⟩
    refine PX.G [(.e 81 (.sc (.bool (decide ((j:Int)<(((termU b.term).length:Nat):Int))))))] [] 5 [] [] [.au] [2,3,7,8,12,78,79,80,81] [1,2,3,4] hS hE trivial fun a w hS=>?_
    refine wp_seq_k fun K21 hK21=>?_
    refine PX.cond_s (decide ((j:Int)<(((termU b.term).length:Nat):Int))) hS (by kernel_rfl) (fun h22=>?_) (fun h22=>?_)
    ·skip
     refine wp_skip ?_
     refine hK21 _ _ ?_
     refine wp_seq_k fun K23 hK23=>?_
     refine wp_block ?_
     have hlty:j<(termU b.term).length:=by simpa using h22
     obtain ⟨y,hy⟩:=get_of_lt hlty
     refine PX.G [(.e 16 (.J y))] [] 5 [.q ((j:Int)=(j:Int)),.q (((termU b.term).map encI)[j]?=some (encI y))] [] [.ix j (encI y),.au,.au] [2,3,7,8,12,16,78,79,80] [1,2,3,4] hS hE ⟨rfl,PX.map_get hy,trivial⟩ fun a w hS=>?_
     refine PX.G0 [] [(2,.row 3 1 true ((useD (endK cn b (j)) y (b.ops.length:Int)).map encI))] 5 [.q ((.sc (.I (((b.ops.map encO).length:Nat):Int)):PX.PV)=(.sc (.I (b.ops.length:Int)))),.q (PX.Con Try.prog 140 [(.J y),(.sc (.I (b.ops.length:Int))),(.ptr 3 0)] [(3,.box 35 [(.own 2 1 cn)]),(2,.row 3 1 true ((endK cn b (j)).map encI))] 5 5 (.tup []) [(3,some (.box 35 [(.own 2 1 cn)])),(2,some (.row 3 1 true ((useD (endK cn b (j)) y (b.ops.length:Int)).map encI)))])] [] [.au,.au,.au,.au,.nm (.sc (.I (b.ops.length:Int))),.cl [3,2] (.tup []) [(3,some (.box 35 [(.own 2 1 cn)])),(2,some (.row 3 1 true ((useD (endK cn b (j)) y (b.ops.length:Int)).map encI)))] 5] [2,3,7,8,12,78,79,80] [1,2,3,4] hS hE ⟨PX.nm_len (by simp),PX.con_as [(3,1),(2,2)] [(1,3),(2,2)] (con_f140 (endK cn b (j)) cn (endK_len _ _ _) y (b.ops.length:Int) (ho.term y (List.mem_of_getElem? hy))) (by kernel_rfl) (by kernel_rfl) (by kernel_rfl) (by kernel_rfl) (by kernel_rfl) (by kernel_rfl),trivial⟩ fun a w hS=>?_
     refine hK23 _ _ ?_
     refine PX.G0 [(.e 80 (.sc (.I ((j+1:Nat):Int))))] [] 5 [.q ((.sc (.I (IntKind.i64.wrap ((j:Int)+1))):PX.PV)=(.sc (.I ((j+1:Nat):Int))))] [] [.nm (.sc (.I ((j+1:Nat):Int))),.au] [2,3,7,8,12,78,79,80] [1,2,3,4] hS hE ⟨PX.nm_int (by rw [IntWalk.i64_in _ (by omega)]; omega),trivial⟩ fun a w hS=>?_
     replace hS:=PX.rerow (id:=2) ((endK cn b (j+1)).map encI) hS rfl (by rw [endK_succ hy])
     exact ⟨(termU b.term).length-(j+1),by omega,j+1,rfl,by omega,trivial,(PX.cn [] _ _ 5 hS hE)⟩
    ·skip
     refine wp_exit ?_
     refine hK19 _ _ ?_
     refine wp_seq_k fun K24 hK24=>?_
     have hj0:j=(termU b.term).length:=by have:=le_of_dec h22; omega
     rw [hj0] at hS
     refine PX.G [(.e 91 (.sc (.bool keep)))] [] 5 [] [] [.au] [3,7,8,12,91] [1,2,3,4] hS hE trivial fun a w hS=>?_
     refine PX.cond_s keep hS (by kernel_rfl) (fun h25=>?_) (fun h25=>?_)
     ·skip
      refine PX.G0 [] [(2,.row 3 1 true ((markK (defK cn b.ops b.ops.length) b.ops (endK cn b (termU b.term).length) b.ops.length).2.map encI))] 5 [.q (PX.Con Try.prog 144 [(.agg (encB b)),(.own 4 1 cn),(.fn 140 [] [(.ptr 3 0)])] [(3,.box 35 [(.own 2 1 cn)]),(2,.row 3 1 true ((endK cn b ((termU b.term).length)).map encI)),(4,.row 3 1 true ((defK cn b.ops (b.ops.length)).map encI))] 5 5 (.tup []) [(3,some (.box 35 [(.own 2 1 cn)])),(2,some (.row 3 1 true ((markK (defK cn b.ops b.ops.length) b.ops (endK cn b (termU b.term).length) b.ops.length).2.map encI))),(4,some (.row 3 1 true ((defK cn b.ops (b.ops.length)).map encI)))])] [] [.au,.au,.au,.cl [3,2,4] (.tup []) [(3,some (.box 35 [(.own 2 1 cn)])),(2,some (.row 3 1 true ((markK (defK cn b.ops b.ops.length) b.ops (endK cn b (termU b.term).length) b.ops.length).2.map encI))),(4,some (.row 3 1 true ((defK cn b.ops (b.ops.length)).map encI)))] 5] [7] [2,3] hS hE ⟨PX.con_as [(3,1),(2,2),(4,3)] [(1,3),(2,2),(3,4)] (hM h25 (defK cn b.ops b.ops.length) (endK cn b (termU b.term).length) (defK_len _ _ _) (endK_len _ _ _)) (by kernel_rfl) (by kernel_rfl) (by kernel_rfl) (by kernel_rfl) (by kernel_rfl) (by kernel_rfl),trivial⟩ fun a w hS=>?_
      refine hK24 _ _ ?_
      refine PX.G [(.e 6 (.own 2 1 cn))] [] 5 [] [] [.au,.au] [6] [2] hS hE trivial fun a w hS=>?_
      replace hS:=PX.fz 2 [(.e 6 (.imm 1 ((markK (defK cn b.ops b.ops.length) b.ops (endK cn b (termU b.term).length) b.ops.length).2.map encI)))] [] [6] [] [.b (PX.lenIs cn ((markK (defK cn b.ops b.ops.length) b.ops (endK cn b (termU b.term).length) b.ops.length).2.map encI))] hS ⟨(by simp [PX.lenIs,endK_len,markK_len]),trivial⟩
      refine wp_ret ?_
      rw [show (.imm 1 ((lastD keep cn b).map encI))=((.imm 1 ((markK (defK cn b.ops b.ops.length) b.ops (endK cn b (termU b.term).length) b.ops.length).2.map encI)):PX.PV) from by unfold lastD; rw [if_pos h25]]
      exact PX.rt hS hE (.inl rfl)
     ·skip
      refine wp_skip ?_
      refine hK24 _ _ ?_
      refine PX.G [(.e 6 (.own 2 1 cn))] [] 5 [] [] [.au,.au] [6] [2] hS hE trivial fun a w hS=>?_
      replace hS:=PX.fz 2 [(.e 6 (.imm 1 ((endK cn b ((termU b.term).length)).map encI)))] [] [6] [] [.b (PX.lenIs cn ((endK cn b ((termU b.term).length)).map encI))] hS ⟨(by simp [PX.lenIs,endK_len,markK_len]),trivial⟩
      refine wp_ret ?_
      rw [show (.imm 1 ((lastD keep cn b).map encI))=((.imm 1 ((endK cn b ((termU b.term).length)).map encI)):PX.PV) from by unfold lastD; rw [if_neg (by rw [h25]; simp)]]
      exact PX.rt hS hE (.inl rfl)
end Go.Proofs.Ytlkcidmmpeebeaa

/- Proved: alloc: a free place -/
namespace Go.Proofs.Ytlkcidmmpeebeaa
open Go.RowKit Go.PX
set_option maxRecDepth 100000
abbrev PlaceD:=Int × Int × Int
/-- the first register that is free at k,counted from 0 for the register 1 -/
def firstR (regs:List Int) (k:Int):Option Nat:=(List.range 12).find? fun i=>decide ((regs[i+1]?).getD 0≤k)
def firstS (spills:List Int) (k:Int):Option Nat:=(List.range spills.length).find? fun i=>decide ((spills[i]?).getD 0≤k)
def freeD (regs spills:List Int) (first k:Int):PlaceD × List Int :=
 match firstR regs k with
 | some r=>((2,((r+1:Nat):Int),0),spills)
 | none=>match firstS spills k with
  | some s=>((3,first+(s:Int),0),spills)
  | none=>((3,first+(spills.length:Int),0),spills++[-1])

set_option maxHeartbeats 1000000 in
theorem con_f106 (regs spills:List Int) (first k:Int) (hr:regs.length=13) (hn:spills.length≤1000000) (hf1:0≤first∧first≤1000000):PX.Con Try.prog 106 [(.J k),(.ptr 1 0),(.ptr 2 0),(.ptr 4 0)] [(1,.box 152 (PX.cells13 regs)),(2,.box 35 [(.own 3 1 spills.length)]),(3,.row 3 1 true (spills.map encI)),(4,.box 3 [(.J first)])] 5 100000 (.agg [(.sc (.I ((freeD regs spills first k).1.1))),(.sc (.I ((freeD regs spills first k).1.2.1))),(.sc (.I ((freeD regs spills first k).1.2.2)))]) [(1,some (.box 152 (PX.cells13 regs))),(2,some (.box 35 [(.own 5 1 ((freeD regs spills first k).2.length))])),(3,none),(4,some (.box 3 [(.J first)])),(5,some (.row 3 1 true ((freeD regs spills first k).2.map encI)))]:=by
 refine PX.con_intro [(.J k),(.ptr 1 0),(.ptr 2 0),(.ptr 4 0)] 44 Try.func106 rfl rfl (by kernel_rfl) (by kernel_rfl) ?_
 intro E a hE hS
 generalize E.w0=w at hS ⊢
 have mix:=mixed
 refine PX.G [(.e 5 (.ptr 5 0))] [(5,.box 78 [(.J 0),(.J 0),(.J 0)])] 6 [] [] [.au] [0,1,2,3,5] [1,2,3,4,5] hS hE trivial fun a w hS=>?_
 refine wp_seq_k fun K1 hK1=>?_
 refine PX.G [(.e 6 (.J 1))] [] 6 [] [] [.au] [0,1,2,3,5,6] [1,2,3,4,5] hS hE trivial fun a w hS=>?_
 refine wp_block ?_
 refine wp_loop_ghost (fun m2 a' w'=>∃ j:Nat,m2=12-j∧j≤12∧(∀ i,i<j→decide ((regs[i+1]?).getD 0≤k)=false)∧PX.Sat E 44 [(.e 0 (.J k)),(.e 1 (.ptr 1 0)),(.e 2 (.ptr 2 0)),(.e 3 (.ptr 4 0)),(.e 5 (.ptr 5 0)),(.e 6 (.sc (.I ((j+1:Nat):Int))))] [(1,.box 152 (PX.cells13 regs)),(2,.box 35 [(.own 3 1 spills.length)]),(3,.row 3 1 true (spills.map encI)),(4,.box 3 [(.J first)]),(5,.box 78 [(.J 0),(.J 0),(.J 0)])] 6 a' w') (12-0) ⟨0,rfl,Nat.zero_le _,(fun i hi=>by omega),(PX.cn [] _ _ 6 hS hE)⟩ ?_
 clear hS; rintro m2 a w ⟨j,hm2,hlej,hIj,hS⟩
 refine wp_seq_k fun K3 hK3=>?_
 refine PX.G [(.e 10 (.sc (.bool (decide (((j+1:Nat):Int)≤12)))))] [] 6 [] [] [.au,.au] [0,1,2,3,5,6,10] [1,2,3,4,5] hS hE trivial fun a w hS=>?_
 refine PX.cond_s (decide (((j+1:Nat):Int)≤12)) hS (by kernel_rfl) (fun h4=>?_) (fun h4=>?_)
 ·skip
  refine wp_skip ?_
  refine hK3 _ _ ?_
  refine wp_seq_k fun K5 hK5=>?_
  refine wp_block ?_
  have hj12:j<12:=by have:=of_decide_eq_true h4; omega
  obtain ⟨z,hz⟩:=get_of_lt (show j+1<regs.length by omega)
  refine PX.G [(.e 17 (.sc (.bool (decide (z≤k)))))] [] 6 [.q (((j+1:Nat):Int)=((j+1:Nat):Int)),.q (j+1<13),.q (((PX.cells13 regs).drop (0+(j+1)*1)).take ([PX.c1 z]:List PX.PV).length=[PX.c1 z])] [] [.au,.ix (j+1) [],.lr ([PX.c1 z]),.au,.au] [0,1,2,3,5,6,17] [1,2,3,4,5] hS hE ⟨rfl,by omega,PX.cells13_get hr hz,trivial⟩ fun a w hS=>?_
  refine PX.cond_s (decide (z≤k)) hS (by kernel_rfl) (fun h6=>?_) (fun h6=>?_)
  ·skip
   refine PX.G [] [(5,.box 78 [(.J 2),(.sc (.I ((j+1:Nat):Int))),(.J 0)])] 6 [] [] [.au,.au,.au] [0,1,2,3,5,6] [1,2,3,4,5] hS hE trivial fun a w hS=>?_
   refine wp_ret ?_
   have hf:freeD regs spills first k=((2,((j+1:Nat):Int),0),spills):=by unfold freeD; rw [show firstR regs k=some j from find_range hj12 hIj (by rw [hz]; exact h6)]
   rw [hf] at hE ⊢
   replace hS:=PX.sl [5] hS
   replace hS:=PX.cn [(5,3),(6,5)] [(.e 5 (.ptr 6 0))] [(1,.box 152 (PX.cells13 regs)),(2,.box 35 [(.own 5 1 spills.length)]),(4,.box 3 [(.J first)]),(5,.row 3 1 true (spills.map encI)),(6,.box 78 [(.J 2),(.sc (.I ((j+1:Nat):Int))),(.J 0)])] 7 hS hE
   exact PX.rt hS hE (.inl rfl)
  ·skip
   refine wp_skip ?_
   refine hK5 _ _ ?_
   refine PX.G0 [(.e 6 (.sc (.I ((j+1+1:Nat):Int))))] [] 6 [.q ((.sc (.I (IntKind.i64.wrap (((j+1:Nat):Int)+1))):PX.PV)=(.sc (.I ((j+1+1:Nat):Int))))] [] [.au,.nm (.sc (.I ((j+1+1:Nat):Int))),.au] [0,1,2,3,5,6] [1,2,3,4,5] hS hE ⟨PX.nm_int (by rw [IntWalk.i64_in _ (by omega)]; omega),trivial⟩ fun a w hS=>?_
   exact ⟨12-(j+1),by omega,j+1,rfl,by omega,(fun i hi=>if q:i<j then hIj i q else by obtain rfl:i=j:=(by omega); rw [hz]; exact h6),(PX.cn [] _ _ 6 hS hE)⟩
 ·skip
  refine wp_exit ?_
  refine hK1 _ _ ?_
  refine wp_seq_k fun K7 hK7=>?_
  have hR0:firstR regs k=none:=find_range_none (fun i hi=>hIj i (by have:=of_decide_eq_false h4; omega))
  refine PX.G [(.e 20 (.own 3 1 spills.length)),(.e 21 (.sc (.I (spills.length:Int)))),(.e 22 (.J 0))] [] 6 [] [] [.au,.au,.au] [0,2,3,5,20,21,22] [1,2,3,4,5] hS hE trivial fun a w hS=>?_
  refine wp_block ?_
  refine wp_loop_ghost (fun m8 a' w'=>∃ q:Nat,m8=spills.length-q∧q≤spills.length∧(∀ i,i<q→decide ((spills[i]?).getD 0≤k)=false)∧PX.Sat E 44 [(.e 0 (.J k)),(.e 2 (.ptr 2 0)),(.e 3 (.ptr 4 0)),(.e 5 (.ptr 5 0)),(.e 20 (.own 3 1 spills.length)),(.e 21 (.sc (.I (spills.length:Int)))),(.e 22 (.sc (.I (q:Int))))] [(1,.box 152 (PX.cells13 regs)),(2,.box 35 [(.own 3 1 spills.length)]),(3,.row 3 1 true (spills.map encI)),(4,.box 3 [(.J first)]),(5,.box 78 [(.J 0),(.J 0),(.J 0)])] 6 a' w') (spills.length-0) ⟨0,rfl,Nat.zero_le _,(fun i hi=>by omega),(PX.cn [] _ _ 6 hS hE)⟩ ?_
  clear hS; rintro m8 a w ⟨q,hm8,hleq,hIq,hS⟩
  refine PX.G [(.e 23 (.sc (.bool (decide ((q:Int)<(spills.length:Int))))))] [] 6 [] [] [.au] [0,2,3,5,20,21,22,23] [1,2,3,4,5] hS hE trivial fun a w hS=>?_
  refine wp_seq_k fun K9 hK9=>?_
  refine PX.cond_s (decide ((q:Int)<(spills.length:Int))) hS (by kernel_rfl) (fun h10=>?_) (fun h10=>?_)
  ·skip
   refine wp_skip ?_
   refine hK9 _ _ ?_
   refine wp_seq_k fun K11 hK11=>?_
   refine wp_block ?_
   have hlty:q<spills.length:=by simpa using h10
   obtain ⟨y,hy⟩:=get_of_lt hlty
   refine PX.G [(.e 7 (.sc (.I (q:Int)))),(.e 8 (.J y))] [] 6 [.q ((q:Int)=(q:Int)),.q (q<spills.length),.q ((spills.map encI)[q]?=some (encI y))] [] [.au,.ix q [],.lr (encI y),.au,.au] [0,2,3,5,7,8,20,21,22] [1,2,3,4,5] hS hE ⟨rfl,hlty,PX.map_get hy,trivial⟩ fun a w hS=>?_
   refine PX.G [(.e 29 (.sc (.bool (decide (y≤k)))))] [] 6 [] [] [.au,.au,.au] [0,2,3,5,7,20,21,22,29] [1,2,3,4,5] hS hE trivial fun a w hS=>?_
   refine PX.cond_s (decide (y≤k)) hS (by kernel_rfl) (fun h12=>?_) (fun h12=>?_)
   ·skip
    refine PX.G [] [(5,.box 78 [(.J 3),(.sc (.I (first+(q:Int)))),(.J 0)])] 6 [.q ((.sc (.I (IntKind.i64.wrap (first+(q:Int)))):PX.PV)=(.sc (.I (first+(q:Int)))))] [] [.au,.au,.nm (.sc (.I (first+(q:Int)))),.au,.au] [0,2,3,5,20,21,22] [1,2,3,4,5] hS hE ⟨PX.nm_int (by rw [IntWalk.i64_in _ (by omega)]),trivial⟩ fun a w hS=>?_
    refine wp_ret ?_
    have hf:freeD regs spills first k=((3,first+(q:Int),0),spills):=by unfold freeD; rw [hR0,show firstS spills k=some q from find_range hlty hIq (by rw [hy]; exact h12)]
    rw [hf] at hE ⊢
    replace hS:=PX.sl [5] hS
    replace hS:=PX.cn [(5,3),(6,5)] [(.e 5 (.ptr 6 0))] [(1,.box 152 (PX.cells13 regs)),(2,.box 35 [(.own 5 1 spills.length)]),(4,.box 3 [(.J first)]),(5,.row 3 1 true (spills.map encI)),(6,.box 78 [(.J 3),(.sc (.I (first+(q:Int)))),(.J 0)])] 7 hS hE
    exact PX.rt hS hE (.inl rfl)
   ·skip
    refine wp_skip ?_
    refine hK11 _ _ ?_
    refine PX.G0 [(.e 22 (.sc (.I ((q+1:Nat):Int))))] [] 6 [.q ((.sc (.I (IntKind.i64.wrap ((q:Int)+1))):PX.PV)=(.sc (.I ((q+1:Nat):Int))))] [] [.nm (.sc (.I ((q+1:Nat):Int))),.au] [0,2,3,5,20,21,22] [1,2,3,4,5] hS hE ⟨PX.nm_int (by rw [IntWalk.i64_in _ (by omega)]; omega),trivial⟩ fun a w hS=>?_
    exact ⟨spills.length-(q+1),by omega,q+1,rfl,by omega,(fun i hi=>if q1:i<q then hIq i q1 else by obtain rfl:i=q:=(by omega); rw [hy]; exact h12),(PX.cn [] _ _ 6 hS hE)⟩
  ·skip
   refine wp_exit ?_
   refine hK7 _ _ ?_
   have hS0:firstS spills k=none:=find_range_none (fun i hi=>hIq i (by have:=le_of_dec h10; omega))
   refine PX.G [] [(2,.box 35 [(.own 7 1 ((spills.map encI:List (List PX.PV)).length+1))]),(7,.row 3 1 true (spills.map encI++[[(.sc (.I (-1)))]]))] 8 [.b (lenIs spills.length (spills.map encI)),.b (lenIs 1 ([[(.sc (.I (-1)))]])),.b (Nat.ble ((spills.map encI:List (List PX.PV)).length+1) 1000000000)] [] [.au,.au,.au,.au] [2,3,5] [1,2,4,5,7] hS hE ⟨by simp [PX.lenIs],rfl,by simp; omega,trivial⟩ fun a w hS=>?_
   replace hS:=PX.recell (id:=2) (j:=0) (.own 7 1 (spills.length+1)) hS rfl rfl rfl (fun _ _ _ _ h=>(show (spills.map encI:List (List PX.PV)).length+1=spills.length+1 from by simp) ▸ h)
   refine PX.G [] [(5,.box 78 [(.J 3),(.sc (.I (first+(spills.length:Int)))),(.J 0)])] 8 [.q ((.sc (.I (IntKind.i64.wrap (first+((spills.length+1:Nat):Int)))):PX.PV)=(.sc (.I (first+((spills.length+1:Nat):Int))))),.q ((.sc (.I (IntKind.i64.wrap ((first+((spills.length+1:Nat):Int))-1))):PX.PV)=(.sc (.I (first+(spills.length:Int)))))] [] [.au,.au,.au,.nm (.sc (.I (first+((spills.length+1:Nat):Int)))),.nm (.sc (.I (first+(spills.length:Int)))),.au,.au] [5] [1,2,4,5,7] hS hE ⟨PX.nm_int (by rw [IntWalk.i64_in _ (by omega)]),PX.nm_int (by rw [IntWalk.i64_in _ (by omega)]; omega),trivial⟩ fun a w hS=>?_
   refine wp_ret ?_
   have hf:freeD regs spills first k=((3,first+(spills.length:Int),0),spills++[-1]):=by unfold freeD; rw [hR0,hS0]
   rw [hf] at hE ⊢
   replace hS:=PX.recell (id:=2) (j:=0) (.own 7 1 ((spills++[-1]).length)) hS rfl rfl rfl (fun _ _ _ _ h=>(show spills.length+1=(spills++[-1]).length from by simp) ▸ h)
   replace hS:=PX.rerow (id:=7) ((spills++[-1]).map encI) hS rfl (by simp [encI])
   replace hS:=PX.sl [5] hS
   replace hS:=PX.cn [(5,7),(6,5)] [(.e 5 (.ptr 6 0))] [(1,.box 152 (PX.cells13 regs)),(2,.box 35 [(.own 5 1 ((spills++[-1]).length))]),(4,.box 3 [(.J first)]),(5,.row 3 1 true ((spills++[-1]).map encI)),(6,.box 78 [(.J 3),(.sc (.I (first+(spills.length:Int)))),(.J 0)])] 7 hS hE
   exact PX.rt hS hE (.inl rfl)
end Go.Proofs.Ytlkcidmmpeebeaa

/- Proved: alloc.blkPllaces -/
namespace Go.Proofs.Ytlkcidmmpeebeaa
open Go.RowKit Go.PX
set_option maxRecDepth 100000
def cntStep (n:Int) (o:OpD):Int:=if R.defines o.kind=true then mxI n (o.dst+1) else n
def cntI (b:BlockD):Int:=b.ops.foldl cntStep b.params
theorem cnt_take (x:Int) {ops:List OpD} {k:Nat} {y:OpD} (hy:ops[k]?=some y):(ops.take (k+1)).foldl cntStep x=cntStep ((ops.take k).foldl cntStep x) y:=by
 rw [List.take_add_one,hy]; simp [List.foldl_append]
def parStep (la:List Int) (s:List Int × List PlaceD) (v:Nat):List Int × List PlaceD :=
 if v<8 then (s.1.set (v+1) (PX.g la v),s.2.set v (2,((v+1:Nat):Int),0)) else (s.1,s.2.set v (3,(v:Int)-8,0))
def parK (la:List Int) (cn:Nat):Nat→List Int × List PlaceD
 | 0=>(List.replicate 13 (-1),List.replicate cn (0,0,0))
 | v+1=>parStep la (parK la cn v) v
theorem parK_len (la:List Int) (cn:Nat):∀ v,(parK la cn v).1.length=13∧(parK la cn v).2.length=cn
 | 0=>by simp [parK]
 | v+1=>by
  have h:=parK_len la cn v
  unfold parK parStep
  split <;> simp [h.1,h.2]
def opP (la:List Int) (first:Int) (s:List Int × List Int × List PlaceD) (p:OpD × Nat):List Int × List Int × List PlaceD :=
 if R.defines p.1.kind=true then
  (if (freeD s.1 s.2.1 first p.2).1.1=2 then (s.1.set (freeD s.1 s.2.1 first p.2).1.2.1.toNat (PX.g la p.1.dst.toNat),(freeD s.1 s.2.1 first p.2).2,s.2.2.set p.1.dst.toNat (freeD s.1 s.2.1 first p.2).1)
  else (s.1,(freeD s.1 s.2.1 first p.2).2.set ((freeD s.1 s.2.1 first p.2).1.2.1-first).toNat (PX.g la p.1.dst.toNat),s.2.2.set p.1.dst.toNat (freeD s.1 s.2.1 first p.2).1))
 else s
def opsK (la:List Int) (cn:Nat) (first:Int) (b:BlockD) (q:Nat):List Int × List Int × List PlaceD :=
 (b.ops.take q).zipIdx.foldl (opP la first) ((parK la cn b.params.toNat).1,[],(parK la cn b.params.toNat).2)
theorem opsK_succ {la:List Int} {cn:Nat} {first:Int} {b:BlockD} {q:Nat} {y:OpD} (hy:b.ops[q]?=some y):opsK la cn first b (q+1)=opP la first (opsK la cn first b q) (y,q):=by
 unfold opsK; rw [fold_take _ _ hy]
theorem freeD_spec (regs spills:List Int) (first k:Int):((freeD regs spills first k).1.1=2∧1≤(freeD regs spills first k).1.2.1∧(freeD regs spills first k).1.2.1≤12∧(freeD regs spills first k).2=spills) ∨
  ((freeD regs spills first k).1.1=3∧first≤(freeD regs spills first k).1.2.1∧(freeD regs spills first k).1.2.1<first+(freeD regs spills first k).2.length):=by
 unfold freeD
 split
 ·rename_i r hr
  have:=List.mem_of_find?_eq_some hr
  simp only [List.mem_range] at this
  exact .inl ⟨rfl,by simp only; omega,by simp only; omega,rfl⟩
 ·split
  ·rename_i s hs
   have:=List.mem_of_find?_eq_some hs
   simp only [List.mem_range] at this
   exact .inr ⟨rfl,by simp only; omega,by simp only; omega⟩
  ·exact .inr ⟨rfl,by simp only; omega,by simp; omega⟩
theorem freeD_len (regs spills:List Int) (first k:Int):(freeD regs spills first k).2.length≤spills.length+1:=by
 unfold freeD
 split
 ·simp
 ·split <;> simp
theorem opP_len (la:List Int) (first:Int) (s:List Int × List Int × List PlaceD) (p:OpD × Nat):(opP la first s p).1.length=s.1.length∧(opP la first s p).2.1.length≤s.2.1.length+1∧(opP la first s p).2.2.length=s.2.2.length:=by
 have h:=freeD_len s.1 s.2.1 first p.2
 unfold opP
 split
 ·split <;> simp <;> omega
 ·simp
theorem foldP_len (la:List Int) (first:Int):∀ (xs:List (OpD × Nat)) (s:List Int × List Int × List PlaceD),(xs.foldl (opP la first) s).1.length=s.1.length∧(xs.foldl (opP la first) s).2.1.length≤s.2.1.length+xs.length∧(xs.foldl (opP la first) s).2.2.length=s.2.2.length
 | [],s=>by simp
 | x::xs,s=>by
  have h1:=opP_len la first s x
  have h2:=foldP_len la first xs (opP la first s x)
  rw [List.foldl_cons,List.length_cons]
  exact ⟨h2.1.trans h1.1,by omega,h2.2.2.trans h1.2.2⟩
theorem opsK_len (la:List Int) (cn:Nat) (first:Int) (b:BlockD) (q:Nat):(opsK la cn first b q).1.length=13∧(opsK la cn first b q).2.1.length≤b.ops.length∧(opsK la cn first b q).2.2.length=cn:=by
 have h:=foldP_len la first (b.ops.take q).zipIdx ((parK la cn b.params.toNat).1,[],(parK la cn b.params.toNat).2)
 have h2:=parK_len la cn b.params.toNat
 unfold opsK
 refine ⟨h.1.trans h2.1,Nat.le_trans h.2.1 ?_,h.2.2.trans h2.2⟩
 simp; omega
theorem set_minus13 {k:Nat} (h:k<13):(List.replicate k (-1:Int)++List.replicate (13-k) 0).set k (-1)=List.replicate (k+1) (-1:Int)++List.replicate (13-(k+1)) 0:=by
 obtain ⟨d,hd⟩:∃ d,13-k=d+1:=⟨13-k-1,by omega⟩
 rw [hd,show 13-(k+1)=d by omega,List.replicate_succ,List.replicate_succ',List.set_append_right _ _ (by simp)]
 simp
def blkPl (keep:Bool) (first:Int) (cn:Nat) (b:BlockD):List PlaceD × Nat:=((opsK (lastD keep cn b) cn first b b.ops.length).2.2,(opsK (lastD keep cn b) cn first b b.ops.length).2.1.length)
theorem g_some {l:List Int} {k:Nat} {z:Int} (h:l[k]?=some z):PX.g l k=z:=by unfold PX.g; rw [h]; rfl

set_option maxHeartbeats 2000000 in
theorem con_f72 (keep:Bool) (cn:Nat) (first:Int) (b:BlockD) (ho:AOk cn b) (hpar:b.params≤(cn:Int)) (hcn:cntI b=(cn:Int)) (hfirst:0≤first∧first≤1000000) (hM:keep=true→M144 cn b):PX.Con Try.prog 72 [(.agg (encB b)),(.J first),(.sc (.bool keep))] [] 1 100000 (.tup [.imm 3 ((blkPl keep first cn b).1.map encR),.sc (.I (((blkPl keep first cn b).2:Nat):Int))]) []:=by
 refine PX.con_intro [(.agg (encB b)),(.J first),(.sc (.bool keep))] 125 Try.func72 rfl rfl (by kernel_rfl) (by kernel_rfl) ?_
 intro E a hE hS
 generalize E.w0=w at hS ⊢
 have mix:=mixed
 have hpos:=ho.pos; have hops:=ho.ops
 refine PX.G [(.e 3 (.ptr 1 0)),(.e 4 (.ptr 2 0))] [(1,.box 62 (encB b)),(2,.box 3 [(.J first)])] 3 [] [] [.au,.au,.au,.au] [2,3,4] [1,2] hS hE trivial fun a w hS=>?_
 refine PX.G [(.e 8 (.J b.params))] [] 3 [] [] [.au,.au,.au] [2,3,4,8] [1,2] hS hE trivial fun a w hS=>?_
 refine wp_seq_k fun K1 hK1=>?_
 refine PX.G [(.e 24 (.imm 11 (b.ops.map encO))),(.e 25 (.sc (.I (b.ops.length:Int)))),(.e 26 (.J 0))] [] 3 [.q ((.sc (.I (((b.ops.map encO).length:Nat):Int)):PX.PV)=(.sc (.I (b.ops.length:Int))))] [] [.au,.au,.nm (.sc (.I (b.ops.length:Int))),.au] [2,3,4,8,24,25,26] [1,2] hS hE ⟨PX.nm_len (by simp),trivial⟩ fun a w hS=>?_
 refine wp_block ?_
 refine wp_loop_ghost (fun m2 a' w'=>∃ k:Nat,m2=b.ops.length-k∧k≤b.ops.length∧True∧PX.Sat E 125 [(.e 2 (.sc (.bool keep))),(.e 3 (.ptr 1 0)),(.e 4 (.ptr 2 0)),(.e 8 (.sc (.I ((b.ops.take (k)).foldl cntStep b.params)))),(.e 24 (.imm 11 (b.ops.map encO))),(.e 25 (.sc (.I (b.ops.length:Int)))),(.e 26 (.sc (.I (k:Int))))] [(1,.box 62 (encB b)),(2,.box 3 [(.J first)])] 3 a' w') (b.ops.length-0) ⟨0,rfl,Nat.zero_le _,trivial,(PX.cn [] _ _ 3 hS hE)⟩ ?_
 clear hS; rintro m2 a w ⟨k,hm2,hlek,hIk,hS⟩
 refine PX.G [(.e 27 (.sc (.bool (decide ((k:Int)<(b.ops.length:Int))))))] [] 3 [] [] [.au] [2,3,4,8,24,25,26,27] [1,2] hS hE trivial fun a w hS=>?_
 refine wp_seq_k fun K3 hK3=>?_
 refine PX.cond_s (decide ((k:Int)<(b.ops.length:Int))) hS (by kernel_rfl) (fun h4=>?_) (fun h4=>?_)
 ·skip
  refine wp_skip ?_
  refine hK3 _ _ ?_
  refine wp_seq_k fun K5 hK5=>?_
  refine wp_block ?_
  have hlty:k<b.ops.length:=by simpa using h4
  obtain ⟨y,hy⟩:=get_of_lt hlty
  refine PX.G [(.e 10 (.ptr 3 0))] [(3,.box 74 (encO y))] 4 [.q ((k:Int)=(k:Int)),.q ((b.ops.map encO)[k]?=some (encO y))] [] [.ix k (encO y),.au,.au,.au] [2,3,4,8,10,24,25,26] [1,2,3] hS hE ⟨rfl,PX.map_get hy,trivial⟩ fun a w hS=>?_
  refine PX.G [(.e 32 (.sc (.bool (R.defines y.kind))))] [] 4 [.q (PX.Con Try.prog 104 [(.J y.kind)] [] 4 4 (.sc (.bool (R.defines y.kind))) [])] [] [.au,.au,.cl [] (.sc (.bool (R.defines y.kind))) [] 4] [2,3,4,8,10,24,25,26,32] [1,2,3] hS hE ⟨PX.con_any (con_f104 y.kind),trivial⟩ fun a w hS=>?_
  refine PX.cond_s (R.defines y.kind) hS (by kernel_rfl) (fun h6=>?_) (fun h6=>?_)
  ·skip
   have hd:=ho.dst y (List.mem_of_getElem? hy) h6
   refine PX.G0 [(.e 8 (.sc (.I (if (y.dst+1) > ((b.ops.take (k)).foldl cntStep b.params) then (y.dst+1) else ((b.ops.take (k)).foldl cntStep b.params)))))] [] 4 [.q ((.sc (.I (IntKind.i64.wrap (y.dst+1))):PX.PV)=(.sc (.I (y.dst+1))))] [] [.au,.au,.au,.nm (.sc (.I (y.dst+1))),.au,.au] [2,3,4,8,24,25,26] [1,2] hS hE ⟨PX.nm_int (by rw [IntWalk.i64_in _ (by omega)]),trivial⟩ fun a w hS=>?_
   refine hK5 _ _ ?_
   refine PX.G0 [(.e 26 (.sc (.I ((k+1:Nat):Int))))] [] 4 [.q ((.sc (.I (IntKind.i64.wrap ((k:Int)+1))):PX.PV)=(.sc (.I ((k+1:Nat):Int))))] [] [.nm (.sc (.I ((k+1:Nat):Int))),.au] [2,3,4,8,24,25,26] [1,2] hS hE ⟨PX.nm_int (by rw [IntWalk.i64_in _ (by omega)]; omega),trivial⟩ fun a w hS=>?_
   replace hS:=PX.sl [2,3,4,8,24,25,26] (PX.reslot (t:=8) (.sc (.I ((b.ops.take (k+1)).foldl cntStep b.params))) hS rfl (fun _ _ _ _ h=>(show ((.sc (.I (if (y.dst+1) > ((b.ops.take (k)).foldl cntStep b.params) then (y.dst+1) else ((b.ops.take (k)).foldl cntStep b.params)))):PX.PV)=(.sc (.I ((b.ops.take (k+1)).foldl cntStep b.params))) from by rw [cnt_take _ hy]; unfold cntStep; rw [if_pos h6]; rfl) ▸ h))
   exact ⟨b.ops.length-(k+1),by omega,k+1,rfl,by omega,trivial,(PX.cn [] _ _ 3 hS hE)⟩
  ·skip
   refine wp_skip ?_
   refine hK5 _ _ ?_
   refine PX.G0 [(.e 26 (.sc (.I ((k+1:Nat):Int))))] [] 4 [.q ((.sc (.I (IntKind.i64.wrap ((k:Int)+1))):PX.PV)=(.sc (.I ((k+1:Nat):Int))))] [] [.nm (.sc (.I ((k+1:Nat):Int))),.au] [2,3,4,8,24,25,26] [1,2] hS hE ⟨PX.nm_int (by rw [IntWalk.i64_in _ (by omega)]; omega),trivial⟩ fun a w hS=>?_
   replace hS:=PX.sl [2,3,4,8,24,25,26] (PX.reslot (t:=8) (.sc (.I ((b.ops.take (k+1)).foldl cntStep b.params))) hS rfl (fun _ _ _ _ h=>(show ((.sc (.I ((b.ops.take (k)).foldl cntStep b.params))):PX.PV)=(.sc (.I ((b.ops.take (k+1)).foldl cntStep b.params))) from by rw [cnt_take _ hy]; unfold cntStep; rw [if_neg (by rw [h6]; simp)]) ▸ h))
   exact ⟨b.ops.length-(k+1),by omega,k+1,rfl,by omega,trivial,(PX.cn [] _ _ 3 hS hE)⟩
 ·skip
  refine wp_exit ?_
  refine hK1 _ _ ?_
  have hk0:k=b.ops.length:=by have:=le_of_dec h4; omega
  rw [hk0,List.take_length,show b.ops.foldl cntStep b.params=(cn:Int) from hcn] at hS
  refine PX.G [(.e 11 (.own 3 3 cn))] [(3,.row 78 3 true (List.replicate cn [(.J 0),(.J 0),(.J 0)]))] 4 [.q ((cn:Int)=(cn:Nat)),.q ((cn:Int)=(cn:Nat)),.b (Nat.ble cn 1000000000)] [] [.au,.mk cn,.au] [2,3,4,8,11] [1,2,3] hS hE ⟨rfl,rfl,by rw [Nat.ble_eq]; omega,trivial⟩ fun a w hS=>?_
  refine PX.G [(.e 12 (.imm 1 ((lastD keep cn b).map encI)))] [] 4 [.q (PX.Con Try.prog 105 [(.agg (encB b)),(.sc (.I (cn:Int))),(.sc (.bool keep))] [] 4 4 (.imm 1 ((lastD keep cn b).map encI)) [])] [] [.au,.au,.au,.cl [] (.imm 1 ((lastD keep cn b).map encI)) [] 4,.au] [3,4,11,12] [1,2,3] hS hE ⟨PX.con_any (con_f105 keep cn b ho hM),trivial⟩ fun a w hS=>?_
  refine PX.G [(.e 13 (.ptr 4 0))] [(4,.box 152 [(.J 0),(.J 0),(.J 0),(.J 0),(.J 0),(.J 0),(.J 0),(.J 0),(.J 0),(.J 0),(.J 0),(.J 0),(.J 0)])] 5 [] [] [.au] [3,4,11,12,13] [1,2,3,4] hS hE trivial fun a w hS=>?_
  refine wp_seq_k fun K7 hK7=>?_
  refine PX.G [(.e 45 (.J 0))] [] 5 [] [] [.au] [3,4,11,12,13,45] [1,2,3,4] hS hE trivial fun a w hS=>?_
  refine wp_block ?_
  replace hS:=PX.rebox (id:=4) (PX.cells13 (List.replicate 0 (-1)++List.replicate (13-0) 0)) hS rfl (rfl)
  refine wp_loop_ghost (fun m8 a' w'=>∃ k:Nat,m8=13-k∧k≤13∧True∧PX.Sat E 125 [(.e 3 (.ptr 1 0)),(.e 4 (.ptr 2 0)),(.e 11 (.own 3 3 cn)),(.e 12 (.imm 1 ((lastD keep cn b).map encI))),(.e 13 (.ptr 4 0)),(.e 45 (.sc (.I (k:Int))))] [(1,.box 62 (encB b)),(2,.box 3 [(.J first)]),(3,.row 78 3 true (List.replicate cn [(.J 0),(.J 0),(.J 0)])),(4,.box 152 (PX.cells13 (List.replicate (k) (-1)++List.replicate (13-(k)) 0)))] 5 a' w') (13-0) ⟨0,rfl,Nat.zero_le _,trivial,(PX.cn [] _ _ 5 hS hE)⟩ ?_
  clear hS; rintro m8 a w ⟨k,hm8,hlek,hIk,hS⟩
  refine PX.G [(.e 46 (.sc (.bool (decide ((k:Int)<13)))))] [] 5 [] [] [.au] [3,4,11,12,13,45,46] [1,2,3,4] hS hE trivial fun a w hS=>?_
  refine wp_seq_k fun K9 hK9=>?_
  refine PX.cond_s (decide ((k:Int)<13)) hS (by kernel_rfl) (fun h10=>?_) (fun h10=>?_)
  ·skip
   refine wp_skip ?_
   refine hK9 _ _ ?_
   refine wp_seq_k fun K11 hK11=>?_
   refine wp_block ?_
   have hk13:k<13:=by have:=of_decide_eq_true h10; omega
   refine PX.G [(.e 14 (.sc (.I (k:Int))))] [] 5 [] [] [.au,.au] [3,4,11,12,13,14,45] [1,2,3,4] hS hE trivial fun a w hS=>?_
   refine PX.G0 [] [(4,.box 152 (PX.over (PX.cells13 (List.replicate (k) (-1)++List.replicate (13-(k)) 0)) (0+k*1) [(.sc (.I (-1)))]))] 5 [.q ((k:Int)=(k:Int)),.q (k<13),.q (0+k*1+1≤(PX.cells13 (List.replicate (k) (-1)++List.replicate (13-(k)) 0)).length)] [] [.au,.ix k [],.lr []] [3,4,11,12,13,45] [1,2,3,4] hS hE ⟨rfl,hk13,PX.cells13_len hk13,trivial⟩ fun a w hS=>?_
   refine hK11 _ _ ?_
   refine PX.G0 [(.e 45 (.sc (.I ((k+1:Nat):Int))))] [] 5 [.q ((.sc (.I (IntKind.i64.wrap ((k:Int)+1))):PX.PV)=(.sc (.I ((k+1:Nat):Int))))] [] [.nm (.sc (.I ((k+1:Nat):Int))),.au] [3,4,11,12,13,45] [1,2,3,4] hS hE ⟨PX.nm_int (by rw [IntWalk.i64_in _ (by omega)]; omega),trivial⟩ fun a w hS=>?_
   replace hS:=PX.rebox (id:=4) (PX.cells13 (List.replicate (k+1) (-1)++List.replicate (13-(k+1)) 0)) hS rfl ((PX.cells13_over (by simp; omega) hk13 (-1)).trans (congrArg PX.cells13 (set_minus13 hk13)))
   exact ⟨13-(k+1),by omega,k+1,rfl,by omega,trivial,(PX.cn [] _ _ 5 hS hE)⟩
  ·skip
   refine wp_exit ?_
   refine hK7 _ _ ?_
   refine wp_seq_k fun K12 hK12=>?_
   refine PX.G [(.e 52 (.J b.params)),(.e 53 (.J 0))] [] 5 [] [] [.au,.au,.au] [3,4,11,12,13,52,53] [1,2,3,4] hS hE trivial fun a w hS=>?_
   refine wp_block ?_
   have hk13:k=13:=by have:=of_decide_eq_false h10; omega
   subst hk13
   replace hS:=PX.rerow (id:=3) ((parK (lastD keep cn b) cn (0)).2.map encR) hS rfl (by simp [parK,encR])
   replace hS:=PX.rebox (id:=4) (PX.cells13 (parK (lastD keep cn b) cn (0)).1) hS rfl (rfl)
   refine wp_loop_ghost (fun m13 a' w'=>∃ v:Nat,m13=b.params.toNat-v∧v≤b.params.toNat∧True∧PX.Sat E 125 [(.e 3 (.ptr 1 0)),(.e 4 (.ptr 2 0)),(.e 11 (.own 3 3 cn)),(.e 12 (.imm 1 ((lastD keep cn b).map encI))),(.e 13 (.ptr 4 0)),(.e 52 (.J b.params)),(.e 53 (.sc (.I (v:Int))))] [(1,.box 62 (encB b)),(2,.box 3 [(.J first)]),(3,.row 78 3 true ((parK (lastD keep cn b) cn (v)).2.map encR)),(4,.box 152 (PX.cells13 (parK (lastD keep cn b) cn (v)).1))] 5 a' w') (b.params.toNat-0) ⟨0,rfl,Nat.zero_le _,trivial,(PX.cn [] _ _ 5 hS hE)⟩ ?_
   clear hS; rintro m13 a w ⟨v,hm13,hlev,hIv,hS⟩
   refine PX.G [(.e 54 (.sc (.bool (decide ((v:Int)<b.params)))))] [] 5 [] [] [.au] [3,4,11,12,13,52,53,54] [1,2,3,4] hS hE trivial fun a w hS=>?_
   refine wp_seq_k fun K14 hK14=>?_
   refine PX.cond_s (decide ((v:Int)<b.params)) hS (by kernel_rfl) (fun h15=>?_) (fun h15=>?_)
   ·skip
    refine wp_skip ?_
    refine hK14 _ _ ?_
    refine wp_seq_k fun K16 hK16=>?_
    refine wp_block ?_
    have hv0:(v:Int)<b.params:=of_decide_eq_true h15
    have hvc:v<cn:=by omega
    obtain ⟨hK1,hK2⟩:=parK_len (lastD keep cn b) cn v
    obtain ⟨pl,hpl⟩:=get_of_lt (show v<(parK (lastD keep cn b) cn (v)).2.length by omega)
    obtain ⟨z,hz⟩:=get_of_lt (show v<(lastD keep cn b).length by rw [lastD_len]; exact hvc)
    refine PX.G [(.e 15 (.sc (.I (v:Int))))] [] 5 [] [] [.au,.au] [3,4,11,12,13,15,52,53] [1,2,3,4] hS hE trivial fun a w hS=>?_
    refine PX.G [(.e 57 (.sc (.bool (decide ((v:Int)<8)))))] [] 5 [] [] [.au,.au] [3,4,11,12,13,15,52,53,57] [1,2,3,4] hS hE trivial fun a w hS=>?_
    refine PX.cond_s (decide ((v:Int)<8)) hS (by kernel_rfl) (fun h17=>?_) (fun h17=>?_)
    ·skip
     have hv8:v<8:=by have:=of_decide_eq_true h17; omega
     refine PX.G [] [(3,.row 78 3 true (((parK (lastD keep cn b) cn (v)).2.map encR).set v [(.J 2),(.sc (.I ((v+1:Nat):Int))),(.J 0)]))] 5 [.q ((.sc (.I (IntKind.i64.wrap (1+(v:Int)))):PX.PV)=(.sc (.I ((v+1:Nat):Int)))),.q ((v:Int)=(v:Int)),.q (v<cn),.q (((parK (lastD keep cn b) cn (v)).2.map encR)[v]?=some (encR pl))] [] [.au,.au,.au,.nm (.sc (.I ((v+1:Nat):Int))),.au,.ix v [],.lr (encR pl)] [3,4,11,12,13,15,52,53] [1,2,3,4] hS hE ⟨PX.nm_int (by rw [IntWalk.i64_in _ (by omega)]; omega),rfl,hvc,PX.map_get hpl,trivial⟩ fun a w hS=>?_
     refine PX.G0 [] [(4,.box 152 (PX.over (PX.cells13 (parK (lastD keep cn b) cn (v)).1) (0+(v+1)*1) [(.J z)]))] 5 [.q ((.sc (.I (IntKind.i64.wrap (1+(v:Int)))):PX.PV)=(.sc (.I ((v+1:Nat):Int)))),.q ((v:Int)=(v:Int)),.q (((lastD keep cn b).map encI)[v]?=some (encI z)),.q (((v+1:Nat):Int)=((v+1:Nat):Int)),.q (v+1<13),.q (0+(v+1)*1+1≤(PX.cells13 (parK (lastD keep cn b) cn (v)).1).length)] [] [.au,.nm (.sc (.I ((v+1:Nat):Int))),.au,.au,.ix v (encI z),.au,.ix (v+1) [],.lr []] [3,4,11,12,13,52,53] [1,2,3,4] hS hE ⟨PX.nm_int (by rw [IntWalk.i64_in _ (by omega)]; omega),rfl,PX.map_get hz,rfl,by omega,PX.cells13_len (show v+1<13 by omega),trivial⟩ fun a w hS=>?_
     refine hK16 _ _ ?_
     refine PX.G0 [(.e 53 (.sc (.I ((v+1:Nat):Int))))] [] 5 [.q ((.sc (.I (IntKind.i64.wrap ((v:Int)+1))):PX.PV)=(.sc (.I ((v+1:Nat):Int))))] [] [.nm (.sc (.I ((v+1:Nat):Int))),.au] [3,4,11,12,13,52,53] [1,2,3,4] hS hE ⟨PX.nm_int (by rw [IntWalk.i64_in _ (by omega)]; omega),trivial⟩ fun a w hS=>?_
     replace hS:=PX.rerow (id:=3) ((parK (lastD keep cn b) cn (v+1)).2.map encR) hS rfl (by rw [show (parK (lastD keep cn b) cn (v+1))=parStep (lastD keep cn b) (parK (lastD keep cn b) cn (v)) v from rfl]; unfold parStep; rw [if_pos hv8,List.map_set]; rfl)
     replace hS:=PX.rebox (id:=4) (PX.cells13 (parK (lastD keep cn b) cn (v+1)).1) hS rfl ((PX.cells13_over hK1 (show v+1<13 by omega) z).trans (by rw [show (parK (lastD keep cn b) cn (v+1))=parStep (lastD keep cn b) (parK (lastD keep cn b) cn (v)) v from rfl]; unfold parStep; rw [if_pos hv8,g_some hz]))
     exact ⟨b.params.toNat-(v+1),by omega,v+1,rfl,by omega,trivial,(PX.cn [] _ _ 5 hS hE)⟩
    ·skip
     have hv8:¬ v<8:=by have:=of_decide_eq_false h17; omega
     refine PX.G0 [] [(3,.row 78 3 true (((parK (lastD keep cn b) cn (v)).2.map encR).set v [(.J 3),(.sc (.I ((v:Int)-8))),(.J 0)]))] 5 [.q ((.sc (.I (IntKind.i64.wrap ((v:Int)-8))):PX.PV)=(.sc (.I ((v:Int)-8)))),.q ((v:Int)=(v:Int)),.q (v<cn),.q (((parK (lastD keep cn b) cn (v)).2.map encR)[v]?=some (encR pl))] [] [.au,.au,.au,.nm (.sc (.I ((v:Int)-8))),.au,.ix v [],.lr (encR pl)] [3,4,11,12,13,52,53] [1,2,3,4] hS hE ⟨PX.nm_int (by rw [IntWalk.i64_in _ (by omega)]),rfl,hvc,PX.map_get hpl,trivial⟩ fun a w hS=>?_
     refine hK16 _ _ ?_
     refine PX.G0 [(.e 53 (.sc (.I ((v+1:Nat):Int))))] [] 5 [.q ((.sc (.I (IntKind.i64.wrap ((v:Int)+1))):PX.PV)=(.sc (.I ((v+1:Nat):Int))))] [] [.nm (.sc (.I ((v+1:Nat):Int))),.au] [3,4,11,12,13,52,53] [1,2,3,4] hS hE ⟨PX.nm_int (by rw [IntWalk.i64_in _ (by omega)]; omega),trivial⟩ fun a w hS=>?_
     replace hS:=PX.rerow (id:=3) ((parK (lastD keep cn b) cn (v+1)).2.map encR) hS rfl (by rw [show (parK (lastD keep cn b) cn (v+1))=parStep (lastD keep cn b) (parK (lastD keep cn b) cn (v)) v from rfl]; unfold parStep; rw [if_neg hv8,List.map_set]; rfl)
     replace hS:=PX.rebox (id:=4) (PX.cells13 (parK (lastD keep cn b) cn (v+1)).1) hS rfl (by rw [show (parK (lastD keep cn b) cn (v+1))=parStep (lastD keep cn b) (parK (lastD keep cn b) cn (v)) v from rfl]; unfold parStep; rw [if_neg hv8])
     exact ⟨b.params.toNat-(v+1),by omega,v+1,rfl,by omega,trivial,(PX.cn [] _ _ 5 hS hE)⟩
   ·skip
    refine wp_exit ?_
    refine hK12 _ _ ?_
    refine PX.G [(.e 16 (.ptr 5 0))] [(5,.box 35 [(.sc (.slice none 0 0))])] 6 [] [] [.au] [3,4,11,12,13,16] [1,2,3,4,5] hS hE trivial fun a w hS=>?_
    refine PX.G [(.e 17 (.fn 106 [] [(.ptr 4 0),(.ptr 5 0),(.ptr 2 0)]))] [] 6 [] [] [.au,.au] [3,4,11,12,13,16,17] [1,2,3,4,5] hS hE trivial fun a w hS=>?_
    refine wp_seq_k fun K18 hK18=>?_
    refine PX.G [(.e 80 (.imm 11 (b.ops.map encO))),(.e 81 (.sc (.I (b.ops.length:Int)))),(.e 82 (.J 0))] [] 6 [.q ((.sc (.I (((b.ops.map encO).length:Nat):Int)):PX.PV)=(.sc (.I (b.ops.length:Int))))] [] [.au,.au,.nm (.sc (.I (b.ops.length:Int))),.au] [4,11,12,13,16,17,80,81,82] [2,3,4,5] hS hE ⟨PX.nm_len (by simp),trivial⟩ fun a w hS=>?_
    refine wp_block ?_
    have hv0:v=b.params.toNat:=by have:=of_decide_eq_false h15; omega
    rw [hv0] at hS
    replace hS:=PX.recell (id:=5) (j:=0) (.own 6 1 0) (PX.newrow 3 1 hS (hE.le (by decide))) rfl rfl rfl (PX.nil_own 6 1)
    refine wp_loop_ghost (fun m19 a' w'=>∃ q:Nat,m19=b.ops.length-q∧q≤b.ops.length∧True∧PX.Sat E 125 [(.e 4 (.ptr 2 0)),(.e 11 (.own 3 3 cn)),(.e 12 (.imm 1 ((lastD keep cn b).map encI))),(.e 13 (.ptr 4 0)),(.e 16 (.ptr 5 0)),(.e 17 (.fn 106 [] [(.ptr 4 0),(.ptr 5 0),(.ptr 2 0)])),(.e 80 (.imm 11 (b.ops.map encO))),(.e 81 (.sc (.I (b.ops.length:Int)))),(.e 82 (.sc (.I (q:Int))))] [(2,.box 3 [(.J first)]),(3,.row 78 3 true ((opsK (lastD keep cn b) cn first b (q)).2.2.map encR)),(4,.box 152 (PX.cells13 (opsK (lastD keep cn b) cn first b (q)).1)),(5,.box 35 [(.own 6 1 ((opsK (lastD keep cn b) cn first b (q)).2.1.length))]),(6,.row 3 1 true ((opsK (lastD keep cn b) cn first b (q)).2.1.map encI))] 7 a' w') (b.ops.length-0) ⟨0,rfl,Nat.zero_le _,trivial,(PX.cn [] _ _ 7 hS hE)⟩ ?_
    clear hS; rintro m19 a w ⟨q,hm19,hleq,hIq,hS⟩
    refine PX.G [(.e 83 (.sc (.bool (decide ((q:Int)<(b.ops.length:Int))))))] [] 7 [] [] [.au] [4,11,12,13,16,17,80,81,82,83] [2,3,4,5,6] hS hE trivial fun a w hS=>?_
    refine wp_seq_k fun K20 hK20=>?_
    refine PX.cond_s (decide ((q:Int)<(b.ops.length:Int))) hS (by kernel_rfl) (fun h21=>?_) (fun h21=>?_)
    ·skip
     refine wp_skip ?_
     refine hK20 _ _ ?_
     refine wp_seq_k fun K22 hK22=>?_
     refine wp_block ?_
     have hlty:q<b.ops.length:=by simpa using h21
     obtain ⟨y,hy⟩:=get_of_lt hlty
     obtain ⟨hO1,hO2,hO3⟩:=opsK_len (lastD keep cn b) cn first b q
     refine PX.G [(.e 18 (.sc (.I (q:Int)))),(.e 19 (.ptr 7 0))] [(7,.box 74 (encO y))] 8 [.q ((q:Int)=(q:Int)),.q ((b.ops.map encO)[q]?=some (encO y))] [] [.au,.ix q (encO y),.au,.au,.au,.au] [4,11,12,13,16,17,18,19,80,81,82] [2,3,4,5,6,7] hS hE ⟨rfl,PX.map_get hy,trivial⟩ fun a w hS=>?_
     refine wp_seq_k fun K23 hK23=>?_
     refine PX.G [(.e 90 (.sc (.bool (!(R.defines y.kind)))))] [] 8 [.q (PX.Con Try.prog 104 [(.J y.kind)] [] 8 8 (.sc (.bool (R.defines y.kind))) [])] [] [.au,.au,.cl [] (.sc (.bool (R.defines y.kind))) [] 8,.au] [4,11,12,13,16,17,18,19,80,81,82,90] [2,3,4,5,6,7] hS hE ⟨PX.con_any (con_f104 y.kind),trivial⟩ fun a w hS=>?_
     refine PX.cond_s (!(R.defines y.kind)) hS (by kernel_rfl) (fun h24=>?_) (fun h24=>?_)
     ·skip
      refine wp_exit ?_
      refine hK22 _ _ ?_
      refine PX.G0 [(.e 82 (.sc (.I ((q+1:Nat):Int))))] [] 8 [.q ((.sc (.I (IntKind.i64.wrap ((q:Int)+1))):PX.PV)=(.sc (.I ((q+1:Nat):Int))))] [] [.nm (.sc (.I ((q+1:Nat):Int))),.au] [4,11,12,13,16,17,80,81,82] [2,3,4,5,6] hS hE ⟨PX.nm_int (by rw [IntWalk.i64_in _ (by omega)]; omega),trivial⟩ fun a w hS=>?_
      replace hS:=PX.rebox (id:=4) (PX.cells13 (opsK (lastD keep cn b) cn first b (q+1)).1) hS rfl (by rw [opsK_succ hy]; unfold opP; rw [if_neg (show ¬ R.defines y.kind=true by simpa using h24)])
      replace hS:=PX.rerow (id:=3) ((opsK (lastD keep cn b) cn first b (q+1)).2.2.map encR) hS rfl (by rw [opsK_succ hy]; unfold opP; rw [if_neg (show ¬ R.defines y.kind=true by simpa using h24)])
      replace hS:=PX.rerow (id:=6) ((opsK (lastD keep cn b) cn first b (q+1)).2.1.map encI) hS rfl (by rw [opsK_succ hy]; unfold opP; rw [if_neg (show ¬ R.defines y.kind=true by simpa using h24)])
      replace hS:=PX.recell (id:=5) (j:=0) (.own 6 1 ((opsK (lastD keep cn b) cn first b (q+1)).2.1.length)) hS rfl rfl rfl (fun _ _ _ _ h=>(show (opsK (lastD keep cn b) cn first b (q)).2.1.length=(opsK (lastD keep cn b) cn first b (q+1)).2.1.length from by rw [opsK_succ hy]; unfold opP; rw [if_neg (show ¬ R.defines y.kind=true by simpa using h24)]) ▸ h)
      exact ⟨b.ops.length-(q+1),by omega,q+1,rfl,by omega,trivial,(PX.cn [] _ _ 7 hS hE)⟩
     ·skip
      refine wp_skip ?_
      refine hK23 _ _ ?_
      have hdef:R.defines y.kind=true:=by simpa using h24
      have hd:=ho.dst y (List.mem_of_getElem? hy) hdef
      have hsp:=freeD_spec (opsK (lastD keep cn b) cn first b (q)).1 (opsK (lastD keep cn b) cn first b (q)).2.1 first (q:Int)
      have hfl:=freeD_len (opsK (lastD keep cn b) cn first b (q)).1 (opsK (lastD keep cn b) cn first b (q)).2.1 first (q:Int)
      obtain ⟨pl,hpl⟩:=get_of_lt (show y.dst.toNat<(opsK (lastD keep cn b) cn first b (q)).2.2.length by omega)
      obtain ⟨z,hz⟩:=get_of_lt (show y.dst.toNat<(lastD keep cn b).length by rw [lastD_len]; omega)
      refine PX.G [(.e 20 (.ptr 9 0))] [(5,.box 35 [(.own 8 1 ((freeD (opsK (lastD keep cn b) cn first b (q)).1 (opsK (lastD keep cn b) cn first b (q)).2.1 first (q:Int)).2.length))]),(8,.row 3 1 true ((freeD (opsK (lastD keep cn b) cn first b (q)).1 (opsK (lastD keep cn b) cn first b (q)).2.1 first (q:Int)).2.map encI)),(9,.box 78 [(.sc (.I ((freeD (opsK (lastD keep cn b) cn first b (q)).1 (opsK (lastD keep cn b) cn first b (q)).2.1 first (q:Int)).1.1))),(.sc (.I ((freeD (opsK (lastD keep cn b) cn first b (q)).1 (opsK (lastD keep cn b) cn first b (q)).2.1 first (q:Int)).1.2.1))),(.sc (.I ((freeD (opsK (lastD keep cn b) cn first b (q)).1 (opsK (lastD keep cn b) cn first b (q)).2.1 first (q:Int)).1.2.2)))])] 10 [.q (PX.Con Try.prog 106 [(.sc (.I (q:Int))),(.ptr 4 0),(.ptr 5 0),(.ptr 2 0)] [(4,.box 152 (PX.cells13 (opsK (lastD keep cn b) cn first b (q)).1)),(5,.box 35 [(.own 6 1 ((opsK (lastD keep cn b) cn first b (q)).2.1.length))]),(6,.row 3 1 true ((opsK (lastD keep cn b) cn first b (q)).2.1.map encI)),(2,.box 3 [(.J first)])] 8 9 (.agg [(.sc (.I ((freeD (opsK (lastD keep cn b) cn first b (q)).1 (opsK (lastD keep cn b) cn first b (q)).2.1 first (q:Int)).1.1))),(.sc (.I ((freeD (opsK (lastD keep cn b) cn first b (q)).1 (opsK (lastD keep cn b) cn first b (q)).2.1 first (q:Int)).1.2.1))),(.sc (.I ((freeD (opsK (lastD keep cn b) cn first b (q)).1 (opsK (lastD keep cn b) cn first b (q)).2.1 first (q:Int)).1.2.2)))]) [(4,some (.box 152 (PX.cells13 (opsK (lastD keep cn b) cn first b (q)).1))),(5,some (.box 35 [(.own 8 1 ((freeD (opsK (lastD keep cn b) cn first b (q)).1 (opsK (lastD keep cn b) cn first b (q)).2.1 first (q:Int)).2.length))])),(6,none),(2,some (.box 3 [(.J first)])),(8,some (.row 3 1 true ((freeD (opsK (lastD keep cn b) cn first b (q)).1 (opsK (lastD keep cn b) cn first b (q)).2.1 first (q:Int)).2.map encI)))])] [] [.au,.au,.cl [4,5,6,2] (.agg [(.sc (.I ((freeD (opsK (lastD keep cn b) cn first b (q)).1 (opsK (lastD keep cn b) cn first b (q)).2.1 first (q:Int)).1.1))),(.sc (.I ((freeD (opsK (lastD keep cn b) cn first b (q)).1 (opsK (lastD keep cn b) cn first b (q)).2.1 first (q:Int)).1.2.1))),(.sc (.I ((freeD (opsK (lastD keep cn b) cn first b (q)).1 (opsK (lastD keep cn b) cn first b (q)).2.1 first (q:Int)).1.2.2)))]) [(4,some (.box 152 (PX.cells13 (opsK (lastD keep cn b) cn first b (q)).1))),(5,some (.box 35 [(.own 8 1 ((freeD (opsK (lastD keep cn b) cn first b (q)).1 (opsK (lastD keep cn b) cn first b (q)).2.1 first (q:Int)).2.length))])),(6,none),(2,some (.box 3 [(.J first)])),(8,some (.row 3 1 true ((freeD (opsK (lastD keep cn b) cn first b (q)).1 (opsK (lastD keep cn b) cn first b (q)).2.1 first (q:Int)).2.map encI)))] 9,.au,.au] [4,11,12,13,16,17,19,20,80,81,82] [2,3,4,5,7,8,9] hS hE ⟨PX.con_as [(4,1),(5,2),(6,3),(2,4),(8,5)] [(1,4),(2,5),(3,6),(4,2),(5,8)] (con_f106 (opsK (lastD keep cn b) cn first b (q)).1 (opsK (lastD keep cn b) cn first b (q)).2.1 first (q:Int) hO1 (by omega) hfirst) (by kernel_rfl) (by kernel_rfl) (by kernel_rfl) (by kernel_rfl) (by kernel_rfl) (by kernel_rfl),trivial⟩ fun a w hS=>?_
      refine PX.G [] [(3,.row 78 3 true (((opsK (lastD keep cn b) cn first b (q)).2.2.map encR).set y.dst.toNat [(.sc (.I ((freeD (opsK (lastD keep cn b) cn first b (q)).1 (opsK (lastD keep cn b) cn first b (q)).2.1 first (q:Int)).1.1))),(.sc (.I ((freeD (opsK (lastD keep cn b) cn first b (q)).1 (opsK (lastD keep cn b) cn first b (q)).2.1 first (q:Int)).1.2.1))),(.sc (.I ((freeD (opsK (lastD keep cn b) cn first b (q)).1 (opsK (lastD keep cn b) cn first b (q)).2.1 first (q:Int)).1.2.2)))]))] 10 [.q (y.dst=(y.dst.toNat:Int)),.q (y.dst.toNat<cn),.q (((opsK (lastD keep cn b) cn first b (q)).2.2.map encR)[y.dst.toNat]?=some (encR pl))] [] [.au,.au,.au,.au,.ix y.dst.toNat [],.lr (encR pl)] [4,11,12,13,16,17,19,20,80,81,82] [2,3,4,5,7,8,9] hS hE ⟨by omega,by omega,PX.map_get hpl,trivial⟩ fun a w hS=>?_
      refine PX.G [(.e 101 (.sc (.bool (((freeD (opsK (lastD keep cn b) cn first b (q)).1 (opsK (lastD keep cn b) cn first b (q)).2.1 first (q:Int)).1.1)==2))))] [] 10 [] [] [.au,.au,.au] [4,11,12,13,16,17,19,20,80,81,82,101] [2,3,4,5,7,8,9] hS hE trivial fun a w hS=>?_
      refine PX.cond_s (((freeD (opsK (lastD keep cn b) cn first b (q)).1 (opsK (lastD keep cn b) cn first b (q)).2.1 first (q:Int)).1.1)==2) hS (by kernel_rfl) (fun h25=>?_) (fun h25=>?_)
      ·skip
       have h2:(freeD (opsK (lastD keep cn b) cn first b (q)).1 (opsK (lastD keep cn b) cn first b (q)).2.1 first (q:Int)).1.1=2:=by simpa using h25
       have hr2:1≤(freeD (opsK (lastD keep cn b) cn first b (q)).1 (opsK (lastD keep cn b) cn first b (q)).2.1 first (q:Int)).1.2.1∧(freeD (opsK (lastD keep cn b) cn first b (q)).1 (opsK (lastD keep cn b) cn first b (q)).2.1 first (q:Int)).1.2.1≤12:=by rcases hsp with q1 | q1 <;> omega
       refine PX.D0 [] [(4,.box 152 (PX.over (PX.cells13 (opsK (lastD keep cn b) cn first b (q)).1) (0+(((freeD (opsK (lastD keep cn b) cn first b (q)).1 (opsK (lastD keep cn b) cn first b (q)).2.1 first (q:Int)).1.2.1).toNat)*1) [(.J z)]))] 10 [.q (y.dst=(y.dst.toNat:Int)),.q (((lastD keep cn b).map encI)[y.dst.toNat]?=some (encI z)),.q ((freeD (opsK (lastD keep cn b) cn first b (q)).1 (opsK (lastD keep cn b) cn first b (q)).2.1 first (q:Int)).1.2.1=((((freeD (opsK (lastD keep cn b) cn first b (q)).1 (opsK (lastD keep cn b) cn first b (q)).2.1 first (q:Int)).1.2.1).toNat:Nat):Int)),.q (((freeD (opsK (lastD keep cn b) cn first b (q)).1 (opsK (lastD keep cn b) cn first b (q)).2.1 first (q:Int)).1.2.1).toNat<13),.q (0+(((freeD (opsK (lastD keep cn b) cn first b (q)).1 (opsK (lastD keep cn b) cn first b (q)).2.1 first (q:Int)).1.2.1).toNat)*1+1≤(PX.cells13 (opsK (lastD keep cn b) cn first b (q)).1).length)] [] [.au,.au,.au,.au,.au,.ix y.dst.toNat (encI z),.au,.ix (((freeD (opsK (lastD keep cn b) cn first b (q)).1 (opsK (lastD keep cn b) cn first b (q)).2.1 first (q:Int)).1.2.1).toNat) [],.lr []] [4,11,12,13,16,17,80,81,82] [2,3,4,5,8] hS mixed hE ⟨by omega,PX.map_get hz,by omega,by omega,PX.cells13_len (show ((freeD (opsK (lastD keep cn b) cn first b (q)).1 (opsK (lastD keep cn b) cn first b (q)).2.1 first (q:Int)).1.2.1).toNat<13 by omega),trivial⟩ fun a w hS=>?_
       refine hK22 _ _ ?_
       refine PX.G0 [(.e 82 (.sc (.I ((q+1:Nat):Int))))] [] 10 [.q ((.sc (.I (IntKind.i64.wrap ((q:Int)+1))):PX.PV)=(.sc (.I ((q+1:Nat):Int))))] [] [.nm (.sc (.I ((q+1:Nat):Int))),.au] [4,11,12,13,16,17,80,81,82] [2,3,4,5,8] hS hE ⟨PX.nm_int (by rw [IntWalk.i64_in _ (by omega)]; omega),trivial⟩ fun a w hS=>?_
       replace hS:=PX.rebox (id:=4) (PX.cells13 (opsK (lastD keep cn b) cn first b (q+1)).1) hS rfl ((PX.cells13_over hO1 (show ((freeD (opsK (lastD keep cn b) cn first b (q)).1 (opsK (lastD keep cn b) cn first b (q)).2.1 first (q:Int)).1.2.1).toNat<13 by omega) z).trans (by rw [opsK_succ hy]; unfold opP; rw [if_pos hdef,if_pos h2]; rw [g_some hz]))
       replace hS:=PX.rerow (id:=8) ((opsK (lastD keep cn b) cn first b (q+1)).2.1.map encI) hS rfl (by rw [opsK_succ hy]; unfold opP; rw [if_pos hdef,if_pos h2])
       replace hS:=PX.rerow (id:=3) ((opsK (lastD keep cn b) cn first b (q+1)).2.2.map encR) hS rfl (by rw [opsK_succ hy]; unfold opP; rw [if_pos hdef,if_pos h2]; rw [List.map_set]; rfl)
       replace hS:=PX.recell (id:=5) (j:=0) (.own 8 1 ((opsK (lastD keep cn b) cn first b (q+1)).2.1.length)) hS rfl rfl rfl (fun _ _ _ _ h=>(show (freeD (opsK (lastD keep cn b) cn first b (q)).1 (opsK (lastD keep cn b) cn first b (q)).2.1 first (q:Int)).2.length=(opsK (lastD keep cn b) cn first b (q+1)).2.1.length from by rw [opsK_succ hy]; unfold opP; rw [if_pos hdef,if_pos h2]) ▸ h)
       exact ⟨b.ops.length-(q+1),by omega,q+1,rfl,by omega,trivial,(PX.cn [(6,8)] _ _ 7 hS hE)⟩
      ·skip
       have h2:¬ (freeD (opsK (lastD keep cn b) cn first b (q)).1 (opsK (lastD keep cn b) cn first b (q)).2.1 first (q:Int)).1.1=2:=by simpa using h25
       have hr3:first≤(freeD (opsK (lastD keep cn b) cn first b (q)).1 (opsK (lastD keep cn b) cn first b (q)).2.1 first (q:Int)).1.2.1∧(freeD (opsK (lastD keep cn b) cn first b (q)).1 (opsK (lastD keep cn b) cn first b (q)).2.1 first (q:Int)).1.2.1<first+((freeD (opsK (lastD keep cn b) cn first b (q)).1 (opsK (lastD keep cn b) cn first b (q)).2.1 first (q:Int)).2.length:Int):=by rcases hsp with q1 | q1 <;> omega
       obtain ⟨z3,hz3⟩:=get_of_lt (show ((freeD (opsK (lastD keep cn b) cn first b (q)).1 (opsK (lastD keep cn b) cn first b (q)).2.1 first (q:Int)).1.2.1-first).toNat<((freeD (opsK (lastD keep cn b) cn first b (q)).1 (opsK (lastD keep cn b) cn first b (q)).2.1 first (q:Int)).2).length by omega)
       refine PX.D0 [] [(8,.row 3 1 true (((freeD (opsK (lastD keep cn b) cn first b (q)).1 (opsK (lastD keep cn b) cn first b (q)).2.1 first (q:Int)).2.map encI).set (((freeD (opsK (lastD keep cn b) cn first b (q)).1 (opsK (lastD keep cn b) cn first b (q)).2.1 first (q:Int)).1.2.1-first).toNat) [(.J z)]))] 10 [.q ((.sc (.I (IntKind.i64.wrap (((freeD (opsK (lastD keep cn b) cn first b (q)).1 (opsK (lastD keep cn b) cn first b (q)).2.1 first (q:Int)).1.2.1)-first))):PX.PV)=(.sc (.I ((freeD (opsK (lastD keep cn b) cn first b (q)).1 (opsK (lastD keep cn b) cn first b (q)).2.1 first (q:Int)).1.2.1-first)))),.q (y.dst=(y.dst.toNat:Int)),.q (((lastD keep cn b).map encI)[y.dst.toNat]?=some (encI z)),.q (((freeD (opsK (lastD keep cn b) cn first b (q)).1 (opsK (lastD keep cn b) cn first b (q)).2.1 first (q:Int)).1.2.1-first)=((((freeD (opsK (lastD keep cn b) cn first b (q)).1 (opsK (lastD keep cn b) cn first b (q)).2.1 first (q:Int)).1.2.1-first).toNat:Nat):Int)),.q (((freeD (opsK (lastD keep cn b) cn first b (q)).1 (opsK (lastD keep cn b) cn first b (q)).2.1 first (q:Int)).1.2.1-first).toNat<(freeD (opsK (lastD keep cn b) cn first b (q)).1 (opsK (lastD keep cn b) cn first b (q)).2.1 first (q:Int)).2.length),.q (((freeD (opsK (lastD keep cn b) cn first b (q)).1 (opsK (lastD keep cn b) cn first b (q)).2.1 first (q:Int)).2.map encI)[((freeD (opsK (lastD keep cn b) cn first b (q)).1 (opsK (lastD keep cn b) cn first b (q)).2.1 first (q:Int)).1.2.1-first).toNat]?=some (encI z3))] [] [.au,.au,.au,.au,.nm (.sc (.I ((freeD (opsK (lastD keep cn b) cn first b (q)).1 (opsK (lastD keep cn b) cn first b (q)).2.1 first (q:Int)).1.2.1-first))),.au,.au,.au,.ix y.dst.toNat (encI z),.au,.ix (((freeD (opsK (lastD keep cn b) cn first b (q)).1 (opsK (lastD keep cn b) cn first b (q)).2.1 first (q:Int)).1.2.1-first).toNat) [],.lr (encI z3)] [4,11,12,13,16,17,80,81,82] [2,3,4,5,8] hS mixed hE ⟨PX.nm_int (by rw [IntWalk.i64_in _ (by omega)]),by omega,PX.map_get hz,by omega,by omega,PX.map_get hz3,trivial⟩ fun a w hS=>?_
       refine hK22 _ _ ?_
       refine PX.G0 [(.e 82 (.sc (.I ((q+1:Nat):Int))))] [] 10 [.q ((.sc (.I (IntKind.i64.wrap ((q:Int)+1))):PX.PV)=(.sc (.I ((q+1:Nat):Int))))] [] [.nm (.sc (.I ((q+1:Nat):Int))),.au] [4,11,12,13,16,17,80,81,82] [2,3,4,5,8] hS hE ⟨PX.nm_int (by rw [IntWalk.i64_in _ (by omega)]; omega),trivial⟩ fun a w hS=>?_
       replace hS:=PX.rebox (id:=4) (PX.cells13 (opsK (lastD keep cn b) cn first b (q+1)).1) hS rfl (by rw [opsK_succ hy]; unfold opP; rw [if_pos hdef,if_neg h2])
       replace hS:=PX.rerow (id:=8) ((opsK (lastD keep cn b) cn first b (q+1)).2.1.map encI) hS rfl (by rw [opsK_succ hy]; unfold opP; rw [if_pos hdef,if_neg h2]; rw [g_some hz,List.map_set]; rfl)
       replace hS:=PX.rerow (id:=3) ((opsK (lastD keep cn b) cn first b (q+1)).2.2.map encR) hS rfl (by rw [opsK_succ hy]; unfold opP; rw [if_pos hdef,if_neg h2]; rw [List.map_set]; rfl)
       replace hS:=PX.recell (id:=5) (j:=0) (.own 8 1 ((opsK (lastD keep cn b) cn first b (q+1)).2.1.length)) hS rfl rfl rfl (fun _ _ _ _ h=>(show (freeD (opsK (lastD keep cn b) cn first b (q)).1 (opsK (lastD keep cn b) cn first b (q)).2.1 first (q:Int)).2.length=(opsK (lastD keep cn b) cn first b (q+1)).2.1.length from by rw [opsK_succ hy]; unfold opP; rw [if_pos hdef,if_neg h2]; rw [List.length_set]) ▸ h)
       exact ⟨b.ops.length-(q+1),by omega,q+1,rfl,by omega,trivial,(PX.cn [(6,8)] _ _ 7 hS hE)⟩
    ·skip
     refine wp_exit ?_
     refine hK18 _ _ ?_
     have hq0:q=b.ops.length:=by have:=le_of_dec h21; omega
     rw [hq0] at hS
     refine PX.D [(.e 6 (.own 3 3 cn)),(.e 7 (.sc (.I (((opsK (lastD keep cn b) cn first b (b.ops.length)).2.1.length:Nat):Int))))] [] 7 [] [] [.au,.au,.au,.au,.au] [6,7] [3] hS mixed hE trivial fun a w hS=>?_
     have hO3:=(opsK_len (lastD keep cn b) cn first b b.ops.length).2.2
     replace hS:=PX.sl [6,7] hS
     replace hS:=PX.fz 3 [(.e 6 (.imm 3 ((opsK (lastD keep cn b) cn first b (b.ops.length)).2.2.map encR)))] [] [6,7] [] [.b (PX.lenIs cn ((opsK (lastD keep cn b) cn first b (b.ops.length)).2.2.map encR))] hS ⟨(by simp [PX.lenIs,hO3]),trivial⟩
     refine wp_ret ?_
     rw [show (.tup [.imm 3 ((blkPl keep first cn b).1.map encR),.sc (.I (((blkPl keep first cn b).2:Nat):Int))])=((.tup [(.imm 3 ((opsK (lastD keep cn b) cn first b (b.ops.length)).2.2.map encR)),(.sc (.I (((opsK (lastD keep cn b) cn first b (b.ops.length)).2.1.length:Nat):Int)))]):PX.PV) from rfl]
     exact PX.rt hS hE (.inl rfl)
end Go.Proofs.Ytlkcidmmpeebeaa

/- Proved: alloc.Saved -/
namespace Go.Proofs.Ytlkcidmmpeebeaa
open Go.RowKit Go.PX
set_option maxRecDepth 100000
def addN (acc:List Int) (v:Int):List Int:=if acc.contains v=true then acc else acc++[v]
def savedD (t:TermD):List Int :=
 if t.kind=3 then (if 0≤t.b1 then t.args1.foldl addN (if 0≤t.b0 then t.args0.foldl addN [] else []) else (if 0≤t.b0 then t.args0.foldl addN [] else [])) else []
def bm (l:List Int):List (Int × Value):=l.map fun x=>(x,.bool true)
theorem look_bm:∀ (l:List Int) (y:Int),PX.PV.sc ((PX.findV (bm l) y).getD (.bool false))=.sc (.bool (l.contains y))
 | [],y=>rfl
 | x::l,y=>by
  have ih:=look_bm l y
  unfold PX.findV bm at ih ⊢
  rw [List.map_cons,List.find?_cons,List.contains_cons]
  cases h:(y==x) with
  | true=>simp
  | false=>simpa using ih
theorem upd_bm:∀ (l:List Int) (y:Int),l.contains y=false→PX.updV (bm l) y (.bool true)=bm (l++[y])
 | [],y,_=>rfl
 | x::l,y,h=>by
  rw [List.contains_cons,Bool.or_eq_false_iff] at h
  have ih:=upd_bm l y h.2
  unfold bm at ih ⊢
  rw [List.map_cons,PX.updV,List.cons_append,List.map_cons,← ih]
  simp only [h.1,cond_false]
theorem add_take {l A:List Int} {k:Nat} {y:Int} (hy:l[k]?=some y):(l.take (k+1)).foldl addN A=addN ((l.take k).foldl addN A) y:=by
 rw [List.take_add_one,hy]; simp [List.foldl_append]
theorem addN_new {A:List Int} {v:Int} (h:A.contains v=false):addN A v=A++[v]:=by unfold addN; rw [if_neg (by rw [h]; simp)]
theorem addN_old {A:List Int} {v:Int} (h:A.contains v=true):addN A v=A:=by unfold addN; rw [if_pos h]
theorem addN_len (A:List Int) (v:Int):(addN A v).length≤A.length+1:=by unfold addN; split <;> simp
theorem fold_addN_len:∀ (l A:List Int),(l.foldl addN A).length≤A.length+l.length
 | [],A=>by simp
 | x::l,A=>by
  have h1:=addN_len A x
  have h2:=fold_addN_len l (addN A x)
  rw [List.foldl_cons,List.length_cons]; omega
theorem savedD_len (t:TermD):(savedD t).length≤t.args0.length+t.args1.length:=by
 have h1:=fold_addN_len t.args0 []
 have h2:=fold_addN_len t.args1 (if 0≤t.b0 then t.args0.foldl addN [] else [])
 unfold savedD
 by_cases q1:t.kind=3 <;> by_cases q2:0≤t.b0 <;> by_cases q3:0≤t.b1 <;> simp [q1,q2,q3] at h1 h2 ⊢ <;> omega

set_option maxHeartbeats 1000000 in
theorem con_f29 (b:BlockD) (hl:b.term.args0.length≤110000000∧b.term.args1.length≤110000000):PX.Con Try.prog 29 [(.agg (encB b))] [] 1 100000 (.imm 1 ((savedD b.term).map encI)) []:=by
 refine PX.con_intro [(.agg (encB b))] 43 Try.func29 rfl rfl (by kernel_rfl) (by kernel_rfl) ?_
 intro E a hE hS
 generalize E.w0=w at hS ⊢
 have mix:=mixed
 refine PX.G [(.e 1 (.ptr 1 0))] [(1,.box 62 (encB b))] 2 [] [] [.au,.au] [1] [1] hS hE trivial fun a w hS=>?_
 refine wp_seq_k fun K1 hK1=>?_
 refine PX.G [(.e 12 (.sc (.bool (b.term.kind != 3))))] [] 2 [] [] [.au,.au,.au,.au] [1,12] [1] hS hE trivial fun a w hS=>?_
 refine PX.cond_s (b.term.kind != 3) hS (by kernel_rfl) (fun h2=>?_) (fun h2=>?_)
 ·skip
  refine PX.G [(.e 2 (.sc (.slice none 0 0)))] [] 2 [] [] [.au] [2] [] hS hE trivial fun a w hS=>?_
  replace hS:=PX.sl [2] (PX.reslot (t:=2) (.own 2 1 0) (PX.newrow 3 1 hS (hE.le (by decide))) rfl (PX.nil_own 2 1))
  replace hS:=PX.fz 2 [(.e 2 (.imm 1 ([])))] [] [2] [] [.b (PX.lenIs 0 ([]))] hS ⟨(rfl),trivial⟩
  refine wp_ret ?_
  rw [show (.imm 1 ((savedD b.term).map encI))=((.imm 1 ([])):PX.PV) from congrArg (fun l=>PX.PV.imm 1 (l.map encI)) (show savedD b.term=[] from by unfold savedD; rw [if_neg (show ¬ b.term.kind=3 by simpa using h2)])]
  exact PX.rt hS hE (.inl rfl)
 ·skip
  refine wp_skip ?_
  refine hK1 _ _ ?_
  refine PX.G [(.e 3 (.sc (.slice none 0 0)))] [] 2 [] [] [.au] [1,3] [1] hS hE trivial fun a w hS=>?_
  replace hS:=PX.sl [1,3] (PX.reslot (t:=3) (.own 2 1 0) (PX.newrow 3 1 hS (hE.le (by decide))) rfl (PX.nil_own 2 1))
  refine PX.G [(.e 4 (.map 3))] [(3,.mp ([]))] 4 [] [] [.au,.au] [1,3,4] [1,2,3] hS hE trivial fun a w hS=>?_
  refine wp_seq_k fun K3 hK3=>?_
  refine PX.G [(.e 16 (.agg [(.J b.term.b0),(.imm 1 (b.term.args0.map encI)),(.J b.term.b1),(.imm 1 (b.term.args1.map encI))])),(.e 17 (.J 0))] [] 4 [] [] [.au,.au,.au,.au] [3,4,16,17] [2,3] hS hE trivial fun a w hS=>?_
  refine wp_block ?_
  refine wp_loop_rounds 3 ?_
  rw [rounds_succ]
  refine PX.G [(.e 18 (.sc (.bool true)))] [] 4 [] [] [.au] [3,4,16,17,18] [2,3] hS hE trivial fun a w hS=>?_
  refine wp_seq_k fun K4 hK4=>?_
  refine PX.cond_s true hS (by kernel_rfl) (fun h5=>?_) (fun h5=>nomatch h5)
  refine wp_skip ?_
  refine hK4 _ _ ?_
  refine wp_seq_k fun K6 hK6=>?_
  refine wp_block ?_
  refine PX.G [(.e 6 (.ptr 4 0))] [(4,.box 57 [(.J b.term.b0),(.imm 1 (b.term.args0.map encI))])] 5 [.q (0=((0:Nat):Int))] [] [.ix 0 [],.au,.au] [3,4,6,16,17] [2,3,4] hS hE ⟨rfl,trivial⟩ fun a w hS=>?_
  refine wp_seq_k fun K7 hK7=>?_
  refine PX.G [(.e 22 (.sc (.bool (decide (b.term.b0<0)))))] [] 5 [] [] [.au,.au,.au] [3,4,6,16,17,22] [2,3,4] hS hE trivial fun a w hS=>?_
  refine PX.cond_s (decide (b.term.b0<0)) hS (by kernel_rfl) (fun h8=>?_) (fun h8=>?_)
  ·skip
   refine wp_exit ?_
   refine hK6 _ _ ?_
   refine PX.G0 [(.e 17 (.J 1))] [] 5 [] [] [.au,.au] [3,4,16,17] [2,3] hS hE trivial fun a w hS=>?_
   show Code.rounds _ _ _ 2 _ _
   rw [rounds_succ]
   refine PX.G [(.e 18 (.sc (.bool true)))] [] 5 [] [] [.au] [3,4,16,17,18] [2,3] hS hE trivial fun a w hS=>?_
   refine wp_seq_k fun K9 hK9=>?_
   refine PX.cond_s true hS (by kernel_rfl) (fun h10=>?_) (fun h10=>nomatch h10)
   refine wp_skip ?_
   refine hK9 _ _ ?_
   refine wp_seq_k fun K11 hK11=>?_
   refine wp_block ?_
   refine PX.G [(.e 6 (.ptr 5 0))] [(5,.box 57 [(.J b.term.b1),(.imm 1 (b.term.args1.map encI))])] 6 [.q (1=((1:Nat):Int))] [] [.ix 1 [],.au,.au] [3,4,6,16,17] [2,3,5] hS hE ⟨rfl,trivial⟩ fun a w hS=>?_
   refine wp_seq_k fun K12 hK12=>?_
   refine PX.G [(.e 22 (.sc (.bool (decide (b.term.b1<0)))))] [] 6 [] [] [.au,.au,.au] [3,4,6,16,17,22] [2,3,5] hS hE trivial fun a w hS=>?_
   refine PX.cond_s (decide (b.term.b1<0)) hS (by kernel_rfl) (fun h13=>?_) (fun h13=>?_)
   ·skip
    refine wp_exit ?_
    refine hK11 _ _ ?_
    refine PX.G0 [(.e 17 (.J 2))] [] 6 [] [] [.au,.au] [3,4,16,17] [2,3] hS hE trivial fun a w hS=>?_
    show Code.rounds _ _ _ 1 _ _
    rw [rounds_succ]
    refine PX.G [(.e 18 (.sc (.bool false)))] [] 6 [] [] [.au] [3,4,16,17,18] [2,3] hS hE trivial fun a w hS=>?_
    refine wp_seq_k fun K14 hK14=>?_
    refine PX.cond_s false hS (by kernel_rfl) (fun h15=>nomatch h15) (fun h15=>?_)
    refine wp_exit ?_
    refine hK3 _ _ ?_
    refine PX.G [(.e 2 (.own 2 1 0))] [] 6 [] [] [.au,.au] [2] [2] hS hE trivial fun a w hS=>?_
    replace hS:=PX.fz 2 [(.e 2 (.imm 1 ([])))] [] [2] [] [.b (PX.lenIs 0 ([]))] hS ⟨(by simp [PX.lenIs]),trivial⟩
    refine wp_ret ?_
    rw [show (.imm 1 ((savedD b.term).map encI))=((.imm 1 ([])):PX.PV) from congrArg (fun l=>PX.PV.imm 1 (l.map encI)) (show savedD b.term=([]:List Int) from by unfold savedD; rw [if_pos (show b.term.kind=3 by simpa using h2),if_neg (by have:=of_decide_eq_true h13; omega),if_neg (by have:=of_decide_eq_true h8; omega)])]
    exact PX.rt hS hE (.inl rfl)
   ·skip
    refine wp_skip ?_
    refine hK12 _ _ ?_
    refine PX.G [(.e 24 (.imm 1 (b.term.args1.map encI))),(.e 25 (.sc (.I (b.term.args1.length:Int)))),(.e 26 (.J 0))] [] 6 [.q ((.sc (.I (((b.term.args1.map encI).length:Nat):Int)):PX.PV)=(.sc (.I (b.term.args1.length:Int))))] [] [.au,.au,.nm (.sc (.I (b.term.args1.length:Int))),.au] [3,4,16,17,24,25,26] [2,3] hS hE ⟨PX.nm_len (by simp),trivial⟩ fun a w hS=>?_
    refine wp_block ?_
    have hA1:=fold_addN_len b.term.args1 ([]:List Int); (try simp only [List.length_nil,Nat.zero_add] at hA1)
    replace hS:=PX.sl [3,4,16,17,24,25,26] (PX.reslot (t:=3) (.own 2 1 (((b.term.args1.take (0)).foldl addN ([]:List Int)).length)) hS rfl (fun _ _ _ _ h=>(show (.own 2 1 0:PX.PV)=.own 2 1 ((b.term.args1.take (0)).foldl addN ([]:List Int)).length from by simp) ▸ h))
    replace hS:=PX.rerow (id:=2) (((b.term.args1.take (0)).foldl addN ([]:List Int)).map encI) hS rfl (by simp)
    replace hS:PX.Sat _ _ _ _ _ _ _:=PX.remp (id:=3) (bm ((b.term.args1.take (0)).foldl addN ([]:List Int))) hS rfl (by simp [bm])
    refine wp_loop_ghost (fun m16 a' w'=>∃ k1:Nat,m16=b.term.args1.length-k1∧k1≤b.term.args1.length∧True∧PX.Sat E 43 [(.e 3 (.own 2 1 (((b.term.args1.take (k1)).foldl addN ([]:List Int)).length))),(.e 4 (.map 3)),(.e 16 (.agg [(.J b.term.b0),(.imm 1 (b.term.args0.map encI)),(.J b.term.b1),(.imm 1 (b.term.args1.map encI))])),(.e 17 (.J 1)),(.e 24 (.imm 1 (b.term.args1.map encI))),(.e 25 (.sc (.I (b.term.args1.length:Int)))),(.e 26 (.sc (.I (k1:Int))))] [(2,.row 3 1 true (((b.term.args1.take (k1)).foldl addN ([]:List Int)).map encI)),(3,.mp (bm ((b.term.args1.take (k1)).foldl addN ([]:List Int))))] 4 a' w') (b.term.args1.length-0) ⟨0,rfl,Nat.zero_le _,trivial,(PX.cn [] _ _ 4 hS hE)⟩ ?_
    clear hS; rintro m16 a w ⟨k1,hm16,hlek1,hIk1,hS⟩
    refine PX.G [(.e 27 (.sc (.bool (decide ((k1:Int)<(b.term.args1.length:Int))))))] [] 4 [] [] [.au] [3,4,16,17,24,25,26,27] [2,3] hS hE trivial fun a w hS=>?_
    refine wp_seq_k fun K17 hK17=>?_
    refine PX.cond_s (decide ((k1:Int)<(b.term.args1.length:Int))) hS (by kernel_rfl) (fun h18=>?_) (fun h18=>?_)
    ·skip
     refine wp_skip ?_
     refine hK17 _ _ ?_
     refine wp_seq_k fun K19 hK19=>?_
     refine wp_block ?_
     have hlty:k1<b.term.args1.length:=by simpa using h18
     obtain ⟨y,hy⟩:=get_of_lt hlty
     refine PX.G [(.e 8 (.J y))] [] 4 [.q ((k1:Int)=(k1:Int)),.q ((b.term.args1.map encI)[k1]?=some (encI y))] [] [.ix k1 (encI y),.au,.au] [3,4,8,16,17,24,25,26] [2,3] hS hE ⟨rfl,PX.map_get hy,trivial⟩ fun a w hS=>?_
     refine PX.G [(.e 33 (.sc (.bool (!((((b.term.args1.take (k1)).foldl addN ([]:List Int))).contains y)))))] [] 4 [.q ((.sc ((PX.findV (bm ((b.term.args1.take (k1)).foldl addN ([]:List Int))) y).getD (.bool false)):PX.PV)=(.sc (.bool ((((b.term.args1.take (k1)).foldl addN ([]:List Int))).contains y))))] [] [.au,.au,.nm (.sc (.bool ((((b.term.args1.take (k1)).foldl addN ([]:List Int))).contains y))),.au] [3,4,8,16,17,24,25,26,33] [2,3] hS hE ⟨look_bm _ _,trivial⟩ fun a w hS=>?_
     refine PX.cond_s (!((((b.term.args1.take (k1)).foldl addN ([]:List Int))).contains y)) hS (by kernel_rfl) (fun h20=>?_) (fun h20=>?_)
     ·skip
      refine PX.G [] [(3,.mp (PX.updV (bm ((b.term.args1.take (k1)).foldl addN ([]:List Int))) y (.bool true)))] 4 [] [] [.au,.au,.au] [3,4,8,16,17,24,25,26] [2,3] hS hE trivial fun a w hS=>?_
      refine PX.G0 [(.e 3 (.own 5 1 ((((b.term.args1.take (k1)).foldl addN ([]:List Int)).map encI:List (List PX.PV)).length+1)))] [(5,.row 3 1 true (((b.term.args1.take (k1)).foldl addN ([]:List Int)).map encI++[[(.J y)]]))] 6 [.b (lenIs (((b.term.args1.take (k1)).foldl addN ([]:List Int)).length) (((b.term.args1.take (k1)).foldl addN ([]:List Int)).map encI)),.b (lenIs 1 ([[(.J y)]])),.b (Nat.ble ((((b.term.args1.take (k1)).foldl addN ([]:List Int)).map encI:List (List PX.PV)).length+1) 1000000000)] [] [.au,.au,.au,.au,.au] [3,4,16,17,24,25,26] [3,5] hS hE ⟨by simp [PX.lenIs],rfl,by rw [Nat.ble_eq]; have hq:=fold_addN_len (b.term.args1.take k1) ([]:List Int); simp only [List.length_take,List.length_map,List.length_cons,List.length_nil] at hq ⊢; omega,trivial⟩ fun a w hS=>?_
      refine hK19 _ _ ?_
      refine PX.G0 [(.e 26 (.sc (.I ((k1+1:Nat):Int))))] [] 6 [.q ((.sc (.I (IntKind.i64.wrap ((k1:Int)+1))):PX.PV)=(.sc (.I ((k1+1:Nat):Int))))] [] [.nm (.sc (.I ((k1+1:Nat):Int))),.au] [3,4,16,17,24,25,26] [3,5] hS hE ⟨PX.nm_int (by rw [IntWalk.i64_in _ (by omega)]; omega),trivial⟩ fun a w hS=>?_
      have hc:(((b.term.args1.take (k1)).foldl addN ([]:List Int)).contains y)=false:=by simpa using h20
      replace hS:=PX.sl [3,4,16,17,24,25,26] (PX.reslot (t:=3) (.own 5 1 (((b.term.args1.take (k1+1)).foldl addN ([]:List Int)).length)) hS rfl (fun _ _ _ _ h=>(show (.own 5 1 ((((b.term.args1.take (k1)).foldl addN ([]:List Int)).map encI:List (List PX.PV)).length+1):PX.PV)=.own 5 1 ((b.term.args1.take (k1+1)).foldl addN ([]:List Int)).length from by rw [add_take hy,addN_new hc]; simp) ▸ h))
      replace hS:=PX.rerow (id:=5) (((b.term.args1.take (k1+1)).foldl addN ([]:List Int)).map encI) hS rfl (by rw [add_take hy,addN_new hc]; simp [encI])
      replace hS:=PX.remp (id:=3) (bm ((b.term.args1.take (k1+1)).foldl addN ([]:List Int))) hS rfl (by rw [add_take hy,addN_new hc]; exact upd_bm _ _ hc)
      exact ⟨b.term.args1.length-(k1+1),by omega,k1+1,rfl,by omega,trivial,(PX.cn [(2,5)] _ _ 4 hS hE)⟩
     ·skip
      refine wp_skip ?_
      refine hK19 _ _ ?_
      refine PX.G0 [(.e 26 (.sc (.I ((k1+1:Nat):Int))))] [] 4 [.q ((.sc (.I (IntKind.i64.wrap ((k1:Int)+1))):PX.PV)=(.sc (.I ((k1+1:Nat):Int))))] [] [.nm (.sc (.I ((k1+1:Nat):Int))),.au] [3,4,16,17,24,25,26] [2,3] hS hE ⟨PX.nm_int (by rw [IntWalk.i64_in _ (by omega)]; omega),trivial⟩ fun a w hS=>?_
      have hc:(((b.term.args1.take (k1)).foldl addN ([]:List Int)).contains y)=true:=by simpa using h20
      replace hS:=PX.sl [3,4,16,17,24,25,26] (PX.reslot (t:=3) (.own 2 1 (((b.term.args1.take (k1+1)).foldl addN ([]:List Int)).length)) hS rfl (fun _ _ _ _ h=>(show (.own 2 1 (((b.term.args1.take (k1)).foldl addN ([]:List Int)).length):PX.PV)=.own 2 1 ((b.term.args1.take (k1+1)).foldl addN ([]:List Int)).length from by rw [add_take hy,addN_old hc]) ▸ h))
      replace hS:=PX.rerow (id:=2) (((b.term.args1.take (k1+1)).foldl addN ([]:List Int)).map encI) hS rfl (by rw [add_take hy,addN_old hc])
      replace hS:=PX.remp (id:=3) (bm ((b.term.args1.take (k1+1)).foldl addN ([]:List Int))) hS rfl (by rw [add_take hy,addN_old hc])
      exact ⟨b.term.args1.length-(k1+1),by omega,k1+1,rfl,by omega,trivial,(PX.cn [] _ _ 4 hS hE)⟩
    ·skip
     refine wp_exit ?_
     refine hK11 _ _ ?_
     have hqk1:k1=b.term.args1.length:=by have:=le_of_dec h18; omega
     rw [hqk1,List.take_length] at hS
     refine PX.G0 [(.e 17 (.J 2))] [] 4 [] [] [.au,.au] [3,4,16,17] [2,3] hS hE trivial fun a w hS=>?_
     show Code.rounds _ _ _ 1 _ _
     rw [rounds_succ]
     refine PX.G [(.e 18 (.sc (.bool false)))] [] 4 [] [] [.au] [3,4,16,17,18] [2,3] hS hE trivial fun a w hS=>?_
     refine wp_seq_k fun K21 hK21=>?_
     refine PX.cond_s false hS (by kernel_rfl) (fun h22=>nomatch h22) (fun h22=>?_)
     refine wp_exit ?_
     refine hK3 _ _ ?_
     refine PX.G [(.e 2 (.own 2 1 ((b.term.args1.foldl addN ([]:List Int)).length)))] [] 4 [] [] [.au,.au] [2] [2] hS hE trivial fun a w hS=>?_
     replace hS:=PX.fz 2 [(.e 2 (.imm 1 ((b.term.args1.foldl addN ([]:List Int)).map encI)))] [] [2] [] [.b (PX.lenIs ((b.term.args1.foldl addN ([]:List Int)).length) ((b.term.args1.foldl addN ([]:List Int)).map encI))] hS ⟨(by simp [PX.lenIs]),trivial⟩
     refine wp_ret ?_
     rw [show (.imm 1 ((savedD b.term).map encI))=((.imm 1 ((b.term.args1.foldl addN ([]:List Int)).map encI)):PX.PV) from congrArg (fun l=>PX.PV.imm 1 (l.map encI)) (show savedD b.term=(b.term.args1.foldl addN ([]:List Int)) from by unfold savedD; rw [if_pos (show b.term.kind=3 by simpa using h2),if_pos (by have:=of_decide_eq_false h13; omega),if_neg (by have:=of_decide_eq_true h8; omega)])]
     exact PX.rt hS hE (.inl rfl)
  ·skip
   refine wp_skip ?_
   refine hK7 _ _ ?_
   refine PX.G [(.e 24 (.imm 1 (b.term.args0.map encI))),(.e 25 (.sc (.I (b.term.args0.length:Int)))),(.e 26 (.J 0))] [] 5 [.q ((.sc (.I (((b.term.args0.map encI).length:Nat):Int)):PX.PV)=(.sc (.I (b.term.args0.length:Int))))] [] [.au,.au,.nm (.sc (.I (b.term.args0.length:Int))),.au] [3,4,16,17,24,25,26] [2,3] hS hE ⟨PX.nm_len (by simp),trivial⟩ fun a w hS=>?_
   refine wp_block ?_
   have hA0:=fold_addN_len b.term.args0 ([]:List Int); (try simp only [List.length_nil,Nat.zero_add] at hA0)
   replace hS:=PX.sl [3,4,16,17,24,25,26] (PX.reslot (t:=3) (.own 2 1 (((b.term.args0.take (0)).foldl addN ([]:List Int)).length)) hS rfl (fun _ _ _ _ h=>(show (.own 2 1 0:PX.PV)=.own 2 1 ((b.term.args0.take (0)).foldl addN ([]:List Int)).length from by simp) ▸ h))
   replace hS:=PX.rerow (id:=2) (((b.term.args0.take (0)).foldl addN ([]:List Int)).map encI) hS rfl (by simp)
   replace hS:PX.Sat _ _ _ _ _ _ _:=PX.remp (id:=3) (bm ((b.term.args0.take (0)).foldl addN ([]:List Int))) hS rfl (by simp [bm])
   refine wp_loop_ghost (fun m23 a' w'=>∃ k0:Nat,m23=b.term.args0.length-k0∧k0≤b.term.args0.length∧True∧PX.Sat E 43 [(.e 3 (.own 2 1 (((b.term.args0.take (k0)).foldl addN ([]:List Int)).length))),(.e 4 (.map 3)),(.e 16 (.agg [(.J b.term.b0),(.imm 1 (b.term.args0.map encI)),(.J b.term.b1),(.imm 1 (b.term.args1.map encI))])),(.e 17 (.J 0)),(.e 24 (.imm 1 (b.term.args0.map encI))),(.e 25 (.sc (.I (b.term.args0.length:Int)))),(.e 26 (.sc (.I (k0:Int))))] [(2,.row 3 1 true (((b.term.args0.take (k0)).foldl addN ([]:List Int)).map encI)),(3,.mp (bm ((b.term.args0.take (k0)).foldl addN ([]:List Int))))] 4 a' w') (b.term.args0.length-0) ⟨0,rfl,Nat.zero_le _,trivial,(PX.cn [] _ _ 4 hS hE)⟩ ?_
   clear hS; rintro m23 a w ⟨k0,hm23,hlek0,hIk0,hS⟩
   refine PX.G [(.e 27 (.sc (.bool (decide ((k0:Int)<(b.term.args0.length:Int))))))] [] 4 [] [] [.au] [3,4,16,17,24,25,26,27] [2,3] hS hE trivial fun a w hS=>?_
   refine wp_seq_k fun K24 hK24=>?_
   refine PX.cond_s (decide ((k0:Int)<(b.term.args0.length:Int))) hS (by kernel_rfl) (fun h25=>?_) (fun h25=>?_)
   ·skip
    refine wp_skip ?_
    refine hK24 _ _ ?_
    refine wp_seq_k fun K26 hK26=>?_
    refine wp_block ?_
    have hlty:k0<b.term.args0.length:=by simpa using h25
    obtain ⟨y,hy⟩:=get_of_lt hlty
    refine PX.G [(.e 8 (.J y))] [] 4 [.q ((k0:Int)=(k0:Int)),.q ((b.term.args0.map encI)[k0]?=some (encI y))] [] [.ix k0 (encI y),.au,.au] [3,4,8,16,17,24,25,26] [2,3] hS hE ⟨rfl,PX.map_get hy,trivial⟩ fun a w hS=>?_
    refine PX.G [(.e 33 (.sc (.bool (!((((b.term.args0.take (k0)).foldl addN ([]:List Int))).contains y)))))] [] 4 [.q ((.sc ((PX.findV (bm ((b.term.args0.take (k0)).foldl addN ([]:List Int))) y).getD (.bool false)):PX.PV)=(.sc (.bool ((((b.term.args0.take (k0)).foldl addN ([]:List Int))).contains y))))] [] [.au,.au,.nm (.sc (.bool ((((b.term.args0.take (k0)).foldl addN ([]:List Int))).contains y))),.au] [3,4,8,16,17,24,25,26,33] [2,3] hS hE ⟨look_bm _ _,trivial⟩ fun a w hS=>?_
    refine PX.cond_s (!((((b.term.args0.take (k0)).foldl addN ([]:List Int))).contains y)) hS (by kernel_rfl) (fun h27=>?_) (fun h27=>?_)
    ·skip
     refine PX.G [] [(3,.mp (PX.updV (bm ((b.term.args0.take (k0)).foldl addN ([]:List Int))) y (.bool true)))] 4 [] [] [.au,.au,.au] [3,4,8,16,17,24,25,26] [2,3] hS hE trivial fun a w hS=>?_
     refine PX.G0 [(.e 3 (.own 5 1 ((((b.term.args0.take (k0)).foldl addN ([]:List Int)).map encI:List (List PX.PV)).length+1)))] [(5,.row 3 1 true (((b.term.args0.take (k0)).foldl addN ([]:List Int)).map encI++[[(.J y)]]))] 6 [.b (lenIs (((b.term.args0.take (k0)).foldl addN ([]:List Int)).length) (((b.term.args0.take (k0)).foldl addN ([]:List Int)).map encI)),.b (lenIs 1 ([[(.J y)]])),.b (Nat.ble ((((b.term.args0.take (k0)).foldl addN ([]:List Int)).map encI:List (List PX.PV)).length+1) 1000000000)] [] [.au,.au,.au,.au,.au] [3,4,16,17,24,25,26] [3,5] hS hE ⟨by simp [PX.lenIs],rfl,by rw [Nat.ble_eq]; have hq:=fold_addN_len (b.term.args0.take k0) ([]:List Int); simp only [List.length_take,List.length_map,List.length_cons,List.length_nil] at hq ⊢; omega,trivial⟩ fun a w hS=>?_
     refine hK26 _ _ ?_
     refine PX.G0 [(.e 26 (.sc (.I ((k0+1:Nat):Int))))] [] 6 [.q ((.sc (.I (IntKind.i64.wrap ((k0:Int)+1))):PX.PV)=(.sc (.I ((k0+1:Nat):Int))))] [] [.nm (.sc (.I ((k0+1:Nat):Int))),.au] [3,4,16,17,24,25,26] [3,5] hS hE ⟨PX.nm_int (by rw [IntWalk.i64_in _ (by omega)]; omega),trivial⟩ fun a w hS=>?_
     have hc:(((b.term.args0.take (k0)).foldl addN ([]:List Int)).contains y)=false:=by simpa using h27
     replace hS:=PX.sl [3,4,16,17,24,25,26] (PX.reslot (t:=3) (.own 5 1 (((b.term.args0.take (k0+1)).foldl addN ([]:List Int)).length)) hS rfl (fun _ _ _ _ h=>(show (.own 5 1 ((((b.term.args0.take (k0)).foldl addN ([]:List Int)).map encI:List (List PX.PV)).length+1):PX.PV)=.own 5 1 ((b.term.args0.take (k0+1)).foldl addN ([]:List Int)).length from by rw [add_take hy,addN_new hc]; simp) ▸ h))
     replace hS:=PX.rerow (id:=5) (((b.term.args0.take (k0+1)).foldl addN ([]:List Int)).map encI) hS rfl (by rw [add_take hy,addN_new hc]; simp [encI])
     replace hS:=PX.remp (id:=3) (bm ((b.term.args0.take (k0+1)).foldl addN ([]:List Int))) hS rfl (by rw [add_take hy,addN_new hc]; exact upd_bm _ _ hc)
     exact ⟨b.term.args0.length-(k0+1),by omega,k0+1,rfl,by omega,trivial,(PX.cn [(2,5)] _ _ 4 hS hE)⟩
    ·skip
     refine wp_skip ?_
     refine hK26 _ _ ?_
     refine PX.G0 [(.e 26 (.sc (.I ((k0+1:Nat):Int))))] [] 4 [.q ((.sc (.I (IntKind.i64.wrap ((k0:Int)+1))):PX.PV)=(.sc (.I ((k0+1:Nat):Int))))] [] [.nm (.sc (.I ((k0+1:Nat):Int))),.au] [3,4,16,17,24,25,26] [2,3] hS hE ⟨PX.nm_int (by rw [IntWalk.i64_in _ (by omega)]; omega),trivial⟩ fun a w hS=>?_
     have hc:(((b.term.args0.take (k0)).foldl addN ([]:List Int)).contains y)=true:=by simpa using h27
     replace hS:=PX.sl [3,4,16,17,24,25,26] (PX.reslot (t:=3) (.own 2 1 (((b.term.args0.take (k0+1)).foldl addN ([]:List Int)).length)) hS rfl (fun _ _ _ _ h=>(show (.own 2 1 (((b.term.args0.take (k0)).foldl addN ([]:List Int)).length):PX.PV)=.own 2 1 ((b.term.args0.take (k0+1)).foldl addN ([]:List Int)).length from by rw [add_take hy,addN_old hc]) ▸ h))
     replace hS:=PX.rerow (id:=2) (((b.term.args0.take (k0+1)).foldl addN ([]:List Int)).map encI) hS rfl (by rw [add_take hy,addN_old hc])
     replace hS:=PX.remp (id:=3) (bm ((b.term.args0.take (k0+1)).foldl addN ([]:List Int))) hS rfl (by rw [add_take hy,addN_old hc])
     exact ⟨b.term.args0.length-(k0+1),by omega,k0+1,rfl,by omega,trivial,(PX.cn [] _ _ 4 hS hE)⟩
   ·skip
    refine wp_exit ?_
    refine hK6 _ _ ?_
    have hqk0:k0=b.term.args0.length:=by have:=le_of_dec h25; omega
    rw [hqk0,List.take_length] at hS
    refine PX.G0 [(.e 17 (.J 1))] [] 4 [] [] [.au,.au] [3,4,16,17] [2,3] hS hE trivial fun a w hS=>?_
    show Code.rounds _ _ _ 2 _ _
    rw [rounds_succ]
    refine PX.G [(.e 18 (.sc (.bool true)))] [] 4 [] [] [.au] [3,4,16,17,18] [2,3] hS hE trivial fun a w hS=>?_
    refine wp_seq_k fun K28 hK28=>?_
    refine PX.cond_s true hS (by kernel_rfl) (fun h29=>?_) (fun h29=>nomatch h29)
    refine wp_skip ?_
    refine hK28 _ _ ?_
    refine wp_seq_k fun K30 hK30=>?_
    refine wp_block ?_
    refine PX.G [(.e 6 (.ptr 4 0))] [(4,.box 57 [(.J b.term.b1),(.imm 1 (b.term.args1.map encI))])] 5 [.q (1=((1:Nat):Int))] [] [.ix 1 [],.au,.au] [3,4,6,16,17] [2,3,4] hS hE ⟨rfl,trivial⟩ fun a w hS=>?_
    refine wp_seq_k fun K31 hK31=>?_
    refine PX.G [(.e 22 (.sc (.bool (decide (b.term.b1<0)))))] [] 5 [] [] [.au,.au,.au] [3,4,6,16,17,22] [2,3,4] hS hE trivial fun a w hS=>?_
    refine PX.cond_s (decide (b.term.b1<0)) hS (by kernel_rfl) (fun h32=>?_) (fun h32=>?_)
    ·skip
     refine wp_exit ?_
     refine hK30 _ _ ?_
     refine PX.G0 [(.e 17 (.J 2))] [] 5 [] [] [.au,.au] [3,4,16,17] [2,3] hS hE trivial fun a w hS=>?_
     show Code.rounds _ _ _ 1 _ _
     rw [rounds_succ]
     refine PX.G [(.e 18 (.sc (.bool false)))] [] 5 [] [] [.au] [3,4,16,17,18] [2,3] hS hE trivial fun a w hS=>?_
     refine wp_seq_k fun K33 hK33=>?_
     refine PX.cond_s false hS (by kernel_rfl) (fun h34=>nomatch h34) (fun h34=>?_)
     refine wp_exit ?_
     refine hK3 _ _ ?_
     refine PX.G [(.e 2 (.own 2 1 ((b.term.args0.foldl addN ([]:List Int)).length)))] [] 5 [] [] [.au,.au] [2] [2] hS hE trivial fun a w hS=>?_
     replace hS:=PX.fz 2 [(.e 2 (.imm 1 ((b.term.args0.foldl addN ([]:List Int)).map encI)))] [] [2] [] [.b (PX.lenIs ((b.term.args0.foldl addN ([]:List Int)).length) ((b.term.args0.foldl addN ([]:List Int)).map encI))] hS ⟨(by simp [PX.lenIs]),trivial⟩
     refine wp_ret ?_
     rw [show (.imm 1 ((savedD b.term).map encI))=((.imm 1 ((b.term.args0.foldl addN ([]:List Int)).map encI)):PX.PV) from congrArg (fun l=>PX.PV.imm 1 (l.map encI)) (show savedD b.term=(b.term.args0.foldl addN ([]:List Int)) from by unfold savedD; rw [if_pos (show b.term.kind=3 by simpa using h2),if_neg (by have:=of_decide_eq_true h32; omega),if_pos (by have:=of_decide_eq_false h8; omega)])]
     exact PX.rt hS hE (.inl rfl)
    ·skip
     refine wp_skip ?_
     refine hK31 _ _ ?_
     refine PX.G [(.e 24 (.imm 1 (b.term.args1.map encI))),(.e 25 (.sc (.I (b.term.args1.length:Int)))),(.e 26 (.J 0))] [] 5 [.q ((.sc (.I (((b.term.args1.map encI).length:Nat):Int)):PX.PV)=(.sc (.I (b.term.args1.length:Int))))] [] [.au,.au,.nm (.sc (.I (b.term.args1.length:Int))),.au] [3,4,16,17,24,25,26] [2,3] hS hE ⟨PX.nm_len (by simp),trivial⟩ fun a w hS=>?_
     refine wp_block ?_
     have hA1:=fold_addN_len b.term.args1 (b.term.args0.foldl addN ([]:List Int)); (try simp only [List.length_nil,Nat.zero_add] at hA1)
     replace hS:=PX.sl [3,4,16,17,24,25,26] (PX.reslot (t:=3) (.own 2 1 (((b.term.args1.take (0)).foldl addN (b.term.args0.foldl addN ([]:List Int))).length)) hS rfl (fun _ _ _ _ h=>(show (.own 2 1 ((b.term.args0.foldl addN ([]:List Int)).length):PX.PV)=.own 2 1 ((b.term.args1.take (0)).foldl addN (b.term.args0.foldl addN ([]:List Int))).length from by simp) ▸ h))
     replace hS:=PX.rerow (id:=2) (((b.term.args1.take (0)).foldl addN (b.term.args0.foldl addN ([]:List Int))).map encI) hS rfl (by simp)
     replace hS:PX.Sat _ _ _ _ _ _ _:=PX.remp (id:=3) (bm ((b.term.args1.take (0)).foldl addN (b.term.args0.foldl addN ([]:List Int)))) hS rfl (by simp [bm])
     refine wp_loop_ghost (fun m35 a' w'=>∃ k1:Nat,m35=b.term.args1.length-k1∧k1≤b.term.args1.length∧True∧PX.Sat E 43 [(.e 3 (.own 2 1 (((b.term.args1.take (k1)).foldl addN (b.term.args0.foldl addN ([]:List Int))).length))),(.e 4 (.map 3)),(.e 16 (.agg [(.J b.term.b0),(.imm 1 (b.term.args0.map encI)),(.J b.term.b1),(.imm 1 (b.term.args1.map encI))])),(.e 17 (.J 1)),(.e 24 (.imm 1 (b.term.args1.map encI))),(.e 25 (.sc (.I (b.term.args1.length:Int)))),(.e 26 (.sc (.I (k1:Int))))] [(2,.row 3 1 true (((b.term.args1.take (k1)).foldl addN (b.term.args0.foldl addN ([]:List Int))).map encI)),(3,.mp (bm ((b.term.args1.take (k1)).foldl addN (b.term.args0.foldl addN ([]:List Int)))))] 4 a' w') (b.term.args1.length-0) ⟨0,rfl,Nat.zero_le _,trivial,(PX.cn [] _ _ 4 hS hE)⟩ ?_
     clear hS; rintro m35 a w ⟨k1,hm35,hlek1,hIk1,hS⟩
     refine PX.G [(.e 27 (.sc (.bool (decide ((k1:Int)<(b.term.args1.length:Int))))))] [] 4 [] [] [.au] [3,4,16,17,24,25,26,27] [2,3] hS hE trivial fun a w hS=>?_
     refine wp_seq_k fun K36 hK36=>?_
     refine PX.cond_s (decide ((k1:Int)<(b.term.args1.length:Int))) hS (by kernel_rfl) (fun h37=>?_) (fun h37=>?_)
     ·skip
      refine wp_skip ?_
      refine hK36 _ _ ?_
      refine wp_seq_k fun K38 hK38=>?_
      refine wp_block ?_
      have hlty:k1<b.term.args1.length:=by simpa using h37
      obtain ⟨y,hy⟩:=get_of_lt hlty
      refine PX.G [(.e 8 (.J y))] [] 4 [.q ((k1:Int)=(k1:Int)),.q ((b.term.args1.map encI)[k1]?=some (encI y))] [] [.ix k1 (encI y),.au,.au] [3,4,8,16,17,24,25,26] [2,3] hS hE ⟨rfl,PX.map_get hy,trivial⟩ fun a w hS=>?_
      refine PX.G [(.e 33 (.sc (.bool (!((((b.term.args1.take (k1)).foldl addN (b.term.args0.foldl addN ([]:List Int)))).contains y)))))] [] 4 [.q ((.sc ((PX.findV (bm ((b.term.args1.take (k1)).foldl addN (b.term.args0.foldl addN ([]:List Int)))) y).getD (.bool false)):PX.PV)=(.sc (.bool ((((b.term.args1.take (k1)).foldl addN (b.term.args0.foldl addN ([]:List Int)))).contains y))))] [] [.au,.au,.nm (.sc (.bool ((((b.term.args1.take (k1)).foldl addN (b.term.args0.foldl addN ([]:List Int)))).contains y))),.au] [3,4,8,16,17,24,25,26,33] [2,3] hS hE ⟨look_bm _ _,trivial⟩ fun a w hS=>?_
      refine PX.cond_s (!((((b.term.args1.take (k1)).foldl addN (b.term.args0.foldl addN ([]:List Int)))).contains y)) hS (by kernel_rfl) (fun h39=>?_) (fun h39=>?_)
      ·skip
       refine PX.G [] [(3,.mp (PX.updV (bm ((b.term.args1.take (k1)).foldl addN (b.term.args0.foldl addN ([]:List Int)))) y (.bool true)))] 4 [] [] [.au,.au,.au] [3,4,8,16,17,24,25,26] [2,3] hS hE trivial fun a w hS=>?_
       refine PX.G0 [(.e 3 (.own 5 1 ((((b.term.args1.take (k1)).foldl addN (b.term.args0.foldl addN ([]:List Int))).map encI:List (List PX.PV)).length+1)))] [(5,.row 3 1 true (((b.term.args1.take (k1)).foldl addN (b.term.args0.foldl addN ([]:List Int))).map encI++[[(.J y)]]))] 6 [.b (lenIs (((b.term.args1.take (k1)).foldl addN (b.term.args0.foldl addN ([]:List Int))).length) (((b.term.args1.take (k1)).foldl addN (b.term.args0.foldl addN ([]:List Int))).map encI)),.b (lenIs 1 ([[(.J y)]])),.b (Nat.ble ((((b.term.args1.take (k1)).foldl addN (b.term.args0.foldl addN ([]:List Int))).map encI:List (List PX.PV)).length+1) 1000000000)] [] [.au,.au,.au,.au,.au] [3,4,16,17,24,25,26] [3,5] hS hE ⟨by simp [PX.lenIs],rfl,by rw [Nat.ble_eq]; have hq:=fold_addN_len (b.term.args1.take k1) (b.term.args0.foldl addN ([]:List Int)); simp only [List.length_take,List.length_map,List.length_cons,List.length_nil] at hq ⊢; omega,trivial⟩ fun a w hS=>?_
       refine hK38 _ _ ?_
       refine PX.G0 [(.e 26 (.sc (.I ((k1+1:Nat):Int))))] [] 6 [.q ((.sc (.I (IntKind.i64.wrap ((k1:Int)+1))):PX.PV)=(.sc (.I ((k1+1:Nat):Int))))] [] [.nm (.sc (.I ((k1+1:Nat):Int))),.au] [3,4,16,17,24,25,26] [3,5] hS hE ⟨PX.nm_int (by rw [IntWalk.i64_in _ (by omega)]; omega),trivial⟩ fun a w hS=>?_
       have hc:(((b.term.args1.take (k1)).foldl addN (b.term.args0.foldl addN ([]:List Int))).contains y)=false:=by simpa using h39
       replace hS:=PX.sl [3,4,16,17,24,25,26] (PX.reslot (t:=3) (.own 5 1 (((b.term.args1.take (k1+1)).foldl addN (b.term.args0.foldl addN ([]:List Int))).length)) hS rfl (fun _ _ _ _ h=>(show (.own 5 1 ((((b.term.args1.take (k1)).foldl addN (b.term.args0.foldl addN ([]:List Int))).map encI:List (List PX.PV)).length+1):PX.PV)=.own 5 1 ((b.term.args1.take (k1+1)).foldl addN (b.term.args0.foldl addN ([]:List Int))).length from by rw [add_take hy,addN_new hc]; simp) ▸ h))
       replace hS:=PX.rerow (id:=5) (((b.term.args1.take (k1+1)).foldl addN (b.term.args0.foldl addN ([]:List Int))).map encI) hS rfl (by rw [add_take hy,addN_new hc]; simp [encI])
       replace hS:=PX.remp (id:=3) (bm ((b.term.args1.take (k1+1)).foldl addN (b.term.args0.foldl addN ([]:List Int)))) hS rfl (by rw [add_take hy,addN_new hc]; exact upd_bm _ _ hc)
       exact ⟨b.term.args1.length-(k1+1),by omega,k1+1,rfl,by omega,trivial,(PX.cn [(2,5)] _ _ 4 hS hE)⟩
      ·skip
       refine wp_skip ?_
       refine hK38 _ _ ?_
       refine PX.G0 [(.e 26 (.sc (.I ((k1+1:Nat):Int))))] [] 4 [.q ((.sc (.I (IntKind.i64.wrap ((k1:Int)+1))):PX.PV)=(.sc (.I ((k1+1:Nat):Int))))] [] [.nm (.sc (.I ((k1+1:Nat):Int))),.au] [3,4,16,17,24,25,26] [2,3] hS hE ⟨PX.nm_int (by rw [IntWalk.i64_in _ (by omega)]; omega),trivial⟩ fun a w hS=>?_
       have hc:(((b.term.args1.take (k1)).foldl addN (b.term.args0.foldl addN ([]:List Int))).contains y)=true:=by simpa using h39
       replace hS:=PX.sl [3,4,16,17,24,25,26] (PX.reslot (t:=3) (.own 2 1 (((b.term.args1.take (k1+1)).foldl addN (b.term.args0.foldl addN ([]:List Int))).length)) hS rfl (fun _ _ _ _ h=>(show (.own 2 1 (((b.term.args1.take (k1)).foldl addN (b.term.args0.foldl addN ([]:List Int))).length):PX.PV)=.own 2 1 ((b.term.args1.take (k1+1)).foldl addN (b.term.args0.foldl addN ([]:List Int))).length from by rw [add_take hy,addN_old hc]) ▸ h))
       replace hS:=PX.rerow (id:=2) (((b.term.args1.take (k1+1)).foldl addN (b.term.args0.foldl addN ([]:List Int))).map encI) hS rfl (by rw [add_take hy,addN_old hc])
       replace hS:=PX.remp (id:=3) (bm ((b.term.args1.take (k1+1)).foldl addN (b.term.args0.foldl addN ([]:List Int)))) hS rfl (by rw [add_take hy,addN_old hc])
       exact ⟨b.term.args1.length-(k1+1),by omega,k1+1,rfl,by omega,trivial,(PX.cn [] _ _ 4 hS hE)⟩
     ·skip
      refine wp_exit ?_
      refine hK30 _ _ ?_
      have hqk1:k1=b.term.args1.length:=by have:=le_of_dec h37; omega
      rw [hqk1,List.take_length] at hS
      refine PX.G0 [(.e 17 (.J 2))] [] 4 [] [] [.au,.au] [3,4,16,17] [2,3] hS hE trivial fun a w hS=>?_
      show Code.rounds _ _ _ 1 _ _
      rw [rounds_succ]
      refine PX.G [(.e 18 (.sc (.bool false)))] [] 4 [] [] [.au] [3,4,16,17,18] [2,3] hS hE trivial fun a w hS=>?_
      refine wp_seq_k fun K40 hK40=>?_
      refine PX.cond_s false hS (by kernel_rfl) (fun h41=>nomatch h41) (fun h41=>?_)
      refine wp_exit ?_
      refine hK3 _ _ ?_
      refine PX.G [(.e 2 (.own 2 1 ((b.term.args1.foldl addN (b.term.args0.foldl addN ([]:List Int))).length)))] [] 4 [] [] [.au,.au] [2] [2] hS hE trivial fun a w hS=>?_
      replace hS:=PX.fz 2 [(.e 2 (.imm 1 ((b.term.args1.foldl addN (b.term.args0.foldl addN ([]:List Int))).map encI)))] [] [2] [] [.b (PX.lenIs ((b.term.args1.foldl addN (b.term.args0.foldl addN ([]:List Int))).length) ((b.term.args1.foldl addN (b.term.args0.foldl addN ([]:List Int))).map encI))] hS ⟨(by simp [PX.lenIs]),trivial⟩
      refine wp_ret ?_
      rw [show (.imm 1 ((savedD b.term).map encI))=((.imm 1 ((b.term.args1.foldl addN (b.term.args0.foldl addN ([]:List Int))).map encI)):PX.PV) from congrArg (fun l=>PX.PV.imm 1 (l.map encI)) (show savedD b.term=(b.term.args1.foldl addN (b.term.args0.foldl addN ([]:List Int))) from by unfold savedD; rw [if_pos (show b.term.kind=3 by simpa using h2),if_pos (by have:=of_decide_eq_false h32; omega),if_pos (by have:=of_decide_eq_false h8; omega)])]
      exact PX.rt hS hE (.inl rfl)
end Go.Proofs.Ytlkcidmmpeebeaa
