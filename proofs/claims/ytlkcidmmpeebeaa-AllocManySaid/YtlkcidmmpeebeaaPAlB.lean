/- Proved: alloc.lastUses -/
import Derived.Test.YtlkcidmmpeebeaaPAlA
import Derived.Test.YtlkcidmmpeebeaaPcI
set_option linter.unusedVariables false
set_option linter.unusedSimpArgs false
namespace Go.Proofs.Ytlkcidmmpeebeaa
open Go.RowKit Go.PX
set_option maxRecDepth 100000
theorem termU_len (t:TermD):(termU t).length≤1+t.args.length+t.args0.length+t.args1.length:=by
 unfold termU
 by_cases h1:t.kind=2∨t.kind=4∨t.kind=5 <;> by_cases h2:t.kind=3∨t.kind=6 <;> by_cases h3:0≤t.b0 <;> by_cases h4:0≤t.b1 <;> simp [h1,h2,h3,h4] <;> omega

set_option maxHeartbeats 2000000 in
theorem con_f105 (keep:Bool) (cn:Nat) (b:BlockD) (ho:AOk cn b) (hM:keep=true→M144 cn b):PX.Con Try.prog 105 [(.agg (encB b)),(.sc (.I (cn:Int))),(.sc (.bool keep))] [] 1 100000 (.imm 1 ((lastD keep cn b).map encI)) []:=by
 refine PX.con_intro [(.agg (encB b)),(.sc (.I (cn:Int))),(.sc (.bool keep))] 97 Try.func105 rfl rfl (by kernel_rfl) (by kernel_rfl) ?_
 intro E a hE hS
 generalize E.w0=w at hS ⊢
 have mix:=mixed
 have hpos:=ho.pos; have hops:=ho.ops; have hlen:=ho.len; have hul:=termU_len b.term
 refine PX.G [(.e 3 (.ptr 1 0))] [(1,.box 62 (encB b))] 2 [] [] [.au,.au] [1,2,3] [1] hS hE trivial fun a w hS=>?_
 refine PX.G [(.e 7 (.ptr 3 0))] [(2,.row 3 1 true (List.replicate cn [(.J 0)])),(3,.box 35 [(.own 2 1 cn)])] 4 [.q ((cn:Int)=(cn:Nat)),.q ((cn:Int)=(cn:Nat)),.b (Nat.ble cn 1000000000)] [] [.au,.mk cn,.au,.au] [1,2,3,7] [1,2,3] hS hE ⟨rfl,rfl,by rw [Nat.ble_eq]; have:=ho.pos; omega,trivial⟩ fun a w hS=>?_
 refine PX.G [(.e 8 (.own 4 1 cn))] [(4,.row 3 1 true (List.replicate cn [(.J 0)]))] 5 [.q ((cn:Int)=(cn:Nat)),.q ((cn:Int)=(cn:Nat)),.b (Nat.ble cn 1000000000)] [] [.au,.mk cn,.au] [2,3,7,8] [1,2,3,4] hS hE ⟨rfl,rfl,by rw [Nat.ble_eq]; have:=ho.pos; omega,trivial⟩ fun a w hS=>?_
 refine wp_seq_k fun K1 hK1=>?_
 refine PX.G [(.e 22 (.sc (.I (cn:Int)))),(.e 23 (.J 0))] [] 5 [] [] [.au,.au,.au] [2,3,7,8,22,23] [1,2,3,4] hS hE trivial fun a w hS=>?_
 refine wp_block ?_
 replace hS:=PX.rerow (id:=4) ((List.replicate (0) (-1:Int)++List.replicate (cn-(0)) 0).map encI) hS rfl (by simp [encI])
 refine wp_loop_ghost (fun m2 a' w'=>∃ k:Nat,m2=cn-k∧k≤cn∧True∧PX.Sat E 97 [(.e 2 (.sc (.bool keep))),(.e 3 (.ptr 1 0)),(.e 7 (.ptr 3 0)),(.e 8 (.own 4 1 cn)),(.e 22 (.sc (.I (cn:Int)))),(.e 23 (.sc (.I (k:Int))))] [(1,.box 62 (encB b)),(2,.row 3 1 true (List.replicate cn [(.J 0)])),(3,.box 35 [(.own 2 1 cn)]),(4,.row 3 1 true ((List.replicate (k) (-1:Int)++List.replicate (cn-(k)) 0).map encI))] 5 a' w') (cn-0) ⟨0,rfl,Nat.zero_le _,trivial,(PX.canon [] _ _ 5 hS hE (by kernel_rfl) (by kernel_rfl) (by kernel_rfl))⟩ ?_
 clear hS; rintro m2 a w ⟨k,hm2,hlek,hIk,hS⟩
 refine PX.G [(.e 24 (.sc (.bool (decide ((k:Int)<(cn:Int))))))] [] 5 [] [] [.au] [2,3,7,8,22,23,24] [1,2,3,4] hS hE trivial fun a w hS=>?_
 refine wp_seq_k fun K3 hK3=>?_
 refine PX.cond_s (decide ((k:Int)<(cn:Int))) hS (by kernel_rfl) (fun h4=>?_) (fun h4=>?_)
 ·skip
  refine wp_skip ?_
  refine hK3 _ _ ?_
  refine wp_seq_k fun K5 hK5=>?_
  refine wp_block ?_
  have hlt:k<cn:=by simpa using h4
  refine PX.G [(.e 9 (.sc (.I (k:Int))))] [] 5 [] [] [.au,.au] [2,3,7,8,9,22,23] [1,2,3,4] hS hE trivial fun a w hS=>?_
  obtain ⟨z,hz⟩:=get_of_lt (show k<((List.replicate (k) (-1:Int)++List.replicate (cn-(k)) 0)).length by simp; omega)
  refine PX.G0 [] [(4,.row 3 1 true (((List.replicate (k) (-1:Int)++List.replicate (cn-(k)) 0).map encI).set k [(.sc (.I (-1)))]))] 5 [.q ((k:Int)=(k:Int)),.q (k<cn),.q (((List.replicate (k) (-1:Int)++List.replicate (cn-(k)) 0).map encI)[k]?=some (encI z))] [] [.au,.au,.ix k [],.lr (encI z)] [2,3,7,8,22,23] [1,2,3,4] hS hE ⟨rfl,hlt,PX.map_get hz,trivial⟩ fun a w hS=>?_
  refine hK5 _ _ ?_
  refine PX.G0 [(.e 23 (.sc (.I ((k+1:Nat):Int))))] [] 5 [.q ((.sc (.I (IntKind.i64.wrap ((k:Int)+1))):PX.PV)=(.sc (.I ((k+1:Nat):Int))))] [] [.nm (.sc (.I ((k+1:Nat):Int))),.au] [2,3,7,8,22,23] [1,2,3,4] hS hE ⟨PX.nm_int (by rw [IntWalk.i64_in _ (by omega)]; omega),trivial⟩ fun a w hS=>?_
  replace hS:=PX.rerow (id:=4) ((List.replicate (k+1) (-1:Int)++List.replicate (cn-(k+1)) 0).map encI) hS rfl (set_minus (by omega))
  exact ⟨cn-(k+1),by omega,k+1,rfl,by omega,trivial,(PX.canon [] _ _ 5 hS hE (by kernel_rfl) (by kernel_rfl) (by kernel_rfl))⟩
 ·skip
  refine wp_exit ?_
  refine hK1 _ _ ?_
  refine wp_seq_k fun K6 hK6=>?_
  refine PX.G [(.e 31 (.imm 11 (b.ops.map encO))),(.e 32 (.sc (.I (b.ops.length:Int)))),(.e 33 (.J 0))] [] 5 [.q ((.sc (.I (((b.ops.map encO).length:Nat):Int)):PX.PV)=(.sc (.I (b.ops.length:Int))))] [] [.au,.au,.nm (.sc (.I (b.ops.length:Int))),.au] [2,3,7,8,31,32,33] [1,2,3,4] hS hE ⟨PX.nm_len (by simp),trivial⟩ fun a w hS=>?_
  refine wp_block ?_
  have hk0:k=cn:=by have:=le_of_dec h4; omega
  rw [hk0] at hS
  replace hS:=PX.rerow (id:=4) ((defK cn b.ops (0)).map encI) hS rfl (by simp [defK])
  refine wp_loop_ghost (fun m7 a' w'=>∃ q:Nat,m7=b.ops.length-q∧q≤b.ops.length∧True∧PX.Sat E 97 [(.e 2 (.sc (.bool keep))),(.e 3 (.ptr 1 0)),(.e 7 (.ptr 3 0)),(.e 8 (.own 4 1 cn)),(.e 31 (.imm 11 (b.ops.map encO))),(.e 32 (.sc (.I (b.ops.length:Int)))),(.e 33 (.sc (.I (q:Int))))] [(1,.box 62 (encB b)),(2,.row 3 1 true (List.replicate cn [(.J 0)])),(3,.box 35 [(.own 2 1 cn)]),(4,.row 3 1 true ((defK cn b.ops (q)).map encI))] 5 a' w') (b.ops.length-0) ⟨0,rfl,Nat.zero_le _,trivial,(PX.canon [] _ _ 5 hS hE (by kernel_rfl) (by kernel_rfl) (by kernel_rfl))⟩ ?_
  clear hS; rintro m7 a w ⟨q,hm7,hleq,hIq,hS⟩
  refine PX.G [(.e 34 (.sc (.bool (decide ((q:Int)<(b.ops.length:Int))))))] [] 5 [] [] [.au] [2,3,7,8,31,32,33,34] [1,2,3,4] hS hE trivial fun a w hS=>?_
  refine wp_seq_k fun K8 hK8=>?_
  refine PX.cond_s (decide ((q:Int)<(b.ops.length:Int))) hS (by kernel_rfl) (fun h9=>?_) (fun h9=>?_)
  ·skip
   refine wp_skip ?_
   refine hK8 _ _ ?_
   refine wp_seq_k fun K10 hK10=>?_
   refine wp_block ?_
   have hlty:q<b.ops.length:=by simpa using h9
   obtain ⟨y,hy⟩:=get_of_lt hlty
   refine PX.G [(.e 10 (.sc (.I (q:Int)))),(.e 11 (.ptr 5 0))] [(5,.box 74 (encO y))] 6 [.q ((q:Int)=(q:Int)),.q ((b.ops.map encO)[q]?=some (encO y))] [] [.au,.ix q (encO y),.au,.au,.au,.au] [2,3,7,8,10,11,31,32,33] [1,2,3,4,5] hS hE ⟨rfl,PX.map_get hy,trivial⟩ fun a w hS=>?_
   refine PX.G [(.e 40 (.sc (.bool (R.defines y.kind))))] [] 6 [.q (PX.Con Try.prog 104 [(.J y.kind)] [] 6 6 (.sc (.bool (R.defines y.kind))) [])] [] [.au,.au,.cl [] (.sc (.bool (R.defines y.kind))) [] 6] [2,3,7,8,10,11,31,32,33,40] [1,2,3,4,5] hS hE ⟨PX.con_any (con_f104 y.kind),trivial⟩ fun a w hS=>?_
   refine PX.cond_s (R.defines y.kind) hS (by kernel_rfl) (fun h11=>?_) (fun h11=>?_)
   ·skip
    have hd:=ho.dst y (List.mem_of_getElem? hy) h11
    obtain ⟨z,hz⟩:=get_of_lt (show y.dst.toNat<((defK cn b.ops (q))).length by rw [defK_len]; omega)
    refine PX.G0 [] [(4,.row 3 1 true (((defK cn b.ops (q)).map encI).set y.dst.toNat [(.sc (.I (q:Int)))]))] 6 [.q (y.dst=(y.dst.toNat:Int)),.q (y.dst.toNat<cn),.q (((defK cn b.ops (q)).map encI)[y.dst.toNat]?=some (encI z))] [] [.au,.au,.au,.au,.ix y.dst.toNat [],.lr (encI z)] [2,3,7,8,31,32,33] [1,2,3,4] hS hE ⟨by omega,by omega,PX.map_get hz,trivial⟩ fun a w hS=>?_
    refine hK10 _ _ ?_
    refine PX.G0 [(.e 33 (.sc (.I ((q+1:Nat):Int))))] [] 6 [.q ((.sc (.I (IntKind.i64.wrap ((q:Int)+1))):PX.PV)=(.sc (.I ((q+1:Nat):Int))))] [] [.nm (.sc (.I ((q+1:Nat):Int))),.au] [2,3,7,8,31,32,33] [1,2,3,4] hS hE ⟨PX.nm_int (by rw [IntWalk.i64_in _ (by omega)]; omega),trivial⟩ fun a w hS=>?_
    replace hS:=PX.rerow (id:=4) ((defK cn b.ops (q+1)).map encI) hS rfl (by unfold defK; rw [fold_take _ _ hy]; unfold defI; rw [if_pos h11]; rw [List.map_set]; rfl)
    exact ⟨b.ops.length-(q+1),by omega,q+1,rfl,by omega,trivial,(PX.canon [] _ _ 5 hS hE (by kernel_rfl) (by kernel_rfl) (by kernel_rfl))⟩
   ·skip
    refine wp_skip ?_
    refine hK10 _ _ ?_
    refine PX.G0 [(.e 33 (.sc (.I ((q+1:Nat):Int))))] [] 6 [.q ((.sc (.I (IntKind.i64.wrap ((q:Int)+1))):PX.PV)=(.sc (.I ((q+1:Nat):Int))))] [] [.nm (.sc (.I ((q+1:Nat):Int))),.au] [2,3,7,8,31,32,33] [1,2,3,4] hS hE ⟨PX.nm_int (by rw [IntWalk.i64_in _ (by omega)]; omega),trivial⟩ fun a w hS=>?_
    replace hS:=PX.rerow (id:=4) ((defK cn b.ops (q+1)).map encI) hS rfl (by unfold defK; rw [fold_take _ _ hy]; unfold defI; rw [if_neg (by rw [h11]; simp)])
    exact ⟨b.ops.length-(q+1),by omega,q+1,rfl,by omega,trivial,(PX.canon [] _ _ 5 hS hE (by kernel_rfl) (by kernel_rfl) (by kernel_rfl))⟩
  ·skip
   refine wp_exit ?_
   refine hK6 _ _ ?_
   have hq0:q=b.ops.length:=by have:=le_of_dec h9; omega
   rw [hq0] at hS
   refine PX.G [] [(2,.row 3 1 true ((defK cn b.ops (b.ops.length)).map encI))] 5 [.b (lenIs cn (List.replicate cn [(.J 0)])),.b (lenIs cn ((defK cn b.ops (b.ops.length)).map encI)),.q (((List.replicate cn [(.J 0)]):List (List PX.PV)).length=((defK cn b.ops (b.ops.length)).map encI:List (List PX.PV)).length)] [] [.au,.au,.au] [2,3,7,8] [1,2,3,4] hS hE ⟨by simp [PX.lenIs],by simp [PX.lenIs,defK_len],by simp [defK_len],trivial⟩ fun a w hS=>?_
   refine PX.G [(.e 12 (.fn 140 [] [(.ptr 3 0)]))] [] 5 [] [] [.au,.au] [2,3,7,8,12] [1,2,3,4] hS hE trivial fun a w hS=>?_
   refine wp_seq_k fun K12 hK12=>?_
   refine PX.G [(.e 52 (.imm 11 (b.ops.map encO))),(.e 53 (.sc (.I (b.ops.length:Int)))),(.e 54 (.J 0))] [] 5 [.q ((.sc (.I (((b.ops.map encO).length:Nat):Int)):PX.PV)=(.sc (.I (b.ops.length:Int))))] [] [.au,.au,.nm (.sc (.I (b.ops.length:Int))),.au] [2,3,7,8,12,52,53,54] [1,2,3,4] hS hE ⟨PX.nm_len (by simp),trivial⟩ fun a w hS=>?_
   refine wp_block ?_
   replace hS:=PX.rerow (id:=2) ((useK cn b.ops (0)).map encI) hS rfl (rfl)
   refine wp_loop_ghost (fun m13 a' w'=>∃ m:Nat,m13=b.ops.length-m∧m≤b.ops.length∧True∧PX.Sat E 97 [(.e 2 (.sc (.bool keep))),(.e 3 (.ptr 1 0)),(.e 7 (.ptr 3 0)),(.e 8 (.own 4 1 cn)),(.e 12 (.fn 140 [] [(.ptr 3 0)])),(.e 52 (.imm 11 (b.ops.map encO))),(.e 53 (.sc (.I (b.ops.length:Int)))),(.e 54 (.sc (.I (m:Int))))] [(1,.box 62 (encB b)),(2,.row 3 1 true ((useK cn b.ops (m)).map encI)),(3,.box 35 [(.own 2 1 cn)]),(4,.row 3 1 true ((defK cn b.ops (b.ops.length)).map encI))] 5 a' w') (b.ops.length-0) ⟨0,rfl,Nat.zero_le _,trivial,(PX.canon [] _ _ 5 hS hE (by kernel_rfl) (by kernel_rfl) (by kernel_rfl))⟩ ?_
   clear hS; rintro m13 a w ⟨m,hm13,hlem,hIm,hS⟩
   refine PX.G [(.e 55 (.sc (.bool (decide ((m:Int)<(b.ops.length:Int))))))] [] 5 [] [] [.au] [2,3,7,8,12,52,53,54,55] [1,2,3,4] hS hE trivial fun a w hS=>?_
   refine wp_seq_k fun K14 hK14=>?_
   refine PX.cond_s (decide ((m:Int)<(b.ops.length:Int))) hS (by kernel_rfl) (fun h15=>?_) (fun h15=>?_)
   ·skip
    refine wp_skip ?_
    refine hK14 _ _ ?_
    refine wp_seq_k fun K16 hK16=>?_
    refine wp_block ?_
    have hlty:m<b.ops.length:=by simpa using h15
    obtain ⟨y,hy⟩:=get_of_lt hlty
    refine PX.G [(.e 13 (.sc (.I (m:Int)))),(.e 14 (.ptr 5 0))] [(5,.box 74 (encO y))] 6 [.q ((m:Int)=(m:Int)),.q ((b.ops.map encO)[m]?=some (encO y))] [] [.au,.ix m (encO y),.au,.au,.au,.au] [2,3,7,8,12,13,14,52,53,54] [1,2,3,4,5] hS hE ⟨rfl,PX.map_get hy,trivial⟩ fun a w hS=>?_
    refine PX.seq_cut (E:=E) (N:=97) (T:=[(.e 2 (.sc (.bool keep))),(.e 3 (.ptr 1 0)),(.e 7 (.ptr 3 0)),(.e 8 (.own 4 1 cn)),(.e 12 (.fn 140 [] [(.ptr 3 0)])),(.e 13 (.sc (.I (m:Int)))),(.e 14 (.ptr 5 0)),(.e 52 (.imm 11 (b.ops.map encO))),(.e 53 (.sc (.I (b.ops.length:Int)))),(.e 54 (.sc (.I (m:Int))))]) (H:=[(1,.box 62 (encB b)),(2,.row 3 1 true ((use1 (useK cn b.ops (m)) y m).map encI)),(3,.box 35 [(.own 2 1 cn)]),(4,.row 3 1 true ((defK cn b.ops (b.ops.length)).map encI)),(5,.box 74 (encO y))]) (nx:=6) ?_ ?_
    ·skip
     refine PX.G [(.e 61 (.sc (.bool (R.usesA y.kind))))] [] 6 [.q (PX.Con Try.prog 141 [(.J y.kind)] [] 6 6 (.sc (.bool (R.usesA y.kind))) [])] [] [.au,.au,.cl [] (.sc (.bool (R.usesA y.kind))) [] 6] [2,3,7,8,12,13,14,52,53,54,61] [1,2,3,4,5] hS hE ⟨PX.con_any (con_f141 y.kind),trivial⟩ fun a w hS=>?_
     refine PX.cond_s (R.usesA y.kind) hS (by kernel_rfl) (fun h17=>?_) (fun h17=>?_)
     ·skip
      refine PX.G0 [] [(2,.row 3 1 true ((useD (useK cn b.ops (m)) y.a (m:Int)).map encI))] 6 [.q (PX.Con Try.prog 140 [(.J y.a),(.sc (.I (m:Int))),(.ptr 3 0)] [(3,.box 35 [(.own 2 1 cn)]),(2,.row 3 1 true ((useK cn b.ops (m)).map encI))] 6 6 (.tup []) [(3,some (.box 35 [(.own 2 1 cn)])),(2,some (.row 3 1 true ((useD (useK cn b.ops (m)) y.a (m:Int)).map encI)))])] [] [.au,.au,.au,.au,.cl [3,2] (.tup []) [(3,some (.box 35 [(.own 2 1 cn)])),(2,some (.row 3 1 true ((useD (useK cn b.ops (m)) y.a (m:Int)).map encI)))] 6] [2,3,7,8,12,13,14,52,53,54] [1,2,3,4,5] hS hE ⟨PX.con_as [(3,1),(2,2)] [(1,3),(2,2)] (con_f140 (useK cn b.ops (m)) cn (useK_len _ _ _) y.a (m:Int) (ho.ua y (List.mem_of_getElem? hy) h17)) (by kernel_rfl) (by kernel_rfl) (by kernel_rfl) (by kernel_rfl) (by kernel_rfl) (by kernel_rfl),trivial⟩ fun a w hS=>?_
      replace hS:=PX.rerow (id:=2) ((use1 (useK cn b.ops (m)) y m).map encI) hS rfl (by unfold use1; rw [if_pos h17])
      exact (PX.canon [] _ _ 6 hS hE (by kernel_rfl) (by kernel_rfl) (by kernel_rfl))
     ·skip
      refine wp_skip ?_
      replace hS:=PX.rerow (id:=2) ((use1 (useK cn b.ops (m)) y m).map encI) hS rfl (by unfold use1; rw [if_neg (by rw [h17]; simp)])
      replace hS:=PX.sl [2,3,7,8,12,13,14,52,53,54] hS
      exact (PX.canon [] _ _ 6 hS hE (by kernel_rfl) (by kernel_rfl) (by kernel_rfl))
    clear hS; intro a w hS
    refine PX.G [(.e 69 (.sc (.bool (R.usesB y.kind))))] [] 6 [.q (PX.Con Try.prog 142 [(.J y.kind)] [] 6 6 (.sc (.bool (R.usesB y.kind))) [])] [] [.au,.au,.cl [] (.sc (.bool (R.usesB y.kind))) [] 6] [2,3,7,8,12,13,14,52,53,54,69] [1,2,3,4,5] hS hE ⟨PX.con_any (con_f142 y.kind),trivial⟩ fun a w hS=>?_
    refine PX.cond_s (R.usesB y.kind) hS (by kernel_rfl) (fun h18=>?_) (fun h18=>?_)
    ·skip
     refine PX.G0 [] [(2,.row 3 1 true ((useD (use1 (useK cn b.ops (m)) y m) y.b (m:Int)).map encI))] 6 [.q (PX.Con Try.prog 140 [(.J y.b),(.sc (.I (m:Int))),(.ptr 3 0)] [(3,.box 35 [(.own 2 1 cn)]),(2,.row 3 1 true ((use1 (useK cn b.ops (m)) y m).map encI))] 6 6 (.tup []) [(3,some (.box 35 [(.own 2 1 cn)])),(2,some (.row 3 1 true ((useD (use1 (useK cn b.ops (m)) y m) y.b (m:Int)).map encI)))])] [] [.au,.au,.au,.au,.cl [3,2] (.tup []) [(3,some (.box 35 [(.own 2 1 cn)])),(2,some (.row 3 1 true ((useD (use1 (useK cn b.ops (m)) y m) y.b (m:Int)).map encI)))] 6] [2,3,7,8,12,52,53,54] [1,2,3,4] hS hE ⟨PX.con_as [(3,1),(2,2)] [(1,3),(2,2)] (con_f140 (use1 (useK cn b.ops (m)) y m) cn ((use2_len _ _ _).1.trans (useK_len _ _ _)) y.b (m:Int) (ho.ub y (List.mem_of_getElem? hy) h18)) (by kernel_rfl) (by kernel_rfl) (by kernel_rfl) (by kernel_rfl) (by kernel_rfl) (by kernel_rfl),trivial⟩ fun a w hS=>?_
     refine hK16 _ _ ?_
     refine PX.G0 [(.e 54 (.sc (.I ((m+1:Nat):Int))))] [] 6 [.q ((.sc (.I (IntKind.i64.wrap ((m:Int)+1))):PX.PV)=(.sc (.I ((m+1:Nat):Int))))] [] [.nm (.sc (.I ((m+1:Nat):Int))),.au] [2,3,7,8,12,52,53,54] [1,2,3,4] hS hE ⟨PX.nm_int (by rw [IntWalk.i64_in _ (by omega)]; omega),trivial⟩ fun a w hS=>?_
     replace hS:=PX.rerow (id:=2) ((useK cn b.ops (m+1)).map encI) hS rfl (by rw [show useK cn b.ops (m+1)=use2 (useK cn b.ops m) y m from by unfold useK; rw [fold_take _ _ hy]]; unfold use2; rw [if_pos h18])
     exact ⟨b.ops.length-(m+1),by omega,m+1,rfl,by omega,trivial,(PX.canon [] _ _ 5 hS hE (by kernel_rfl) (by kernel_rfl) (by kernel_rfl))⟩
    ·skip
     refine wp_skip ?_
     refine hK16 _ _ ?_
     refine PX.G0 [(.e 54 (.sc (.I ((m+1:Nat):Int))))] [] 6 [.q ((.sc (.I (IntKind.i64.wrap ((m:Int)+1))):PX.PV)=(.sc (.I ((m+1:Nat):Int))))] [] [.nm (.sc (.I ((m+1:Nat):Int))),.au] [2,3,7,8,12,52,53,54] [1,2,3,4] hS hE ⟨PX.nm_int (by rw [IntWalk.i64_in _ (by omega)]; omega),trivial⟩ fun a w hS=>?_
     replace hS:=PX.rerow (id:=2) ((useK cn b.ops (m+1)).map encI) hS rfl (by rw [show useK cn b.ops (m+1)=use2 (useK cn b.ops m) y m from by unfold useK; rw [fold_take _ _ hy]]; unfold use2; rw [if_neg (by rw [h18]; simp)])
     exact ⟨b.ops.length-(m+1),by omega,m+1,rfl,by omega,trivial,(PX.canon [] _ _ 5 hS hE (by kernel_rfl) (by kernel_rfl) (by kernel_rfl))⟩
   ·skip
    refine wp_exit ?_
    refine hK12 _ _ ?_
    refine wp_seq_k fun K19 hK19=>?_
    have hm0:m=b.ops.length:=by have:=le_of_dec h15; omega
    rw [hm0] at hS
    refine PX.G [(.e 78 (.imm 1 ((termU b.term).map encI))),(.e 79 (.sc (.I (((termU b.term).length:Nat):Int)))),(.e 80 (.J 0))] [] 5 [.q (PX.Con Try.prog 143 [(.agg [(.J b.term.kind),(.J b.term.a),(.J b.term.n),(.imm 1 (b.term.args.map encI)),(.J b.term.b0),(.imm 1 (b.term.args0.map encI)),(.J b.term.b1),(.imm 1 (b.term.args1.map encI))])] [] 5 5 (.imm 1 ((termU b.term).map encI)) []),.q ((.sc (.I ((((termU b.term).map encI).length:Nat):Int)):PX.PV)=(.sc (.I (((termU b.term).length:Nat):Int))))] [] [.au,.au,.cl [] (.imm 1 ((termU b.term).map encI)) [] 5,.nm (.sc (.I (((termU b.term).length:Nat):Int))),.au] [2,3,7,8,12,78,79,80] [1,2,3,4] hS hE ⟨PX.con_any (con_f143 b.term ho.len.1 ho.len.2.1 ho.len.2.2),PX.nm_len (by simp),trivial⟩ fun a w hS=>?_
    refine wp_block ?_
    replace hS:=PX.rerow (id:=2) ((endK cn b (0)).map encI) hS rfl (rfl)
    refine wp_loop_ghost (fun m20 a' w'=>∃ j:Nat,m20=(termU b.term).length-j∧j≤(termU b.term).length∧True∧PX.Sat E 97 [(.e 2 (.sc (.bool keep))),(.e 3 (.ptr 1 0)),(.e 7 (.ptr 3 0)),(.e 8 (.own 4 1 cn)),(.e 12 (.fn 140 [] [(.ptr 3 0)])),(.e 78 (.imm 1 ((termU b.term).map encI))),(.e 79 (.sc (.I (((termU b.term).length:Nat):Int)))),(.e 80 (.sc (.I (j:Int))))] [(1,.box 62 (encB b)),(2,.row 3 1 true ((endK cn b (j)).map encI)),(3,.box 35 [(.own 2 1 cn)]),(4,.row 3 1 true ((defK cn b.ops (b.ops.length)).map encI))] 5 a' w') ((termU b.term).length-0) ⟨0,rfl,Nat.zero_le _,trivial,(PX.canon [] _ _ 5 hS hE (by kernel_rfl) (by kernel_rfl) (by kernel_rfl))⟩ ?_
    clear hS; rintro m20 a w ⟨j,hm20,hlej,hIj,hS⟩
    refine PX.G [(.e 81 (.sc (.bool (decide ((j:Int)<(((termU b.term).length:Nat):Int))))))] [] 5 [] [] [.au] [2,3,7,8,12,78,79,80,81] [1,2,3,4] hS hE trivial fun a w hS=>?_
    refine wp_seq_k fun K21 hK21=>?_
    refine PX.cond_s (decide ((j:Int)<(((termU b.term).length:Nat):Int))) hS (by kernel_rfl) (fun h22=>?_) (fun h22=>?_)
    ·skip
     refine wp_skip ?_
     refine hK21 _ _ ?_
     refine wp_seq_k fun K23 hK23=>?_
     refine wp_block ?_
     have hlty:j<(termU b.term).length:=by simpa using h22
     obtain ⟨y,hy⟩:=get_of_lt hlty
     refine PX.G [(.e 16 (.J y))] [] 5 [.q ((j:Int)=(j:Int)),.q (((termU b.term).map encI)[j]?=some (encI y))] [] [.ix j (encI y),.au,.au] [2,3,7,8,12,16,78,79,80] [1,2,3,4] hS hE ⟨rfl,PX.map_get hy,trivial⟩ fun a w hS=>?_
     refine PX.G0 [] [(2,.row 3 1 true ((useD (endK cn b (j)) y (b.ops.length:Int)).map encI))] 5 [.q ((.sc (.I (((b.ops.map encO).length:Nat):Int)):PX.PV)=(.sc (.I (b.ops.length:Int)))),.q (PX.Con Try.prog 140 [(.J y),(.sc (.I (b.ops.length:Int))),(.ptr 3 0)] [(3,.box 35 [(.own 2 1 cn)]),(2,.row 3 1 true ((endK cn b (j)).map encI))] 5 5 (.tup []) [(3,some (.box 35 [(.own 2 1 cn)])),(2,some (.row 3 1 true ((useD (endK cn b (j)) y (b.ops.length:Int)).map encI)))])] [] [.au,.au,.au,.au,.nm (.sc (.I (b.ops.length:Int))),.cl [3,2] (.tup []) [(3,some (.box 35 [(.own 2 1 cn)])),(2,some (.row 3 1 true ((useD (endK cn b (j)) y (b.ops.length:Int)).map encI)))] 5] [2,3,7,8,12,78,79,80] [1,2,3,4] hS hE ⟨PX.nm_len (by simp),PX.con_as [(3,1),(2,2)] [(1,3),(2,2)] (con_f140 (endK cn b (j)) cn (endK_len _ _ _) y (b.ops.length:Int) (ho.term y (List.mem_of_getElem? hy))) (by kernel_rfl) (by kernel_rfl) (by kernel_rfl) (by kernel_rfl) (by kernel_rfl) (by kernel_rfl),trivial⟩ fun a w hS=>?_
     refine hK23 _ _ ?_
     refine PX.G0 [(.e 80 (.sc (.I ((j+1:Nat):Int))))] [] 5 [.q ((.sc (.I (IntKind.i64.wrap ((j:Int)+1))):PX.PV)=(.sc (.I ((j+1:Nat):Int))))] [] [.nm (.sc (.I ((j+1:Nat):Int))),.au] [2,3,7,8,12,78,79,80] [1,2,3,4] hS hE ⟨PX.nm_int (by rw [IntWalk.i64_in _ (by omega)]; omega),trivial⟩ fun a w hS=>?_
     replace hS:=PX.rerow (id:=2) ((endK cn b (j+1)).map encI) hS rfl (by rw [endK_succ hy])
     exact ⟨(termU b.term).length-(j+1),by omega,j+1,rfl,by omega,trivial,(PX.canon [] _ _ 5 hS hE (by kernel_rfl) (by kernel_rfl) (by kernel_rfl))⟩
    ·skip
     refine wp_exit ?_
     refine hK19 _ _ ?_
     refine wp_seq_k fun K24 hK24=>?_
     have hj0:j=(termU b.term).length:=by have:=le_of_dec h22; omega
     rw [hj0] at hS
     refine PX.G [(.e 91 (.sc (.bool keep)))] [] 5 [] [] [.au] [3,7,8,12,91] [1,2,3,4] hS hE trivial fun a w hS=>?_
     refine PX.cond_s keep hS (by kernel_rfl) (fun h25=>?_) (fun h25=>?_)
     ·skip
      refine PX.G0 [] [(2,.row 3 1 true ((markK (defK cn b.ops b.ops.length) b.ops (endK cn b (termU b.term).length) b.ops.length).2.map encI))] 5 [.q (PX.Con Try.prog 144 [(.agg (encB b)),(.own 4 1 cn),(.fn 140 [] [(.ptr 3 0)])] [(3,.box 35 [(.own 2 1 cn)]),(2,.row 3 1 true ((endK cn b ((termU b.term).length)).map encI)),(4,.row 3 1 true ((defK cn b.ops (b.ops.length)).map encI))] 5 5 (.tup []) [(3,some (.box 35 [(.own 2 1 cn)])),(2,some (.row 3 1 true ((markK (defK cn b.ops b.ops.length) b.ops (endK cn b (termU b.term).length) b.ops.length).2.map encI))),(4,some (.row 3 1 true ((defK cn b.ops (b.ops.length)).map encI)))])] [] [.au,.au,.au,.cl [3,2,4] (.tup []) [(3,some (.box 35 [(.own 2 1 cn)])),(2,some (.row 3 1 true ((markK (defK cn b.ops b.ops.length) b.ops (endK cn b (termU b.term).length) b.ops.length).2.map encI))),(4,some (.row 3 1 true ((defK cn b.ops (b.ops.length)).map encI)))] 5] [7] [2,3] hS hE ⟨PX.con_as [(3,1),(2,2),(4,3)] [(1,3),(2,2),(3,4)] (hM h25 (defK cn b.ops b.ops.length) (endK cn b (termU b.term).length) (defK_len _ _ _) (endK_len _ _ _)) (by kernel_rfl) (by kernel_rfl) (by kernel_rfl) (by kernel_rfl) (by kernel_rfl) (by kernel_rfl),trivial⟩ fun a w hS=>?_
      refine hK24 _ _ ?_
      refine PX.G [(.e 6 (.own 2 1 cn))] [] 5 [] [] [.au,.au] [6] [2] hS hE trivial fun a w hS=>?_
      replace hS:=PX.fz 2 [(.e 6 (.imm 1 ((markK (defK cn b.ops b.ops.length) b.ops (endK cn b (termU b.term).length) b.ops.length).2.map encI)))] [] [6] [] [.b (PX.lenIs cn ((markK (defK cn b.ops b.ops.length) b.ops (endK cn b (termU b.term).length) b.ops.length).2.map encI))] hS ⟨(by simp [PX.lenIs,endK_len,markK_len]),trivial⟩
      refine wp_ret ?_
      try simp only [Exit.then,Exit.inBlock,Nat.reduceEqDiff,↓reduceIte]
      rw [show (.imm 1 ((lastD keep cn b).map encI))=((.imm 1 ((markK (defK cn b.ops b.ops.length) b.ops (endK cn b (termU b.term).length) b.ops.length).2.map encI)):PX.PV) from by unfold lastD; rw [if_pos h25]]
      exact PX.ret_s hS hE (by kernel_rfl) (by kernel_rfl) (by kernel_rfl) (.inl rfl)
     ·skip
      refine wp_skip ?_
      refine hK24 _ _ ?_
      refine PX.G [(.e 6 (.own 2 1 cn))] [] 5 [] [] [.au,.au] [6] [2] hS hE trivial fun a w hS=>?_
      replace hS:=PX.fz 2 [(.e 6 (.imm 1 ((endK cn b ((termU b.term).length)).map encI)))] [] [6] [] [.b (PX.lenIs cn ((endK cn b ((termU b.term).length)).map encI))] hS ⟨(by simp [PX.lenIs,endK_len,markK_len]),trivial⟩
      refine wp_ret ?_
      try simp only [Exit.then,Exit.inBlock,Nat.reduceEqDiff,↓reduceIte]
      rw [show (.imm 1 ((lastD keep cn b).map encI))=((.imm 1 ((endK cn b ((termU b.term).length)).map encI)):PX.PV) from by unfold lastD; rw [if_neg (by rw [h25]; simp)]]
      exact PX.ret_s hS hE (by kernel_rfl) (by kernel_rfl) (by kernel_rfl) (.inl rfl)
end Go.Proofs.Ytlkcidmmpeebeaa
