/- Proved: rightBlock on plain data -/
import Derived.Test.YtlkcidmmpeebeaaCkA
set_option linter.unusedVariables false
set_option linter.unusedSimpArgs false
namespace Go.Proofs.Ytlkcidmmpeebeaa
open Go.RowKit Go.PX
set_option maxRecDepth 100000
theorem upd_new:∀ (D:List (Int × Int)) (n v:Int),findD D n=none→PX.updV (iv D) n (.I v)=iv (D++[(n,v)])
 | [],n,v,_=>rfl
 | p::D,n,v,h=>by
  unfold findD at h
  rw [List.find?_cons] at h
  cases hb:(n==p.1) with
  | true=>rw [hb] at h; cases h
  | false =>
   rw [hb] at h
   have ih:=upd_new D n v h
   unfold iv at ih ⊢
   simp only [List.map_cons,List.cons_append,PX.updV,hb,cond_false,ih]

set_option maxHeartbeats 4000000 in
theorem con_f85 (c:CodeD) (b:BlockD) (hbl:BlkL b) (hbp:0≤b.params∧b.params≤999) (hcp:0≤c.params∧c.params≤4) (hL:c.contexts.length≤64∧c.objects.length≤64):PX.Con Try.prog 85 [(codeP c),(.agg (encB b))] [] 1 100000 (.sc (.bool (P.rightBlock c b))) []:=by
 refine PX.con_intro [(codeP c),(.agg (encB b))] 99 Try.func85 rfl rfl (by kernel_rfl) (by kernel_rfl) ?_
 intro E a hE hS
 generalize E.w0=w at hS ⊢
 have mix:=mixed; have hbo:=hbl.ops
 refine PX.G [(.e 2 (.ptr 1 0)),(.e 3 (.ptr 2 0))] [(1,.box 26 (codeL c)),(2,.box 62 (encB b))] 3 [] [] [.au,.au,.au] [2,3] [1,2] hS hE trivial fun a w hS=>?_
 refine PX.G [(.e 5 (.ptr 4 0))] [(3,.mp ([])),(4,.box 183 [(.J b.params),(.map 3)])] 5 [] [] [.au,.au,.au,.au,.au,.au] [2,3,5] [1,2,3,4] hS hE trivial fun a w hS=>?_
 refine wp_seq_k fun K1 hK1=>?_
 refine PX.G [(.e 17 (.imm 11 (b.ops.map encO))),(.e 18 (.sc (.I (b.ops.length:Int)))),(.e 19 (.J 0))] [] 5 [.q ((.sc (.I (((b.ops.map encO).length:Nat):Int)):PX.PV)=(.sc (.I (b.ops.length:Int))))] [] [.au,.au,.nm (.sc (.I (b.ops.length:Int))),.au] [2,3,5,17,18,19] [1,2,3,4] hS hE ⟨PX.nm_len (by simp),trivial⟩ fun a w hS=>?_
 refine wp_block ?_
 rw [show (PX.PO.mp [])=.mp (iv (dk b.ops (0))) from rfl] at hS
 refine wp_loop_ghost (fun m2 a' w'=>∃ k:Nat,m2=b.ops.length-k∧k≤b.ops.length∧Upto b.ops (okDef b.params b.ops) (k)∧PX.Sat E 99 [(.e 2 (.ptr 1 0)),(.e 3 (.ptr 2 0)),(.e 5 (.ptr 4 0)),(.e 17 (.imm 11 (b.ops.map encO))),(.e 18 (.sc (.I (b.ops.length:Int)))),(.e 19 (.sc (.I (k:Int))))] [(1,.box 26 (codeL c)),(2,.box 62 (encB b)),(3,.mp (iv (dk b.ops (k)))),(4,.box 183 [(.J b.params),(.map 3)])] 5 a' w') (b.ops.length-0) ⟨0,rfl,Nat.zero_le _,Upto.zero,(PX.cn [] _ _ 5 hS hE)⟩ ?_
 clear hS; rintro m2 a w ⟨k,hm2,hlek,hIk,hS⟩
 refine PX.G [(.e 20 (.sc (.bool (decide ((k:Int)<(b.ops.length:Int))))))] [] 5 [] [] [.au] [2,3,5,17,18,19,20] [1,2,3,4] hS hE trivial fun a w hS=>?_
 refine wp_seq_k fun K3 hK3=>?_
 refine PX.cond_s (decide ((k:Int)<(b.ops.length:Int))) hS (by kernel_rfl) (fun h4=>?_) (fun h4=>?_)
 ·skip
  refine wp_skip ?_
  refine hK3 _ _ ?_
  refine wp_seq_k fun K5 hK5=>?_
  refine wp_block ?_
  have hlty:k<b.ops.length:=by simpa using h4
  obtain ⟨y,hy⟩:=get_of_lt hlty
  refine PX.G [(.e 6 (.sc (.I (k:Int)))),(.e 7 (.ptr 5 0))] [(5,.box 74 (encO y))] 6 [.q ((k:Int)=(k:Int)),.q ((b.ops.map encO)[k]?=some (encO y))] [] [.au,.ix k (encO y),.au,.au,.au,.au] [2,3,5,6,7,17,18,19] [1,2,3,4,5] hS hE ⟨rfl,PX.map_get hy,trivial⟩ fun a w hS=>?_
  refine wp_seq_k fun K6 hK6=>?_
  refine PX.G [(.e 28 (.sc (.bool ((andI (fieldsN y.kind) 1)==0))))] [] 6 [.q (PX.Con Try.prog 126 [(.J y.kind)] [] 6 6 (.sc (.I (fieldsN y.kind))) [])] [] [.au,.au,.cl [] (.sc (.I (fieldsN y.kind))) [] 6,.au,.au] [2,3,5,6,7,17,18,19,28] [1,2,3,4,5] hS hE ⟨PX.con_any (con_f126 y.kind),trivial⟩ fun a w hS=>?_
  refine PX.cond_s ((andI (fieldsN y.kind) 1)==0) hS (by kernel_rfl) (fun h7=>?_) (fun h7=>?_)
  ·skip
   refine wp_exit ?_
   refine hK5 _ _ ?_
   refine PX.G0 [(.e 19 (.sc (.I ((k+1:Nat):Int))))] [] 6 [.q ((.sc (.I (IntKind.i64.wrap ((k:Int)+1))):PX.PV)=(.sc (.I ((k+1:Nat):Int))))] [] [.nm (.sc (.I ((k+1:Nat):Int))),.au] [2,3,5,17,18,19] [1,2,3,4] hS hE ⟨PX.nm_int (by rw [IntWalk.i64_in _ (by omega)]; omega),trivial⟩ fun a w hS=>?_
   rw [show dk b.ops (k)=dk b.ops (k+1) from (dk_no hy (show P.fDst y.kind=false from by have:=h7; rw [f_dst] at this; simpa using this)).symm] at hS
   exact ⟨b.ops.length-(k+1),by omega,k+1,rfl,by omega,hIk.step hy (by unfold okDef; rw [(show P.fDst y.kind=false from by have:=h7; rw [f_dst] at this; simpa using this)]; rfl),(PX.cn [] _ _ 5 hS hE)⟩
  ·skip
   refine wp_skip ?_
   refine hK6 _ _ ?_
   refine wp_seq_k fun K8 hK8=>?_
   refine PX.G [(.e 9 (.sc (.bool ((findD (dk b.ops (k)) y.dst).isSome))))] [] 6 [.q ((.tup [.sc ((PX.findV (iv (dk b.ops (k))) y.dst).getD (.I 0)),.sc (.bool (PX.findV (iv (dk b.ops (k))) y.dst).isSome)]:PX.PV)=(.tup [(.sc (.I ((findD (dk b.ops (k)) y.dst).getD 0))),(.sc (.bool ((findD (dk b.ops (k)) y.dst).isSome)))]))] [] [.au,.au,.au,.au,.nm (.tup [(.sc (.I ((findD (dk b.ops (k)) y.dst).getD 0))),(.sc (.bool ((findD (dk b.ops (k)) y.dst).isSome)))]),.au,.au,.au,.au,.au] [2,3,5,6,7,9,17,18,19] [1,2,3,4,5] hS hE ⟨look_ok (dk b.ops (k)) y.dst,trivial⟩ fun a w hS=>?_
   refine PX.G [(.e 49 (.sc (.bool (((findD (dk b.ops (k)) y.dst).isSome||decide (y.dst<b.params))||decide (9999<y.dst)))))] [] 6 [] [(1,(findD (dk b.ops (k)) y.dst).isSome),(8,((findD (dk b.ops (k)) y.dst).isSome||decide (y.dst<b.params)))] [.au,.au,.au,.au,.au,.au,.au,.pk,.au,.au,.au,.au,.pk] [2,3,5,6,7,17,18,19,49] [1,2,3,4,5] hS hE trivial fun a w hS=>?_
   refine PX.cond_s (((findD (dk b.ops (k)) y.dst).isSome||decide (y.dst<b.params))||decide (9999<y.dst)) hS (by kernel_rfl) (fun h9=>?_) (fun h9=>?_)
   ·skip
    refine PX.G [(.e 4 (.sc (.bool false)))] [] 6 [] [] [.au] [2,3,4,5,17,18,19] [1,2,3,4] hS hE trivial fun a w hS=>?_
    refine wp_ret ?_
    rw [show (.sc (.bool (P.rightBlock c b)))=((.sc (.bool false)):PX.PV) from by rw [rightBlock_eq,← allAt_no hy (p:=okDef b.params b.ops) (by unfold okDef; rw [(show P.fDst y.kind=true from by have:=h7; rw [f_dst] at this; simpa using this),h9]; rfl)] <;> rfl]
    exact PX.rt hS hE (.inl rfl)
   ·skip
    refine wp_skip ?_
    refine hK8 _ _ ?_
    refine PX.G0 [] [(3,.mp (PX.updV (iv (dk b.ops (k))) y.dst (.I (k:Int))))] 6 [] [] [.au,.au,.au,.au,.au,.au] [2,3,5,17,18,19] [1,2,3,4] hS hE trivial fun a w hS=>?_
    refine hK5 _ _ ?_
    refine PX.G0 [(.e 19 (.sc (.I ((k+1:Nat):Int))))] [] 6 [.q ((.sc (.I (IntKind.i64.wrap ((k:Int)+1))):PX.PV)=(.sc (.I ((k+1:Nat):Int))))] [] [.nm (.sc (.I ((k+1:Nat):Int))),.au] [2,3,5,17,18,19] [1,2,3,4] hS hE ⟨PX.nm_int (by rw [IntWalk.i64_in _ (by omega)]; omega),trivial⟩ fun a w hS=>?_
    have hnf:findD (dk b.ops (k)) y.dst=none:=by have:=h9; simp only [Bool.or_eq_false_iff] at this; simpa using this.1.1
    rw [show (PX.updV (iv (dk b.ops (k))) y.dst (.I (k:Int)))=(iv (dk b.ops (k+1))) from by rw [upd_new _ _ _ hnf,dk_yes hy (show P.fDst y.kind=true from by have:=h7; rw [f_dst] at this; simpa using this)]] at hS
    exact ⟨b.ops.length-(k+1),by omega,k+1,rfl,by omega,hIk.step hy (by unfold okDef; rw [(show P.fDst y.kind=true from by have:=h7; rw [f_dst] at this; simpa using this),h9]; rfl),(PX.cn [] _ _ 5 hS hE)⟩
 ·skip
  refine wp_exit ?_
  refine hK1 _ _ ?_
  refine wp_seq_k fun K10 hK10=>?_
  obtain rfl:k=b.ops.length:=by have:=le_of_dec h4; omega
  have hdefs:=hIk.allAt (Nat.le_refl _); clear hIk
  refine PX.G [(.e 57 (.imm 11 (b.ops.map encO))),(.e 58 (.sc (.I (b.ops.length:Int)))),(.e 59 (.J 0))] [] 5 [.q ((.sc (.I (((b.ops.map encO).length:Nat):Int)):PX.PV)=(.sc (.I (b.ops.length:Int))))] [] [.au,.au,.nm (.sc (.I (b.ops.length:Int))),.au] [2,3,5,57,58,59] [1,2,3,4] hS hE ⟨PX.nm_len (by simp),trivial⟩ fun a w hS=>?_
  refine wp_block ?_
  refine wp_loop_ghost (fun m11 a' w'=>∃ j:Nat,m11=b.ops.length-j∧j≤b.ops.length∧Upto b.ops (opAt c b) (j)∧PX.Sat E 99 [(.e 2 (.ptr 1 0)),(.e 3 (.ptr 2 0)),(.e 5 (.ptr 4 0)),(.e 57 (.imm 11 (b.ops.map encO))),(.e 58 (.sc (.I (b.ops.length:Int)))),(.e 59 (.sc (.I (j:Int))))] [(1,.box 26 (codeL c)),(2,.box 62 (encB b)),(3,.mp (iv (dk b.ops (b.ops.length)))),(4,.box 183 [(.J b.params),(.map 3)])] 5 a' w') (b.ops.length-0) ⟨0,rfl,Nat.zero_le _,Upto.zero,(PX.cn [] _ _ 5 hS hE)⟩ ?_
  clear hS; rintro m11 a w ⟨j,hm11,hlej,hIj,hS⟩
  refine PX.G [(.e 60 (.sc (.bool (decide ((j:Int)<(b.ops.length:Int))))))] [] 5 [] [] [.au] [2,3,5,57,58,59,60] [1,2,3,4] hS hE trivial fun a w hS=>?_
  refine wp_seq_k fun K12 hK12=>?_
  refine PX.cond_s (decide ((j:Int)<(b.ops.length:Int))) hS (by kernel_rfl) (fun h13=>?_) (fun h13=>?_)
  ·skip
   refine wp_skip ?_
   refine hK12 _ _ ?_
   refine wp_seq_k fun K14 hK14=>?_
   refine wp_block ?_
   have hlty:j<b.ops.length:=by simpa using h13
   obtain ⟨y,hy⟩:=get_of_lt hlty
   refine PX.G [(.e 10 (.sc (.I (j:Int)))),(.e 11 (.ptr 5 0))] [(5,.box 74 (encO y))] 6 [.q ((j:Int)=(j:Int)),.q ((b.ops.map encO)[j]?=some (encO y))] [] [.au,.ix j (encO y),.au,.au,.au,.au] [2,3,5,10,11,57,58,59] [1,2,3,4,5] hS hE ⟨rfl,PX.map_get hy,trivial⟩ fun a w hS=>?_
   rcases Bool.eq_false_or_eq_true (P.clean y) with h15 | h15
   ·skip
    rcases Bool.eq_false_or_eq_true (rightOpD c b.params (dk b.ops (b.ops.length)) y (j:Int)) with h16 | h16
    ·skip
     rcases Bool.eq_false_or_eq_true (y.kind==21) with h17 | h17
     ·skip
      refine PX.G [(.e 68 (codeP c)),(.e 69 (.agg [(.sc (.I b.params)),(.map 3)])),(.e 70 (.agg (encO y))),(.e 71 (.sc (.I (j:Int)))),(.e 72 (.sc (.bool true))),(.e 73 (.sc (.bool false))),(.e 76 (.ptr 5 0)),(.e 77 (.sc (.I y.kind))),(.e 78 (.sc (.bool true))),(.e 79 (.sc (.bool true))),(.e 80 (codeP c)),(.e 81 (.agg [(.sc (.I b.params)),(.map 3)])),(.e 82 (.agg (encO y))),(.e 83 (.ptr 2 1)),(.e 84 (.imm 11 (b.ops.map encO))),(.e 85 (.sc (.I (b.ops.length:Int)))),(.e 86 (.sc (.bool (rightBindD c b.params (dk b.ops (b.ops.length)) y (b.ops.length:Int))))),(.e 87 (.sc (.bool (!(rightBindD c b.params (dk b.ops (b.ops.length)) y (b.ops.length:Int)))))),(.e 88 (.sc (.bool (!(rightBindD c b.params (dk b.ops (b.ops.length)) y (b.ops.length:Int)))))),(.e 89 (.sc (.bool (!(rightBindD c b.params (dk b.ops (b.ops.length)) y (b.ops.length:Int))))))] [] 6 [.q (PX.Con Try.prog 127 [(.agg (encO y))] [] 6 6 (.sc (.bool true)) []),.q (PX.Con Try.prog 128 [(codeP c),(.agg [(.sc (.I b.params)),(.map 3)]),(.agg (encO y)),(.sc (.I (j:Int)))] [(3,.mp (iv (dk b.ops (b.ops.length))))] 6 6 (.sc (.bool true)) [(3,some (.mp (iv (dk b.ops (b.ops.length)))))]),.q (((.sc (.bool (y.kind==21))):PX.PV)=(.sc (.bool true))),.q ((.sc (.I (((b.ops.map encO).length:Nat):Int)):PX.PV)=(.sc (.I (b.ops.length:Int)))),.q (PX.Con Try.prog 129 [(codeP c),(.agg [(.sc (.I b.params)),(.map 3)]),(.agg (encO y)),(.sc (.I (b.ops.length:Int)))] [(3,.mp (iv (dk b.ops (b.ops.length))))] 6 6 (.sc (.bool (rightBindD c b.params (dk b.ops (b.ops.length)) y (b.ops.length:Int)))) [(3,some (.mp (iv (dk b.ops (b.ops.length)))))])] [] [.au,.cl [] (.sc (.bool true)) [] 6,.au,.au,.au,.au,.au,.au,.cl [3] (.sc (.bool true)) [(3,some (.mp (iv (dk b.ops (b.ops.length)))))] 6,.au,.au,.au,.au,.au,.nm (.sc (.bool true)),.au,.au,.au,.au,.au,.au,.nm (.sc (.I (b.ops.length:Int))),.cl [3] (.sc (.bool (rightBindD c b.params (dk b.ops (b.ops.length)) y (b.ops.length:Int)))) [(3,some (.mp (iv (dk b.ops (b.ops.length)))))] 6,.au,.au,.au] [2,3,5,57,58,59,68,69,70,71,72,73,76,77,78,79,80,81,82,83,84,85,86,87,88,89] [1,2,3,4,5] hS hE ⟨(show PX.Con Try.prog 127 [(.agg (encO y))] [] 6 6 (.sc (.bool true)) [] from h15 ▸ (show PX.Con Try.prog 127 [(.agg (encO y))] [] 6 6 (.sc (.bool (P.clean y))) [] from PX.con_any (con_f127 y))),(show PX.Con Try.prog 128 [(codeP c),(.agg [(.sc (.I b.params)),(.map 3)]),(.agg (encO y)),(.sc (.I (j:Int)))] [(3,.mp (iv (dk b.ops (b.ops.length))))] 6 6 (.sc (.bool true)) [(3,some (.mp (iv (dk b.ops (b.ops.length)))))] from h16 ▸ (show PX.Con Try.prog 128 [(codeP c),(.agg [(.sc (.I b.params)),(.map 3)]),(.agg (encO y)),(.sc (.I (j:Int)))] [(3,.mp (iv (dk b.ops (b.ops.length))))] 6 6 (.sc (.bool (rightOpD c b.params (dk b.ops (b.ops.length)) y (j:Int)))) [(3,some (.mp (iv (dk b.ops (b.ops.length)))))] from PX.con_as [(3,1)] [(1,3)] (con_f128 c y (j:Int) b.params (dk b.ops (b.ops.length)) hbp hL) (by kernel_rfl) (by kernel_rfl) (by kernel_rfl) (by kernel_rfl) (by kernel_rfl) (by kernel_rfl))),by rw [h17],PX.nm_len (by simp),PX.con_as [(3,1)] [(1,3)] (con_f129 c y (b.ops.length:Int) b.params (dk b.ops (b.ops.length)) hbp hcp) (by kernel_rfl) (by kernel_rfl) (by kernel_rfl) (by kernel_rfl) (by kernel_rfl) (by kernel_rfl),trivial⟩ fun a w hS=>?_
      refine PX.cond_s (!(rightBindD c b.params (dk b.ops (b.ops.length)) y (b.ops.length:Int))) hS (by kernel_rfl) (fun h18=>?_) (fun h18=>?_)
      ·skip
       refine PX.G [(.e 4 (.sc (.bool false)))] [] 6 [] [] [.au] [2,3,4,5,57,58,59] [1,2,3,4] hS hE trivial fun a w hS=>?_
       refine wp_ret ?_
       have hq:opAt c b j y=false:=by clear hS hE; (try simp only [rightOpD_eq,rightBindD_eq] at h15); (try simp only [rightOpD_eq,rightBindD_eq] at h16); (try simp only [rightOpD_eq,rightBindD_eq] at h17); (try simp only [rightOpD_eq,rightBindD_eq] at h18); unfold opAt; simp_all
       rw [show (.sc (.bool (P.rightBlock c b)))=((.sc (.bool false)):PX.PV) from by rw [rightBlock_eq,← allAt_no hy hq,← hdefs] <;> rfl]
       exact PX.rt hS hE (.inl rfl)
      ·skip
       refine wp_skip ?_
       refine hK14 _ _ ?_
       refine PX.G0 [(.e 59 (.sc (.I ((j+1:Nat):Int))))] [] 6 [.q ((.sc (.I (IntKind.i64.wrap ((j:Int)+1))):PX.PV)=(.sc (.I ((j+1:Nat):Int))))] [] [.nm (.sc (.I ((j+1:Nat):Int))),.au] [2,3,5,57,58,59,68,69,70,71,72,73,76,77,78,79,80,81,82,83,84,85,86,87,88] [1,2,3,4,5] hS hE ⟨PX.nm_int (by rw [IntWalk.i64_in _ (by omega)]; omega),trivial⟩ fun a w hS=>?_
       replace hS:=PX.sl [2,3,5,57,58,59] hS
       exact ⟨b.ops.length-(j+1),by omega,j+1,rfl,by omega,hIj.step hy (by clear hS hE; (try simp only [rightOpD_eq,rightBindD_eq] at h15); (try simp only [rightOpD_eq,rightBindD_eq] at h16); (try simp only [rightOpD_eq,rightBindD_eq] at h17); (try simp only [rightOpD_eq,rightBindD_eq] at h18); unfold opAt; simp_all),(PX.cn [] _ _ 5 hS hE)⟩
     ·skip
      refine PX.G [(.e 68 (codeP c)),(.e 69 (.agg [(.sc (.I b.params)),(.map 3)])),(.e 70 (.agg (encO y))),(.e 71 (.sc (.I (j:Int)))),(.e 72 (.sc (.bool true))),(.e 73 (.sc (.bool false))),(.e 76 (.ptr 5 0)),(.e 77 (.sc (.I y.kind))),(.e 78 (.sc (.bool false))),(.e 79 (.sc (.bool false))),(.e 88 (.sc (.bool false))),(.e 89 (.sc (.bool false)))] [] 6 [.q (PX.Con Try.prog 127 [(.agg (encO y))] [] 6 6 (.sc (.bool true)) []),.q (PX.Con Try.prog 128 [(codeP c),(.agg [(.sc (.I b.params)),(.map 3)]),(.agg (encO y)),(.sc (.I (j:Int)))] [(3,.mp (iv (dk b.ops (b.ops.length))))] 6 6 (.sc (.bool true)) [(3,some (.mp (iv (dk b.ops (b.ops.length)))))]),.q (((.sc (.bool (y.kind==21))):PX.PV)=(.sc (.bool false)))] [(15,false)] [.au,.cl [] (.sc (.bool true)) [] 6,.au,.au,.au,.au,.au,.au,.cl [3] (.sc (.bool true)) [(3,some (.mp (iv (dk b.ops (b.ops.length)))))] 6,.au,.au,.au,.au,.au,.nm (.sc (.bool false)),.au,.dd,.dd,.dd,.dd,.dd,.dd,.dd,.dd,.au,.au] [2,3,5,57,58,59,68,69,70,71,72,73,76,77,78,79,88,89] [1,2,3,4,5] hS hE ⟨(show PX.Con Try.prog 127 [(.agg (encO y))] [] 6 6 (.sc (.bool true)) [] from h15 ▸ (show PX.Con Try.prog 127 [(.agg (encO y))] [] 6 6 (.sc (.bool (P.clean y))) [] from PX.con_any (con_f127 y))),(show PX.Con Try.prog 128 [(codeP c),(.agg [(.sc (.I b.params)),(.map 3)]),(.agg (encO y)),(.sc (.I (j:Int)))] [(3,.mp (iv (dk b.ops (b.ops.length))))] 6 6 (.sc (.bool true)) [(3,some (.mp (iv (dk b.ops (b.ops.length)))))] from h16 ▸ (show PX.Con Try.prog 128 [(codeP c),(.agg [(.sc (.I b.params)),(.map 3)]),(.agg (encO y)),(.sc (.I (j:Int)))] [(3,.mp (iv (dk b.ops (b.ops.length))))] 6 6 (.sc (.bool (rightOpD c b.params (dk b.ops (b.ops.length)) y (j:Int)))) [(3,some (.mp (iv (dk b.ops (b.ops.length)))))] from PX.con_as [(3,1)] [(1,3)] (con_f128 c y (j:Int) b.params (dk b.ops (b.ops.length)) hbp hL) (by kernel_rfl) (by kernel_rfl) (by kernel_rfl) (by kernel_rfl) (by kernel_rfl) (by kernel_rfl))),by rw [h17],trivial⟩ fun a w hS=>?_
      refine PX.cond_s false hS (by kernel_rfl) (fun h19=>nomatch h19) (fun h19=>?_)
      refine wp_skip ?_
      refine hK14 _ _ ?_
      refine PX.G0 [(.e 59 (.sc (.I ((j+1:Nat):Int))))] [] 6 [.q ((.sc (.I (IntKind.i64.wrap ((j:Int)+1))):PX.PV)=(.sc (.I ((j+1:Nat):Int))))] [] [.nm (.sc (.I ((j+1:Nat):Int))),.au] [2,3,5,57,58,59,68,69,70,71,72,73,76,77,78,79,88] [1,2,3,4,5] hS hE ⟨PX.nm_int (by rw [IntWalk.i64_in _ (by omega)]; omega),trivial⟩ fun a w hS=>?_
      replace hS:=PX.sl [2,3,5,57,58,59] hS
      exact ⟨b.ops.length-(j+1),by omega,j+1,rfl,by omega,hIj.step hy (by clear hS hE; (try simp only [rightOpD_eq,rightBindD_eq] at h15); (try simp only [rightOpD_eq,rightBindD_eq] at h16); (try simp only [rightOpD_eq,rightBindD_eq] at h17); unfold opAt; simp_all),(PX.cn [] _ _ 5 hS hE)⟩
    ·skip
     refine PX.G [(.e 68 (codeP c)),(.e 69 (.agg [(.sc (.I b.params)),(.map 3)])),(.e 70 (.agg (encO y))),(.e 71 (.sc (.I (j:Int)))),(.e 72 (.sc (.bool false))),(.e 73 (.sc (.bool true))),(.e 89 (.sc (.bool true)))] [] 6 [.q (PX.Con Try.prog 127 [(.agg (encO y))] [] 6 6 (.sc (.bool true)) []),.q (PX.Con Try.prog 128 [(codeP c),(.agg [(.sc (.I b.params)),(.map 3)]),(.agg (encO y)),(.sc (.I (j:Int)))] [(3,.mp (iv (dk b.ops (b.ops.length))))] 6 6 (.sc (.bool false)) [(3,some (.mp (iv (dk b.ops (b.ops.length)))))])] [(11,true),(15,false)] [.au,.cl [] (.sc (.bool true)) [] 6,.au,.au,.au,.au,.au,.au,.cl [3] (.sc (.bool false)) [(3,some (.mp (iv (dk b.ops (b.ops.length)))))] 6,.au,.au,.au,.dd,.dd,.dd,.dd,.dd,.dd,.dd,.dd,.dd,.dd,.dd,.dd,.dd,.au] [2,3,5,57,58,59,68,69,70,71,72,73,89] [1,2,3,4] hS hE ⟨(show PX.Con Try.prog 127 [(.agg (encO y))] [] 6 6 (.sc (.bool true)) [] from h15 ▸ (show PX.Con Try.prog 127 [(.agg (encO y))] [] 6 6 (.sc (.bool (P.clean y))) [] from PX.con_any (con_f127 y))),(show PX.Con Try.prog 128 [(codeP c),(.agg [(.sc (.I b.params)),(.map 3)]),(.agg (encO y)),(.sc (.I (j:Int)))] [(3,.mp (iv (dk b.ops (b.ops.length))))] 6 6 (.sc (.bool false)) [(3,some (.mp (iv (dk b.ops (b.ops.length)))))] from h16 ▸ (show PX.Con Try.prog 128 [(codeP c),(.agg [(.sc (.I b.params)),(.map 3)]),(.agg (encO y)),(.sc (.I (j:Int)))] [(3,.mp (iv (dk b.ops (b.ops.length))))] 6 6 (.sc (.bool (rightOpD c b.params (dk b.ops (b.ops.length)) y (j:Int)))) [(3,some (.mp (iv (dk b.ops (b.ops.length)))))] from PX.con_as [(3,1)] [(1,3)] (con_f128 c y (j:Int) b.params (dk b.ops (b.ops.length)) hbp hL) (by kernel_rfl) (by kernel_rfl) (by kernel_rfl) (by kernel_rfl) (by kernel_rfl) (by kernel_rfl))),trivial⟩ fun a w hS=>?_
     refine PX.cond_s true hS (by kernel_rfl) (fun h20=>?_) (fun h20=>nomatch h20)
     refine PX.G [(.e 4 (.sc (.bool false)))] [] 6 [] [] [.au] [2,3,4,5,57,58,59] [1,2,3,4] hS hE trivial fun a w hS=>?_
     refine wp_ret ?_
     have hq:opAt c b j y=false:=by clear hS hE; (try simp only [rightOpD_eq,rightBindD_eq] at h15); (try simp only [rightOpD_eq,rightBindD_eq] at h16); unfold opAt; simp_all
     rw [show (.sc (.bool (P.rightBlock c b)))=((.sc (.bool false)):PX.PV) from by rw [rightBlock_eq,← allAt_no hy hq,← hdefs] <;> rfl]
     exact PX.rt hS hE (.inl rfl)
   ·skip
    refine PX.G [(.e 89 (.sc (.bool true)))] [] 6 [.q (PX.Con Try.prog 127 [(.agg (encO y))] [] 6 6 (.sc (.bool false)) [])] [(3,true),(11,true),(15,false)] [.au,.cl [] (.sc (.bool false)) [] 6,.au,.au,.dd,.dd,.dd,.dd,.dd,.dd,.au,.au,.dd,.dd,.dd,.dd,.dd,.dd,.dd,.dd,.dd,.dd,.dd,.dd,.dd,.au] [2,3,5,57,58,59,89] [1,2,3,4] hS hE ⟨(show PX.Con Try.prog 127 [(.agg (encO y))] [] 6 6 (.sc (.bool false)) [] from h15 ▸ (show PX.Con Try.prog 127 [(.agg (encO y))] [] 6 6 (.sc (.bool (P.clean y))) [] from PX.con_any (con_f127 y))),trivial⟩ fun a w hS=>?_
    refine PX.cond_s true hS (by kernel_rfl) (fun h21=>?_) (fun h21=>nomatch h21)
    refine PX.G [(.e 4 (.sc (.bool false)))] [] 6 [] [] [.au] [2,3,4,5,57,58,59] [1,2,3,4] hS hE trivial fun a w hS=>?_
    refine wp_ret ?_
    have hq:opAt c b j y=false:=by clear hS hE; (try simp only [rightOpD_eq,rightBindD_eq] at h15); unfold opAt; simp_all
    rw [show (.sc (.bool (P.rightBlock c b)))=((.sc (.bool false)):PX.PV) from by rw [rightBlock_eq,← allAt_no hy hq,← hdefs] <;> rfl]
    exact PX.rt hS hE (.inl rfl)
  ·skip
   refine wp_exit ?_
   refine hK10 _ _ ?_
   refine PX.G [(.e 4 (.sc (.bool (rightTermH c (fun x=>hasD b.params (dk b.ops (b.ops.length)) x (b.ops.length:Int)) b.term))))] [] 5 [.q ((.sc (.I (((b.ops.map encO).length:Nat):Int)):PX.PV)=(.sc (.I (b.ops.length:Int)))),.q (PX.Con Try.prog 130 [(codeP c),(.agg [(.J b.params),(.map 3)]),(.agg [(.J b.term.kind),(.J b.term.a),(.J b.term.n),(.imm 1 (b.term.args.map encI)),(.J b.term.b0),(.imm 1 (b.term.args0.map encI)),(.J b.term.b1),(.imm 1 (b.term.args1.map encI))]),(.sc (.I (b.ops.length:Int)))] [(3,.mp (iv (dk b.ops (b.ops.length))))] 5 5 (.sc (.bool (rightTermH c (fun x=>hasD b.params (dk b.ops (b.ops.length)) x (b.ops.length:Int)) b.term))) [(3,some (.mp (iv (dk b.ops (b.ops.length)))))])] [] [.au,.au,.au,.au,.au,.au,.nm (.sc (.I (b.ops.length:Int))),.cl [3] (.sc (.bool (rightTermH c (fun x=>hasD b.params (dk b.ops (b.ops.length)) x (b.ops.length:Int)) b.term))) [(3,some (.mp (iv (dk b.ops (b.ops.length)))))] 5,.au] [4] [] hS hE ⟨PX.nm_len (by simp),PX.con_as [(3,1)] [(1,3)] (con_f130 c b.term (b.ops.length:Int) b.params (dk b.ops (b.ops.length)) hbp hbl.args hbl.args0 hbl.args1) (by kernel_rfl) (by kernel_rfl) (by kernel_rfl) (by kernel_rfl) (by kernel_rfl) (by kernel_rfl),trivial⟩ fun a w hS=>?_
   refine wp_ret ?_
   rw [show (.sc (.bool (P.rightBlock c b)))=((.sc (.bool (rightTermH c (fun x=>hasD b.params (dk b.ops (b.ops.length)) x (b.ops.length:Int)) b.term))):PX.PV) from by rw [rightBlock_eq,rightTermH_eq,← hdefs,← hIj.allAt (le_of_dec h13)]; simp]
   exact PX.rt hS hE (.inl rfl)
end Go.Proofs.Ytlkcidmmpeebeaa

/- Proved: ir.CheckCode on plain data -/
namespace Go.Proofs.Ytlkcidmmpeebeaa
open Go.RowKit Go.PX
set_option maxRecDepth 100000
set_option maxHeartbeats 1000000 in
theorem con_f81 (c:CodeD):PX.Con Try.prog 81 [(codeP c)] [] 1 100000 (.sc (.bool (P.rightHead c))) []:=by
 refine PX.con_intro [(codeP c)] 22 Try.func81 rfl rfl (by kernel_rfl) (by kernel_rfl) ?_
 intro E a hE hS
 generalize E.w0=w at hS ⊢
 have mix:=mixed
 refine PX.G [(.e 1 (.ptr 1 0))] [(1,.box 26 (codeL c))] 2 [] [] [.au,.au] [1] [1] hS hE trivial fun a w hS=>?_
 obtain ⟨x,hx⟩:=get_if c.blocks 0; have hpos:=fun q:c.blocks.length≠0=>hx (Nat.pos_of_ne_zero q)
 refine PX.D [(.e 2 (.sc (.bool (((P.within c.params 4)&&decide (0<(c.blocks.length:Int)))&&(x.params==c.params)))))] [] 2 [.q (PX.Con Try.prog 84 [(.J c.params),(.J 4)] [] 2 2 (.sc (.bool (P.within c.params 4))) []),.q (SX.pv [(3,(P.within c.params 4)),(9,((P.within c.params 4)&&decide (0<(c.blocks.length:Int))))] [(3,true)]=true→PX.AllOb [.q ((.sc (.I (((c.blocks.map encB).length:Nat):Int)):PX.PV)=(.sc (.I (c.blocks.length:Int))))]),.q (SX.pv [(3,(P.within c.params 4)),(9,((P.within c.params 4)&&decide (0<(c.blocks.length:Int))))] [(9,true)]=true→PX.AllOb [.q (0=((0:Nat):Int)),.q ((c.blocks.map encB)[0]?=some (encB x))])] [(3,(P.within c.params 4)),(9,((P.within c.params 4)&&decide (0<(c.blocks.length:Int))))] [.au,.au,.cl [] (.sc (.bool (P.within c.params 4))) [] 2,.au,.au,.au,.nm (.sc (.I (c.blocks.length:Int))),.au,.pk,.au,.au,.au,.ix 0 (encB x),.au,.au,.au,.au,.au,.pk,.au] [2] [] hS mixed hE ⟨PX.con_any (con_f84 c.params 4),fun hg=>⟨PX.nm_len (by simp),trivial⟩,fun hg=>⟨by omega,PX.map_get (hpos (fun q=>by rw [q] at hg; simp [SX.pv,SX.kv] at hg)),trivial⟩,trivial⟩ fun a w hS=>?_
 refine wp_ret ?_
 have e:P.rightHead c=(((P.within c.params 4)&&decide (0<(c.blocks.length:Int)))&&(x.params==c.params)):=by
  clear hS hE
  unfold P.rightHead
  rcases Nat.eq_zero_or_pos c.blocks.length with q | q
  ·simp [q]
  ·rw [show R.paramsAt c 0=x.params from params_at (i:=0) (hx q)]; simp
 rw [show (.sc (.bool (P.rightHead c)))=((.sc (.bool (((P.within c.params 4)&&decide (0<(c.blocks.length:Int)))&&(x.params==c.params)))):PX.PV) from by rw [e]]
 exact PX.rt hS hE (.inl rfl)

set_option maxHeartbeats 1000000 in
theorem con_f82 (l:List (Int × Int × Int)) (hl:l.length≤140737488351232):PX.Con Try.prog 82 [(.imm 3 (l.map encR))] [] 1 100000 (.sc (.bool (P.rightContexts l))) []:=by
 refine PX.con_intro [(.imm 3 (l.map encR))] 50 Try.func82 rfl rfl (by kernel_rfl) (by kernel_rfl) ?_
 intro E a hE hS
 generalize E.w0=w at hS ⊢
 have mix:=mixed
 refine PX.G [] [] 1 [] [] [.au] [0] [] hS hE trivial fun a w hS=>?_
 refine wp_seq_k fun K1 hK1=>?_
 obtain ⟨x,hx⟩:=get_ifR l 0; have hpos:=fun q:l.length≠0=>hx (Nat.pos_of_ne_zero q)
 refine PX.G [(.e 21 (.sc (.bool ((((l.length:Int)==0)||(x.1 != (-1)))||(x.2.1 != (-1))))))] [] 1 [.q ((.sc (.I (((l.map encR).length:Nat):Int)):PX.PV)=(.sc (.I (l.length:Int)))),.q (SX.pv [(3,((l.length:Int)==0)),(10,(((l.length:Int)==0)||(x.1 != (-1))))] [(3,false)]=true→PX.AllOb [.q (0=((0:Nat):Int)),.q ((l.map encR)[0]?=some (encR x))]),.q (SX.pv [(3,((l.length:Int)==0)),(10,(((l.length:Int)==0)||(x.1 != (-1))))] [(10,false)]=true→PX.AllOb [.q (0=((0:Nat):Int)),.q ((l.map encR)[0]?=some (encR x))])] [(3,((l.length:Int)==0)),(10,(((l.length:Int)==0)||(x.1 != (-1))))] [.au,.nm (.sc (.I (l.length:Int))),.au,.au,.au,.ix 0 (encR x),.au,.au,.au,.pk,.au,.au,.ix 0 (encR x),.au,.au,.au,.pk] [0,21] [] hS hE ⟨PX.nm_len (by simp),fun hg=>⟨by omega,PX.map_get (hpos (fun q=>by rw [q] at hg; simp [SX.pv,SX.kv] at hg)),trivial⟩,fun hg=>⟨by omega,PX.map_get (hpos (fun q=>by rw [q] at hg; simp [SX.pv,SX.kv] at hg)),trivial⟩,trivial⟩ fun a w hS=>?_
 refine PX.cond_s ((((l.length:Int)==0)||(x.1 != (-1)))||(x.2.1 != (-1))) hS (by kernel_rfl) (fun h2=>?_) (fun h2=>?_)
 ·skip
  refine PX.G [(.e 2 (.sc (.bool false)))] [] 1 [] [] [.au] [2] [] hS hE trivial fun a w hS=>?_
  refine wp_ret ?_
  have e:P.rightContexts l=false:=by
   clear hS hE
   unfold P.rightContexts
   rcases Nat.eq_zero_or_pos l.length with q | q
   ·rw [List.getElem?_eq_none (by omega)]
   ·rw [hx q]
    have hl1:((l.length:Int)==0)=false:=by rw [beq_eq_false_iff_ne]; omega
    rw [hl1,Bool.false_or] at h2
    simp only [h2,↓reduceIte]
  rw [show (.sc (.bool (P.rightContexts l)))=((.sc (.bool false)):PX.PV) from by rw [e]]
  exact PX.rt hS hE (.inl rfl)
 ·skip
  refine wp_skip ?_
  refine hK1 _ _ ?_
  refine wp_seq_k fun K3 hK3=>?_
  refine PX.G [(.e 22 (.imm 3 (l.map encR))),(.e 23 (.sc (.I (l.length:Int)))),(.e 24 (.J 0))] [] 1 [.q ((.sc (.I (((l.map encR).length:Nat):Int)):PX.PV)=(.sc (.I (l.length:Int))))] [] [.au,.nm (.sc (.I (l.length:Int))),.au] [22,23,24] [] hS hE ⟨PX.nm_len (by simp),trivial⟩ fun a w hS=>?_
  refine wp_block ?_
  refine wp_loop_ghost (fun m4 a' w'=>∃ k:Nat,m4=l.length-k∧k≤l.length∧Upto l P.ctx1 (k)∧PX.Sat E 50 [(.e 22 (.imm 3 (l.map encR))),(.e 23 (.sc (.I (l.length:Int)))),(.e 24 (.sc (.I (k:Int))))] [] 1 a' w') (l.length-0) ⟨0,rfl,Nat.zero_le _,Upto.zero,(PX.cn [] _ _ 1 hS hE)⟩ ?_
  clear hS; rintro m4 a w ⟨k,hm4,hlek,hIk,hS⟩
  refine PX.G [(.e 25 (.sc (.bool (decide ((k:Int)<(l.length:Int))))))] [] 1 [] [] [.au] [22,23,24,25] [] hS hE trivial fun a w hS=>?_
  refine wp_seq_k fun K5 hK5=>?_
  refine PX.cond_s (decide ((k:Int)<(l.length:Int))) hS (by kernel_rfl) (fun h6=>?_) (fun h6=>?_)
  ·skip
   refine wp_skip ?_
   refine hK5 _ _ ?_
   refine wp_seq_k fun K7 hK7=>?_
   refine wp_block ?_
   have hlty:k<l.length:=by simpa using h6
   obtain ⟨y,hy⟩:=get_of_lt hlty
   refine PX.G [(.e 3 (.sc (.I (k:Int)))),(.e 4 (.ptr 1 0))] [(1,.box 99 [(.J y.1),(.J y.2.1),(.J y.2.2)])] 2 [.q ((k:Int)=(k:Int)),.q ((l.map encR)[k]?=some (encR y))] [] [.au,.ix k (encR y),.au,.au,.au,.au] [3,4,22,23,24] [1] hS hE ⟨rfl,PX.map_get hy,trivial⟩ fun a w hS=>?_
   refine wp_seq_k fun K8 hK8=>?_
   refine PX.G [(.e 32 (.sc (.bool (!(P.within y.2.2 7)))))] [] 2 [.q (PX.Con Try.prog 84 [(.J y.2.2),(.J 7)] [] 2 2 (.sc (.bool (P.within y.2.2 7))) [])] [] [.au,.au,.cl [] (.sc (.bool (P.within y.2.2 7))) [] 2,.au] [3,4,22,23,24,32] [1] hS hE ⟨PX.con_any (con_f84 y.2.2 7),trivial⟩ fun a w hS=>?_
   refine PX.cond_s (!(P.within y.2.2 7)) hS (by kernel_rfl) (fun h9=>?_) (fun h9=>?_)
   ·skip
    refine PX.G [(.e 2 (.sc (.bool false)))] [] 2 [] [] [.au] [2,22,23,24] [] hS hE trivial fun a w hS=>?_
    refine wp_ret ?_
    have e:P.rightContexts l=R.allAt l P.ctx1:=by
     clear hS hE
     have h1:=h2
     rw [Bool.or_eq_false_iff,Bool.or_eq_false_iff] at h1
     unfold P.rightContexts
     rw [hpos (fun q=>by rw [q] at h1; simp at h1)]
     simp only [h1.1.2,h1.2,Bool.or_false,Bool.false_eq_true,↓reduceIte]
    rw [show (.sc (.bool (P.rightContexts l)))=((.sc (.bool false)):PX.PV) from by rw [e,← allAt_no hy (p:=P.ctx1) (by rw [ctx1_eq,h9]; rfl)]]
    exact PX.rt hS hE (.inl rfl)
   ·skip
    refine wp_skip ?_
    refine hK8 _ _ ?_
    refine PX.G [(.e 48 (.sc (.bool (decide (0<(k:Int))&&((!(P.within y.1 ((k:Int)-1)))||(!(P.within y.2.1 9999)))))))] [] 2 [.q (SX.pv [(2,decide (0<(k:Int))),(9,(!(P.within y.1 ((k:Int)-1))))] [(2,true)]=true→PX.AllOb [.q ((.sc (.I (IntKind.i64.wrap ((k:Int)-1))):PX.PV)=(.sc (.I ((k:Int)-1))))]),.q (SX.pv [(2,decide (0<(k:Int))),(9,(!(P.within y.1 ((k:Int)-1))))] [(2,true)]=true→PX.AllOb [.q (PX.Con Try.prog 84 [(.J y.1),(.sc (.I ((k:Int)-1)))] [] 2 2 (.sc (.bool (P.within y.1 ((k:Int)-1)))) [])]),.q (SX.pv [(2,decide (0<(k:Int))),(9,(!(P.within y.1 ((k:Int)-1))))] [(9,false),(2,true)]=true→PX.AllOb [.q (PX.Con Try.prog 84 [(.J y.2.1),(.J 9999)] [] 2 2 (.sc (.bool (P.within y.2.1 9999))) [])])] [(2,decide (0<(k:Int))),(9,(!(P.within y.1 ((k:Int)-1))))] [.au,.au,.au,.au,.au,.au,.nm (.sc (.I ((k:Int)-1))),.cl [] (.sc (.bool (P.within y.1 ((k:Int)-1)))) [] 2,.au,.au,.au,.au,.cl [] (.sc (.bool (P.within y.2.1 9999))) [] 2,.au,.pk,.pk] [22,23,24,48] [] hS hE ⟨fun hg=>⟨PX.nm_int (by rw [IntWalk.i64_in _ (by omega)]),trivial⟩,fun hg=>⟨PX.con_any (con_f84 y.1 ((k:Int)-1)),trivial⟩,fun hg=>⟨PX.con_any (con_f84 y.2.1 9999),trivial⟩,trivial⟩ fun a w hS=>?_
    refine PX.cond_s (decide (0<(k:Int))&&((!(P.within y.1 ((k:Int)-1)))||(!(P.within y.2.1 9999)))) hS (by kernel_rfl) (fun h10=>?_) (fun h10=>?_)
    ·skip
     refine PX.G [(.e 2 (.sc (.bool false)))] [] 2 [] [] [.au] [2,22,23,24] [] hS hE trivial fun a w hS=>?_
     refine wp_ret ?_
     have e:P.rightContexts l=R.allAt l P.ctx1:=by
      clear hS hE
      have h1:=h2
      rw [Bool.or_eq_false_iff,Bool.or_eq_false_iff] at h1
      unfold P.rightContexts
      rw [hpos (fun q=>by rw [q] at h1; simp at h1)]
      simp only [h1.1.2,h1.2,Bool.or_false,Bool.false_eq_true,↓reduceIte]
     rw [show (.sc (.bool (P.rightContexts l)))=((.sc (.bool false)):PX.PV) from by rw [e,← allAt_no hy (p:=P.ctx1) (by rw [ctx1_eq,h9,h10]; rfl)]]
     exact PX.rt hS hE (.inl rfl)
    ·skip
     refine wp_skip ?_
     refine hK7 _ _ ?_
     refine PX.G0 [(.e 24 (.sc (.I ((k+1:Nat):Int))))] [] 2 [.q ((.sc (.I (IntKind.i64.wrap ((k:Int)+1))):PX.PV)=(.sc (.I ((k+1:Nat):Int))))] [] [.nm (.sc (.I ((k+1:Nat):Int))),.au] [22,23,24] [] hS hE ⟨PX.nm_int (by rw [IntWalk.i64_in _ (by omega)]; omega),trivial⟩ fun a w hS=>?_
     exact ⟨l.length-(k+1),by omega,k+1,rfl,by omega,hIk.step hy (by rw [ctx1_eq,h9,h10]; rfl),(PX.cn [] _ _ 1 hS hE)⟩
  ·skip
   refine wp_exit ?_
   refine hK3 _ _ ?_
   refine PX.G [(.e 2 (.sc (.bool true)))] [] 1 [] [] [.au] [2] [] hS hE trivial fun a w hS=>?_
   refine wp_ret ?_
   have e:P.rightContexts l=R.allAt l P.ctx1:=by
    clear hS hE
    have h1:=h2
    rw [Bool.or_eq_false_iff,Bool.or_eq_false_iff] at h1
    unfold P.rightContexts
    rw [hpos (fun q=>by rw [q] at h1; simp at h1)]
    simp only [h1.1.2,h1.2,Bool.or_false,Bool.false_eq_true,↓reduceIte]
   rw [show (.sc (.bool (P.rightContexts l)))=((.sc (.bool true)):PX.PV) from by rw [e,← hIk.allAt (le_of_dec h6)]]
   exact PX.rt hS hE (.inl rfl)

def key3 (x y:Int):Value:=.agg #[.I x,.I y,.I 0]
def KOk (es:Array MapEntry) (D:List (Int × Int)):Prop:=es.toList.map (fun e=>(e.key,e.val))=D.map (fun p=>(key3 p.1 p.2,Value.bool true))
theorem eq181_run (x y x' y':Int) (w:World):(Op.equal 181 (key3 x y) (key3 x' y')).run Try.prog w=.ok (x==x'&&y==y') w:=by
 unfold Op.equal key3
 rw [show Op.maxDepth=10000 from rfl]
 cases h1:(x==x') <;> cases h2:(y==y') <;> simp [go_sem,Try.underlying181,h1,h2]
theorem asking_run (x y:Int) (w:World):∀ (es:List MapEntry) (D:List (Int × Int)) (i:Nat),es.map (fun e=>(e.key,e.val))=D.map (fun p=>(key3 p.1 p.2,Value.bool true)) →
  ∃ r,(Instr.findAsking 181 (key3 x y) es i).run Try.prog w=.ok r w∧r.map (·.2)=(if D.contains (x,y) then some (Value.bool true) else none)
 | [],[],i,_=>⟨none,rfl,rfl⟩
 | [],p::D,i,h=>by simp at h
 | e::es,[],i,h=>by simp at h
 | e::es,p::D,i,h=>by
  simp only [List.map_cons,List.cons.injEq,Prod.mk.injEq] at h
  obtain ⟨⟨h1,h2⟩,h3⟩:=h
  unfold Instr.findAsking
  simp only [Sem.run_bind,h1,eq181_run,Result.andThen_ok]
  have hcon:(p::D).contains (x,y)=((x==p.1&&y==p.2)||D.contains (x,y)):=by
   rw [List.contains_cons]; rfl
  cases hx:(x==p.1&&y==p.2) with
  | true=>exact ⟨some (i,e.val),rfl,by rw [hcon,hx]; simp [h2]⟩
  | false =>
   obtain ⟨r,hr,hm⟩:=asking_run x y w es D (i+1) h3
   exact ⟨r,hr,by rw [hm,hcon,hx]; simp⟩
theorem findNow_struct (fs:Array Field) (k:Value) (es:List MapEntry) (i:Nat):Instr.findNow (.struct fs) k es i=match es with | []=>some none | _::_=>none:=by
 cases es with
 | nil=>rfl
 | cons e es=>simp [Instr.findNow,Instr.sameNow]
theorem findK_run {w:World} {es:List MapEntry} {D:List (Int × Int)} (x y:Int) (h:es.map (fun e=>(e.key,e.val))=D.map (fun p=>(key3 p.1 p.2,Value.bool true))) :
  ∃ r,(Instr.findKey 181 (key3 x y) es).run Try.prog w=.ok r w∧r.map (·.2)=(if D.contains (x,y) then some (Value.bool true) else none):=by
 unfold Instr.findKey
 have hu:∃ fs,(underlying 181).run Try.prog w=.ok (.struct fs) w:=⟨(match Try.prog.underlying 181 with | some (.struct fs)=>fs | _=>#[]),by kernel_rfl⟩
 obtain ⟨fs,hu⟩:=hu
 simp only [Sem.run_bind,hu,Result.andThen_ok,findNow_struct]
 cases es with
 | nil =>
  cases D with
  | nil=>exact ⟨none,rfl,rfl⟩
  | cons p D=>simp at h
 | cons e es=>exact asking_run x y w (e::es) D 0 h
theorem look_K {es:Array MapEntry} {cl:Nat} {D:List (Int × Int)} (h:KOk es D) (x y:Int):PX.LookIs Try.prog 179 es cl (.agg #[.I x,.I y,.I 0]) false (.bool (D.contains (x,y))):=fun w b h1=>by
 obtain ⟨r,hr,hm⟩:=findK_run (w:=w) (es:=es.toList) x y h
 unfold Instr.lookup
 have hu:(underlying 179).run Try.prog w=.ok (.map 181 4) w:=by kernel_rfl
 have hz:(zeroValue 4).run Try.prog w=.ok (.bool false) w:=by kernel_rfl
 have hg:(getObj b).run Try.prog w=.ok (.map es cl) w:=by simp [getObj,Sem.run,h1]
 have hc:∀ e,(Instr.checkKey e 10000 181 (.agg #[.I x,.I y,.I 0])).run Try.prog w=.ok () w:=fun e=>by kernel_rfl
 unfold key3 at hr
 simp only [Sem.run_bind,hu,Result.andThen_ok,hg,hc,hr,Sem.run_pure]
 cases hcon:D.contains (x,y) with
 | true =>
  rw [hcon] at hm
  obtain ⟨p,rfl,hp⟩:=Option.map_eq_some_iff.1 hm
  obtain ⟨i,v⟩:=p
  simp at hp; subst hp; simp
 | false =>
  rw [hcon] at hm
  obtain rfl:r=none:=by simpa using hm
  simp [hz,Result.andThen]
theorem upd_K {es:Array MapEntry} {cl:Nat} {D:List (Int × Int)} (h:KOk es D) (x y:Int) (hx:D.contains (x,y)=false):∃ es1 cl1,PX.MapUpd Try.prog 179 es cl (.agg #[.I x,.I y,.I 0]) (.bool true) es1 cl1∧KOk es1 (D++[(x,y)]):=by
 refine ⟨es.push { key:=.agg #[.I x,.I y,.I 0],val:=.bool true,born:=cl },cl+1,fun w b h1=>?_,by unfold KOk at h ⊢; simp [h,key3]⟩
 obtain ⟨r,hr,hm⟩:=findK_run (w:=w) (es:=es.toList) x y h
 rw [hx] at hm
 have hrn:r=none:=by simpa using hm
 subst hrn
 have hu:(underlying 179).run Try.prog w=.ok (.map 181 4) w:=by kernel_rfl
 have hg:(getObj b).run Try.prog w=.ok (.map es cl) w:=by simp [getObj,Sem.run,h1]
 have hc:∀ e,(Instr.checkKey e 10000 181 (.agg #[.I x,.I y,.I 0])).run Try.prog w=.ok () w:=fun e=>by kernel_rfl
 have hs:∀ ob,(setObj b ob).run Try.prog w=.ok () (SX.setBlk w b ob):=fun ob=>by simp [setObj,Sem.run,h1,SX.setBlk]
 unfold key3 at hr
 refine ⟨SX.setBlk w b (.map (es.push { key:=.agg #[.I x,.I y,.I 0],val:=.bool true,born:=cl }) (cl+1)),?_,?_,⟨rfl,rfl,rfl,by simp [SX.setBlk],fun j _ hj=>?_⟩⟩
 ·unfold Instr.mapUpdate
  simp only [Sem.run_bind,hu,Result.andThen_ok,hg,hc,hr,Sem.run_pure,hs]
 ·simp [SX.setBlk,(Array.getElem?_eq_some_iff.1 h1).1]
 ·simp only [SX.setBlk,Array.getElem?_setIfInBounds]
  rw [if_neg (fun e=>hj e.symm)]

set_option maxHeartbeats 1000000 in
theorem con_f83 (c:CodeD) (hL:c.contexts.length≤64∧c.objects.length≤64):PX.Con Try.prog 83 [(codeP c)] [] 1 100000 (.sc (.bool (P.rightObjects c.contexts.length [] c.objects))) []:=by
 refine PX.con_intro [(codeP c)] 52 Try.func83 rfl rfl (by kernel_rfl) (by kernel_rfl) ?_
 intro E a hE hS
 generalize E.w0=w at hS ⊢
 have mix:=mixed
 refine PX.G [(.e 1 (.ptr 1 0))] [(1,.box 26 (codeL c))] 2 [] [] [.au,.au] [1] [1] hS hE trivial fun a w hS=>?_
 refine PX.G [(.e 3 (.map 2))] [(2,.rmap (#[]) 0)] 3 [] [] [.mm,.au] [1,3] [1,2] hS hE trivial fun a w hS=>?_
 refine wp_seq_k fun K1 hK1=>?_
 refine PX.G [(.e 9 (.imm 3 (c.objects.map encR))),(.e 10 (.sc (.I (c.objects.length:Int)))),(.e 11 (.J 0))] [] 3 [.q ((.sc (.I (((c.objects.map encR).length:Nat):Int)):PX.PV)=(.sc (.I (c.objects.length:Int))))] [] [.au,.au,.nm (.sc (.I (c.objects.length:Int))),.au] [1,3,9,10,11] [1,2] hS hE ⟨PX.nm_len (by simp),trivial⟩ fun a w hS=>?_
 refine wp_block ?_
 refine wp_loop_ghost (fun m2 a' w'=>∃ k:Nat,∃ (es:Array MapEntry) (cl:Nat),m2=c.objects.length-k∧k≤c.objects.length∧(KOk es ((c.objects.take (k)).map (fun y=>(y.1,y.2.1)))∧Upto c.objects (objAt c.contexts.length c.objects) (k))∧PX.Sat E 52 [(.e 1 (.ptr 1 0)),(.e 3 (.map 2)),(.e 9 (.imm 3 (c.objects.map encR))),(.e 10 (.sc (.I (c.objects.length:Int)))),(.e 11 (.sc (.I (k:Int))))] [(1,.box 26 (codeL c)),(2,.rmap es cl)] 3 a' w') (c.objects.length-0) ⟨0,#[],0,rfl,Nat.zero_le _,⟨rfl,Upto.zero⟩,(PX.cn [] _ _ 3 hS hE)⟩ ?_
 clear hS; rintro m2 a w ⟨k,es,cl,hm2,hlek,hIk,hS⟩
 refine PX.G [(.e 12 (.sc (.bool (decide ((k:Int)<(c.objects.length:Int))))))] [] 3 [] [] [.au] [1,3,9,10,11,12] [1,2] hS hE trivial fun a w hS=>?_
 refine wp_seq_k fun K3 hK3=>?_
 refine PX.cond_s (decide ((k:Int)<(c.objects.length:Int))) hS (by kernel_rfl) (fun h4=>?_) (fun h4=>?_)
 ·skip
  refine wp_skip ?_
  refine hK3 _ _ ?_
  refine wp_seq_k fun K5 hK5=>?_
  refine wp_block ?_
  have hlty:k<c.objects.length:=by simpa using h4
  obtain ⟨y,hy⟩:=get_of_lt hlty
  refine PX.G [(.e 5 (.ptr 3 0))] [(3,.box 102 [(.J y.1),(.J y.2.1),(.J y.2.2)])] 4 [.q ((k:Int)=(k:Int)),.q ((c.objects.map encR)[k]?=some (encR y))] [] [.ix k (encR y),.au,.au,.au] [1,3,5,9,10,11] [1,2,3] hS hE ⟨rfl,PX.map_get hy,trivial⟩ fun a w hS=>?_
  refine PX.G [(.e 6 (.ptr 4 0))] [(4,.box 181 [(.J y.1),(.J y.2.1),(.J 0)])] 5 [] [] [.au,.au,.au,.au,.au,.au,.au] [1,3,5,6,9,10,11] [1,2,3,4] hS hE trivial fun a w hS=>?_
  refine wp_seq_k fun K6 hK6=>?_
  refine PX.G [(.e 48 (.sc (.bool (((((!(P.within y.1 ((c.contexts.length:Int)-1)))||(!(P.within y.2.1 23)))||decide (y.2.2<1))||decide (8<y.2.2))||(((c.objects.take (k)).map (fun y=>(y.1,y.2.1))).contains (y.1,y.2.1))))))] [] 5 [.q ((.sc (.I (((c.contexts.map encR).length:Nat):Int)):PX.PV)=(.sc (.I (c.contexts.length:Int)))),.q ((.sc (.I (IntKind.i64.wrap ((c.contexts.length:Int)-1))):PX.PV)=(.sc (.I ((c.contexts.length:Int)-1)))),.q (PX.Con Try.prog 84 [(.J y.1),(.sc (.I ((c.contexts.length:Int)-1)))] [] 5 5 (.sc (.bool (P.within y.1 ((c.contexts.length:Int)-1)))) []),.q (SX.pv [(8,(!(P.within y.1 ((c.contexts.length:Int)-1)))),(14,((!(P.within y.1 ((c.contexts.length:Int)-1)))||(!(P.within y.2.1 23)))),(19,(((!(P.within y.1 ((c.contexts.length:Int)-1)))||(!(P.within y.2.1 23)))||decide (y.2.2<1))),(24,((((!(P.within y.1 ((c.contexts.length:Int)-1)))||(!(P.within y.2.1 23)))||decide (y.2.2<1))||decide (8<y.2.2)))] [(8,false)]=true→PX.AllOb [.q (PX.Con Try.prog 84 [(.J y.2.1),(.J 23)] [] 5 5 (.sc (.bool (P.within y.2.1 23))) [])]),.q (SX.pv [(8,(!(P.within y.1 ((c.contexts.length:Int)-1)))),(14,((!(P.within y.1 ((c.contexts.length:Int)-1)))||(!(P.within y.2.1 23)))),(19,(((!(P.within y.1 ((c.contexts.length:Int)-1)))||(!(P.within y.2.1 23)))||decide (y.2.2<1))),(24,((((!(P.within y.1 ((c.contexts.length:Int)-1)))||(!(P.within y.2.1 23)))||decide (y.2.2<1))||decide (8<y.2.2)))] [(24,false)]=true→PX.AllOb [.q (PX.LookIs Try.prog 179 es cl (.agg #[.I y.1,.I y.2.1,.I 0]) false (.bool (((c.objects.take (k)).map (fun y=>(y.1,y.2.1))).contains (y.1,y.2.1))))])] [(8,(!(P.within y.1 ((c.contexts.length:Int)-1)))),(14,((!(P.within y.1 ((c.contexts.length:Int)-1)))||(!(P.within y.2.1 23)))),(19,(((!(P.within y.1 ((c.contexts.length:Int)-1)))||(!(P.within y.2.1 23)))||decide (y.2.2<1))),(24,((((!(P.within y.1 ((c.contexts.length:Int)-1)))||(!(P.within y.2.1 23)))||decide (y.2.2<1))||decide (8<y.2.2)))] [.au,.au,.au,.au,.nm (.sc (.I (c.contexts.length:Int))),.nm (.sc (.I ((c.contexts.length:Int)-1))),.cl [] (.sc (.bool (P.within y.1 ((c.contexts.length:Int)-1)))) [] 5,.au,.au,.au,.au,.cl [] (.sc (.bool (P.within y.2.1 23))) [] 5,.au,.pk,.au,.au,.au,.au,.pk,.au,.au,.au,.au,.pk,.au,.au,.au,.bs (.bool (((c.objects.take (k)).map (fun y=>(y.1,y.2.1))).contains (y.1,y.2.1))),.pk] [1,3,6,9,10,11,48] [1,2,4] hS hE ⟨PX.nm_len (by simp),PX.nm_int (by rw [IntWalk.i64_in _ (by omega)]),PX.con_any (con_f84 y.1 ((c.contexts.length:Int)-1)),fun hg=>⟨PX.con_any (con_f84 y.2.1 23),trivial⟩,fun hg=>⟨look_K hIk.1 y.1 y.2.1,trivial⟩,trivial⟩ fun a w hS=>?_
  refine PX.cond_s (((((!(P.within y.1 ((c.contexts.length:Int)-1)))||(!(P.within y.2.1 23)))||decide (y.2.2<1))||decide (8<y.2.2))||(((c.objects.take (k)).map (fun y=>(y.1,y.2.1))).contains (y.1,y.2.1))) hS (by kernel_rfl) (fun h7=>?_) (fun h7=>?_)
  ·skip
   refine PX.G [(.e 2 (.sc (.bool false)))] [] 5 [] [] [.au] [1,2,3,9,10,11] [1,2] hS hE trivial fun a w hS=>?_
   refine wp_ret ?_
   have hq:objAt c.contexts.length c.objects k y=false:=by have:=h7; rw [objAt_eq] at this; simpa using this
   rw [show (.sc (.bool (P.rightObjects c.contexts.length [] c.objects)))=((.sc (.bool false)):PX.PV) from by rw [← objs_eq,show R.objs c.contexts.length c.objects=R.allAt c.objects (objAt c.contexts.length c.objects) from rfl,← allAt_no hy (p:=objAt c.contexts.length c.objects) hq]]
   exact PX.rt hS hE (.inl rfl)
  ·skip
   refine wp_skip ?_
   refine hK6 _ _ ?_
   obtain ⟨es1,cl1,hmu,hko⟩:=upd_K (cl:=cl) hIk.1 y.1 y.2.1 (by have:=h7; simp only [Bool.or_eq_false_iff] at this; exact this.2)
   refine PX.G0 [] [(2,.rmap es1 cl1)] 5 [.q (PX.MapUpd Try.prog 179 es cl (.agg #[.I y.1,.I y.2.1,.I 0]) (.bool true) es1 cl1)] [] [.au,.au,.mu es1 cl1] [1,3,9,10,11] [1,2] hS hE ⟨hmu,trivial⟩ fun a w hS=>?_
   refine hK5 _ _ ?_
   refine PX.G0 [(.e 11 (.sc (.I ((k+1:Nat):Int))))] [] 5 [.q ((.sc (.I (IntKind.i64.wrap ((k:Int)+1))):PX.PV)=(.sc (.I ((k+1:Nat):Int))))] [] [.nm (.sc (.I ((k+1:Nat):Int))),.au] [1,3,9,10,11] [1,2] hS hE ⟨PX.nm_int (by rw [IntWalk.i64_in _ (by omega)]; omega),trivial⟩ fun a w hS=>?_
   exact ⟨c.objects.length-(k+1),by omega,k+1,es1,cl1,rfl,by omega,⟨by rw [tmap_step hy]; exact hko,hIk.2.step hy (by have:=h7; rw [objAt_eq] at this; simpa using this)⟩,(PX.cn [] _ _ 3 hS hE)⟩
 ·skip
  refine wp_exit ?_
  refine hK1 _ _ ?_
  refine PX.G [(.e 2 (.sc (.bool true)))] [] 3 [] [] [.au] [2] [] hS hE trivial fun a w hS=>?_
  refine wp_ret ?_
  rw [show (.sc (.bool (P.rightObjects c.contexts.length [] c.objects)))=((.sc (.bool true)):PX.PV) from by rw [← objs_eq,show R.objs c.contexts.length c.objects=R.allAt c.objects (objAt c.contexts.length c.objects) from rfl,← hIk.2.allAt (le_of_dec h4)]]
  exact PX.rt hS hE (.inl rfl)

set_option maxHeartbeats 2000000 in
theorem con_f46 (c:CodeD) (hl:CodeL c):PX.Con Try.prog 46 [(codeP c)] [] 1 100000 (.sc (.I (P.check c (totW c.blocks)))) []:=by
 refine PX.con_intro [(codeP c)] 81 Try.func46 rfl rfl (by kernel_rfl) (by kernel_rfl) ?_
 intro E a hE hS
 generalize E.w0=w at hS ⊢
 have mix:=mixed; have hlb:=hl.blocks; have hlc:=hl.ctx; have hlo:=hl.obj
 refine PX.G [(.e 1 (.ptr 1 0))] [(1,.box 26 (codeL c))] 2 [] [] [.au,.au] [1] [1] hS hE trivial fun a w hS=>?_
 refine PX.G [(.e 3 (.J 0))] [] 2 [] [] [.au] [1,3] [1] hS hE trivial fun a w hS=>?_
 refine wp_seq_k fun K1 hK1=>?_
 refine PX.G [(.e 11 (.imm 10 (c.blocks.map encB))),(.e 12 (.sc (.I (c.blocks.length:Int)))),(.e 13 (.J 0))] [] 2 [.q ((.sc (.I (((c.blocks.map encB).length:Nat):Int)):PX.PV)=(.sc (.I (c.blocks.length:Int))))] [] [.au,.au,.nm (.sc (.I (c.blocks.length:Int))),.au] [1,3,11,12,13] [1] hS hE ⟨PX.nm_len (by simp),trivial⟩ fun a w hS=>?_
 refine wp_block ?_
 refine wp_loop_ghost (fun m2 a' w'=>∃ k:Nat,m2=c.blocks.length-k∧k≤c.blocks.length∧True∧PX.Sat E 81 [(.e 1 (.ptr 1 0)),(.e 3 (.sc (.I (totW (c.blocks.take (k)))))),(.e 11 (.imm 10 (c.blocks.map encB))),(.e 12 (.sc (.I (c.blocks.length:Int)))),(.e 13 (.sc (.I (k:Int))))] [(1,.box 26 (codeL c))] 2 a' w') (c.blocks.length-0) ⟨0,rfl,Nat.zero_le _,trivial,(PX.cn [] _ _ 2 hS hE)⟩ ?_
 clear hS; rintro m2 a w ⟨k,hm2,hlek,hIk,hS⟩
 refine PX.G [(.e 14 (.sc (.bool (decide ((k:Int)<(c.blocks.length:Int))))))] [] 2 [] [] [.au] [1,3,11,12,13,14] [1] hS hE trivial fun a w hS=>?_
 refine wp_seq_k fun K3 hK3=>?_
 refine PX.cond_s (decide ((k:Int)<(c.blocks.length:Int))) hS (by kernel_rfl) (fun h4=>?_) (fun h4=>?_)
 ·skip
  refine wp_skip ?_
  refine hK3 _ _ ?_
  refine wp_seq_k fun K5 hK5=>?_
  refine wp_block ?_
  have hlty:k<c.blocks.length:=by simpa using h4
  obtain ⟨y,hy⟩:=get_of_lt hlty
  refine PX.G [(.e 5 (.ptr 2 0))] [(2,.box 62 (encB y))] 3 [.q ((k:Int)=(k:Int)),.q ((c.blocks.map encB)[k]?=some (encB y))] [] [.ix k (encB y),.au,.au,.au] [1,3,5,11,12,13] [1,2] hS hE ⟨rfl,PX.map_get hy,trivial⟩ fun a w hS=>?_
  refine PX.G0 [(.e 3 (.sc (.I (totW (c.blocks.take (k+1))))))] [] 3 [.q ((.sc (.I (((y.ops.map encO).length:Nat):Int)):PX.PV)=(.sc (.I (y.ops.length:Int)))),.q ((.sc (.I (IntKind.i64.wrap ((totW (c.blocks.take (k)))+(y.ops.length:Int)))):PX.PV)=(.sc (.I (totW (c.blocks.take (k+1))))))] [] [.au,.au,.au,.nm (.sc (.I (y.ops.length:Int))),.nm (.sc (.I (totW (c.blocks.take (k+1))))),.au] [1,3,11,12,13] [1] hS hE ⟨PX.nm_len (by simp),PX.nm_int (by rw [totW_step hy]),trivial⟩ fun a w hS=>?_
  refine hK5 _ _ ?_
  refine PX.G0 [(.e 13 (.sc (.I ((k+1:Nat):Int))))] [] 3 [.q ((.sc (.I (IntKind.i64.wrap ((k:Int)+1))):PX.PV)=(.sc (.I ((k+1:Nat):Int))))] [] [.nm (.sc (.I ((k+1:Nat):Int))),.au] [1,3,11,12,13] [1] hS hE ⟨PX.nm_int (by rw [IntWalk.i64_in _ (by omega)]; omega),trivial⟩ fun a w hS=>?_
  exact ⟨c.blocks.length-(k+1),by omega,k+1,rfl,by omega,trivial,(PX.cn [] _ _ 2 hS hE)⟩
 ·skip
  refine wp_exit ?_
  refine hK1 _ _ ?_
  refine wp_seq_k fun K6 hK6=>?_
  rw [show totW (c.blocks.take (k))=totW c.blocks from totW_all (le_of_dec h4)] at hS
  refine PX.G [(.e 42 (.sc (.bool (((decide (400<(c.blocks.length:Int))||decide (6000<(totW c.blocks)))||decide (64<(c.contexts.length:Int)))||decide (64<(c.objects.length:Int))))))] [] 2 [.q ((.sc (.I (((c.blocks.map encB).length:Nat):Int)):PX.PV)=(.sc (.I (c.blocks.length:Int)))),.q (SX.pv [(4,decide (400<(c.blocks.length:Int))),(8,(decide (400<(c.blocks.length:Int))||decide (6000<(totW c.blocks)))),(14,((decide (400<(c.blocks.length:Int))||decide (6000<(totW c.blocks)))||decide (64<(c.contexts.length:Int))))] [(8,false)]=true→PX.AllOb [.q ((.sc (.I (((c.contexts.map encR).length:Nat):Int)):PX.PV)=(.sc (.I (c.contexts.length:Int))))]),.q (SX.pv [(4,decide (400<(c.blocks.length:Int))),(8,(decide (400<(c.blocks.length:Int))||decide (6000<(totW c.blocks)))),(14,((decide (400<(c.blocks.length:Int))||decide (6000<(totW c.blocks)))||decide (64<(c.contexts.length:Int))))] [(14,false)]=true→PX.AllOb [.q ((.sc (.I (((c.objects.map encR).length:Nat):Int)):PX.PV)=(.sc (.I (c.objects.length:Int))))])] [(4,decide (400<(c.blocks.length:Int))),(8,(decide (400<(c.blocks.length:Int))||decide (6000<(totW c.blocks)))),(14,((decide (400<(c.blocks.length:Int))||decide (6000<(totW c.blocks)))||decide (64<(c.contexts.length:Int))))] [.au,.au,.nm (.sc (.I (c.blocks.length:Int))),.au,.au,.au,.au,.pk,.au,.au,.au,.nm (.sc (.I (c.contexts.length:Int))),.au,.pk,.au,.au,.au,.nm (.sc (.I (c.objects.length:Int))),.au,.pk] [1,42] [1] hS hE ⟨PX.nm_len (by simp),fun hg=>⟨PX.nm_len (by simp),trivial⟩,fun hg=>⟨PX.nm_len (by simp),trivial⟩,trivial⟩ fun a w hS=>?_
  refine PX.cond_s (((decide (400<(c.blocks.length:Int))||decide (6000<(totW c.blocks)))||decide (64<(c.contexts.length:Int)))||decide (64<(c.objects.length:Int))) hS (by kernel_rfl) (fun h7=>?_) (fun h7=>?_)
  ·skip
   refine PX.G [(.e 2 (.J 5))] [] 2 [] [] [.au] [2] [] hS hE trivial fun a w hS=>?_
   refine wp_ret ?_
   rw [show (.sc (.I (P.check c (totW c.blocks))))=((.J 5):PX.PV) from by unfold P.check; rw [lim_eq]; simp only [h7,Bool.not_true,Bool.not_false,Bool.false_eq_true,↓reduceIte]]
   exact PX.rt hS hE (.inl rfl)
  ·skip
   refine wp_skip ?_
   refine hK6 _ _ ?_
   refine wp_seq_k fun K8 hK8=>?_
   have hL:c.contexts.length≤64∧c.objects.length≤64:=by have:=h7; simp only [Bool.or_eq_false_iff,decide_eq_false_iff_not] at this; omega
   refine PX.G [(.e 56 (.sc (.bool (((!(P.rightHead c))||(!(P.rightContexts c.contexts)))||(!(P.rightObjects c.contexts.length [] c.objects))))))] [] 2 [.q (PX.Con Try.prog 81 [(codeP c)] [] 2 2 (.sc (.bool (P.rightHead c))) []),.q (SX.pv [(3,(!(P.rightHead c))),(9,((!(P.rightHead c))||(!(P.rightContexts c.contexts))))] [(3,false)]=true→PX.AllOb [.q (PX.Con Try.prog 82 [(.imm 3 (c.contexts.map encR))] [] 2 2 (.sc (.bool (P.rightContexts c.contexts))) [])]),.q (SX.pv [(3,(!(P.rightHead c))),(9,((!(P.rightHead c))||(!(P.rightContexts c.contexts))))] [(9,false)]=true→PX.AllOb [.q (PX.Con Try.prog 83 [(codeP c)] [] 2 2 (.sc (.bool (P.rightObjects c.contexts.length [] c.objects))) [])])] [(3,(!(P.rightHead c))),(9,((!(P.rightHead c))||(!(P.rightContexts c.contexts))))] [.au,.cl [] (.sc (.bool (P.rightHead c))) [] 2,.au,.au,.au,.au,.cl [] (.sc (.bool (P.rightContexts c.contexts))) [] 2,.au,.pk,.au,.au,.cl [] (.sc (.bool (P.rightObjects c.contexts.length [] c.objects))) [] 2,.au,.pk] [1,56] [1] hS hE ⟨PX.con_any (con_f81 c),fun hg=>⟨PX.con_any (con_f82 c.contexts (by omega)),trivial⟩,fun hg=>⟨PX.con_any (con_f83 c hL),trivial⟩,trivial⟩ fun a w hS=>?_
   refine PX.cond_s (((!(P.rightHead c))||(!(P.rightContexts c.contexts)))||(!(P.rightObjects c.contexts.length [] c.objects))) hS (by kernel_rfl) (fun h9=>?_) (fun h9=>?_)
   ·skip
    refine PX.G [(.e 2 (.J 4))] [] 2 [] [] [.au] [2] [] hS hE trivial fun a w hS=>?_
    refine wp_ret ?_
    rw [show (.sc (.I (P.check c (totW c.blocks))))=((.J 4):PX.PV) from by unfold P.check; rw [lim_eq]; simp only [h7,h9,Bool.not_true,Bool.not_false,Bool.false_eq_true,↓reduceIte]]
    exact PX.rt hS hE (.inl rfl)
   ·skip
    refine wp_skip ?_
    refine hK8 _ _ ?_
    refine wp_seq_k fun K10 hK10=>?_
    refine PX.G [(.e 58 (.imm 10 (c.blocks.map encB))),(.e 59 (.sc (.I (c.blocks.length:Int)))),(.e 60 (.J 0))] [] 2 [.q ((.sc (.I (((c.blocks.map encB).length:Nat):Int)):PX.PV)=(.sc (.I (c.blocks.length:Int))))] [] [.au,.au,.nm (.sc (.I (c.blocks.length:Int))),.au] [1,58,59,60] [1] hS hE ⟨PX.nm_len (by simp),trivial⟩ fun a w hS=>?_
    refine wp_block ?_
    refine wp_loop_ghost (fun m11 a' w'=>∃ j:Nat,m11=c.blocks.length-j∧j≤c.blocks.length∧Upto c.blocks (fun _ b=>P.within b.params 999) (j)∧PX.Sat E 81 [(.e 1 (.ptr 1 0)),(.e 58 (.imm 10 (c.blocks.map encB))),(.e 59 (.sc (.I (c.blocks.length:Int)))),(.e 60 (.sc (.I (j:Int))))] [(1,.box 26 (codeL c))] 2 a' w') (c.blocks.length-0) ⟨0,rfl,Nat.zero_le _,Upto.zero,(PX.cn [] _ _ 2 hS hE)⟩ ?_
    clear hS; rintro m11 a w ⟨j,hm11,hlej,hIj,hS⟩
    refine PX.G [(.e 61 (.sc (.bool (decide ((j:Int)<(c.blocks.length:Int))))))] [] 2 [] [] [.au] [1,58,59,60,61] [1] hS hE trivial fun a w hS=>?_
    refine wp_seq_k fun K12 hK12=>?_
    refine PX.cond_s (decide ((j:Int)<(c.blocks.length:Int))) hS (by kernel_rfl) (fun h13=>?_) (fun h13=>?_)
    ·skip
     refine wp_skip ?_
     refine hK12 _ _ ?_
     refine wp_seq_k fun K14 hK14=>?_
     refine wp_block ?_
     have hltzj:j<c.blocks.length:=by simpa using h13
     obtain ⟨zj,hzj⟩:=get_of_lt hltzj
     have hj:=hzj
     refine PX.G [(.e 7 (.ptr 2 0))] [(2,.box 62 (encB zj))] 3 [.q ((j:Int)=(j:Int)),.q ((c.blocks.map encB)[j]?=some (encB zj))] [] [.ix j (encB zj),.au,.au,.au] [1,7,58,59,60] [1,2] hS hE ⟨rfl,PX.map_get hj,trivial⟩ fun a w hS=>?_
     refine PX.G [(.e 67 (.sc (.bool (!(P.within zj.params 999)))))] [] 3 [.q (PX.Con Try.prog 84 [(.J zj.params),(.J 999)] [] 3 3 (.sc (.bool (P.within zj.params 999))) [])] [] [.au,.au,.cl [] (.sc (.bool (P.within zj.params 999))) [] 3,.au] [1,58,59,60,67] [1] hS hE ⟨PX.con_any (con_f84 zj.params 999),trivial⟩ fun a w hS=>?_
     refine PX.cond_s (!(P.within zj.params 999)) hS (by kernel_rfl) (fun h15=>?_) (fun h15=>?_)
     ·skip
      refine PX.G [(.e 2 (.J 4))] [] 3 [] [] [.au] [1,2,58,59,60] [1] hS hE trivial fun a w hS=>?_
      refine wp_ret ?_
      rw [show (.sc (.I (P.check c (totW c.blocks))))=((.J 4):PX.PV) from by unfold P.check; rw [lim_eq]; simp only [h7,h9,← all_no hj (p:=fun b=>P.within b.params 999) (by simpa using h15),Bool.not_true,Bool.not_false,Bool.false_eq_true,↓reduceIte]]
      exact PX.rt hS hE (.inl rfl)
     ·skip
      refine wp_skip ?_
      refine hK14 _ _ ?_
      refine PX.G0 [(.e 60 (.sc (.I ((j+1:Nat):Int))))] [] 3 [.q ((.sc (.I (IntKind.i64.wrap ((j:Int)+1))):PX.PV)=(.sc (.I ((j+1:Nat):Int))))] [] [.nm (.sc (.I ((j+1:Nat):Int))),.au] [1,58,59,60] [1] hS hE ⟨PX.nm_int (by rw [IntWalk.i64_in _ (by omega)]; omega),trivial⟩ fun a w hS=>?_
      exact ⟨c.blocks.length-(j+1),by omega,j+1,rfl,by omega,hIj.step hj (by simpa using h15),(PX.cn [] _ _ 2 hS hE)⟩
    ·skip
     refine wp_exit ?_
     refine hK10 _ _ ?_
     refine wp_seq_k fun K16 hK16=>?_
     have hw9:=hIj.all (le_of_dec h13)
     have hall:∀ y∈c.blocks,0≤y.params∧y.params≤999:=fun y hy=>by have:=List.all_eq_true.1 hw9.symm y hy; unfold P.within at this; simpa using this
     have hcp:0≤c.params∧c.params≤4:=by have:=h9; simp only [Bool.or_eq_false_iff,Bool.not_eq_false'] at this; have:=this.1.1; unfold P.rightHead P.within at this; simp only [Bool.and_eq_true,decide_eq_true_eq] at this; exact this.1.1
     refine PX.G [(.e 70 (.imm 10 (c.blocks.map encB))),(.e 71 (.sc (.I (c.blocks.length:Int)))),(.e 72 (.J 0))] [] 2 [.q ((.sc (.I (((c.blocks.map encB).length:Nat):Int)):PX.PV)=(.sc (.I (c.blocks.length:Int))))] [] [.au,.au,.nm (.sc (.I (c.blocks.length:Int))),.au] [1,70,71,72] [1] hS hE ⟨PX.nm_len (by simp),trivial⟩ fun a w hS=>?_
     refine wp_block ?_
     refine wp_loop_ghost (fun m17 a' w'=>∃ m:Nat,m17=c.blocks.length-m∧m≤c.blocks.length∧Upto c.blocks (fun _ b=>P.rightBlock c b) (m)∧PX.Sat E 81 [(.e 1 (.ptr 1 0)),(.e 70 (.imm 10 (c.blocks.map encB))),(.e 71 (.sc (.I (c.blocks.length:Int)))),(.e 72 (.sc (.I (m:Int))))] [(1,.box 26 (codeL c))] 2 a' w') (c.blocks.length-0) ⟨0,rfl,Nat.zero_le _,Upto.zero,(PX.cn [] _ _ 2 hS hE)⟩ ?_
     clear hS; rintro m17 a w ⟨m,hm17,hlem,hIm,hS⟩
     refine PX.G [(.e 73 (.sc (.bool (decide ((m:Int)<(c.blocks.length:Int))))))] [] 2 [] [] [.au] [1,70,71,72,73] [1] hS hE trivial fun a w hS=>?_
     refine wp_seq_k fun K18 hK18=>?_
     refine PX.cond_s (decide ((m:Int)<(c.blocks.length:Int))) hS (by kernel_rfl) (fun h19=>?_) (fun h19=>?_)
     ·skip
      refine wp_skip ?_
      refine hK18 _ _ ?_
      refine wp_seq_k fun K20 hK20=>?_
      refine wp_block ?_
      have hltzm:m<c.blocks.length:=by simpa using h19
      obtain ⟨zm,hzm⟩:=get_of_lt hltzm
      have hm:=hzm
      refine PX.G [(.e 9 (.ptr 2 0))] [(2,.box 62 (encB zm))] 3 [.q ((m:Int)=(m:Int)),.q ((c.blocks.map encB)[m]?=some (encB zm))] [] [.ix m (encB zm),.au,.au,.au] [1,9,70,71,72] [1,2] hS hE ⟨rfl,PX.map_get hm,trivial⟩ fun a w hS=>?_
      refine PX.G [(.e 79 (.sc (.bool (!(P.rightBlock c zm)))))] [] 3 [.q (PX.Con Try.prog 85 [(codeP c),(.agg (encB zm))] [] 3 3 (.sc (.bool (P.rightBlock c zm))) [])] [] [.au,.au,.cl [] (.sc (.bool (P.rightBlock c zm))) [] 3,.au] [1,70,71,72,79] [1] hS hE ⟨PX.con_any (con_f85 c zm (hl.blk zm (List.mem_of_getElem? hm)) (hall zm (List.mem_of_getElem? hm)) hcp hL),trivial⟩ fun a w hS=>?_
      refine PX.cond_s (!(P.rightBlock c zm)) hS (by kernel_rfl) (fun h21=>?_) (fun h21=>?_)
      ·skip
       refine PX.G [(.e 2 (.J 4))] [] 3 [] [] [.au] [1,2,70,71,72] [1] hS hE trivial fun a w hS=>?_
       refine wp_ret ?_
       rw [show (.sc (.I (P.check c (totW c.blocks))))=((.J 4):PX.PV) from by unfold P.check; rw [lim_eq]; simp only [h7,h9,← hw9,← all_no hm (by simpa using h21),Bool.not_true,Bool.not_false,Bool.false_eq_true,↓reduceIte]]
       exact PX.rt hS hE (.inl rfl)
      ·skip
       refine wp_skip ?_
       refine hK20 _ _ ?_
       refine PX.G0 [(.e 72 (.sc (.I ((m+1:Nat):Int))))] [] 3 [.q ((.sc (.I (IntKind.i64.wrap ((m:Int)+1))):PX.PV)=(.sc (.I ((m+1:Nat):Int))))] [] [.nm (.sc (.I ((m+1:Nat):Int))),.au] [1,70,71,72] [1] hS hE ⟨PX.nm_int (by rw [IntWalk.i64_in _ (by omega)]; omega),trivial⟩ fun a w hS=>?_
       exact ⟨c.blocks.length-(m+1),by omega,m+1,rfl,by omega,hIm.step hm (by simpa using h21),(PX.cn [] _ _ 2 hS hE)⟩
     ·skip
      refine wp_exit ?_
      refine hK16 _ _ ?_
      refine PX.G [(.e 2 (.J 0))] [] 2 [] [] [.au] [2] [] hS hE trivial fun a w hS=>?_
      refine wp_ret ?_
      rw [show (.sc (.I (P.check c (totW c.blocks))))=((.J 0):PX.PV) from by unfold P.check; rw [lim_eq]; simp only [h7,h9,← hw9,← hIm.all (le_of_dec h19),Bool.not_true,Bool.not_false,Bool.false_eq_true,↓reduceIte]]
      exact PX.rt hS hE (.inl rfl)
end Go.Proofs.Ytlkcidmmpeebeaa
