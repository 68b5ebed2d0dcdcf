/- Proved: alloc.Saved -/
import Derived.Test.YtlkcidmmpeebeaaPAlD
import Derived.Test.YtlkcidmmpeebeaaPcI
set_option linter.unusedVariables false
set_option linter.unusedSimpArgs false
namespace Go.Proofs.Ytlkcidmmpeebeaa
open Go.RowKit Go.PX
set_option maxRecDepth 100000
def addN (acc:List Int) (v:Int):List Int:=if acc.contains v=true then acc else acc++[v]
def savedD (t:TermD):List Int :=
 if t.kind=3 then (if 0≤t.b1 then t.args1.foldl addN (if 0≤t.b0 then t.args0.foldl addN [] else []) else (if 0≤t.b0 then t.args0.foldl addN [] else [])) else []
def bm (l:List Int):List (Int × Value):=l.map fun x=>(x,.bool true)
theorem look_bm:∀ (l:List Int) (y:Int),PX.PV.sc ((PX.findV (bm l) y).getD (.bool false))=.sc (.bool (l.contains y))
 | [],y=>rfl
 | x::l,y=>by
  have ih:=look_bm l y
  unfold PX.findV bm at ih ⊢
  rw [List.map_cons,List.find?_cons,List.contains_cons]
  cases h:(y==x) with
  | true=>simp
  | false=>simpa using ih
theorem upd_bm:∀ (l:List Int) (y:Int),l.contains y=false→PX.updV (bm l) y (.bool true)=bm (l++[y])
 | [],y,_=>rfl
 | x::l,y,h=>by
  rw [List.contains_cons,Bool.or_eq_false_iff] at h
  have ih:=upd_bm l y h.2
  unfold bm at ih ⊢
  rw [List.map_cons,PX.updV,List.cons_append,List.map_cons,← ih]
  simp only [h.1,cond_false]
theorem add_take {l A:List Int} {k:Nat} {y:Int} (hy:l[k]?=some y):(l.take (k+1)).foldl addN A=addN ((l.take k).foldl addN A) y:=by
 rw [List.take_add_one,hy]; simp [List.foldl_append]
theorem addN_new {A:List Int} {v:Int} (h:A.contains v=false):addN A v=A++[v]:=by unfold addN; rw [if_neg (by rw [h]; simp)]
theorem addN_old {A:List Int} {v:Int} (h:A.contains v=true):addN A v=A:=by unfold addN; rw [if_pos h]
theorem addN_len (A:List Int) (v:Int):(addN A v).length≤A.length+1:=by unfold addN; split <;> simp
theorem fold_addN_len:∀ (l A:List Int),(l.foldl addN A).length≤A.length+l.length
 | [],A=>by simp
 | x::l,A=>by
  have h1:=addN_len A x
  have h2:=fold_addN_len l (addN A x)
  rw [List.foldl_cons,List.length_cons]; omega
set_option maxHeartbeats 1000000 in
theorem con_f29 (b:BlockD) (hl:b.term.args0.length≤1000000∧b.term.args1.length≤1000000):PX.Con Try.prog 29 [(.agg (encB b))] [] 1 100000 (.imm 1 ((savedD b.term).map encI)) []:=by
 refine PX.con_intro [(.agg (encB b))] 43 Try.func29 rfl rfl (by kernel_rfl) (by kernel_rfl) ?_
 intro E a hE hS
 generalize E.w0=w at hS ⊢
 have mix:=mixed
 refine PX.G [(.e 1 (.ptr 1 0))] [(1,.box 62 (encB b))] 2 [] [] [.au,.au] [1] [1] hS hE trivial fun a w hS=>?_
 refine wp_seq_k fun K1 hK1=>?_
 refine PX.G [(.e 12 (.sc (.bool (b.term.kind != 3))))] [] 2 [] [] [.au,.au,.au,.au] [1,12] [1] hS hE trivial fun a w hS=>?_
 refine PX.cond_s (b.term.kind != 3) hS (by kernel_rfl) (fun h2=>?_) (fun h2=>?_)
 ·skip
  refine PX.G [(.e 2 (.sc (.slice none 0 0)))] [] 2 [] [] [.au] [2] [] hS hE trivial fun a w hS=>?_
  replace hS:=PX.sl [2] (PX.reslot (t:=2) (.own 2 1 0) (PX.newrow 3 1 hS (hE.le (by decide))) rfl (PX.nil_own 2 1))
  replace hS:=PX.fz 2 [(.e 2 (.imm 1 ([])))] [] [2] [] [.b (PX.lenIs 0 ([]))] hS ⟨(rfl),trivial⟩
  refine wp_ret ?_
  try simp only [Exit.then,Exit.inBlock,Nat.reduceEqDiff,↓reduceIte]
  rw [show (.imm 1 ((savedD b.term).map encI))=((.imm 1 ([])):PX.PV) from congrArg (fun l=>PX.PV.imm 1 (l.map encI)) (show savedD b.term=[] from by unfold savedD; rw [if_neg (show ¬ b.term.kind=3 by simpa using h2)])]
  exact PX.ret_s hS hE (by kernel_rfl) (by kernel_rfl) (by kernel_rfl) (.inl rfl)
 ·skip
  refine wp_skip ?_
  refine hK1 _ _ ?_
  refine PX.G [(.e 3 (.sc (.slice none 0 0)))] [] 2 [] [] [.au] [1,3] [1] hS hE trivial fun a w hS=>?_
  replace hS:=PX.sl [1,3] (PX.reslot (t:=3) (.own 2 1 0) (PX.newrow 3 1 hS (hE.le (by decide))) rfl (PX.nil_own 2 1))
  refine PX.G [(.e 4 (.map 3))] [(3,.mp ([]))] 4 [] [] [.au,.au] [1,3,4] [1,2,3] hS hE trivial fun a w hS=>?_
  refine wp_seq_k fun K3 hK3=>?_
  refine PX.G [(.e 16 (.agg [(.J b.term.b0),(.imm 1 (b.term.args0.map encI)),(.J b.term.b1),(.imm 1 (b.term.args1.map encI))])),(.e 17 (.J 0))] [] 4 [] [] [.au,.au,.au,.au] [3,4,16,17] [2,3] hS hE trivial fun a w hS=>?_
  refine wp_block ?_
  refine wp_loop_rounds 3 ?_
  rw [rounds_succ]
  refine PX.G [(.e 18 (.sc (.bool true)))] [] 4 [] [] [.au] [3,4,16,17,18] [2,3] hS hE trivial fun a w hS=>?_
  refine wp_seq_k fun K4 hK4=>?_
  refine PX.cond_s true hS (by kernel_rfl) (fun h5=>?_) (fun h5=>nomatch h5)
  refine wp_skip ?_
  refine hK4 _ _ ?_
  refine wp_seq_k fun K6 hK6=>?_
  refine wp_block ?_
  refine PX.G [(.e 6 (.ptr 4 0))] [(4,.box 57 [(.J b.term.b0),(.imm 1 (b.term.args0.map encI))])] 5 [.q (0=((0:Nat):Int))] [] [.ix 0 [],.au,.au] [3,4,6,16,17] [2,3,4] hS hE ⟨rfl,trivial⟩ fun a w hS=>?_
  refine wp_seq_k fun K7 hK7=>?_
  refine PX.G [(.e 22 (.sc (.bool (decide (b.term.b0<0)))))] [] 5 [] [] [.au,.au,.au] [3,4,6,16,17,22] [2,3,4] hS hE trivial fun a w hS=>?_
  refine PX.cond_s (decide (b.term.b0<0)) hS (by kernel_rfl) (fun h8=>?_) (fun h8=>?_)
  ·skip
   refine wp_exit ?_
   refine hK6 _ _ ?_
   refine PX.G0 [(.e 17 (.J 1))] [] 5 [] [] [.au,.au] [3,4,16,17] [2,3] hS hE trivial fun a w hS=>?_
   show Code.rounds _ _ _ 2 _ _
   rw [rounds_succ]
   refine PX.G [(.e 18 (.sc (.bool true)))] [] 5 [] [] [.au] [3,4,16,17,18] [2,3] hS hE trivial fun a w hS=>?_
   refine wp_seq_k fun K9 hK9=>?_
   refine PX.cond_s true hS (by kernel_rfl) (fun h10=>?_) (fun h10=>nomatch h10)
   refine wp_skip ?_
   refine hK9 _ _ ?_
   refine wp_seq_k fun K11 hK11=>?_
   refine wp_block ?_
   refine PX.G [(.e 6 (.ptr 5 0))] [(5,.box 57 [(.J b.term.b1),(.imm 1 (b.term.args1.map encI))])] 6 [.q (1=((1:Nat):Int))] [] [.ix 1 [],.au,.au] [3,4,6,16,17] [2,3,5] hS hE ⟨rfl,trivial⟩ fun a w hS=>?_
   refine wp_seq_k fun K12 hK12=>?_
   refine PX.G [(.e 22 (.sc (.bool (decide (b.term.b1<0)))))] [] 6 [] [] [.au,.au,.au] [3,4,6,16,17,22] [2,3,5] hS hE trivial fun a w hS=>?_
   refine PX.cond_s (decide (b.term.b1<0)) hS (by kernel_rfl) (fun h13=>?_) (fun h13=>?_)
   ·skip
    refine wp_exit ?_
    refine hK11 _ _ ?_
    refine PX.G0 [(.e 17 (.J 2))] [] 6 [] [] [.au,.au] [3,4,16,17] [2,3] hS hE trivial fun a w hS=>?_
    show Code.rounds _ _ _ 1 _ _
    rw [rounds_succ]
    refine PX.G [(.e 18 (.sc (.bool false)))] [] 6 [] [] [.au] [3,4,16,17,18] [2,3] hS hE trivial fun a w hS=>?_
    refine wp_seq_k fun K14 hK14=>?_
    refine PX.cond_s false hS (by kernel_rfl) (fun h15=>nomatch h15) (fun h15=>?_)
    refine wp_exit ?_
    refine hK3 _ _ ?_
    refine PX.G [(.e 2 (.own 2 1 0))] [] 6 [] [] [.au,.au] [2] [2] hS hE trivial fun a w hS=>?_
    replace hS:=PX.fz 2 [(.e 2 (.imm 1 ([])))] [] [2] [] [.b (PX.lenIs 0 ([]))] hS ⟨(by simp [PX.lenIs]),trivial⟩
    refine wp_ret ?_
    try simp only [Exit.then,Exit.inBlock,Nat.reduceEqDiff,↓reduceIte]
    rw [show (.imm 1 ((savedD b.term).map encI))=((.imm 1 ([])):PX.PV) from congrArg (fun l=>PX.PV.imm 1 (l.map encI)) (show savedD b.term=([]:List Int) from by unfold savedD; rw [if_pos (show b.term.kind=3 by simpa using h2),if_neg (by have:=of_decide_eq_true h13; omega),if_neg (by have:=of_decide_eq_true h8; omega)])]
    exact PX.ret_s hS hE (by kernel_rfl) (by kernel_rfl) (by kernel_rfl) (.inl rfl)
   ·skip
    refine wp_skip ?_
    refine hK12 _ _ ?_
    refine PX.G [(.e 24 (.imm 1 (b.term.args1.map encI))),(.e 25 (.sc (.I (b.term.args1.length:Int)))),(.e 26 (.J 0))] [] 6 [.q ((.sc (.I (((b.term.args1.map encI).length:Nat):Int)):PX.PV)=(.sc (.I (b.term.args1.length:Int))))] [] [.au,.au,.nm (.sc (.I (b.term.args1.length:Int))),.au] [3,4,16,17,24,25,26] [2,3] hS hE ⟨PX.nm_len (by simp),trivial⟩ fun a w hS=>?_
    refine wp_block ?_
    have hA1:=fold_addN_len b.term.args1 ([]:List Int); try simp only [List.length_nil,Nat.zero_add] at hA1
    replace hS:=PX.sl [3,4,16,17,24,25,26] (PX.reslot (t:=3) (.own 2 1 (((b.term.args1.take (0)).foldl addN ([]:List Int)).length)) hS rfl (fun _ _ _ _ h=>(show (.own 2 1 0:PX.PV)=.own 2 1 ((b.term.args1.take (0)).foldl addN ([]:List Int)).length from by simp) ▸ h))
    replace hS:=PX.rerow (id:=2) (((b.term.args1.take (0)).foldl addN ([]:List Int)).map encI) hS rfl (by simp)
    replace hS:PX.Sat _ _ _ _ _ _ _:=PX.remp (id:=3) (bm ((b.term.args1.take (0)).foldl addN ([]:List Int))) hS rfl (by simp [bm])
    refine wp_loop_ghost (fun m16 a' w'=>∃ k1:Nat,m16=b.term.args1.length-k1∧k1≤b.term.args1.length∧True∧PX.Sat E 43 [(.e 3 (.own 2 1 (((b.term.args1.take (k1)).foldl addN ([]:List Int)).length))),(.e 4 (.map 3)),(.e 16 (.agg [(.J b.term.b0),(.imm 1 (b.term.args0.map encI)),(.J b.term.b1),(.imm 1 (b.term.args1.map encI))])),(.e 17 (.J 1)),(.e 24 (.imm 1 (b.term.args1.map encI))),(.e 25 (.sc (.I (b.term.args1.length:Int)))),(.e 26 (.sc (.I (k1:Int))))] [(2,.row 3 1 true (((b.term.args1.take (k1)).foldl addN ([]:List Int)).map encI)),(3,.mp (bm ((b.term.args1.take (k1)).foldl addN ([]:List Int))))] 4 a' w') (b.term.args1.length-0) ⟨0,rfl,Nat.zero_le _,trivial,(PX.canon [] _ _ 4 hS hE (by kernel_rfl) (by kernel_rfl) (by kernel_rfl))⟩ ?_
    clear hS; rintro m16 a w ⟨k1,hm16,hlek1,hIk1,hS⟩
    refine PX.G [(.e 27 (.sc (.bool (decide ((k1:Int)<(b.term.args1.length:Int))))))] [] 4 [] [] [.au] [3,4,16,17,24,25,26,27] [2,3] hS hE trivial fun a w hS=>?_
    refine wp_seq_k fun K17 hK17=>?_
    refine PX.cond_s (decide ((k1:Int)<(b.term.args1.length:Int))) hS (by kernel_rfl) (fun h18=>?_) (fun h18=>?_)
    ·skip
     refine wp_skip ?_
     refine hK17 _ _ ?_
     refine wp_seq_k fun K19 hK19=>?_
     refine wp_block ?_
     have hlty:k1<b.term.args1.length:=by simpa using h18
     obtain ⟨y,hy⟩:=get_of_lt hlty
     refine PX.G [(.e 8 (.J y))] [] 4 [.q ((k1:Int)=(k1:Int)),.q ((b.term.args1.map encI)[k1]?=some (encI y))] [] [.ix k1 (encI y),.au,.au] [3,4,8,16,17,24,25,26] [2,3] hS hE ⟨rfl,PX.map_get hy,trivial⟩ fun a w hS=>?_
     refine PX.G [(.e 33 (.sc (.bool (!((((b.term.args1.take (k1)).foldl addN ([]:List Int))).contains y)))))] [] 4 [.q ((.sc ((PX.findV (bm ((b.term.args1.take (k1)).foldl addN ([]:List Int))) y).getD (.bool false)):PX.PV)=(.sc (.bool ((((b.term.args1.take (k1)).foldl addN ([]:List Int))).contains y))))] [] [.au,.au,.nm (.sc (.bool ((((b.term.args1.take (k1)).foldl addN ([]:List Int))).contains y))),.au] [3,4,8,16,17,24,25,26,33] [2,3] hS hE ⟨look_bm _ _,trivial⟩ fun a w hS=>?_
     refine PX.cond_s (!((((b.term.args1.take (k1)).foldl addN ([]:List Int))).contains y)) hS (by kernel_rfl) (fun h20=>?_) (fun h20=>?_)
     ·skip
      refine PX.G [] [(3,.mp (PX.updV (bm ((b.term.args1.take (k1)).foldl addN ([]:List Int))) y (.bool true)))] 4 [] [] [.au,.au,.au] [3,4,8,16,17,24,25,26] [2,3] hS hE trivial fun a w hS=>?_
      refine PX.G0 [(.e 3 (.own 5 1 ((((b.term.args1.take (k1)).foldl addN ([]:List Int)).map encI:List (List PX.PV)).length+1)))] [(5,.row 3 1 true (((b.term.args1.take (k1)).foldl addN ([]:List Int)).map encI++[[(.J y)]]))] 6 [.b (lenIs (((b.term.args1.take (k1)).foldl addN ([]:List Int)).length) (((b.term.args1.take (k1)).foldl addN ([]:List Int)).map encI)),.b (lenIs 1 ([[(.J y)]])),.b (Nat.ble ((((b.term.args1.take (k1)).foldl addN ([]:List Int)).map encI:List (List PX.PV)).length+1) 1000000000)] [] [.au,.au,.au,.au,.au] [3,4,16,17,24,25,26] [3,5] hS hE ⟨by simp [PX.lenIs],rfl,by rw [Nat.ble_eq]; have hq:=fold_addN_len (b.term.args1.take k1) ([]:List Int); simp only [List.length_take,List.length_map,List.length_cons,List.length_nil] at hq ⊢; omega,trivial⟩ fun a w hS=>?_
      refine hK19 _ _ ?_
      refine PX.G0 [(.e 26 (.sc (.I ((k1+1:Nat):Int))))] [] 6 [.q ((.sc (.I (IntKind.i64.wrap ((k1:Int)+1))):PX.PV)=(.sc (.I ((k1+1:Nat):Int))))] [] [.nm (.sc (.I ((k1+1:Nat):Int))),.au] [3,4,16,17,24,25,26] [3,5] hS hE ⟨PX.nm_int (by rw [IntWalk.i64_in _ (by omega)]; omega),trivial⟩ fun a w hS=>?_
      have hc:(((b.term.args1.take (k1)).foldl addN ([]:List Int)).contains y)=false:=by simpa using h20
      replace hS:=PX.sl [3,4,16,17,24,25,26] (PX.reslot (t:=3) (.own 5 1 (((b.term.args1.take (k1+1)).foldl addN ([]:List Int)).length)) hS rfl (fun _ _ _ _ h=>(show (.own 5 1 ((((b.term.args1.take (k1)).foldl addN ([]:List Int)).map encI:List (List PX.PV)).length+1):PX.PV)=.own 5 1 ((b.term.args1.take (k1+1)).foldl addN ([]:List Int)).length from by rw [add_take hy,addN_new hc]; simp) ▸ h))
      replace hS:=PX.rerow (id:=5) (((b.term.args1.take (k1+1)).foldl addN ([]:List Int)).map encI) hS rfl (by rw [add_take hy,addN_new hc]; simp [encI])
      replace hS:=PX.remp (id:=3) (bm ((b.term.args1.take (k1+1)).foldl addN ([]:List Int))) hS rfl (by rw [add_take hy,addN_new hc]; exact upd_bm _ _ hc)
      exact ⟨b.term.args1.length-(k1+1),by omega,k1+1,rfl,by omega,trivial,(PX.canon [(2,5)] _ _ 4 hS hE (by kernel_rfl) (by kernel_rfl) (by kernel_rfl))⟩
     ·skip
      refine wp_skip ?_
      refine hK19 _ _ ?_
      refine PX.G0 [(.e 26 (.sc (.I ((k1+1:Nat):Int))))] [] 4 [.q ((.sc (.I (IntKind.i64.wrap ((k1:Int)+1))):PX.PV)=(.sc (.I ((k1+1:Nat):Int))))] [] [.nm (.sc (.I ((k1+1:Nat):Int))),.au] [3,4,16,17,24,25,26] [2,3] hS hE ⟨PX.nm_int (by rw [IntWalk.i64_in _ (by omega)]; omega),trivial⟩ fun a w hS=>?_
      have hc:(((b.term.args1.take (k1)).foldl addN ([]:List Int)).contains y)=true:=by simpa using h20
      replace hS:=PX.sl [3,4,16,17,24,25,26] (PX.reslot (t:=3) (.own 2 1 (((b.term.args1.take (k1+1)).foldl addN ([]:List Int)).length)) hS rfl (fun _ _ _ _ h=>(show (.own 2 1 (((b.term.args1.take (k1)).foldl addN ([]:List Int)).length):PX.PV)=.own 2 1 ((b.term.args1.take (k1+1)).foldl addN ([]:List Int)).length from by rw [add_take hy,addN_old hc]) ▸ h))
      replace hS:=PX.rerow (id:=2) (((b.term.args1.take (k1+1)).foldl addN ([]:List Int)).map encI) hS rfl (by rw [add_take hy,addN_old hc])
      replace hS:=PX.remp (id:=3) (bm ((b.term.args1.take (k1+1)).foldl addN ([]:List Int))) hS rfl (by rw [add_take hy,addN_old hc])
      exact ⟨b.term.args1.length-(k1+1),by omega,k1+1,rfl,by omega,trivial,(PX.canon [] _ _ 4 hS hE (by kernel_rfl) (by kernel_rfl) (by kernel_rfl))⟩
    ·skip
     refine wp_exit ?_
     refine hK11 _ _ ?_
     have hqk1:k1=b.term.args1.length:=by have:=le_of_dec h18; omega
     rw [hqk1,List.take_length] at hS
     refine PX.G0 [(.e 17 (.J 2))] [] 4 [] [] [.au,.au] [3,4,16,17] [2,3] hS hE trivial fun a w hS=>?_
     show Code.rounds _ _ _ 1 _ _
     rw [rounds_succ]
     refine PX.G [(.e 18 (.sc (.bool false)))] [] 4 [] [] [.au] [3,4,16,17,18] [2,3] hS hE trivial fun a w hS=>?_
     refine wp_seq_k fun K21 hK21=>?_
     refine PX.cond_s false hS (by kernel_rfl) (fun h22=>nomatch h22) (fun h22=>?_)
     refine wp_exit ?_
     refine hK3 _ _ ?_
     refine PX.G [(.e 2 (.own 2 1 ((b.term.args1.foldl addN ([]:List Int)).length)))] [] 4 [] [] [.au,.au] [2] [2] hS hE trivial fun a w hS=>?_
     replace hS:=PX.fz 2 [(.e 2 (.imm 1 ((b.term.args1.foldl addN ([]:List Int)).map encI)))] [] [2] [] [.b (PX.lenIs ((b.term.args1.foldl addN ([]:List Int)).length) ((b.term.args1.foldl addN ([]:List Int)).map encI))] hS ⟨(by simp [PX.lenIs]),trivial⟩
     refine wp_ret ?_
     try simp only [Exit.then,Exit.inBlock,Nat.reduceEqDiff,↓reduceIte]
     rw [show (.imm 1 ((savedD b.term).map encI))=((.imm 1 ((b.term.args1.foldl addN ([]:List Int)).map encI)):PX.PV) from congrArg (fun l=>PX.PV.imm 1 (l.map encI)) (show savedD b.term=(b.term.args1.foldl addN ([]:List Int)) from by unfold savedD; rw [if_pos (show b.term.kind=3 by simpa using h2),if_pos (by have:=of_decide_eq_false h13; omega),if_neg (by have:=of_decide_eq_true h8; omega)])]
     exact PX.ret_s hS hE (by kernel_rfl) (by kernel_rfl) (by kernel_rfl) (.inl rfl)
  ·skip
   refine wp_skip ?_
   refine hK7 _ _ ?_
   refine PX.G [(.e 24 (.imm 1 (b.term.args0.map encI))),(.e 25 (.sc (.I (b.term.args0.length:Int)))),(.e 26 (.J 0))] [] 5 [.q ((.sc (.I (((b.term.args0.map encI).length:Nat):Int)):PX.PV)=(.sc (.I (b.term.args0.length:Int))))] [] [.au,.au,.nm (.sc (.I (b.term.args0.length:Int))),.au] [3,4,16,17,24,25,26] [2,3] hS hE ⟨PX.nm_len (by simp),trivial⟩ fun a w hS=>?_
   refine wp_block ?_
   have hA0:=fold_addN_len b.term.args0 ([]:List Int); try simp only [List.length_nil,Nat.zero_add] at hA0
   replace hS:=PX.sl [3,4,16,17,24,25,26] (PX.reslot (t:=3) (.own 2 1 (((b.term.args0.take (0)).foldl addN ([]:List Int)).length)) hS rfl (fun _ _ _ _ h=>(show (.own 2 1 0:PX.PV)=.own 2 1 ((b.term.args0.take (0)).foldl addN ([]:List Int)).length from by simp) ▸ h))
   replace hS:=PX.rerow (id:=2) (((b.term.args0.take (0)).foldl addN ([]:List Int)).map encI) hS rfl (by simp)
   replace hS:PX.Sat _ _ _ _ _ _ _:=PX.remp (id:=3) (bm ((b.term.args0.take (0)).foldl addN ([]:List Int))) hS rfl (by simp [bm])
   refine wp_loop_ghost (fun m23 a' w'=>∃ k0:Nat,m23=b.term.args0.length-k0∧k0≤b.term.args0.length∧True∧PX.Sat E 43 [(.e 3 (.own 2 1 (((b.term.args0.take (k0)).foldl addN ([]:List Int)).length))),(.e 4 (.map 3)),(.e 16 (.agg [(.J b.term.b0),(.imm 1 (b.term.args0.map encI)),(.J b.term.b1),(.imm 1 (b.term.args1.map encI))])),(.e 17 (.J 0)),(.e 24 (.imm 1 (b.term.args0.map encI))),(.e 25 (.sc (.I (b.term.args0.length:Int)))),(.e 26 (.sc (.I (k0:Int))))] [(2,.row 3 1 true (((b.term.args0.take (k0)).foldl addN ([]:List Int)).map encI)),(3,.mp (bm ((b.term.args0.take (k0)).foldl addN ([]:List Int))))] 4 a' w') (b.term.args0.length-0) ⟨0,rfl,Nat.zero_le _,trivial,(PX.canon [] _ _ 4 hS hE (by kernel_rfl) (by kernel_rfl) (by kernel_rfl))⟩ ?_
   clear hS; rintro m23 a w ⟨k0,hm23,hlek0,hIk0,hS⟩
   refine PX.G [(.e 27 (.sc (.bool (decide ((k0:Int)<(b.term.args0.length:Int))))))] [] 4 [] [] [.au] [3,4,16,17,24,25,26,27] [2,3] hS hE trivial fun a w hS=>?_
   refine wp_seq_k fun K24 hK24=>?_
   refine PX.cond_s (decide ((k0:Int)<(b.term.args0.length:Int))) hS (by kernel_rfl) (fun h25=>?_) (fun h25=>?_)
   ·skip
    refine wp_skip ?_
    refine hK24 _ _ ?_
    refine wp_seq_k fun K26 hK26=>?_
    refine wp_block ?_
    have hlty:k0<b.term.args0.length:=by simpa using h25
    obtain ⟨y,hy⟩:=get_of_lt hlty
    refine PX.G [(.e 8 (.J y))] [] 4 [.q ((k0:Int)=(k0:Int)),.q ((b.term.args0.map encI)[k0]?=some (encI y))] [] [.ix k0 (encI y),.au,.au] [3,4,8,16,17,24,25,26] [2,3] hS hE ⟨rfl,PX.map_get hy,trivial⟩ fun a w hS=>?_
    refine PX.G [(.e 33 (.sc (.bool (!((((b.term.args0.take (k0)).foldl addN ([]:List Int))).contains y)))))] [] 4 [.q ((.sc ((PX.findV (bm ((b.term.args0.take (k0)).foldl addN ([]:List Int))) y).getD (.bool false)):PX.PV)=(.sc (.bool ((((b.term.args0.take (k0)).foldl addN ([]:List Int))).contains y))))] [] [.au,.au,.nm (.sc (.bool ((((b.term.args0.take (k0)).foldl addN ([]:List Int))).contains y))),.au] [3,4,8,16,17,24,25,26,33] [2,3] hS hE ⟨look_bm _ _,trivial⟩ fun a w hS=>?_
    refine PX.cond_s (!((((b.term.args0.take (k0)).foldl addN ([]:List Int))).contains y)) hS (by kernel_rfl) (fun h27=>?_) (fun h27=>?_)
    ·skip
     refine PX.G [] [(3,.mp (PX.updV (bm ((b.term.args0.take (k0)).foldl addN ([]:List Int))) y (.bool true)))] 4 [] [] [.au,.au,.au] [3,4,8,16,17,24,25,26] [2,3] hS hE trivial fun a w hS=>?_
     refine PX.G0 [(.e 3 (.own 5 1 ((((b.term.args0.take (k0)).foldl addN ([]:List Int)).map encI:List (List PX.PV)).length+1)))] [(5,.row 3 1 true (((b.term.args0.take (k0)).foldl addN ([]:List Int)).map encI++[[(.J y)]]))] 6 [.b (lenIs (((b.term.args0.take (k0)).foldl addN ([]:List Int)).length) (((b.term.args0.take (k0)).foldl addN ([]:List Int)).map encI)),.b (lenIs 1 ([[(.J y)]])),.b (Nat.ble ((((b.term.args0.take (k0)).foldl addN ([]:List Int)).map encI:List (List PX.PV)).length+1) 1000000000)] [] [.au,.au,.au,.au,.au] [3,4,16,17,24,25,26] [3,5] hS hE ⟨by simp [PX.lenIs],rfl,by rw [Nat.ble_eq]; have hq:=fold_addN_len (b.term.args0.take k0) ([]:List Int); simp only [List.length_take,List.length_map,List.length_cons,List.length_nil] at hq ⊢; omega,trivial⟩ fun a w hS=>?_
     refine hK26 _ _ ?_
     refine PX.G0 [(.e 26 (.sc (.I ((k0+1:Nat):Int))))] [] 6 [.q ((.sc (.I (IntKind.i64.wrap ((k0:Int)+1))):PX.PV)=(.sc (.I ((k0+1:Nat):Int))))] [] [.nm (.sc (.I ((k0+1:Nat):Int))),.au] [3,4,16,17,24,25,26] [3,5] hS hE ⟨PX.nm_int (by rw [IntWalk.i64_in _ (by omega)]; omega),trivial⟩ fun a w hS=>?_
     have hc:(((b.term.args0.take (k0)).foldl addN ([]:List Int)).contains y)=false:=by simpa using h27
     replace hS:=PX.sl [3,4,16,17,24,25,26] (PX.reslot (t:=3) (.own 5 1 (((b.term.args0.take (k0+1)).foldl addN ([]:List Int)).length)) hS rfl (fun _ _ _ _ h=>(show (.own 5 1 ((((b.term.args0.take (k0)).foldl addN ([]:List Int)).map encI:List (List PX.PV)).length+1):PX.PV)=.own 5 1 ((b.term.args0.take (k0+1)).foldl addN ([]:List Int)).length from by rw [add_take hy,addN_new hc]; simp) ▸ h))
     replace hS:=PX.rerow (id:=5) (((b.term.args0.take (k0+1)).foldl addN ([]:List Int)).map encI) hS rfl (by rw [add_take hy,addN_new hc]; simp [encI])
     replace hS:=PX.remp (id:=3) (bm ((b.term.args0.take (k0+1)).foldl addN ([]:List Int))) hS rfl (by rw [add_take hy,addN_new hc]; exact upd_bm _ _ hc)
     exact ⟨b.term.args0.length-(k0+1),by omega,k0+1,rfl,by omega,trivial,(PX.canon [(2,5)] _ _ 4 hS hE (by kernel_rfl) (by kernel_rfl) (by kernel_rfl))⟩
    ·skip
     refine wp_skip ?_
     refine hK26 _ _ ?_
     refine PX.G0 [(.e 26 (.sc (.I ((k0+1:Nat):Int))))] [] 4 [.q ((.sc (.I (IntKind.i64.wrap ((k0:Int)+1))):PX.PV)=(.sc (.I ((k0+1:Nat):Int))))] [] [.nm (.sc (.I ((k0+1:Nat):Int))),.au] [3,4,16,17,24,25,26] [2,3] hS hE ⟨PX.nm_int (by rw [IntWalk.i64_in _ (by omega)]; omega),trivial⟩ fun a w hS=>?_
     have hc:(((b.term.args0.take (k0)).foldl addN ([]:List Int)).contains y)=true:=by simpa using h27
     replace hS:=PX.sl [3,4,16,17,24,25,26] (PX.reslot (t:=3) (.own 2 1 (((b.term.args0.take (k0+1)).foldl addN ([]:List Int)).length)) hS rfl (fun _ _ _ _ h=>(show (.own 2 1 (((b.term.args0.take (k0)).foldl addN ([]:List Int)).length):PX.PV)=.own 2 1 ((b.term.args0.take (k0+1)).foldl addN ([]:List Int)).length from by rw [add_take hy,addN_old hc]) ▸ h))
     replace hS:=PX.rerow (id:=2) (((b.term.args0.take (k0+1)).foldl addN ([]:List Int)).map encI) hS rfl (by rw [add_take hy,addN_old hc])
     replace hS:=PX.remp (id:=3) (bm ((b.term.args0.take (k0+1)).foldl addN ([]:List Int))) hS rfl (by rw [add_take hy,addN_old hc])
     exact ⟨b.term.args0.length-(k0+1),by omega,k0+1,rfl,by omega,trivial,(PX.canon [] _ _ 4 hS hE (by kernel_rfl) (by kernel_rfl) (by kernel_rfl))⟩
   ·skip
    refine wp_exit ?_
    refine hK6 _ _ ?_
    have hqk0:k0=b.term.args0.length:=by have:=le_of_dec h25; omega
    rw [hqk0,List.take_length] at hS
    refine PX.G0 [(.e 17 (.J 1))] [] 4 [] [] [.au,.au] [3,4,16,17] [2,3] hS hE trivial fun a w hS=>?_
    show Code.rounds _ _ _ 2 _ _
    rw [rounds_succ]
    refine PX.G [(.e 18 (.sc (.bool true)))] [] 4 [] [] [.au] [3,4,16,17,18] [2,3] hS hE trivial fun a w hS=>?_
    refine wp_seq_k fun K28 hK28=>?_
    refine PX.cond_s true hS (by kernel_rfl) (fun h29=>?_) (fun h29=>nomatch h29)
    refine wp_skip ?_
    refine hK28 _ _ ?_
    refine wp_seq_k fun K30 hK30=>?_
    refine wp_block ?_
    refine PX.G [(.e 6 (.ptr 4 0))] [(4,.box 57 [(.J b.term.b1),(.imm 1 (b.term.args1.map encI))])] 5 [.q (1=((1:Nat):Int))] [] [.ix 1 [],.au,.au] [3,4,6,16,17] [2,3,4] hS hE ⟨rfl,trivial⟩ fun a w hS=>?_
    refine wp_seq_k fun K31 hK31=>?_
    refine PX.G [(.e 22 (.sc (.bool (decide (b.term.b1<0)))))] [] 5 [] [] [.au,.au,.au] [3,4,6,16,17,22] [2,3,4] hS hE trivial fun a w hS=>?_
    refine PX.cond_s (decide (b.term.b1<0)) hS (by kernel_rfl) (fun h32=>?_) (fun h32=>?_)
    ·skip
     refine wp_exit ?_
     refine hK30 _ _ ?_
     refine PX.G0 [(.e 17 (.J 2))] [] 5 [] [] [.au,.au] [3,4,16,17] [2,3] hS hE trivial fun a w hS=>?_
     show Code.rounds _ _ _ 1 _ _
     rw [rounds_succ]
     refine PX.G [(.e 18 (.sc (.bool false)))] [] 5 [] [] [.au] [3,4,16,17,18] [2,3] hS hE trivial fun a w hS=>?_
     refine wp_seq_k fun K33 hK33=>?_
     refine PX.cond_s false hS (by kernel_rfl) (fun h34=>nomatch h34) (fun h34=>?_)
     refine wp_exit ?_
     refine hK3 _ _ ?_
     refine PX.G [(.e 2 (.own 2 1 ((b.term.args0.foldl addN ([]:List Int)).length)))] [] 5 [] [] [.au,.au] [2] [2] hS hE trivial fun a w hS=>?_
     replace hS:=PX.fz 2 [(.e 2 (.imm 1 ((b.term.args0.foldl addN ([]:List Int)).map encI)))] [] [2] [] [.b (PX.lenIs ((b.term.args0.foldl addN ([]:List Int)).length) ((b.term.args0.foldl addN ([]:List Int)).map encI))] hS ⟨(by simp [PX.lenIs]),trivial⟩
     refine wp_ret ?_
     try simp only [Exit.then,Exit.inBlock,Nat.reduceEqDiff,↓reduceIte]
     rw [show (.imm 1 ((savedD b.term).map encI))=((.imm 1 ((b.term.args0.foldl addN ([]:List Int)).map encI)):PX.PV) from congrArg (fun l=>PX.PV.imm 1 (l.map encI)) (show savedD b.term=(b.term.args0.foldl addN ([]:List Int)) from by unfold savedD; rw [if_pos (show b.term.kind=3 by simpa using h2),if_neg (by have:=of_decide_eq_true h32; omega),if_pos (by have:=of_decide_eq_false h8; omega)])]
     exact PX.ret_s hS hE (by kernel_rfl) (by kernel_rfl) (by kernel_rfl) (.inl rfl)
    ·skip
     refine wp_skip ?_
     refine hK31 _ _ ?_
     refine PX.G [(.e 24 (.imm 1 (b.term.args1.map encI))),(.e 25 (.sc (.I (b.term.args1.length:Int)))),(.e 26 (.J 0))] [] 5 [.q ((.sc (.I (((b.term.args1.map encI).length:Nat):Int)):PX.PV)=(.sc (.I (b.term.args1.length:Int))))] [] [.au,.au,.nm (.sc (.I (b.term.args1.length:Int))),.au] [3,4,16,17,24,25,26] [2,3] hS hE ⟨PX.nm_len (by simp),trivial⟩ fun a w hS=>?_
     refine wp_block ?_
     have hA1:=fold_addN_len b.term.args1 (b.term.args0.foldl addN ([]:List Int)); try simp only [List.length_nil,Nat.zero_add] at hA1
     replace hS:=PX.sl [3,4,16,17,24,25,26] (PX.reslot (t:=3) (.own 2 1 (((b.term.args1.take (0)).foldl addN (b.term.args0.foldl addN ([]:List Int))).length)) hS rfl (fun _ _ _ _ h=>(show (.own 2 1 ((b.term.args0.foldl addN ([]:List Int)).length):PX.PV)=.own 2 1 ((b.term.args1.take (0)).foldl addN (b.term.args0.foldl addN ([]:List Int))).length from by simp) ▸ h))
     replace hS:=PX.rerow (id:=2) (((b.term.args1.take (0)).foldl addN (b.term.args0.foldl addN ([]:List Int))).map encI) hS rfl (by simp)
     replace hS:PX.Sat _ _ _ _ _ _ _:=PX.remp (id:=3) (bm ((b.term.args1.take (0)).foldl addN (b.term.args0.foldl addN ([]:List Int)))) hS rfl (by simp [bm])
     refine wp_loop_ghost (fun m35 a' w'=>∃ k1:Nat,m35=b.term.args1.length-k1∧k1≤b.term.args1.length∧True∧PX.Sat E 43 [(.e 3 (.own 2 1 (((b.term.args1.take (k1)).foldl addN (b.term.args0.foldl addN ([]:List Int))).length))),(.e 4 (.map 3)),(.e 16 (.agg [(.J b.term.b0),(.imm 1 (b.term.args0.map encI)),(.J b.term.b1),(.imm 1 (b.term.args1.map encI))])),(.e 17 (.J 1)),(.e 24 (.imm 1 (b.term.args1.map encI))),(.e 25 (.sc (.I (b.term.args1.length:Int)))),(.e 26 (.sc (.I (k1:Int))))] [(2,.row 3 1 true (((b.term.args1.take (k1)).foldl addN (b.term.args0.foldl addN ([]:List Int))).map encI)),(3,.mp (bm ((b.term.args1.take (k1)).foldl addN (b.term.args0.foldl addN ([]:List Int)))))] 4 a' w') (b.term.args1.length-0) ⟨0,rfl,Nat.zero_le _,trivial,(PX.canon [] _ _ 4 hS hE (by kernel_rfl) (by kernel_rfl) (by kernel_rfl))⟩ ?_
     clear hS; rintro m35 a w ⟨k1,hm35,hlek1,hIk1,hS⟩
     refine PX.G [(.e 27 (.sc (.bool (decide ((k1:Int)<(b.term.args1.length:Int))))))] [] 4 [] [] [.au] [3,4,16,17,24,25,26,27] [2,3] hS hE trivial fun a w hS=>?_
     refine wp_seq_k fun K36 hK36=>?_
     refine PX.cond_s (decide ((k1:Int)<(b.term.args1.length:Int))) hS (by kernel_rfl) (fun h37=>?_) (fun h37=>?_)
     ·skip
      refine wp_skip ?_
      refine hK36 _ _ ?_
      refine wp_seq_k fun K38 hK38=>?_
      refine wp_block ?_
      have hlty:k1<b.term.args1.length:=by simpa using h37
      obtain ⟨y,hy⟩:=get_of_lt hlty
      refine PX.G [(.e 8 (.J y))] [] 4 [.q ((k1:Int)=(k1:Int)),.q ((b.term.args1.map encI)[k1]?=some (encI y))] [] [.ix k1 (encI y),.au,.au] [3,4,8,16,17,24,25,26] [2,3] hS hE ⟨rfl,PX.map_get hy,trivial⟩ fun a w hS=>?_
      refine PX.G [(.e 33 (.sc (.bool (!((((b.term.args1.take (k1)).foldl addN (b.term.args0.foldl addN ([]:List Int)))).contains y)))))] [] 4 [.q ((.sc ((PX.findV (bm ((b.term.args1.take (k1)).foldl addN (b.term.args0.foldl addN ([]:List Int)))) y).getD (.bool false)):PX.PV)=(.sc (.bool ((((b.term.args1.take (k1)).foldl addN (b.term.args0.foldl addN ([]:List Int)))).contains y))))] [] [.au,.au,.nm (.sc (.bool ((((b.term.args1.take (k1)).foldl addN (b.term.args0.foldl addN ([]:List Int)))).contains y))),.au] [3,4,8,16,17,24,25,26,33] [2,3] hS hE ⟨look_bm _ _,trivial⟩ fun a w hS=>?_
      refine PX.cond_s (!((((b.term.args1.take (k1)).foldl addN (b.term.args0.foldl addN ([]:List Int)))).contains y)) hS (by kernel_rfl) (fun h39=>?_) (fun h39=>?_)
      ·skip
       refine PX.G [] [(3,.mp (PX.updV (bm ((b.term.args1.take (k1)).foldl addN (b.term.args0.foldl addN ([]:List Int)))) y (.bool true)))] 4 [] [] [.au,.au,.au] [3,4,8,16,17,24,25,26] [2,3] hS hE trivial fun a w hS=>?_
       refine PX.G0 [(.e 3 (.own 5 1 ((((b.term.args1.take (k1)).foldl addN (b.term.args0.foldl addN ([]:List Int))).map encI:List (List PX.PV)).length+1)))] [(5,.row 3 1 true (((b.term.args1.take (k1)).foldl addN (b.term.args0.foldl addN ([]:List Int))).map encI++[[(.J y)]]))] 6 [.b (lenIs (((b.term.args1.take (k1)).foldl addN (b.term.args0.foldl addN ([]:List Int))).length) (((b.term.args1.take (k1)).foldl addN (b.term.args0.foldl addN ([]:List Int))).map encI)),.b (lenIs 1 ([[(.J y)]])),.b (Nat.ble ((((b.term.args1.take (k1)).foldl addN (b.term.args0.foldl addN ([]:List Int))).map encI:List (List PX.PV)).length+1) 1000000000)] [] [.au,.au,.au,.au,.au] [3,4,16,17,24,25,26] [3,5] hS hE ⟨by simp [PX.lenIs],rfl,by rw [Nat.ble_eq]; have hq:=fold_addN_len (b.term.args1.take k1) (b.term.args0.foldl addN ([]:List Int)); simp only [List.length_take,List.length_map,List.length_cons,List.length_nil] at hq ⊢; omega,trivial⟩ fun a w hS=>?_
       refine hK38 _ _ ?_
       refine PX.G0 [(.e 26 (.sc (.I ((k1+1:Nat):Int))))] [] 6 [.q ((.sc (.I (IntKind.i64.wrap ((k1:Int)+1))):PX.PV)=(.sc (.I ((k1+1:Nat):Int))))] [] [.nm (.sc (.I ((k1+1:Nat):Int))),.au] [3,4,16,17,24,25,26] [3,5] hS hE ⟨PX.nm_int (by rw [IntWalk.i64_in _ (by omega)]; omega),trivial⟩ fun a w hS=>?_
       have hc:(((b.term.args1.take (k1)).foldl addN (b.term.args0.foldl addN ([]:List Int))).contains y)=false:=by simpa using h39
       replace hS:=PX.sl [3,4,16,17,24,25,26] (PX.reslot (t:=3) (.own 5 1 (((b.term.args1.take (k1+1)).foldl addN (b.term.args0.foldl addN ([]:List Int))).length)) hS rfl (fun _ _ _ _ h=>(show (.own 5 1 ((((b.term.args1.take (k1)).foldl addN (b.term.args0.foldl addN ([]:List Int))).map encI:List (List PX.PV)).length+1):PX.PV)=.own 5 1 ((b.term.args1.take (k1+1)).foldl addN (b.term.args0.foldl addN ([]:List Int))).length from by rw [add_take hy,addN_new hc]; simp) ▸ h))
       replace hS:=PX.rerow (id:=5) (((b.term.args1.take (k1+1)).foldl addN (b.term.args0.foldl addN ([]:List Int))).map encI) hS rfl (by rw [add_take hy,addN_new hc]; simp [encI])
       replace hS:=PX.remp (id:=3) (bm ((b.term.args1.take (k1+1)).foldl addN (b.term.args0.foldl addN ([]:List Int)))) hS rfl (by rw [add_take hy,addN_new hc]; exact upd_bm _ _ hc)
       exact ⟨b.term.args1.length-(k1+1),by omega,k1+1,rfl,by omega,trivial,(PX.canon [(2,5)] _ _ 4 hS hE (by kernel_rfl) (by kernel_rfl) (by kernel_rfl))⟩
      ·skip
       refine wp_skip ?_
       refine hK38 _ _ ?_
       refine PX.G0 [(.e 26 (.sc (.I ((k1+1:Nat):Int))))] [] 4 [.q ((.sc (.I (IntKind.i64.wrap ((k1:Int)+1))):PX.PV)=(.sc (.I ((k1+1:Nat):Int))))] [] [.nm (.sc (.I ((k1+1:Nat):Int))),.au] [3,4,16,17,24,25,26] [2,3] hS hE ⟨PX.nm_int (by rw [IntWalk.i64_in _ (by omega)]; omega),trivial⟩ fun a w hS=>?_
       have hc:(((b.term.args1.take (k1)).foldl addN (b.term.args0.foldl addN ([]:List Int))).contains y)=true:=by simpa using h39
       replace hS:=PX.sl [3,4,16,17,24,25,26] (PX.reslot (t:=3) (.own 2 1 (((b.term.args1.take (k1+1)).foldl addN (b.term.args0.foldl addN ([]:List Int))).length)) hS rfl (fun _ _ _ _ h=>(show (.own 2 1 (((b.term.args1.take (k1)).foldl addN (b.term.args0.foldl addN ([]:List Int))).length):PX.PV)=.own 2 1 ((b.term.args1.take (k1+1)).foldl addN (b.term.args0.foldl addN ([]:List Int))).length from by rw [add_take hy,addN_old hc]) ▸ h))
       replace hS:=PX.rerow (id:=2) (((b.term.args1.take (k1+1)).foldl addN (b.term.args0.foldl addN ([]:List Int))).map encI) hS rfl (by rw [add_take hy,addN_old hc])
       replace hS:=PX.remp (id:=3) (bm ((b.term.args1.take (k1+1)).foldl addN (b.term.args0.foldl addN ([]:List Int)))) hS rfl (by rw [add_take hy,addN_old hc])
       exact ⟨b.term.args1.length-(k1+1),by omega,k1+1,rfl,by omega,trivial,(PX.canon [] _ _ 4 hS hE (by kernel_rfl) (by kernel_rfl) (by kernel_rfl))⟩
     ·skip
      refine wp_exit ?_
      refine hK30 _ _ ?_
      have hqk1:k1=b.term.args1.length:=by have:=le_of_dec h37; omega
      rw [hqk1,List.take_length] at hS
      refine PX.G0 [(.e 17 (.J 2))] [] 4 [] [] [.au,.au] [3,4,16,17] [2,3] hS hE trivial fun a w hS=>?_
      show Code.rounds _ _ _ 1 _ _
      rw [rounds_succ]
      refine PX.G [(.e 18 (.sc (.bool false)))] [] 4 [] [] [.au] [3,4,16,17,18] [2,3] hS hE trivial fun a w hS=>?_
      refine wp_seq_k fun K40 hK40=>?_
      refine PX.cond_s false hS (by kernel_rfl) (fun h41=>nomatch h41) (fun h41=>?_)
      refine wp_exit ?_
      refine hK3 _ _ ?_
      refine PX.G [(.e 2 (.own 2 1 ((b.term.args1.foldl addN (b.term.args0.foldl addN ([]:List Int))).length)))] [] 4 [] [] [.au,.au] [2] [2] hS hE trivial fun a w hS=>?_
      replace hS:=PX.fz 2 [(.e 2 (.imm 1 ((b.term.args1.foldl addN (b.term.args0.foldl addN ([]:List Int))).map encI)))] [] [2] [] [.b (PX.lenIs ((b.term.args1.foldl addN (b.term.args0.foldl addN ([]:List Int))).length) ((b.term.args1.foldl addN (b.term.args0.foldl addN ([]:List Int))).map encI))] hS ⟨(by simp [PX.lenIs]),trivial⟩
      refine wp_ret ?_
      try simp only [Exit.then,Exit.inBlock,Nat.reduceEqDiff,↓reduceIte]
      rw [show (.imm 1 ((savedD b.term).map encI))=((.imm 1 ((b.term.args1.foldl addN (b.term.args0.foldl addN ([]:List Int))).map encI)):PX.PV) from congrArg (fun l=>PX.PV.imm 1 (l.map encI)) (show savedD b.term=(b.term.args1.foldl addN (b.term.args0.foldl addN ([]:List Int))) from by unfold savedD; rw [if_pos (show b.term.kind=3 by simpa using h2),if_pos (by have:=of_decide_eq_false h32; omega),if_pos (by have:=of_decide_eq_false h8; omega)])]
      exact PX.ret_s hS hE (by kernel_rfl) (by kernel_rfl) (by kernel_rfl) (.inl rfl)
end Go.Proofs.Ytlkcidmmpeebeaa
