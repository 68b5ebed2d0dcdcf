/- Proved: debuggerref09.Name on plain data -/
import Derived.Test.YtlkcidmmpeebeaaPcE
import Derived.Test.YtlkcidmmpeebeaaPcD
import Derived.Test.YtlkcidmmpeebeaaPSmall
set_option linter.unusedVariables false
set_option linter.unusedSimpArgs false
namespace Go.Proofs.Ytlkcidmmpeebeaa
open Go.RowKit Go.PX
set_option maxRecDepth 100000
def enc1 (p:Int × Int):List PX.PV:=[.sc (.I p.1)]
def enc2 (p:Int × Int):List PX.PV:=[.sc (.I p.2)]
def nameOf (nm:List (Int × Int)) (v:Int):Int:=match nm.find? (fun p=>p.1==v) with | some p=>p.2 | none=>v
def renO_ (nm:List (Int × Int)) (o:OpD):OpD:={ o with dst:=if R.defines o.kind=true then nameOf nm o.dst else o.dst,a:=if R.usesA o.kind=true then nameOf nm o.a else o.a,b:=if R.usesB o.kind=true then nameOf nm o.b else o.b,sv:=if (o.sk==2)=true then nameOf nm o.sv else o.sv }
def renT_ (nm:List (Int × Int)) (t:TermD):TermD:={ t with a:=if (((t.kind==2)||(t.kind==4))||(t.kind==5))=true then nameOf nm t.a else t.a,args:=t.args.map (nameOf nm),args0:=t.args0.map (nameOf nm),args1:=t.args1.map (nameOf nm) }

set_option maxHeartbeats 400000 in
theorem con_f90 (k:Int):PX.Con Try.prog 90 [(.J k)] [] 1 100000 (.sc (.bool (R.defines k))) []:=by
 refine PX.con_intro [(.J k)] 9 Try.func90 rfl rfl (by kernel_rfl) (by kernel_rfl) ?_
 intro E a hE hS
 generalize E.w0=w at hS ⊢
 have mix:=mixed
 refine PX.G [] [] 1 [] [] [.au] [0] [] hS hE trivial fun a w hS=>?_
 refine PX.G [(.e 2 (.sc (.bool (decide (1≤k)&&decide (k≤15)))))] [] 1 [] [(2,decide (1≤k))] [.au,.au,.au,.au,.au,.pk,.au] [2] [] hS hE trivial fun a w hS=>?_
 refine wp_ret ?_
 rw [show (.sc (.bool (R.defines k)))=((.sc (.bool (decide (1≤k)&&decide (k≤15)))):PX.PV) from by simp [R.defines]]
 exact PX.rt hS hE (.inl rfl)

theorem usesA_R (k:Int):usesAD k=R.usesA k:=by unfold usesAD R.usesA; rw [show (k==18)=decide (k=18) from rfl]
theorem usesB_R (k:Int):usesBD k=R.usesB k:=by unfold usesBD R.usesB; rw [show (k==16)=decide (k=16) from rfl]
theorem con_f88R {lo top:Nat} (k:Int):PX.Con Try.prog 88 [.sc (.I k)] [] lo top (.sc (.bool (R.usesA k))) []:=by rw [← usesA_R]; exact PX.con_any (con_f88 k)
theorem con_f89R {lo top:Nat} (k:Int):PX.Con Try.prog 89 [.sc (.I k)] [] lo top (.sc (.bool (R.usesB k))) []:=by rw [← usesB_R]; exact PX.con_any (con_f89 k)

end Go.Proofs.Ytlkcidmmpeebeaa

/- Proved: debuggerref09: Edges,Values,Top -/
namespace Go.Proofs.Ytlkcidmmpeebeaa
open Go.RowKit Go.PX
set_option maxRecDepth 100000
def stepE (t n x:Int):Int:=if (x==t)=true then IntKind.i64.wrap (n+1) else n
def edgesK (c:CodeD) (t:Int) (k:Nat):Int:=(c.blocks.take k).foldl (fun n b=>stepE t (stepE t n b.term.b0) b.term.b1) 0
def mx (a b:Int):Int:=if b > a then b else a
def topD (b:BlockD):Int:=(R.values b).foldl mx (b.params-1)
def topK (b:BlockD) (k:Nat):Int:=((R.values b).take k).foldl mx (b.params-1)
theorem topK_succ {b:BlockD} {k:Nat} {y:Int} (hy:(R.values b)[k]?=some y):topK b (k+1)=mx (topK b k) y:=by
 unfold topK; rw [List.take_add_one,hy,List.foldl_append]; rfl
theorem dsts_take {ops:List OpD} {k:Nat} {y:OpD} (hy:ops[k]?=some y):dsts (ops.take (k+1))=dsts (ops.take k)++(if R.defines y.kind=true then [y.dst] else []):=by
 unfold dsts; rw [List.take_add_one,hy,List.filter_append,List.map_append]
 by_cases h:R.defines y.kind=true <;> simp [List.filter_cons,h]
theorem values_eq2 (b:BlockD):R.values b=R.upto b.params++dsts b.ops:=rfl
theorem upto_len2 (n:Int):(R.upto n).length=n.toNat:=by simp [R.upto]
theorem dsts_len (l:List OpD):(dsts l).length≤l.length:=by unfold dsts; rw [List.length_map]; exact List.length_filter_le _ _

set_option maxHeartbeats 400000 in
theorem con_f86 (b:BlockD) (hb:0≤b.params∧b.params≤999) (hl:b.ops.length≤1000000):PX.Con Try.prog 86 [(.agg (encB b))] [] 1 100000 (.imm 1 ((R.values b).map encI)) []:=by
 refine PX.con_intro [(.agg (encB b))] 34 Try.func86 rfl rfl (by kernel_rfl) (by kernel_rfl) ?_
 intro E a hE hS
 generalize E.w0=w at hS ⊢
 have mix:=mixed
 refine PX.G [(.e 1 (.ptr 1 0))] [(1,.box 62 (encB b))] 2 [] [] [.au,.au] [1] [1] hS hE trivial fun a w hS=>?_
 refine PX.G [(.e 3 (.sc (.slice none 0 0)))] [] 2 [] [] [.au] [1,3] [1] hS hE trivial fun a w hS=>?_
 refine wp_seq_k fun K1 hK1=>?_
 refine PX.G [(.e 4 (.J 0))] [] 2 [] [] [.au] [1,3,4] [1] hS hE trivial fun a w hS=>?_
 refine wp_block ?_
 replace hS:=PX.sl [1,3,4] (PX.reslot (t:=3) (.own 2 1 0) (PX.newrow 3 1 hS (hE.le (by decide))) rfl (PX.nil_own 2 1))
 refine wp_loop_ghost (fun m2 a' w'=>∃ k:Nat,m2=b.params.toNat-k∧k≤b.params.toNat∧True∧PX.Sat E 34 [(.e 1 (.ptr 1 0)),(.e 3 (.own 4 1 k)),(.e 4 (.sc (.I (k:Int))))] [(1,.box 62 (encB b)),(4,.row 3 1 true (((List.range (k)).map (fun i:Nat=>(i:Int))).map encI))] 5 a' w') (b.params.toNat-0) ⟨0,rfl,Nat.zero_le _,trivial,(PX.cn [(4,2)] _ _ 5 hS hE)⟩ ?_
 clear hS; rintro m2 a w ⟨k,hm2,hlek,hIk,hS⟩
 refine wp_seq_k fun K3 hK3=>?_
 refine PX.G [(.e 10 (.sc (.bool (decide ((k:Int)<b.params)))))] [] 5 [] [] [.au,.au,.au,.au] [1,3,4,10] [1,4] hS hE trivial fun a w hS=>?_
 refine PX.cond_s (decide ((k:Int)<b.params)) hS (by kernel_rfl) (fun h4=>?_) (fun h4=>?_)
 ·skip
  refine wp_skip ?_
  refine hK3 _ _ ?_
  refine wp_seq_k fun K5 hK5=>?_
  refine wp_block ?_
  refine PX.G0 [(.e 3 (.own 6 1 ((((List.range (k)).map (fun i:Nat=>(i:Int))).map encI:List (List PX.PV)).length+1)))] [(6,.row 3 1 true (((List.range (k)).map (fun i:Nat=>(i:Int))).map encI++[[(.sc (.I (k:Int)))]]))] 7 [.b (lenIs k (((List.range (k)).map (fun i:Nat=>(i:Int))).map encI)),.b (lenIs 1 ([[(.sc (.I (k:Int)))]])),.b (Nat.ble ((((List.range (k)).map (fun i:Nat=>(i:Int))).map encI:List (List PX.PV)).length+1) 1000000000)] [] [.au,.au,.au,.au,.au] [1,3,4] [1,6] hS hE ⟨by simp [PX.lenIs],rfl,by simp; omega,trivial⟩ fun a w hS=>?_
  refine hK5 _ _ ?_
  refine PX.G0 [(.e 4 (.sc (.I ((k+1:Nat):Int))))] [] 7 [.q ((.sc (.I (IntKind.i64.wrap ((k:Int)+1))):PX.PV)=(.sc (.I ((k+1:Nat):Int))))] [] [.au,.nm (.sc (.I ((k+1:Nat):Int))),.au] [1,3,4] [1,6] hS hE ⟨PX.nm_int (by rw [IntWalk.i64_in _ (by omega)]; omega),trivial⟩ fun a w hS=>?_
  have hkb:(k:Int)<b.params:=by simpa using h4
  have e1:(((List.range (k)).map (fun i:Nat=>(i:Int))).map encI++[[(.sc (.I (k:Int)))]])=((List.range (k+1)).map (fun i:Nat=>(i:Int))).map encI:=by rw [List.range_succ]; simp [encI]
  have e2:(((List.range (k)).map (fun i:Nat=>(i:Int))).map encI:List (List PX.PV)).length+1=k+1:=by simp
  rw [e2,e1] at hS
  exact ⟨b.params.toNat-(k+1),by omega,k+1,rfl,by omega,trivial,(PX.cn [(4,6)] _ _ 5 hS hE)⟩
 ·skip
  refine wp_exit ?_
  refine hK1 _ _ ?_
  refine wp_seq_k fun K6 hK6=>?_
  refine PX.G [(.e 18 (.imm 11 (b.ops.map encO))),(.e 19 (.sc (.I (b.ops.length:Int)))),(.e 20 (.J 0))] [] 5 [.q ((.sc (.I (((b.ops.map encO).length:Nat):Int)):PX.PV)=(.sc (.I (b.ops.length:Int))))] [] [.au,.au,.nm (.sc (.I (b.ops.length:Int))),.au] [3,18,19,20] [4] hS hE ⟨PX.nm_len (by simp),trivial⟩ fun a w hS=>?_
  refine wp_block ?_
  have hkb:k=b.params.toNat:=by have:=h4; simp at this; omega
  have e1:((List.range (k)).map (fun i:Nat=>(i:Int))).map encI=(R.upto b.params++dsts (b.ops.take (0))).map encI:=by rw [hkb]; simp [dsts,R.upto]
  have e2:k=(R.upto b.params++dsts (b.ops.take (0))).length:=by rw [hkb]; simp [dsts,R.upto]
  rw [e1,e2] at hS
  refine wp_loop_ghost (fun m7 a' w'=>∃ k:Nat,m7=b.ops.length-k∧k≤b.ops.length∧True∧PX.Sat E 34 [(.e 3 (.own 4 1 ((R.upto b.params++dsts (b.ops.take (k))).length))),(.e 18 (.imm 11 (b.ops.map encO))),(.e 19 (.sc (.I (b.ops.length:Int)))),(.e 20 (.sc (.I (k:Int))))] [(4,.row 3 1 true ((R.upto b.params++dsts (b.ops.take (k))).map encI))] 5 a' w') (b.ops.length-0) ⟨0,rfl,Nat.zero_le _,trivial,(PX.cn [] _ _ 5 hS hE)⟩ ?_
  clear hS; rintro m7 a w ⟨k,hm7,hlek,hIk,hS⟩
  refine PX.G [(.e 21 (.sc (.bool (decide ((k:Int)<(b.ops.length:Int))))))] [] 5 [] [] [.au] [3,18,19,20,21] [4] hS hE trivial fun a w hS=>?_
  refine wp_seq_k fun K8 hK8=>?_
  refine PX.cond_s (decide ((k:Int)<(b.ops.length:Int))) hS (by kernel_rfl) (fun h9=>?_) (fun h9=>?_)
  ·skip
   refine wp_skip ?_
   refine hK8 _ _ ?_
   refine wp_seq_k fun K10 hK10=>?_
   refine wp_block ?_
   have hlty:k<b.ops.length:=by simpa using h9
   obtain ⟨y,hy⟩:=get_of_lt hlty
   refine PX.G [(.e 6 (.ptr 5 0))] [(5,.box 74 (encO y))] 6 [.q ((k:Int)=(k:Int)),.q ((b.ops.map encO)[k]?=some (encO y))] [] [.ix k (encO y),.au,.au,.au] [3,6,18,19,20] [4,5] hS hE ⟨rfl,PX.map_get hy,trivial⟩ fun a w hS=>?_
   refine PX.G [(.e 26 (.sc (.bool (R.defines y.kind))))] [] 6 [.q (PX.Con Try.prog 90 [(.J y.kind)] [] 6 6 (.sc (.bool (R.defines y.kind))) [])] [] [.au,.au,.cl [] (.sc (.bool (R.defines y.kind))) [] 6] [3,6,18,19,20,26] [4,5] hS hE ⟨PX.con_any (con_f90 y.kind),trivial⟩ fun a w hS=>?_
   refine PX.cond_s (R.defines y.kind) hS (by kernel_rfl) (fun h11=>?_) (fun h11=>?_)
   ·skip
    refine PX.G0 [(.e 3 (.own 7 1 (((R.upto b.params++dsts (b.ops.take (k))).map encI:List (List PX.PV)).length+1)))] [(7,.row 3 1 true ((R.upto b.params++dsts (b.ops.take (k))).map encI++[[(.J y.dst)]]))] 8 [.b (lenIs ((R.upto b.params++dsts (b.ops.take (k))).length) ((R.upto b.params++dsts (b.ops.take (k))).map encI)),.b (lenIs 1 ([[(.J y.dst)]])),.b (Nat.ble (((R.upto b.params++dsts (b.ops.take (k))).map encI:List (List PX.PV)).length+1) 1000000000)] [] [.au,.au,.au,.au,.au,.au] [3,18,19,20] [7] hS hE ⟨by simp [PX.lenIs],rfl,by have:=dsts_len (b.ops.take k); simp [upto_len2] at this ⊢; omega,trivial⟩ fun a w hS=>?_
    refine hK10 _ _ ?_
    refine PX.G0 [(.e 20 (.sc (.I ((k+1:Nat):Int))))] [] 8 [.q ((.sc (.I (IntKind.i64.wrap ((k:Int)+1))):PX.PV)=(.sc (.I ((k+1:Nat):Int))))] [] [.nm (.sc (.I ((k+1:Nat):Int))),.au] [3,18,19,20] [7] hS hE ⟨PX.nm_int (by rw [IntWalk.i64_in _ (by omega)]; omega),trivial⟩ fun a w hS=>?_
    have ed:=dsts_take hy
    rw [if_pos h11] at ed
    have e1:((R.upto b.params++dsts (b.ops.take (k))).map encI++[[(.J y.dst)]])=(R.upto b.params++dsts (b.ops.take (k+1))).map encI:=by rw [ed]; simp [encI]
    have e2:((R.upto b.params++dsts (b.ops.take (k))).map encI:List (List PX.PV)).length+1=(R.upto b.params++dsts (b.ops.take (k+1))).length:=by rw [ed]; simp; omega
    rw [e2,e1] at hS
    exact ⟨b.ops.length-(k+1),by omega,k+1,rfl,by omega,trivial,(PX.cn [(4,7)] _ _ 5 hS hE)⟩
   ·skip
    refine wp_skip ?_
    refine hK10 _ _ ?_
    refine PX.G0 [(.e 20 (.sc (.I ((k+1:Nat):Int))))] [] 6 [.q ((.sc (.I (IntKind.i64.wrap ((k:Int)+1))):PX.PV)=(.sc (.I ((k+1:Nat):Int))))] [] [.nm (.sc (.I ((k+1:Nat):Int))),.au] [3,18,19,20] [4] hS hE ⟨PX.nm_int (by rw [IntWalk.i64_in _ (by omega)]; omega),trivial⟩ fun a w hS=>?_
    have ed:=dsts_take hy
    rw [if_neg (by rw [h11]; simp)] at ed
    rw [show (R.upto b.params++dsts (b.ops.take (k)))=(R.upto b.params++dsts (b.ops.take (k+1))) from by rw [ed,List.append_nil]] at hS
    exact ⟨b.ops.length-(k+1),by omega,k+1,rfl,by omega,trivial,(PX.cn [] _ _ 5 hS hE)⟩
  ·skip
   refine wp_exit ?_
   refine hK6 _ _ ?_
   refine PX.G [(.e 2 (.own 4 1 ((R.upto b.params++dsts (b.ops.take (k))).length)))] [] 5 [] [] [.au,.au] [2] [4] hS hE trivial fun a w hS=>?_
   have hk:b.ops.length≤k:=by simpa using h9
   replace hS:=PX.fz 4 [(.e 2 (.imm 1 ((R.upto b.params++dsts (b.ops.take (k))).map encI)))] [] [2] [] [.b (PX.lenIs ((R.upto b.params++dsts (b.ops.take (k))).length) ((R.upto b.params++dsts (b.ops.take (k))).map encI))] hS ⟨(by simp [PX.lenIs]),trivial⟩
   refine wp_ret ?_
   rw [show (.imm 1 ((R.values b).map encI))=((.imm 1 ((R.upto b.params++dsts (b.ops.take (k))).map encI)):PX.PV) from by rw [values_eq2,List.take_of_length_le hk]]
   exact PX.rt hS hE (.inl rfl)

theorem values_len (b:BlockD) (hb:0≤b.params∧b.params≤999) (hl:b.ops.length≤1000000):(R.values b).length≤1000999:=by
 rw [values_eq2,List.length_append,upto_len2]; have:=dsts_len b.ops; omega

set_option maxHeartbeats 400000 in
theorem con_f137 (b:BlockD) (hb:0≤b.params∧b.params≤999) (hl:b.ops.length≤1000000):PX.Con Try.prog 137 [(.agg (encB b))] [] 1 100000 (.sc (.I (topD b))) []:=by
 refine PX.con_intro [(.agg (encB b))] 21 Try.func137 rfl rfl (by kernel_rfl) (by kernel_rfl) ?_
 intro E a hE hS
 generalize E.w0=w at hS ⊢
 have mix:=mixed; have hvl:=values_len b hb hl
 refine PX.G [(.e 1 (.ptr 1 0))] [(1,.box 62 (encB b))] 2 [] [] [.au,.au] [1] [1] hS hE trivial fun a w hS=>?_
 refine PX.G [(.e 3 (.sc (.I (topK b (0)))))] [] 2 [.q ((.sc (.I (IntKind.i64.wrap (b.params-1))):PX.PV)=(.sc (.I (topK b (0)))))] [] [.au,.au,.nm (.sc (.I (topK b (0)))),.au] [1,3] [1] hS hE ⟨PX.nm_int (show IntKind.i64.wrap (b.params-1)=b.params-1 from IntWalk.i64_in _ (by omega)),trivial⟩ fun a w hS=>?_
 refine wp_seq_k fun K1 hK1=>?_
 refine PX.G [(.e 10 (.imm 1 ((R.values b).map encI))),(.e 11 (.sc (.I (((R.values b).length:Nat):Int)))),(.e 12 (.J 0))] [] 2 [.q (PX.Con Try.prog 86 [(.agg (encB b))] [] 2 2 (.imm 1 ((R.values b).map encI)) []),.q ((.sc (.I ((((R.values b).map encI).length:Nat):Int)):PX.PV)=(.sc (.I (((R.values b).length:Nat):Int))))] [] [.au,.cl [] (.imm 1 ((R.values b).map encI)) [] 2,.nm (.sc (.I (((R.values b).length:Nat):Int))),.au] [3,10,11,12] [] hS hE ⟨PX.con_any (con_f86 b hb hl),PX.nm_len (by simp),trivial⟩ fun a w hS=>?_
 refine wp_block ?_
 refine wp_loop_ghost (fun m2 a' w'=>∃ k:Nat,m2=(R.values b).length-k∧k≤(R.values b).length∧True∧PX.Sat E 21 [(.e 3 (.sc (.I (topK b (k))))),(.e 10 (.imm 1 ((R.values b).map encI))),(.e 11 (.sc (.I (((R.values b).length:Nat):Int)))),(.e 12 (.sc (.I (k:Int))))] [] 1 a' w') ((R.values b).length-0) ⟨0,rfl,Nat.zero_le _,trivial,(PX.cn [] _ _ 1 hS hE)⟩ ?_
 clear hS; rintro m2 a w ⟨k,hm2,hlek,hIk,hS⟩
 refine PX.G [(.e 13 (.sc (.bool (decide ((k:Int)<(((R.values b).length:Nat):Int))))))] [] 1 [] [] [.au] [3,10,11,12,13] [] hS hE trivial fun a w hS=>?_
 refine wp_seq_k fun K3 hK3=>?_
 refine PX.cond_s (decide ((k:Int)<(((R.values b).length:Nat):Int))) hS (by kernel_rfl) (fun h4=>?_) (fun h4=>?_)
 ·skip
  refine wp_skip ?_
  refine hK3 _ _ ?_
  refine wp_seq_k fun K5 hK5=>?_
  refine wp_block ?_
  have hlty:k<(R.values b).length:=by simpa using h4
  obtain ⟨y,hy⟩:=get_of_lt hlty
  refine PX.G [(.e 5 (.J y))] [] 1 [.q ((k:Int)=(k:Int)),.q (((R.values b).map encI)[k]?=some (encI y))] [] [.ix k (encI y),.au,.au] [3,5,10,11,12] [] hS hE ⟨rfl,PX.map_get hy,trivial⟩ fun a w hS=>?_
  refine PX.G0 [(.e 3 (.sc (.I (if y > (topK b (k)) then y else (topK b (k))))))] [] 1 [] [] [.au,.au,.au,.au] [3,10,11,12] [] hS hE trivial fun a w hS=>?_
  refine hK5 _ _ ?_
  refine PX.G0 [(.e 12 (.sc (.I ((k+1:Nat):Int))))] [] 1 [.q ((.sc (.I (IntKind.i64.wrap ((k:Int)+1))):PX.PV)=(.sc (.I ((k+1:Nat):Int))))] [] [.nm (.sc (.I ((k+1:Nat):Int))),.au] [3,10,11,12] [] hS hE ⟨PX.nm_int (by rw [IntWalk.i64_in _ (by omega)]; omega),trivial⟩ fun a w hS=>?_
  have e1:(if y > (topK b (k)) then y else (topK b (k)))=topK b (k+1):=(topK_succ hy).symm
  rw [e1] at hS
  exact ⟨(R.values b).length-(k+1),by omega,k+1,rfl,by omega,trivial,(PX.cn [] _ _ 1 hS hE)⟩
 ·skip
  refine wp_exit ?_
  refine hK1 _ _ ?_
  refine PX.G [(.e 2 (.sc (.I (topK b (k)))))] [] 1 [] [] [.au,.au] [2] [] hS hE trivial fun a w hS=>?_
  refine wp_ret ?_
  rw [show (.sc (.I (topD b)))=((.sc (.I (topK b (k)))):PX.PV) from by rw [show topK b k=topD b from by unfold topK topD; rw [List.take_of_length_le (le_of_dec h4)]]]
  exact PX.rt hS hE (.inl rfl)
end Go.Proofs.Ytlkcidmmpeebeaa
