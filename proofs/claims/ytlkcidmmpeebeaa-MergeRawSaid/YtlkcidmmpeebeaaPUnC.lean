/- Proved: debuggerref09.Join on plain data -/
import Derived.Test.YtlkcidmmpeebeaaUnB
set_option linter.unusedVariables false
set_option linter.unusedSimpArgs false
namespace Go.Proofs.Ytlkcidmmpeebeaa
open Go.RowKit Go.PX
set_option maxRecDepth 100000
def argsN (l:List Int):List (Int × Int):=l.zipIdx.map (fun p=>((p.2:Int),p.1))
def numK (b t:BlockD) (k:Nat):Int:=topD b+1+(((dsts (t.ops.take k)).length:Nat):Int)
def nmK (b t:BlockD) (k:Nat):List (Int × Int):=argsN b.term.args0++(dsts (t.ops.take k)).zipIdx.map (fun p=>(p.1,topD b+1+(p.2:Int)))
def nmJ (b t:BlockD):List (Int × Int):=nmK b t t.ops.length
def joinD (b t:BlockD):BlockD:={ params:=b.params,ops:=b.ops++t.ops.map (renO_ (nmJ b t)),term:=renT_ (nmJ b t) t.term }
def joinOk (b t:BlockD):Bool:=decide (numK b t t.ops.length≤10000)
theorem argsN_take {l:List Int} {k:Nat} {y:Int} (hy:l[k]?=some y):argsN (l.take (k+1))=argsN (l.take k)++[((k:Int),y)]:=by
 have hk:=(List.getElem?_eq_some_iff.1 hy).1
 unfold argsN; rw [List.take_add_one,hy]; simp [List.zipIdx_append,Nat.min_eq_left (Nat.le_of_lt hk)]
theorem argsN_len (l:List Int):(argsN l).length=l.length:=by simp [argsN]
theorem nmK_yes {b t:BlockD} {k:Nat} {y:OpD} (hy:t.ops[k]?=some y) (h:R.defines y.kind=true):nmK b t (k+1)=nmK b t k++[(y.dst,numK b t k)]∧numK b t (k+1)=numK b t k+1:=by
 unfold nmK numK; rw [dsts_take hy,if_pos h]; simp [List.zipIdx_append]; omega
theorem nmK_no {b t:BlockD} {k:Nat} {y:OpD} (hy:t.ops[k]?=some y) (h:R.defines y.kind=false):nmK b t (k+1)=nmK b t k∧numK b t (k+1)=numK b t k:=by
 unfold nmK numK; rw [dsts_take hy,if_neg (by rw [h]; simp)]; simp
theorem nmK_len (b t:BlockD) (k:Nat):(nmK b t k).length≤b.term.args0.length+t.ops.length:=by
 unfold nmK
 have h1:=dsts_len (t.ops.take k)
 simp only [List.length_append,argsN_len,List.length_map,List.length_zipIdx]
 rw [List.length_take] at h1; omega
theorem numK_bd (b t:BlockD) (k:Nat):topD b+1≤numK b t k∧numK b t k≤topD b+1+(t.ops.length:Int):=by
 have h1:=dsts_len (t.ops.take k)
 rw [List.length_take] at h1
 unfold numK; omega

set_option maxHeartbeats 1000000 in
theorem con_f103 (b t:BlockD) (hb:0≤b.params∧b.params≤999) (hbl:b.ops.length≤6000) (htl:t.ops.length≤6000) (ha:b.term.args0.length≤1000) (htop:-1≤topD b∧topD b≤100000) (h1:t.term.args.length≤1000000) (h2:t.term.args0.length≤1000000) (h3:t.term.args1.length≤1000000):PX.Con Try.prog 103 [(.agg (encB b)),(.agg (encB t))] [] 1 100000 (.tup [.agg (encB (joinD b t)),.sc (.bool (joinOk b t))]) []:=by
 refine PX.con_intro [(.agg (encB b)),(.agg (encB t))] 99 Try.func103 rfl rfl (by kernel_rfl) (by kernel_rfl) ?_
 intro E a hE hS
 generalize E.w0=w at hS ⊢
 have mix:=mixed
 refine PX.G [(.e 2 (.ptr 1 0)),(.e 3 (.ptr 2 0)),(.e 4 (.ptr 3 0))] [(1,.box 62 (encB b)),(2,.box 62 (encB t)),(3,.box 62 [(.J 0),(.sc (.slice none 0 0)),(.J 0),(.J 0),(.J 0),(.sc (.slice none 0 0)),(.J 0),(.sc (.slice none 0 0)),(.J 0),(.sc (.slice none 0 0))])] 4 [] [] [.au,.au,.au,.au] [2,3,4] [1,2,3] hS hE trivial fun a w hS=>?_
 refine PX.G [(.e 6 (.ptr 4 0))] [(4,.box 193 [(.sc (.slice none 0 0)),(.sc (.slice none 0 0))])] 5 [] [] [.au,.au,.au] [2,3,4,6] [1,2,3,4] hS hE trivial fun a w hS=>?_
 refine wp_seq_k fun K1 hK1=>?_
 refine PX.G [(.e 20 (.imm 1 (b.term.args0.map encI))),(.e 21 (.sc (.I (b.term.args0.length:Int)))),(.e 22 (.J 0))] [] 5 [.q ((.sc (.I (((b.term.args0.map encI).length:Nat):Int)):PX.PV)=(.sc (.I (b.term.args0.length:Int))))] [] [.au,.au,.au,.au,.au,.nm (.sc (.I (b.term.args0.length:Int))),.au] [2,3,4,6,20,21,22] [1,2,3,4] hS hE ⟨PX.nm_len (by simp),trivial⟩ fun a w hS=>?_
 refine wp_block ?_
 replace hS:=PX.recell (id:=4) (j:=0) (.own 5 1 0) (PX.newrow 3 1 hS (hE.le (by decide))) rfl rfl rfl (PX.nil_own 5 1)
 replace hS:=PX.recell (id:=4) (j:=1) (.own 6 1 0) (PX.newrow 3 1 hS (hE.le (by decide))) rfl rfl rfl (PX.nil_own 6 1)
 refine wp_loop_ghost (fun m2 a' w'=>∃ k:Nat,m2=b.term.args0.length-k∧k≤b.term.args0.length∧True∧PX.Sat E 99 [(.e 2 (.ptr 1 0)),(.e 3 (.ptr 2 0)),(.e 4 (.ptr 3 0)),(.e 6 (.ptr 4 0)),(.e 20 (.imm 1 (b.term.args0.map encI))),(.e 21 (.sc (.I (b.term.args0.length:Int)))),(.e 22 (.sc (.I (k:Int))))] [(1,.box 62 (encB b)),(2,.box 62 (encB t)),(3,.box 62 [(.J 0),(.sc (.slice none 0 0)),(.J 0),(.J 0),(.J 0),(.sc (.slice none 0 0)),(.J 0),(.sc (.slice none 0 0)),(.J 0),(.sc (.slice none 0 0))]),(4,.box 193 [(.own 5 1 k),(.own 6 1 k)]),(5,.row 3 1 true ((argsN (b.term.args0.take (k))).map enc1)),(6,.row 3 1 true ((argsN (b.term.args0.take (k))).map enc2))] 7 a' w') (b.term.args0.length-0) ⟨0,rfl,Nat.zero_le _,trivial,(PX.cn [] _ _ 7 hS hE)⟩ ?_
 clear hS; rintro m2 a w ⟨k,hm2,hlek,hIk,hS⟩
 refine PX.G [(.e 23 (.sc (.bool (decide ((k:Int)<(b.term.args0.length:Int))))))] [] 7 [] [] [.au] [2,3,4,6,20,21,22,23] [1,2,3,4,5,6] hS hE trivial fun a w hS=>?_
 refine wp_seq_k fun K3 hK3=>?_
 refine PX.cond_s (decide ((k:Int)<(b.term.args0.length:Int))) hS (by kernel_rfl) (fun h4=>?_) (fun h4=>?_)
 ·skip
  refine wp_skip ?_
  refine hK3 _ _ ?_
  refine wp_seq_k fun K5 hK5=>?_
  refine wp_block ?_
  have hlty:k<b.term.args0.length:=by simpa using h4
  obtain ⟨y,hy⟩:=get_of_lt hlty
  refine PX.G [(.e 7 (.sc (.I (k:Int)))),(.e 8 (.J y))] [] 7 [.q ((k:Int)=(k:Int)),.q ((b.term.args0.map encI)[k]?=some (encI y))] [] [.au,.ix k (encI y),.au,.au,.au] [2,3,4,6,7,8,20,21,22] [1,2,3,4,5,6] hS hE ⟨rfl,PX.map_get hy,trivial⟩ fun a w hS=>?_
  refine PX.D0 [] [(4,.box 193 [(.own 8 1 (((argsN (b.term.args0.take (k))).map enc1:List (List PX.PV)).length+1)),(.own 10 1 (((argsN (b.term.args0.take (k))).map enc2:List (List PX.PV)).length+1))]),(8,.row 3 1 true ((argsN (b.term.args0.take (k))).map enc1++[[(.sc (.I (k:Int)))]])),(10,.row 3 1 true ((argsN (b.term.args0.take (k))).map enc2++[[(.J y)]]))] 11 [.b (lenIs k ((argsN (b.term.args0.take (k))).map enc1)),.b (lenIs 1 ([[(.sc (.I (k:Int)))]])),.b (Nat.ble (((argsN (b.term.args0.take (k))).map enc1:List (List PX.PV)).length+1) 1000000000),.b (lenIs k ((argsN (b.term.args0.take (k))).map enc2)),.b (lenIs 1 ([[(.J y)]])),.b (Nat.ble (((argsN (b.term.args0.take (k))).map enc2:List (List PX.PV)).length+1) 1000000000)] [] [.au,.au,.au,.au,.au,.au,.au,.au,.au,.au,.au,.au,.au,.au] [2,3,4,6,20,21,22] [1,2,3,4,8,10] hS mixed hE ⟨by simp [PX.lenIs,argsN_len]; omega,rfl,by simp [argsN_len]; omega,by simp [PX.lenIs,argsN_len]; omega,rfl,by simp [argsN_len]; omega,trivial⟩ fun a w hS=>?_
  refine hK5 _ _ ?_
  refine PX.G0 [(.e 22 (.sc (.I ((k+1:Nat):Int))))] [] 11 [.q ((.sc (.I (IntKind.i64.wrap ((k:Int)+1))):PX.PV)=(.sc (.I ((k+1:Nat):Int))))] [] [.nm (.sc (.I ((k+1:Nat):Int))),.au] [2,3,4,6,20,21,22] [1,2,3,4,8,10] hS hE ⟨PX.nm_int (by rw [IntWalk.i64_in _ (by omega)]; omega),trivial⟩ fun a w hS=>?_
  have e8:((argsN (b.term.args0.take (k))).map enc1++[[(.sc (.I (k:Int)))]])=(argsN (b.term.args0.take (k+1))).map enc1:=by rw [argsN_take hy]; simp [enc1]
  have e10:((argsN (b.term.args0.take (k))).map enc2++[[(.J y)]])=(argsN (b.term.args0.take (k+1))).map enc2:=by rw [argsN_take hy]; simp [enc2]
  have en1:((argsN (b.term.args0.take (k))).map enc1:List (List PX.PV)).length+1=k+1:=by simp [argsN_len]; omega
  have en2:((argsN (b.term.args0.take (k))).map enc2:List (List PX.PV)).length+1=k+1:=by simp [argsN_len]; omega
  rw [en1] at hS
  rw [en2] at hS
  rw [e8,e10] at hS
  exact ⟨b.term.args0.length-(k+1),by omega,k+1,rfl,by omega,trivial,(PX.cn [(5,8),(6,10)] _ _ 7 hS hE)⟩
 ·skip
  refine wp_exit ?_
  refine hK1 _ _ ?_
  refine PX.G [(.e 9 (.sc (.I (numK b t (0)))))] [] 7 [.q (PX.Con Try.prog 137 [(.agg (encB b))] [] 7 7 (.sc (.I (topD b))) []),.q ((.sc (.I (IntKind.i64.wrap ((topD b)+1))):PX.PV)=(.sc (.I (numK b t (0)))))] [] [.au,.cl [] (.sc (.I (topD b))) [] 7,.nm (.sc (.I (numK b t (0)))),.au] [2,3,4,6,9] [1,2,3,4,5,6] hS hE ⟨PX.con_any (con_f137 b hb (by omega)),PX.nm_int (by rw [IntWalk.i64_in _ (by omega)]; simp [numK,dsts]),trivial⟩ fun a w hS=>?_
  refine wp_seq_k fun K6 hK6=>?_
  refine PX.G [(.e 44 (.imm 11 (t.ops.map encO))),(.e 45 (.sc (.I (t.ops.length:Int)))),(.e 46 (.J 0))] [] 7 [.q ((.sc (.I (((t.ops.map encO).length:Nat):Int)):PX.PV)=(.sc (.I (t.ops.length:Int))))] [] [.au,.au,.nm (.sc (.I (t.ops.length:Int))),.au] [2,3,4,6,9,44,45,46] [1,2,3,4,5,6] hS hE ⟨PX.nm_len (by simp),trivial⟩ fun a w hS=>?_
  refine wp_block ?_
  have hk1:b.term.args0.length=k:=by have:=le_of_dec h4; omega
  rw [show (argsN (b.term.args0.take (k))).map enc1=(nmK b t (0)).map enc1 from by rw [List.take_of_length_le (by omega)]; simp [nmK,dsts]] at hS
  rw [show (argsN (b.term.args0.take (k))).map enc2=(nmK b t (0)).map enc2 from by rw [List.take_of_length_le (by omega)]; simp [nmK,dsts]] at hS
  replace hS:=PX.recell (id:=4) (j:=0) (.own 5 1 ((nmK b t (0)).length)) hS rfl rfl rfl (fun _ _ _ _ h=>(show PX.PV.own 5 1 k=.own 5 1 ((nmK b t (0)).length) from by rw [show (nmK b t (0)).length=k from by simp [nmK,dsts,argsN_len]; omega]) ▸ h)
  replace hS:=PX.recell (id:=4) (j:=1) (.own 6 1 ((nmK b t (0)).length)) hS rfl rfl rfl (fun _ _ _ _ h=>(show PX.PV.own 6 1 k=.own 6 1 ((nmK b t (0)).length) from by rw [show (nmK b t (0)).length=k from by simp [nmK,dsts,argsN_len]; omega]) ▸ h)
  refine wp_loop_ghost (fun m7 a' w'=>∃ m:Nat,m7=t.ops.length-m∧m≤t.ops.length∧True∧PX.Sat E 99 [(.e 2 (.ptr 1 0)),(.e 3 (.ptr 2 0)),(.e 4 (.ptr 3 0)),(.e 6 (.ptr 4 0)),(.e 9 (.sc (.I (numK b t (m))))),(.e 44 (.imm 11 (t.ops.map encO))),(.e 45 (.sc (.I (t.ops.length:Int)))),(.e 46 (.sc (.I (m:Int))))] [(1,.box 62 (encB b)),(2,.box 62 (encB t)),(3,.box 62 [(.J 0),(.sc (.slice none 0 0)),(.J 0),(.J 0),(.J 0),(.sc (.slice none 0 0)),(.J 0),(.sc (.slice none 0 0)),(.J 0),(.sc (.slice none 0 0))]),(4,.box 193 [(.own 5 1 ((nmK b t (m)).length)),(.own 6 1 ((nmK b t (m)).length))]),(5,.row 3 1 true ((nmK b t (m)).map enc1)),(6,.row 3 1 true ((nmK b t (m)).map enc2))] 7 a' w') (t.ops.length-0) ⟨0,rfl,Nat.zero_le _,trivial,(PX.cn [] _ _ 7 hS hE)⟩ ?_
  clear hS; rintro m7 a w ⟨m,hm7,hlem,hIm,hS⟩
  refine PX.G [(.e 47 (.sc (.bool (decide ((m:Int)<(t.ops.length:Int))))))] [] 7 [] [] [.au] [2,3,4,6,9,44,45,46,47] [1,2,3,4,5,6] hS hE trivial fun a w hS=>?_
  refine wp_seq_k fun K8 hK8=>?_
  refine PX.cond_s (decide ((m:Int)<(t.ops.length:Int))) hS (by kernel_rfl) (fun h9=>?_) (fun h9=>?_)
  ·skip
   refine wp_skip ?_
   refine hK8 _ _ ?_
   refine wp_seq_k fun K10 hK10=>?_
   refine wp_block ?_
   have hlty:m<t.ops.length:=by simpa using h9
   obtain ⟨y,hy⟩:=get_of_lt hlty
   refine PX.G [(.e 11 (.ptr 7 0))] [(7,.box 74 (encO y))] 8 [.q ((m:Int)=(m:Int)),.q ((t.ops.map encO)[m]?=some (encO y))] [] [.ix m (encO y),.au,.au,.au] [2,3,4,6,9,11,44,45,46] [1,2,3,4,5,6,7] hS hE ⟨rfl,PX.map_get hy,trivial⟩ fun a w hS=>?_
   refine PX.G [(.e 52 (.sc (.bool (R.defines y.kind))))] [] 8 [.q (PX.Con Try.prog 90 [(.J y.kind)] [] 8 8 (.sc (.bool (R.defines y.kind))) [])] [] [.au,.au,.cl [] (.sc (.bool (R.defines y.kind))) [] 8] [2,3,4,6,9,11,44,45,46,52] [1,2,3,4,5,6,7] hS hE ⟨PX.con_any (con_f90 y.kind),trivial⟩ fun a w hS=>?_
   refine PX.cond_s (R.defines y.kind) hS (by kernel_rfl) (fun h11=>?_) (fun h11=>?_)
   ·skip
    refine PX.D [] [(4,.box 193 [(.own 9 1 (((nmK b t (m)).map enc1:List (List PX.PV)).length+1)),(.own 11 1 (((nmK b t (m)).map enc2:List (List PX.PV)).length+1))]),(9,.row 3 1 true ((nmK b t (m)).map enc1++[[(.J y.dst)]])),(11,.row 3 1 true ((nmK b t (m)).map enc2++[[(.sc (.I (numK b t (m))))]]))] 12 [.b (lenIs ((nmK b t (m)).length) ((nmK b t (m)).map enc1)),.b (lenIs 1 ([[(.J y.dst)]])),.b (Nat.ble (((nmK b t (m)).map enc1:List (List PX.PV)).length+1) 1000000000),.b (lenIs ((nmK b t (m)).length) ((nmK b t (m)).map enc2)),.b (lenIs 1 ([[(.sc (.I (numK b t (m))))]])),.b (Nat.ble (((nmK b t (m)).map enc2:List (List PX.PV)).length+1) 1000000000)] [] [.au,.au,.au,.au,.au,.au,.au,.au,.au,.au,.au,.au,.au,.au,.au] [2,3,4,6,9,44,45,46] [1,2,3,4,9,11] hS mixed hE ⟨by simp [PX.lenIs],rfl,by have:=nmK_len b t m; simp; omega,by simp [PX.lenIs],rfl,by have:=nmK_len b t m; simp; omega,trivial⟩ fun a w hS=>?_
    refine PX.G0 [(.e 9 (.sc (.I (numK b t (m)+1))))] [] 12 [.q ((.sc (.I (IntKind.i64.wrap ((numK b t (m))+1))):PX.PV)=(.sc (.I (numK b t (m)+1))))] [] [.au,.nm (.sc (.I (numK b t (m)+1))),.au] [2,3,4,6,9,44,45,46] [1,2,3,4,9,11] hS hE ⟨PX.nm_int (by have:=numK_bd b t m; rw [IntWalk.i64_in _ (by omega)]),trivial⟩ fun a w hS=>?_
    refine hK10 _ _ ?_
    refine PX.G0 [(.e 46 (.sc (.I ((m+1:Nat):Int))))] [] 12 [.q ((.sc (.I (IntKind.i64.wrap ((m:Int)+1))):PX.PV)=(.sc (.I ((m+1:Nat):Int))))] [] [.nm (.sc (.I ((m+1:Nat):Int))),.au] [2,3,4,6,9,44,45,46] [1,2,3,4,9,11] hS hE ⟨PX.nm_int (by rw [IntWalk.i64_in _ (by omega)]; omega),trivial⟩ fun a w hS=>?_
    obtain ⟨ek,em⟩:=nmK_yes (b:=b) hy h11
    have e9:((nmK b t (m)).map enc1++[[(.J y.dst)]])=(nmK b t (m+1)).map enc1:=by rw [ek]; simp [enc1]
    have e11:((nmK b t (m)).map enc2++[[(.sc (.I (numK b t (m))))]])=(nmK b t (m+1)).map enc2:=by rw [ek]; simp [enc2]
    have en1:((nmK b t (m)).map enc1:List (List PX.PV)).length+1=(nmK b t (m+1)).length:=by rw [ek]; simp
    have en2:((nmK b t (m)).map enc2:List (List PX.PV)).length+1=(nmK b t (m+1)).length:=by rw [ek]; simp
    rw [en1] at hS
    rw [en2] at hS
    rw [e9,e11] at hS
    rw [← em] at hS
    exact ⟨t.ops.length-(m+1),by omega,m+1,rfl,by omega,trivial,(PX.cn [(5,9),(6,11)] _ _ 7 hS hE)⟩
   ·skip
    refine wp_skip ?_
    refine hK10 _ _ ?_
    refine PX.G0 [(.e 46 (.sc (.I ((m+1:Nat):Int))))] [] 8 [.q ((.sc (.I (IntKind.i64.wrap ((m:Int)+1))):PX.PV)=(.sc (.I ((m+1:Nat):Int))))] [] [.nm (.sc (.I ((m+1:Nat):Int))),.au] [2,3,4,6,9,44,45,46] [1,2,3,4,5,6] hS hE ⟨PX.nm_int (by rw [IntWalk.i64_in _ (by omega)]; omega),trivial⟩ fun a w hS=>?_
    obtain ⟨ek,em⟩:=nmK_no (b:=b) hy h11
    rw [← ek,← em] at hS
    exact ⟨t.ops.length-(m+1),by omega,m+1,rfl,by omega,trivial,(PX.cn [] _ _ 7 hS hE)⟩
  ·skip
   refine wp_exit ?_
   refine hK6 _ _ ?_
   have hk2:t.ops.length=m:=by have:=le_of_dec h9; omega
   rw [show nmK b t m=nmJ b t from by rw [← hk2]; rfl,show numK b t m=numK b t t.ops.length from by rw [hk2]] at hS
   have hnl:=nmK_len b t t.ops.length; have hnl:(nmJ b t).length≤b.term.args0.length+t.ops.length:=hnl
   replace hS:=PX.fz 5 [] [(4,.box 193 [(.imm 1 ((nmJ b t).map enc1)),(.own 6 1 ((nmJ b t).length))])] [2,3,4,6,9,44,45,46,47] [1,2,3,4,6] [.b (PX.lenIs ((nmJ b t).length) ((nmJ b t).map enc1))] hS ⟨(by simp [PX.lenIs]),trivial⟩
   replace hS:=PX.fz 6 [] [(4,.box 193 [(.imm 1 ((nmJ b t).map enc1)),(.imm 1 ((nmJ b t).map enc2))])] [2,3,4,6,9,44,45,46,47] [1,2,3,4] [.b (PX.lenIs ((nmJ b t).length) ((nmJ b t).map enc2))] hS ⟨(by simp [PX.lenIs]),trivial⟩
   refine PX.D [(.e 12 (.ptr 9 0))] [(8,.row 74 11 true (b.ops.map encO)),(9,.box 62 [(.J b.params),(.own 8 11 (0+(b.ops.map encO).length)),(.sc (.I ((renT_ (nmJ b t) t.term).kind))),(.sc (.I ((renT_ (nmJ b t) t.term).a))),(.sc (.I ((renT_ (nmJ b t) t.term).n))),(.imm 1 (((renT_ (nmJ b t) t.term).args).map encI)),(.sc (.I ((renT_ (nmJ b t) t.term).b0))),(.imm 1 (((renT_ (nmJ b t) t.term).args0).map encI)),(.sc (.I ((renT_ (nmJ b t) t.term).b1))),(.imm 1 (((renT_ (nmJ b t) t.term).args1).map encI))])] 10 [.b (lenIs 0 ([])),.b true,.b (Nat.ble (0+(b.ops.map encO).length) 1000000000),.q (PX.Con Try.prog 138 [(.agg [(.imm 1 ((nmJ b t).map enc1)),(.imm 1 ((nmJ b t).map enc2))]),(.agg [(.J t.term.kind),(.J t.term.a),(.J t.term.n),(.imm 1 (t.term.args.map encI)),(.J t.term.b0),(.imm 1 (t.term.args0.map encI)),(.J t.term.b1),(.imm 1 (t.term.args1.map encI))])] [] 9 9 (.agg [(.sc (.I ((renT_ (nmJ b t) t.term).kind))),(.sc (.I ((renT_ (nmJ b t) t.term).a))),(.sc (.I ((renT_ (nmJ b t) t.term).n))),(.imm 1 (((renT_ (nmJ b t) t.term).args).map encI)),(.sc (.I ((renT_ (nmJ b t) t.term).b0))),(.imm 1 (((renT_ (nmJ b t) t.term).args0).map encI)),(.sc (.I ((renT_ (nmJ b t) t.term).b1))),(.imm 1 (((renT_ (nmJ b t) t.term).args1).map encI))]) [])] [] [.au,.au,.au,.au,.au,.au,.au,.au,.au,.cl [] (.agg [(.sc (.I ((renT_ (nmJ b t) t.term).kind))),(.sc (.I ((renT_ (nmJ b t) t.term).a))),(.sc (.I ((renT_ (nmJ b t) t.term).n))),(.imm 1 (((renT_ (nmJ b t) t.term).args).map encI)),(.sc (.I ((renT_ (nmJ b t) t.term).b0))),(.imm 1 (((renT_ (nmJ b t) t.term).args0).map encI)),(.sc (.I ((renT_ (nmJ b t) t.term).b1))),(.imm 1 (((renT_ (nmJ b t) t.term).args1).map encI))]) [] 9,.au,.au,.au] [3,4,6,9,12] [2,3,4,8,9] hS mixed hE ⟨rfl,rfl,by simp; omega,PX.con_any (con_f138 (nmJ b t) t.term (by omega) h1 h2 h3),trivial⟩ fun a w hS=>?_
   refine wp_seq_k fun K12 hK12=>?_
   refine PX.G [(.e 81 (.imm 11 (t.ops.map encO))),(.e 82 (.sc (.I (t.ops.length:Int)))),(.e 83 (.J 0))] [] 10 [.q ((.sc (.I (((t.ops.map encO).length:Nat):Int)):PX.PV)=(.sc (.I (t.ops.length:Int))))] [] [.au,.au,.nm (.sc (.I (t.ops.length:Int))),.au] [4,6,9,12,81,82,83] [3,4,8,9] hS hE ⟨PX.nm_len (by simp),trivial⟩ fun a w hS=>?_
   refine wp_block ?_
   replace hS:=PX.recell (id:=9) (j:=1) (.own 8 11 (((b.ops++(t.ops.take (0)).map (renO_ (nmJ b t))).map encO).length)) hS rfl rfl rfl (fun _ _ _ _ h=>(show PX.PV.own 8 11 (0+(b.ops.map encO).length)=.own 8 11 (((b.ops++(t.ops.take (0)).map (renO_ (nmJ b t))).map encO).length) from by congr 1; simp) ▸ h)
   rw [show b.ops.map encO=(b.ops++(t.ops.take (0)).map (renO_ (nmJ b t))).map encO from by simp] at hS
   refine wp_loop_ghost (fun m13 a' w'=>∃ q:Nat,m13=t.ops.length-q∧q≤t.ops.length∧True∧PX.Sat E 99 [(.e 4 (.ptr 3 0)),(.e 6 (.ptr 4 0)),(.e 9 (.sc (.I (numK b t t.ops.length)))),(.e 12 (.ptr 9 0)),(.e 81 (.imm 11 (t.ops.map encO))),(.e 82 (.sc (.I (t.ops.length:Int)))),(.e 83 (.sc (.I (q:Int))))] [(3,.box 62 [(.J 0),(.sc (.slice none 0 0)),(.J 0),(.J 0),(.J 0),(.sc (.slice none 0 0)),(.J 0),(.sc (.slice none 0 0)),(.J 0),(.sc (.slice none 0 0))]),(4,.box 193 [(.imm 1 ((nmJ b t).map enc1)),(.imm 1 ((nmJ b t).map enc2))]),(8,.row 74 11 true ((b.ops++(t.ops.take (q)).map (renO_ (nmJ b t))).map encO)),(9,.box 62 [(.J b.params),(.own 8 11 (((b.ops++(t.ops.take (q)).map (renO_ (nmJ b t))).map encO).length)),(.sc (.I ((renT_ (nmJ b t) t.term).kind))),(.sc (.I ((renT_ (nmJ b t) t.term).a))),(.sc (.I ((renT_ (nmJ b t) t.term).n))),(.imm 1 (((renT_ (nmJ b t) t.term).args).map encI)),(.sc (.I ((renT_ (nmJ b t) t.term).b0))),(.imm 1 (((renT_ (nmJ b t) t.term).args0).map encI)),(.sc (.I ((renT_ (nmJ b t) t.term).b1))),(.imm 1 (((renT_ (nmJ b t) t.term).args1).map encI))])] 10 a' w') (t.ops.length-0) ⟨0,rfl,Nat.zero_le _,trivial,(PX.cn [] _ _ 10 hS hE)⟩ ?_
   clear hS; rintro m13 a w ⟨q,hm13,hleq,hIq,hS⟩
   refine PX.G [(.e 84 (.sc (.bool (decide ((q:Int)<(t.ops.length:Int))))))] [] 10 [] [] [.au] [4,6,9,12,81,82,83,84] [3,4,8,9] hS hE trivial fun a w hS=>?_
   refine wp_seq_k fun K14 hK14=>?_
   refine PX.cond_s (decide ((q:Int)<(t.ops.length:Int))) hS (by kernel_rfl) (fun h15=>?_) (fun h15=>?_)
   ·skip
    refine wp_skip ?_
    refine hK14 _ _ ?_
    refine wp_seq_k fun K16 hK16=>?_
    refine wp_block ?_
    have hlty:q<t.ops.length:=by simpa using h15
    obtain ⟨y,hy⟩:=get_of_lt hlty
    refine PX.G [(.e 14 (.ptr 10 0))] [(10,.box 74 (encO y))] 11 [.q ((q:Int)=(q:Int)),.q ((t.ops.map encO)[q]?=some (encO y))] [] [.ix q (encO y),.au,.au,.au] [4,6,9,12,14,81,82,83] [3,4,8,9,10] hS hE ⟨rfl,PX.map_get hy,trivial⟩ fun a w hS=>?_
    refine PX.D0 [] [(9,.box 62 [(.J b.params),(.own 12 11 (((b.ops++(t.ops.take (q)).map (renO_ (nmJ b t))).map encO:List (List PX.PV)).length+1)),(.sc (.I ((renT_ (nmJ b t) t.term).kind))),(.sc (.I ((renT_ (nmJ b t) t.term).a))),(.sc (.I ((renT_ (nmJ b t) t.term).n))),(.imm 1 (((renT_ (nmJ b t) t.term).args).map encI)),(.sc (.I ((renT_ (nmJ b t) t.term).b0))),(.imm 1 (((renT_ (nmJ b t) t.term).args0).map encI)),(.sc (.I ((renT_ (nmJ b t) t.term).b1))),(.imm 1 (((renT_ (nmJ b t) t.term).args1).map encI))]),(12,.row 74 11 true ((b.ops++(t.ops.take (q)).map (renO_ (nmJ b t))).map encO++[[(.sc (.I ((renO_ (nmJ b t) y).kind))),(.sc (.I ((renO_ (nmJ b t) y).dst))),(.sc (.I ((renO_ (nmJ b t) y).a))),(.sc (.I ((renO_ (nmJ b t) y).b))),(.sc (.I ((renO_ (nmJ b t) y).n))),(.sc (.I ((renO_ (nmJ b t) y).ctx))),(.sc (.I ((renO_ (nmJ b t) y).var))),(.sc (.I ((renO_ (nmJ b t) y).piece))),(.sc (.I ((renO_ (nmJ b t) y).sk))),(.sc (.I ((renO_ (nmJ b t) y).sv))),(.sc (.I ((renO_ (nmJ b t) y).sa)))]]))] 13 [.q (PX.Con Try.prog 139 [(.agg [(.imm 1 ((nmJ b t).map enc1)),(.imm 1 ((nmJ b t).map enc2))]),(.agg (encO y))] [] 11 11 (.agg [(.sc (.I ((renO_ (nmJ b t) y).kind))),(.sc (.I ((renO_ (nmJ b t) y).dst))),(.sc (.I ((renO_ (nmJ b t) y).a))),(.sc (.I ((renO_ (nmJ b t) y).b))),(.sc (.I ((renO_ (nmJ b t) y).n))),(.sc (.I ((renO_ (nmJ b t) y).ctx))),(.sc (.I ((renO_ (nmJ b t) y).var))),(.sc (.I ((renO_ (nmJ b t) y).piece))),(.sc (.I ((renO_ (nmJ b t) y).sk))),(.sc (.I ((renO_ (nmJ b t) y).sv))),(.sc (.I ((renO_ (nmJ b t) y).sa)))]) []),.b (lenIs (((b.ops++(t.ops.take (q)).map (renO_ (nmJ b t))).map encO).length) ((b.ops++(t.ops.take (q)).map (renO_ (nmJ b t))).map encO)),.b (lenIs 1 ([[(.sc (.I ((renO_ (nmJ b t) y).kind))),(.sc (.I ((renO_ (nmJ b t) y).dst))),(.sc (.I ((renO_ (nmJ b t) y).a))),(.sc (.I ((renO_ (nmJ b t) y).b))),(.sc (.I ((renO_ (nmJ b t) y).n))),(.sc (.I ((renO_ (nmJ b t) y).ctx))),(.sc (.I ((renO_ (nmJ b t) y).var))),(.sc (.I ((renO_ (nmJ b t) y).piece))),(.sc (.I ((renO_ (nmJ b t) y).sk))),(.sc (.I ((renO_ (nmJ b t) y).sv))),(.sc (.I ((renO_ (nmJ b t) y).sa)))]])),.b (Nat.ble (((b.ops++(t.ops.take (q)).map (renO_ (nmJ b t))).map encO:List (List PX.PV)).length+1) 1000000000)] [] [.au,.au,.au,.au,.cl [] (.agg [(.sc (.I ((renO_ (nmJ b t) y).kind))),(.sc (.I ((renO_ (nmJ b t) y).dst))),(.sc (.I ((renO_ (nmJ b t) y).a))),(.sc (.I ((renO_ (nmJ b t) y).b))),(.sc (.I ((renO_ (nmJ b t) y).n))),(.sc (.I ((renO_ (nmJ b t) y).ctx))),(.sc (.I ((renO_ (nmJ b t) y).var))),(.sc (.I ((renO_ (nmJ b t) y).piece))),(.sc (.I ((renO_ (nmJ b t) y).sk))),(.sc (.I ((renO_ (nmJ b t) y).sv))),(.sc (.I ((renO_ (nmJ b t) y).sa)))]) [] 11,.au,.au,.au,.au] [4,6,9,12,81,82,83] [3,4,9,12] hS mixed hE ⟨PX.con_any (con_f139 (nmJ b t) y (by omega)),by simp [PX.lenIs],rfl,by simp; omega,trivial⟩ fun a w hS=>?_
    refine hK16 _ _ ?_
    refine PX.G0 [(.e 83 (.sc (.I ((q+1:Nat):Int))))] [] 13 [.q ((.sc (.I (IntKind.i64.wrap ((q:Int)+1))):PX.PV)=(.sc (.I ((q+1:Nat):Int))))] [] [.nm (.sc (.I ((q+1:Nat):Int))),.au] [4,6,9,12,81,82,83] [3,4,9,12] hS hE ⟨PX.nm_int (by rw [IntWalk.i64_in _ (by omega)]; omega),trivial⟩ fun a w hS=>?_
    have e1:((b.ops++(t.ops.take (q)).map (renO_ (nmJ b t))).map encO++[[(.sc (.I ((renO_ (nmJ b t) y).kind))),(.sc (.I ((renO_ (nmJ b t) y).dst))),(.sc (.I ((renO_ (nmJ b t) y).a))),(.sc (.I ((renO_ (nmJ b t) y).b))),(.sc (.I ((renO_ (nmJ b t) y).n))),(.sc (.I ((renO_ (nmJ b t) y).ctx))),(.sc (.I ((renO_ (nmJ b t) y).var))),(.sc (.I ((renO_ (nmJ b t) y).piece))),(.sc (.I ((renO_ (nmJ b t) y).sk))),(.sc (.I ((renO_ (nmJ b t) y).sv))),(.sc (.I ((renO_ (nmJ b t) y).sa)))]])=(b.ops++(t.ops.take (q+1)).map (renO_ (nmJ b t))).map encO:=by rw [List.take_add_one,hy]; simp [encO]
    have e2:((b.ops++(t.ops.take (q)).map (renO_ (nmJ b t))).map encO:List (List PX.PV)).length+1=((b.ops++(t.ops.take (q+1)).map (renO_ (nmJ b t))).map encO).length:=by simp; omega
    rw [e2,e1] at hS
    exact ⟨t.ops.length-(q+1),by omega,q+1,rfl,by omega,trivial,(PX.cn [(8,12)] _ _ 10 hS hE)⟩
   ·skip
    refine wp_exit ?_
    refine hK12 _ _ ?_
    have hk3:t.ops.length≤q:=le_of_dec h15
    replace hS:=PX.fz 8 [] [(9,.box 62 [(.J b.params),(.imm 11 ((b.ops++(t.ops.take (q)).map (renO_ (nmJ b t))).map encO)),(.sc (.I ((renT_ (nmJ b t) t.term).kind))),(.sc (.I ((renT_ (nmJ b t) t.term).a))),(.sc (.I ((renT_ (nmJ b t) t.term).n))),(.imm 1 (((renT_ (nmJ b t) t.term).args).map encI)),(.sc (.I ((renT_ (nmJ b t) t.term).b0))),(.imm 1 (((renT_ (nmJ b t) t.term).args0).map encI)),(.sc (.I ((renT_ (nmJ b t) t.term).b1))),(.imm 1 (((renT_ (nmJ b t) t.term).args1).map encI))])] [4,6,9,12,81,82,83,84] [3,4,9] [.b (PX.lenIs (((b.ops++(t.ops.take (q)).map (renO_ (nmJ b t))).map encO).length) ((b.ops++(t.ops.take (q)).map (renO_ (nmJ b t))).map encO))] hS ⟨(by simp [PX.lenIs]),trivial⟩
    refine PX.G [(.e 5 (.sc (.bool (decide ((numK b t t.ops.length)≤10000)))))] [(3,.box 62 [(.J b.params),(.imm 11 ((b.ops++(t.ops.take (q)).map (renO_ (nmJ b t))).map encO)),(.sc (.I ((renT_ (nmJ b t) t.term).kind))),(.sc (.I ((renT_ (nmJ b t) t.term).a))),(.sc (.I ((renT_ (nmJ b t) t.term).n))),(.imm 1 (((renT_ (nmJ b t) t.term).args).map encI)),(.sc (.I ((renT_ (nmJ b t) t.term).b0))),(.imm 1 (((renT_ (nmJ b t) t.term).args0).map encI)),(.sc (.I ((renT_ (nmJ b t) t.term).b1))),(.imm 1 (((renT_ (nmJ b t) t.term).args1).map encI))])] 10 [] [] [.au,.au,.au,.au,.au] [4,5] [3] hS hE trivial fun a w hS=>?_
    refine wp_ret ?_
    rw [show (.tup [.agg (encB (joinD b t)),.sc (.bool (joinOk b t))])=((.tup [(.agg [(.J b.params),(.imm 11 ((b.ops++(t.ops.take (q)).map (renO_ (nmJ b t))).map encO)),(.sc (.I ((renT_ (nmJ b t) t.term).kind))),(.sc (.I ((renT_ (nmJ b t) t.term).a))),(.sc (.I ((renT_ (nmJ b t) t.term).n))),(.imm 1 (((renT_ (nmJ b t) t.term).args).map encI)),(.sc (.I ((renT_ (nmJ b t) t.term).b0))),(.imm 1 (((renT_ (nmJ b t) t.term).args0).map encI)),(.sc (.I ((renT_ (nmJ b t) t.term).b1))),(.imm 1 (((renT_ (nmJ b t) t.term).args1).map encI))]),(.sc (.bool (decide ((numK b t t.ops.length)≤10000))))]):PX.PV) from by rw [List.take_of_length_le hk3] <;> rfl]
    exact PX.rt hS hE (.inl rfl)
end Go.Proofs.Ytlkcidmmpeebeaa
